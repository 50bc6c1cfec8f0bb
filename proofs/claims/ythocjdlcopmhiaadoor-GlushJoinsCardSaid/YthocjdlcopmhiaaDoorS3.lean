import Derived.Test.YthocjdlcopmhiaaDoorS
import Derived.Test.YthocjdlcopmhiaaDoorWTab
import Derived.Test.YthocjdlcopmhiaaDoorWLast
import Derived.Test.YthocjdlcopmhiaaDoorWWords
import Derived.KernelRfl
import Derived.Tactics
namespace Go.Proofs.YthocjdlcopmhiaaDoor.S
open Go.RowKit Go.Proofs.YthocjdlcopmhiaaDoorW.PrintWords Go.Proofs.YthocjdlcopmhiaaDoorW.PrintLast Go.Proofs.YthocjdlcopmhiaaDoorW.PrintMore
set_option linter.unusedVariables false
section
variable {P : Program} {ops : Array Oper} {Q : Exit → Act → World → Prop} {md : Region.Mode} {S : World → Prop} {ds : List Nat} {T : Bool × List (List Nat × List Nat)}
theorem p (c i n m : Nat) (hT : rtab md ops = T) {oi : Oper} {v : Value} {fuel : Nat} {l : Array Bool} {a a' : Act} {w : World} (hi : ops[i]? = some oi) (hN : oi.dst = some n)
  (h : wpAnyLast P md ops Q S ds fuel (um c m) a' w)
  (hc : anyT T l.toList (um c m).toList i = true := by kernel_rfl)
  (hQ : ∀ c a w, Q (.panic c) (a.put oi.dst v) w → Q (.panic c) a w := by exact fun _ _ _ h => h)
  (hy : Yields P ops oi v a ∧ a.put (some n) v = a' := by
   refine ⟨Or.inl ⟨by rfl, ?_⟩, ?_⟩
   ·intro w'; go_simp; (with_reducible rfl)
   ·simp only [Act.put, List.setIfInBounds_toArray, List.set_cons_zero, List.set_cons_succ, i64_w, i32_w]; rfl) : wpAnyLast P md ops Q S ds (fuel + 1) l a w :=
 pure_ (um c m) hi hN (any_of hT hc) hQ hy.1 hy.2 h
theorem u (c i n m : Nat) (hT : rtab md ops = T) {oi : Oper} {fuel : Nat} {l : Array Bool} {a a' : Act} {w : World} (hi : ops[i]? = some oi) (hN : oi.dst = some n)
  (h : wpAnyLast P md ops Q S ds fuel (um c m) a' w)
  (hc : anyT T l.toList (um c m).toList i = true := by kernel_rfl)
  (hQ : ∀ c a w, Q (.panic c) (a.put oi.dst undef) w → Q (.panic c) a w := by exact fun _ _ _ h => h)
  (hw : Region.wanted oi (yielded ops a.tmps) = false := by rfl)
  (ha : a.put (some n) undef = a' := by
   simp only [Act.put, List.setIfInBounds_toArray, List.set_cons_zero, List.set_cons_succ, i64_w, i32_w]; rfl) : wpAnyLast P md ops Q S ds (fuel + 1) l a w :=
 pure_ (um c m) hi hN (any_of hT hc) hQ (Or.inr ⟨hw, rfl⟩) ha h
theorem o (c i n m : Nat) (hT : rtab md ops = T) {oi : Oper} {fuel : Nat} {l : Array Bool} {a : Act} {w : World} (hi : ops[i]? = some oi) (hN : oi.dst = some n)
  (h : ∀ K : Act → World → Prop, Shut (∀ a' w', S w' → (S w' → wpAnyLast P md ops Q S ds fuel (um c m) a' w') → K a' w') → if Region.wanted oi (yielded ops a.tmps) = true then Oper.wp P oi a w K Q else K (a.put (some n) undef) w)
  (hd : i ∉ ds := by decide)
  (hc : (readyT T.2 l.toList == [i] && l.toList.set i true == (um c m).toList) = true := by kernel_rfl) : wpAnyLast P md ops Q S ds (fuel + 1) l a w :=
 one_ (um c m) hi hN (one_of hT hc) hd h
theorem g {oi : Oper} {N : Option Tmp} {a : Act} {w : World} {K : Act → World → Prop} {f : FuncId} {fn : Func} (hf : P.funcs[f]? = some fn) (args : Array Value) {as : Array Operand} {ts : Array TypeId}
  (hN : oi.dst = N) (hop : oi.op = .call { callee := .value (.func f), args := as, argTypes := ts })
  (h : Calls P f args w fun e w' => ∃ v, e = .returned v ∧ K (a.put N v) w')
  (hname : (fn.name == "runtime.NumGoroutine") = false := by kernel_rfl) (hb : fn.body.isSome = true := by rfl)
  (hw : Region.wanted oi (yielded ops a.tmps) = true := by rfl)
  (hargs : as.map a.eval = args := by (try simp only [List.map_toArray, List.map_cons, List.map_nil]); first | done | rfl | (simp only [List.length_drop, List.length_take]; rfl)) :
  if Region.wanted oi (yielded ops a.tmps) = true then Oper.wp P oi a w K Q else K (a.put N undef) w :=
 goes_ hf hname hb args hw hN hop hargs h
theorem w (n : Nat) {fuel : Nat} {l : Array Bool} {a a' : Act} {v : Value} {w : World} (h : wpAnyLast P md ops Q S ds fuel l a' w)
  (ha : a.put (some n) v = a' := by simp only [Act.put, List.setIfInBounds_toArray, List.set_cons_zero, List.set_cons_succ, i64_w, i32_w]; rfl) : wpAnyLast P md ops Q S ds fuel l (a.put (some n) v) w :=
 norm_ ha h
end
theorem B {w0 w : World} (h : Below w0.heap.size w0 w := by repeat (first | (with_reducible first | exact HB.out | apply below_alloc | apply pw_below_drewN | apply below_drew1 | refine below_set ?_ (Aside0.out (by assumption))) | exact HB.out)) : Below w0.heap.size w0 w := h
section
variable {w w' : World} {g j : Nat} {t : TypeId} {cs : Array Value} {a b c : Value}
theorem k (h : w.heap[g]? = some (.cells cs t (0, 0))) (i : Nat) {v : Value} (e : cs[i]? = some v := by rfl) : w.cell? ⟨g, i, none⟩ = some v := (blk_cell h i).trans e
variable (hw : ((w.setCell ⟨g, 0, none⟩ a).setCell ⟨g, 1, none⟩ b).setCell ⟨g, 2, none⟩ c = w')
include hw
theorem f3 (h : w.heap[j]? = some (.cells cs t (0, 0))) (n : j ≠ g) : w'.heap[j]? = some (.cells cs t (0, 0)) := by
 subst hw; exact blk_far (blk_far (blk_far h n _) n _) n _
theorem p3 {v1 v2 v3 : Value} (h : w.heap[g]? = some (.cells #[v1, v2, v3] t (0, 0))) : w'.heap[g]? = some (.cells #[a, b, c] t (0, 0)) := by
 subst hw; exact blk_put (blk_put (blk_put h 0 _ rfl) 1 _ rfl) 2 _ rfl
theorem v3 {α : Type} {d : Kd α} {e base : Nat} {ok ok' : Nat → Prop} {u : Value} {xs : List α} (h : Kd.V d e w base ok u xs) (hf : ∀ k, ok k → ok k ∧ k ≠ g) (hm : ∀ k, ok k ∧ k ≠ g → ok' k) : Kd.V d e w' base ok' u xs := by
 subst hw
 exact Kd.V_mono (Kd.V_far (p := ⟨g, 2, none⟩) (Kd.V_far (p := ⟨g, 1, none⟩) (Kd.V_far (p := ⟨g, 0, none⟩) (Kd.V_mono h (ok' := fun k => ok k ∧ k ≠ g) hf) (fun _ hk => hk.2) a) (fun _ hk => hk.2) b) (fun _ hk => hk.2) c) hm
theorem r3 {α : Type} {d : Kd α} {e base : Nat} {ok ok' : Nat → Prop} {u : Value} {xs : List α} (h : Kd.R d e w base ok u xs) (hf : ∀ k, ok k → k ≠ g) (hm : ∀ k, ok k → ok' k) : Kd.R d e w' base ok' u xs := by
 subst hw
 exact Kd.R_mono (Kd.R_far (p := ⟨g, 2, none⟩) (Kd.R_far (p := ⟨g, 1, none⟩) (Kd.R_far (p := ⟨g, 0, none⟩) h hf a) hf b) hf c) hm
theorem b3 {w0 : World} (h : Below w0.heap.size w0 w) (hg : w0.heap.size ≤ g) : Below w0.heap.size w0 w' := by
 subst hw; exact below_set (below_set (below_set h hg) hg) hg
end
section
variable {P : Program} {ops : Array Oper} {Q : Exit → Act → World → Prop} {md : Region.Mode} {S : World → Prop} {ds : List Nat} {T : Bool × List (List Nat × List Nat)} {B : List Nat}
theorem t (c i n m : Nat) (hT : rtab md ops = T) (hB : waitsOk T.2 B = true) {oi : Oper} {v : Value} {fuel : Nat} {l : Array Bool} {a a' : Act} {w : World} (hi : ops[i]? = some oi) (hN : oi.dst = some n) (hS : S w)
  (h : wpAnyLast P md ops Q S ds fuel (um c m) a' w)
  (hc : takeW T B ds l.toList (um c m).toList i = true := by kernel_rfl)
  (hQ : ∀ c a w, Q (.panic c) (a.put oi.dst v) w → Q (.panic c) a w := by exact fun _ _ _ h => h)
  (hy : YieldsIf P ops S oi v a ∧ a.put (some n) v = a' := by
   refine ⟨Or.inl ⟨by rfl, ?_⟩, ?_⟩
   ·intro w' hs_; (try dsimp only at hs_); go_simp; (with_reducible rfl)
   ·simp only [Act.put, List.setIfInBounds_toArray, List.set_cons_zero, List.set_cons_succ, i64_w, i32_w]; rfl) : wpAnyLast P md ops Q S ds (fuel + 1) l a w :=
 take_ (um c m) hi hN (take_ofW hT hB hc) hQ hy.1 hS hy.2 h
end
end Go.Proofs.YthocjdlcopmhiaaDoor.S
