import Derived.Test.YtjhmpippcndloaaB5s
import Derived.Test.YtjhmpippcndloaaPrx16
import Derived.WalkKit
import Derived.ProofKit
namespace Go.Proofs.Ytjhmpippcndloaa.B
open Go.RowKit Go.Proofs.Ytjhmpippcndloaa Go.Proofs.Ytjhmpippcndloaa.G Go.Proofs.Ytjhmpippcndloaa.Pr Go.Proofs.YtjhmpippcndloaaW.PrintWords Go.Proofs.YtjhmpippcndloaaW.PrintLast
set_option linter.unusedVariables false
set_option linter.unusedSimpArgs false
/-! ### SetNames -/
def ins (x : S24) : List S24 → List S24
  | [] => [x]
  | y :: l => if x.f0 ≤ y.f0 then x :: y :: l else y :: ins x l
def isort : List S24 → List S24
  | [] => []
  | x :: l => ins x (isort l)
theorem ins_perm (x : S24) : ∀ l : List S24, (ins x l).Perm (x :: l)
  | [] => List.Perm.refl _
  | y :: l => by
    simp only [ins]
    split
    · exact List.Perm.refl _
    · exact (List.Perm.cons y (ins_perm x l)).trans (List.Perm.swap x y l)
theorem isort_perm : ∀ l : List S24, (isort l).Perm l
  | [] => List.Perm.refl _
  | x :: l => (ins_perm x (isort l)).trans (List.Perm.cons x (isort_perm l))
theorem ins_sorted (x : S24) : ∀ l : List S24, l.Pairwise (fun x y => x.f0 ≤ y.f0) → (ins x l).Pairwise (fun x y => x.f0 ≤ y.f0)
  | [], _ => List.pairwise_singleton _ _
  | y :: l, h => by
    have h1 := List.pairwise_cons.1 h
    simp only [ins]
    split
    · rename_i hxy
      refine List.pairwise_cons.2 ⟨fun z hz => ?_, h⟩
      rcases List.mem_cons.1 hz with e | hz
      · rw [e]; exact hxy
      · exact Int.le_trans hxy (h1.1 z hz)
    · rename_i hxy
      refine List.pairwise_cons.2 ⟨fun z hz => ?_, ins_sorted x l h1.2⟩
      rcases List.mem_cons.1 ((ins_perm x l).mem_iff.1 hz) with e | hz
      · rw [e]; omega
      · exact h1.1 z hz
theorem isort_sorted : ∀ l : List S24, (isort l).Pairwise (fun x y => x.f0 ≤ y.f0)
  | [] => List.Pairwise.nil
  | x :: l => ins_sorted x (isort l) (isort_sorted l)
def calcL (l : List S24) : List S24 := mrgAll [] (isort (clampL l))
theorem ofL_calc (l : List S24) : ofL l = calcL l := by
  have m : Mrg (calcL l) (isort (clampL l)) := mrgAll_all (isort (clampL l)) [] [] ⟨Canon.nil, fun r => Iff.rfl, fun _ h => by cases h⟩ (isort_sorted _) (fun x hx => clampL_each l x ((isort_perm _).mem_iff.1 hx))
  exact canon_ext _ _ (ofL_canon l) m.canon (fun r => by rw [ofL_has, m.has r, has_perm (isort_perm _), clampL_has])
/-! letters -/
def lettersL (s : ByteArray) : List S24 := (G.bytesL s).map fun b => ⟨b, b⟩
theorem letters_l0 (t : List Int) (ht : ∀ b, b ∈ t → 0 ≤ b ∧ b ≤ 255) (hl : t.length ≤ 1099511627776) : ∀ (d i : Nat), i + d = t.length → Ev (fun k => set_letters.l0 k ((t.take i).map fun b => (⟨b, b⟩ : S24)) t (t.length : Int) (i : Int)) (ofL (t.map fun b => (⟨b, b⟩ : S24)))
  | 0, i, hi => by
    rw [List.take_of_length_le (by omega)]
    refine Ev_succ ?_
    simp only [set_letters.l0, if_neg (show ¬ (i : Int) < (t.length : Int) by omega)]
    exact Ev.bind (of_ev _ (by rw [List.length_map]; exact hl)) (Ev.now _)
  | d + 1, i, hi => by
    have hlt : i < t.length := by omega
    have hb := ht _ (List.getElem_mem hlt)
    have er : rd t (i : Int) = t[i] := by
      unfold rd
      rw [Int.toNat_natCast, List.getD_eq_getElem?_getD, List.getElem?_eq_getElem hlt]
      rfl
    have ew : wrap32 t[i] = t[i] := w32 (by omega) (by omega)
    have hlen : ((t.take i).map fun b => (⟨b, b⟩ : S24)).length < 17592186044416 := by rw [List.length_map, List.length_take]; omega
    have nx := letters_l0 t ht hl d (i + 1) (by omega)
    rw [← List.take_append_getElem hlt, List.map_append] at nx
    refine Ev_succ ?_
    simp only [set_letters.l0, if_pos (show (i : Int) < (t.length : Int) by omega), if_pos (show (0 : Int) ≤ (i : Int) by omega), er, ew, nxt hlt hl, if_pos hlen]
    exact nx
theorem letters_ev (s : ByteArray) (hs : s.size ≤ 1000) : Ev (fun k => set_letters.f k s) (ofL (lettersL s)) := by
  have hl := G.bytesL_length s
  unfold set_letters.f G.conv_bytes.f
  simp only [if_pos (show s.size ≤ 140737488351232 by omega), Option.bind_some]
  exact letters_l0 (G.bytesL s) (fun b hb => by
    obtain ⟨u, _, rfl⟩ := List.mem_map.1 hb
    have := UInt8.toNat_lt u
    omega) (by omega) (G.bytesL s).length 0 (by omega)
/-! the other side's values -/
def up (x : S24) : S58 := ⟨x.f0, x.f1⟩
theorem rdU {l : List S58} {i : Nat} (hi : i < l.length) : rd_T58 l (i : Int) = l[i] := by
  unfold rd_T58
  rw [Int.toNat_natCast, List.getD_eq_getElem?_getD, List.getElem?_eq_getElem hi]
  rfl
theorem conv_l0 (T : List S24) (c : Canon T) (hl : T.length ≤ 1000) : ∀ (d i : Nat), i + d = T.length → Ev (fun k => rubriclaw7_of.l0 k T ((T.take i).map up) (i : Int)) (T.map up)
  | 0, i, hi => by
    rw [List.take_of_length_le (by omega)]
    refine Ev_succ ?_
    simp only [rubriclaw7_of.l0, if_neg (show ¬ (i : Int) < (T.length : Int) by omega)]
    exact Ev.now _
  | d + 1, i, hi => by
    have hlt : i < T.length := by omega
    have hb := c.each _ (List.getElem_mem hlt)
    unfold topL at hb
    have e0 : wrap64 T[i].f0 = T[i].f0 := w64 (by omega) (by omega)
    have e1 : wrap64 T[i].f1 = T[i].f1 := w64 (by omega) (by omega)
    have hlen : ((T.take i).map up).length < 8796093022208 := by rw [List.length_map, List.length_take]; omega
    have nx := conv_l0 T c hl d (i + 1) (by omega)
    rw [← List.take_append_getElem hlt, List.map_append] at nx
    refine Ev_succ ?_
    simp only [rubriclaw7_of.l0, if_pos (show (i : Int) < (T.length : Int) by omega), if_pos (show (0 : Int) ≤ (i : Int) by omega), rdT hlt, e0, e1, nxt hlt (show T.length ≤ 1099511627776 by omega), if_pos hlen]
    exact nx
theorem conv_ev (T : List S24) (c : Canon T) (hl : T.length ≤ 1000) : Ev (fun k => rubriclaw7_Of.f k T) (T.map up) :=
  Ev.bind (conv_l0 T c hl T.length 0 (by omega)) (Ev.now _)
theorem sameU_l0 (L : List S58) (hl : L.length ≤ 1000) : ∀ (d i : Nat), i + d = L.length → Ev (fun k => rubricref7_Same.l0 k (i : Int) L L) true
  | 0, i, hi => by
    refine Ev_succ ?_
    simp only [rubricref7_Same.l0, if_neg (show ¬ (i : Int) < (L.length : Int) by omega)]
    exact Ev.now _
  | d + 1, i, hi => by
    have hlt : i < L.length := by omega
    refine Ev_succ ?_
    simp only [rubricref7_Same.l0, if_pos (show (i : Int) < (L.length : Int) by omega), if_pos (show (0 : Int) ≤ (i : Int) by omega), beq_self_eq_true, Bool.not_true, Bool.or_self, Bool.false_eq_true, if_false, nxt hlt (show L.length ≤ 1099511627776 by omega)]
    exact sameU_l0 L hl d (i + 1) (by omega)
theorem sameU (L : List S58) (hl : L.length ≤ 1000) : Ev (fun k => rubricref7_Same.f k L L) true := by
  unfold rubricref7_Same.f
  simp only [if_true]
  exact sameU_l0 L hl L.length 0 (by omega)
theorem ref_of (raw : List S58) (l : List S24) (h : rubricref7_Of.f 100 raw = some ((calcL l).map up)) : Ev (fun k => rubricref7_Of.f k raw) ((ofL l).map up) := by
  rw [ofL_calc]
  exact Ev.of (rubricref7_Of.mono raw) h
/-! names -/
def bP : ByteArray := ⟨#[33, 34, 35, 37, 38, 39, 40, 41, 42, 44, 45, 46, 47, 58, 59, 63, 64, 91, 92, 93, 95, 123, 125]⟩
def bS : ByteArray := ⟨#[36, 43, 60, 61, 62, 94, 124, 126, 96]⟩
def bS' : ByteArray := ⟨#[36, 43, 60, 61, 62, 94, 124, 126]⟩
def lZ : List S24 := [⟨32, 32⟩, ⟨160, 160⟩]
def lC : List S24 := [⟨0, 31⟩, ⟨127, 159⟩]
def rlet (s : ByteArray) : List S58 := (G.bytesL s).map fun b => ⟨b, b⟩
def catL (n : List UInt8) : Option (List S24) :=
  if n = [76, 117] then some [⟨65, 90⟩] else if n = [76, 108] then some [⟨97, 122⟩] else if n = [76] then some [⟨65, 90⟩, ⟨97, 122⟩] else if n = [78, 100] then some [⟨48, 57⟩] else if n = [78] then some [⟨48, 57⟩]
  else if n = [80] then some (lettersL bP) else if n = [83] then some (lettersL bS) else if n = [90] then some lZ else if n = [67] then some lC else none
def setR (o : Option (List S24)) : List S24 × Bool := match o with
  | some l => (ofL l, true)
  | none => ([], false)
theorem cat_set (a : ByteArray) : Ev (fun k => set_Category.f k a) (setR (catL a.toList)) := by
  unfold set_Category.f catL
  by_cases h1 : a.toList = [76, 117]
  · simp only [if_pos h1]
    exact Ev.bind (of_ev _ (by decide)) (Ev.now _)
  simp only [if_neg h1]
  by_cases h2 : a.toList = [76, 108]
  · simp only [if_pos h2]
    exact Ev.bind (of_ev _ (by decide)) (Ev.now _)
  simp only [if_neg h2]
  by_cases h3 : a.toList = [76]
  · simp only [if_pos h3]
    exact Ev.bind (of_ev _ (by decide)) (Ev.now _)
  simp only [if_neg h3]
  by_cases h4 : a.toList = [78, 100]
  · simp only [if_pos h4, (beq_iff_eq.2 h4 : (a.toList == ([78, 100] : List UInt8)) = true)]
    refine Ev_succ ?_
    simp only [set_Category.j0, if_true]
    exact Ev.bind (of_ev _ (by decide)) (Ev.now _)
  simp only [if_neg h4]
  by_cases h5 : a.toList = [78]
  · simp only [if_pos h5, (beq_iff_eq.2 h5 : (a.toList == ([78] : List UInt8)) = true)]
    refine Ev_succ ?_
    simp only [set_Category.j0, if_true]
    exact Ev.bind (of_ev _ (by decide)) (Ev.now _)
  have e5 : (a.toList == ([78] : List UInt8)) = false := beq_eq_false_iff_ne.2 h5
  simp only [if_neg h5, e5]
  refine Ev_succ ?_
  simp only [set_Category.j0, Bool.false_eq_true, if_false]
  by_cases h6 : a.toList = [80]
  · simp only [if_pos h6]
    exact Ev.bind (letters_ev bP (by decide)) (Ev.now _)
  simp only [if_neg h6]
  by_cases h7 : a.toList = [83]
  · simp only [if_pos h7]
    exact Ev.bind (letters_ev bS (by decide)) (Ev.now _)
  simp only [if_neg h7]
  by_cases h8 : a.toList = [90]
  · simp only [if_pos h8]
    exact Ev.bind (of_ev lZ (by decide)) (Ev.now _)
  simp only [if_neg h8]
  by_cases h9 : a.toList = [67]
  · simp only [if_pos h9]
    exact Ev.bind (of_ev lC (by decide)) (Ev.now _)
  simp only [if_neg h9]
  exact Ev.now _
def refR (o : Option (List S24)) : List S58 × Bool := ((setR o).1.map up, (setR o).2)
theorem cat_ref (a : ByteArray) : Ev (fun k => rubricref7_Category.f k a) (refR (catL a.toList)) := by
  unfold rubricref7_Category.f catL
  by_cases h1 : a.toList = [76, 117]
  · simp only [if_pos h1]
    exact Ev.bind (ref_of _ [⟨65, 90⟩] (by kernel_rfl)) (Ev.now _)
  simp only [if_neg h1]
  by_cases h2 : a.toList = [76, 108]
  · simp only [if_pos h2]
    exact Ev.bind (ref_of _ [⟨97, 122⟩] (by kernel_rfl)) (Ev.now _)
  simp only [if_neg h2]
  by_cases h3 : a.toList = [76]
  · simp only [if_pos h3]
    exact Ev.bind (ref_of _ [⟨65, 90⟩, ⟨97, 122⟩] (by kernel_rfl)) (Ev.now _)
  simp only [if_neg h3]
  by_cases h4 : a.toList = [78, 100]
  · simp only [if_pos h4, (beq_iff_eq.2 h4 : (a.toList == ([78, 100] : List UInt8)) = true)]
    refine Ev_succ ?_
    simp only [rubricref7_Category.j0, if_true]
    exact Ev.bind (ref_of _ [⟨48, 57⟩] (by kernel_rfl)) (Ev.now _)
  simp only [if_neg h4]
  by_cases h5 : a.toList = [78]
  · simp only [if_pos h5, (beq_iff_eq.2 h5 : (a.toList == ([78] : List UInt8)) = true)]
    refine Ev_succ ?_
    simp only [rubricref7_Category.j0, if_true]
    exact Ev.bind (ref_of _ [⟨48, 57⟩] (by kernel_rfl)) (Ev.now _)
  have e5 : (a.toList == ([78] : List UInt8)) = false := beq_eq_false_iff_ne.2 h5
  simp only [if_neg h5, e5]
  refine Ev_succ ?_
  simp only [rubricref7_Category.j0, Bool.false_eq_true, if_false]
  by_cases h6 : a.toList = [80]
  · simp only [if_pos h6]
    have e : rubricref7_letters.f 100 bP = some (rlet bP) := by kernel_rfl
    exact Ev.bind (Ev.of (rubricref7_letters.mono bP) e) (Ev.bind (ref_of _ (lettersL bP) (by kernel_rfl)) (Ev.now _))
  simp only [if_neg h6]
  by_cases h7 : a.toList = [83]
  · simp only [if_pos h7]
    have e : rubricref7_letters.f 100 bS' = some (rlet bS') := by kernel_rfl
    refine Ev.bind (Ev.of (rubricref7_letters.mono bS') e) ?_
    simp only [if_pos (show (rlet bS').length < 8796093022208 by decide)]
    exact Ev.bind (ref_of _ (lettersL bS) (by kernel_rfl)) (Ev.now _)
  simp only [if_neg h7]
  by_cases h8 : a.toList = [90]
  · simp only [if_pos h8]
    exact Ev.bind (ref_of _ lZ (by kernel_rfl)) (Ev.now _)
  simp only [if_neg h8]
  by_cases h9 : a.toList = [67]
  · simp only [if_pos h9]
    exact Ev.bind (ref_of _ lC (by kernel_rfl)) (Ev.now _)
  simp only [if_neg h9]
  exact Ev.now _
theorem setR_canon (o : Option (List S24)) : Canon (setR o).1 := by
  cases o with
  | none => exact Canon.nil
  | some l => exact ofL_canon l
theorem catL_length (n : List UInt8) : (setR (catL n)).1.length ≤ 1000 := by
  have h : ∀ l : List S24, l.length ≤ 1000 → (setR (some l)).1.length ≤ 1000 := fun l hl => Nat.le_trans (ofL_length l) hl
  unfold catL
  repeat' split
  all_goals first | exact h _ (by decide) | exact Nat.zero_le _

end Go.Proofs.Ytjhmpippcndloaa.B
