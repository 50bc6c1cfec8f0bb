-- printed by wip/gprint.py (ours) out of the translation, by the kit's print program with given contracts
import Derived.Test.YtfpedicgeepikaaS3
import Derived.Test.YtfpedicgeepikaaPrx0
import Derived.Test.YtfpedicgeepikaaPrx1
namespace Go.Proofs.Ytfpedicgeepikaa.Pr
open Go.RowKit Go.Proofs.YtfpedicgeepikaaW.PrintWords Go.Proofs.YtfpedicgeepikaaW.PrintLast Go.Proofs.YtfpedicgeepikaaW.PrintMore
attribute [local go_sem] max2_int min2_int max_two min_two max_three min_three max_four min_four   -- for this text's walks alone
set_option linter.unusedVariables false
set_option linter.unusedSimpArgs false

/-! ### wild_Parse: function 7 -/
mutual
def wild_Parse.j1 : Nat → ByteArray → Int → List ByteArray → Option (Int × ByteArray × List ByteArray × Int × Int)
 | 0, _, _, _ => none
 | k + 1, x1, x8, x9 => wild_Parse.l0 k x1 x8 ([] : List ByteArray) x9 (x9.length : Int) 0
def wild_Parse.l0 : Nat → ByteArray → Int → List ByteArray → List ByteArray → Int → Int → Option (Int × ByteArray × List ByteArray × Int × Int)
 | 0, _, _, _, _, _, _ => none
 | k + 1, x1, x8, x10, x48, x49, x50 => if x50 < x49 then (if 0 ≤ x50 then (if x50 < (x48.length : Int) then (if (rdOf ByteArray.empty x48 x50).toList = ([35, 35, 116, 97, 114, 103, 101, 116, 78, 97, 109, 101, 115, 112, 97, 99, 101] : List UInt8) then (if x10.length < 8796093022208 then (wild_Parse.l0 k x1 x8 (x10 ++ [x1]) x48 x49 (wrap64 (x50 + 1))) else (none)) else (if (rdOf ByteArray.empty x48 x50).toList = ([35, 35, 108, 111, 99, 97, 108] : List UInt8) then (if x10.length < 8796093022208 then (wild_Parse.l0 k x1 x8 (x10 ++ [(⟨#[]⟩ : ByteArray)]) x48 x49 (wrap64 (x50 + 1))) else (none)) else ((strings_HasPrefix.f (rdOf ByteArray.empty x48 x50) (⟨#[35, 35]⟩ : ByteArray)).bind fun t126 => (if t126 = true then (some (0, (⟨#[]⟩ : ByteArray), ([] : List ByteArray), 0, 2)) else (if x10.length < 8796093022208 then (wild_Parse.l0 k x1 x8 (x10 ++ [rdOf ByteArray.empty x48 x50]) x48 x49 (wrap64 (x50 + 1))) else (none)))))) else (none)) else (none)) else ((G.wild_these.f x10 x8).bind fun bt113 => (some (bt113.1, bt113.2.1, bt113.2.2.1, bt113.2.2.2, 0)))
def wild_Parse.j0 : Nat → ByteArray → Int → List ByteArray → Bool → Option (Int × ByteArray × List ByteArray × Int × Int)
 | 0, _, _, _, _ => none
 | k + 1, x1, x8, x9, x20 => if x20 = true then (some (1, (⟨#[]⟩ : ByteArray), ([] : List ByteArray), x8, 0)) else (if (x9.length : Int) = 1 then (if 0 < (x9.length : Int) then (if (rdOf ByteArray.empty x9 0).toList = ([35, 35, 111, 116, 104, 101, 114] : List UInt8) then (some (2, x1, ([] : List ByteArray), x8, 0)) else (wild_Parse.j1 k x1 x8 x9)) else (none)) else (wild_Parse.j1 k x1 x8 x9))
end
def wild_Parse.f (k : Nat) (a0 : ByteArray) (a1 : ByteArray) (a2 : ByteArray) : Option (Int × ByteArray × List ByteArray × Int × Int) := (wild_process.f k a2).bind fun t107 => (if t107 = 0 then (some (0, (⟨#[]⟩ : ByteArray), ([] : List ByteArray), 0, 2)) else ((char_Words.f k a0).bind fun t108 => (if (t108.length : Int) = 0 then (wild_Parse.j0 k a1 t107 t108 ((t108.length : Int) == 0)) else (if (t108.length : Int) = 1 then (if 0 < (t108.length : Int) then (wild_Parse.j0 k a1 t107 t108 ((rdOf ByteArray.empty t108 0).toList == ([35, 35, 97, 110, 121] : List UInt8))) else (none)) else (wild_Parse.j0 k a1 t107 t108 false)))))
theorem wild_Parse.mono_l : ∀ k, (∀ y0 y1 y2, LeO (wild_Parse.j1 k y0 y1 y2) (wild_Parse.j1 (k + 1) y0 y1 y2)) ∧ (∀ y0 y1 y2 y3 y4 y5, LeO (wild_Parse.l0 k y0 y1 y2 y3 y4 y5) (wild_Parse.l0 (k + 1) y0 y1 y2 y3 y4 y5)) ∧ (∀ y0 y1 y2 y3, LeO (wild_Parse.j0 k y0 y1 y2 y3) (wild_Parse.j0 (k + 1) y0 y1 y2 y3))
 | 0 => ⟨fun _ _ _ r h => by simp [wild_Parse.j1] at h, fun _ _ _ _ _ _ r h => by simp [wild_Parse.l0] at h, fun _ _ _ _ r h => by simp [wild_Parse.j0] at h⟩
 | k + 1 => by
  obtain ⟨ih0, ih1, ih2⟩ := wild_Parse.mono_l k; refine ⟨?_, ?_, ?_⟩
  ·intro y0 y1 y2
   unfold wild_Parse.j1
   repeat' first
   | (with_reducible exact ih0 _ _ _)
   | (with_reducible exact ih1 _ _ _ _ _ _)
   | (with_reducible exact ih2 _ _ _ _)
   | (with_reducible exact char_Words.mono _ _)
   | (with_reducible exact wild_process.mono _ _)
   | (with_reducible exact LeO.refl _)
   | (with_reducible exact LeO.none _)
   | (with_reducible refine LeO.ite ?_ ?_)
   | (with_reducible refine LeO.bind ?_ (fun _ => ?_))
   | exact ih0 _ _ _
   | exact ih1 _ _ _ _ _ _
   | exact ih2 _ _ _ _
   | exact char_Words.mono _ _
   | exact wild_process.mono _ _
   | exact LeO.none _
   | refine LeO.ite ?_ ?_
   | refine LeO.bind ?_ (fun _ => ?_)
  ·intro y0 y1 y2 y3 y4 y5
   unfold wild_Parse.l0
   repeat' first
   | (with_reducible exact ih0 _ _ _)
   | (with_reducible exact ih1 _ _ _ _ _ _)
   | (with_reducible exact ih2 _ _ _ _)
   | (with_reducible exact char_Words.mono _ _)
   | (with_reducible exact wild_process.mono _ _)
   | (with_reducible exact LeO.refl _)
   | (with_reducible exact LeO.none _)
   | (with_reducible refine LeO.ite ?_ ?_)
   | (with_reducible refine LeO.bind ?_ (fun _ => ?_))
   | exact ih0 _ _ _
   | exact ih1 _ _ _ _ _ _
   | exact ih2 _ _ _ _
   | exact char_Words.mono _ _
   | exact wild_process.mono _ _
   | exact LeO.none _
   | refine LeO.ite ?_ ?_
   | refine LeO.bind ?_ (fun _ => ?_)
  ·intro y0 y1 y2 y3
   unfold wild_Parse.j0
   repeat' first
   | (with_reducible exact ih0 _ _ _)
   | (with_reducible exact ih1 _ _ _ _ _ _)
   | (with_reducible exact ih2 _ _ _ _)
   | (with_reducible exact char_Words.mono _ _)
   | (with_reducible exact wild_process.mono _ _)
   | (with_reducible exact LeO.refl _)
   | (with_reducible exact LeO.none _)
   | (with_reducible refine LeO.ite ?_ ?_)
   | (with_reducible refine LeO.bind ?_ (fun _ => ?_))
   | exact ih0 _ _ _
   | exact ih1 _ _ _ _ _ _
   | exact ih2 _ _ _ _
   | exact char_Words.mono _ _
   | exact wild_process.mono _ _
   | exact LeO.none _
   | refine LeO.ite ?_ ?_
   | refine LeO.bind ?_ (fun _ => ?_)
theorem wild_Parse.mono : ∀ a0 a1 a2 k, LeO (wild_Parse.f k a0 a1 a2) (wild_Parse.f (k + 1) a0 a1 a2) := by
 intro a0 a1 a2 k; obtain ⟨ih0, ih1, ih2⟩ := wild_Parse.mono_l k
 unfold wild_Parse.f
 repeat' first
   | (with_reducible exact ih0 _ _ _)
   | (with_reducible exact ih1 _ _ _ _ _ _)
   | (with_reducible exact ih2 _ _ _ _)
   | (with_reducible exact char_Words.mono _ _)
   | (with_reducible exact wild_process.mono _ _)
   | (with_reducible exact LeO.refl _)
   | (with_reducible exact LeO.none _)
   | (with_reducible refine LeO.ite ?_ ?_)
   | (with_reducible refine LeO.bind ?_ (fun _ => ?_))
   | exact ih0 _ _ _
   | exact ih1 _ _ _ _ _ _
   | exact ih2 _ _ _ _
   | exact char_Words.mono _ _
   | exact wild_process.mono _ _
   | exact LeO.none _
   | refine LeO.ite ?_ ?_
   | refine LeO.bind ?_ (fun _ => ?_)
set_option maxHeartbeats 8000000 in
set_option maxRecDepth 100000 in
theorem wild_Parse.calls (k : Nat) (a0 : ByteArray) (a1 : ByteArray) (a2 : ByteArray) (r1 : Int) (r2 : ByteArray) (r3 : List ByteArray) (r4 : Int) (r5 : Int) (w : World) (h : wild_Parse.f k a0 a1 a2 = some (r1, r2, r3, r4, r5)) :
  Calls Try.prog 7 #[.string a0, .string a1, .string a2] w fun e w' => ∃ v2_ : Value, e = .returned (.tuple #[.agg #[.int .i64 r1, .string r2, v2_, .int .i64 r4], .int .i64 r5]) ∧ Kd.V Kd.string 9 w' w.heap.size (fun k_ => (w.heap.size ≤ k_)) v2_ r3 ∧ Below w.heap.size w w' := by
 have hu26 := Try.underlying26; have HB := Aside0.mk (Below.refl w.heap.size w); have H : ((wild_process.f k a2).bind fun t107 => (if t107 = 0 then (some (0, (⟨#[]⟩ : ByteArray), ([] : List ByteArray), 0, 2)) else ((char_Words.f k a0).bind fun t108 => (if (t108.length : Int) = 0 then (wild_Parse.j0 k a1 t107 t108 ((t108.length : Int) == 0)) else (if (t108.length : Int) = 1 then (if 0 < (t108.length : Int) then (wild_Parse.j0 k a1 t107 t108 ((rdOf ByteArray.empty t108 0).toList == ([35, 35, 97, 110, 121] : List UInt8))) else (none)) else (wild_Parse.j0 k a1 t107 t108 false)))))) = some (r1, r2, r3, r4, r5) := h; clear h; replace H := Option.bind_eq_some_iff.mp H; obtain ⟨t107, A40, H⟩ := H; (try dsimp only at H); have A4 := Aside0.mk A40; clear A40
 by_cases c5 : t107 = 0
 ·rw [if_pos c5] at H; have c5b0 : (t107 == 0) = true := beq_iff_eq.mpr c5; have c5b1 : (t107 != 0) = false := bne_eq_false_iff_eq.mpr c5; clear c5; simp only [Option.some.injEq, Prod.mk.injEq] at H; obtain ⟨rfl, rfl, rfl, rfl, rfl⟩ := H
  go_enter Try.func7, Try.ntmps7
  go_wp2_with (first | ((with_reducible refine gate_dst (N := 6) rfl ?_); refine box_event ?hg (N := 6) ?hd (cs := #[.int .i64 0, .string (⟨#[]⟩ : ByteArray), .slice none 0 0, .int .i64 0]) (t := 26) ?hr ?_; (case hd => rfl); (case hg => rfl); (case hr => first | (go_simp; done) | (go_simp; rfl)); intro gb106 hg w6 hbox hb; have n0_ := Aside0.mk (below_step S.B hb); have n1_ := Aside0.mk (hbox); have n2_ := Aside0.mk ((by rw [hg]; exact (below_size S.B) : w.heap.size ≤ gb106)); have n3_ := Aside0.mk ((by rw [hg]; exact (below_size S.B) : w.heap.size ≤ gb106)); clear HB; have HB := n0_; have BK106 := n1_; have GW106 := n2_; have GE106 := n3_; clear n0_ n1_ n2_ n3_; clear hb hbox hg) | ((with_reducible refine gate_callee (f := 22) rfl ?_); refine goesL_ (some 14) rfl rfl Try.func22 (by kernel_rfl) rfl #[.string a2] rfl (by (try simp only [List.map_toArray, List.map_cons, List.map_nil]); first | done | rfl | (simp only [List.length_drop, List.length_take]; rfl)) ?_; (with_reducible refine (wild_process.calls k a2 t107 _ A4.out).mono ?_); rintro e w' ⟨rfl, ⟨nd, rfl⟩⟩; refine ⟨_, rfl, ?_⟩; (try (rw [drewN_self w6]; generalize hq_ : World.drewN w6 _ = w6; have n0_ : Aside0 (w6.heap[gb106]? = some (.cells #[.int .i64 0, .string (⟨#[]⟩ : ByteArray), .slice none 0 0, .int .i64 0] 26 (0, 0))) := ⟨by rw [← hq_]; exact (S.b BK106.out)⟩; have n1_ : Aside0 (Below w.heap.size w w6) := ⟨by rw [← hq_]; exact S.B⟩; clear BK106 HB hq_; have BK106 := n0_; have HB := n1_; clear n0_ n1_)); obtain ⟨hcz7_0, hcz7_1, hcz7_2, hcz7_3, hfz7_0, hfz7_1, hfz7_2, hfz7_3⟩ := S.c4 BK106.out))
  refine bodyPost_ret (results_ct rfl _ _ gb106 26 #[.int .i64 0, .string (⟨#[]⟩ : ByteArray), .slice none 0 0, .int .i64 0] (0, 0) _ rfl (by (with_reducible repeat (first | refine blk_drewN ?_ _ | refine blk_drew ?_ | refine blk_alloc ?_ _)); refine blk_put (cs := #[.int .i64 0, .string (⟨#[]⟩ : ByteArray), .slice none 0 0, .int .i64 0]) ?_ 3 _ rfl; (with_reducible repeat (first | refine blk_drewN ?_ _ | refine blk_drew ?_ | refine blk_alloc ?_ _)); refine blk_put (cs := #[.int .i64 0, .string (⟨#[]⟩ : ByteArray), .slice none 0 0, .int .i64 0]) ?_ 2 _ rfl; (with_reducible repeat (first | refine blk_drewN ?_ _ | refine blk_drew ?_ | refine blk_alloc ?_ _)); refine blk_put (cs := #[.int .i64 0, .string (⟨#[]⟩ : ByteArray), .slice none 0 0, .int .i64 0]) ?_ 1 _ rfl; (with_reducible repeat (first | refine blk_drewN ?_ _ | refine blk_drew ?_ | refine blk_alloc ?_ _)); refine blk_put (cs := #[.int .i64 0, .string (⟨#[]⟩ : ByteArray), .slice none 0 0, .int .i64 0]) ?_ 0 _ rfl; (with_reducible repeat (first | refine blk_drewN ?_ _ | refine blk_drew ?_ | refine blk_alloc ?_ _)); exact BK106.out) Try.underlying26 rfl (by kernel_rfl)) rfl ?_; exact ⟨_, by first | rfl | (simp [errW_none, errW_some] <;> rfl) | (simp [*, errW_none, errW_some] <;> rfl), Kd.V_nil _ _ _ _ _, S.B⟩
 ·rw [if_neg c5] at H; have c5b0 : (t107 == 0) = false := beq_eq_false_iff_ne.mpr c5; have c5b1 : (t107 != 0) = true := bne_iff_ne.mpr c5; replace H := Option.bind_eq_some_iff.mp H; obtain ⟨t108, A80, H⟩ := H; (try dsimp only at H); have A8 := Aside0.mk A80; clear A80; have HC9 := Aside0.mk H; clear H
  go_enter Try.func7, Try.ntmps7
  go_upto_block 0 with (first | ((with_reducible refine gate_dst (N := 6) rfl ?_); refine box_event ?hg (N := 6) ?hd (cs := #[.int .i64 0, .string (⟨#[]⟩ : ByteArray), .slice none 0 0, .int .i64 0]) (t := 26) ?hr ?_; (case hd => rfl); (case hg => rfl); (case hr => first | (go_simp; done) | (go_simp; rfl)); intro gb106 hg w10 hbox hb; have n0_ := Aside0.mk (below_step S.B hb); have n1_ := Aside0.mk (hbox); have n2_ := Aside0.mk ((by rw [hg]; exact (below_size S.B) : w.heap.size ≤ gb106)); have n3_ := Aside0.mk ((by rw [hg]; exact (below_size S.B) : w.heap.size ≤ gb106)); clear HB; have HB := n0_; have BK106 := n1_; have GW106 := n2_; have GE106 := n3_; clear n0_ n1_ n2_ n3_; clear hb hbox hg) | ((with_reducible refine gate_callee (f := 22) rfl ?_); refine goesL_ (some 14) rfl rfl Try.func22 (by kernel_rfl) rfl #[.string a2] rfl (by (try simp only [List.map_toArray, List.map_cons, List.map_nil]); first | done | rfl | (simp only [List.length_drop, List.length_take]; rfl)) ?_; (with_reducible refine (wild_process.calls k a2 t107 _ A4.out).mono ?_); rintro e w' ⟨rfl, ⟨nd, rfl⟩⟩; refine ⟨_, rfl, ?_⟩) | ((with_reducible refine gate_callee (f := 23) rfl ?_); refine goesL_ (some 19) rfl rfl Try.func23 (by kernel_rfl) rfl #[.string a0] rfl (by (try simp only [List.map_toArray, List.map_cons, List.map_nil]); first | done | rfl | (simp only [List.length_drop, List.length_take]; rfl)) ?_; (with_reducible refine (char_Words.calls k a0 t108 _ A8.out).mono ?_); rintro e w11 ⟨v109, rfl, ho0, hb⟩; refine ⟨_, rfl, ?_⟩; have n0_ := Aside0.mk (Kd.R_lower (Kd.R_newM (M := fun k_ => (w.heap.size ≤ k_)) ho0 (below_size S.B) (fun k_ h_ => h_)) (below_size S.B)); have n1_ := Aside0.mk (blk_below (g := gb106) (o := .cells #[.int .i64 0, .string (⟨#[]⟩ : ByteArray), .slice none 0 0, .int .i64 0] 26 (0, 0)) (S.b BK106.out) hb); have n2_ := Aside0.mk (below_step S.B hb); clear BK106; clear HB; have HO110 := n0_; have BK106 := n1_; have HB := n2_; clear n0_ n1_ n2_; (try clear hb); (try clear hb2); (try clear hk); (try clear hi); (try clear ho0)))
  (try simp only [Act.put, List.setIfInBounds_toArray, List.set_cons_zero, List.set_cons_succ])
  go_cut [] (fun wc => ∃ (kq : Nat) (x107000_8 : Int) (x107001_8 : ByteArray) (x107003_8 : Int), Aside0 (wild_Parse.j1 kq a1 t107 t108 = some (r1, r2, r3, r4, r5)) ∧ Aside0 (kq ≤ k) ∧ Aside0 (Kd.R Kd.string 9 wc w.heap.size (fun k_ => (w.heap.size ≤ k_)) v109 t108) ∧ Aside0 (wc.heap[gb106]? = some (.cells #[.int .i64 x107000_8, .string x107001_8, (.slice none 0 0), .int .i64 x107003_8] 26 (0, 0))) ∧ Aside0 (Below w.heap.size w wc))
  case first =>
   have H := HC9.out; clear HC9; have HC12 := Aside0.mk H; clear H; obtain ⟨Ao13, co13, eo13⟩ := Kd.R_slice HO110.out; subst eo13
   go_upto_if 20 with (fail)
   go_cut [20] (fun v20 wc => ∃ (kq : Nat) (x20_11 : Bool), v20 = .bool x20_11 ∧ Aside0 (wild_Parse.j0 kq a1 t107 t108 x20_11 = some (r1, r2, r3, r4, r5)) ∧ Aside0 (kq ≤ k) ∧ Aside0 (Kd.R Kd.string 9 wc w.heap.size (fun k_ => (w.heap.size ≤ k_)) (.slice Ao13 t108.length co13) t108) ∧ Aside0 (wc.heap[gb106]? = some (.cells #[.int .i64 0, .string (⟨#[]⟩ : ByteArray), (.slice none 0 0), .int .i64 0] 26 (0, 0))) ∧ Aside0 (Below w.heap.size w wc))
   case first =>
    have H := HC12.out; clear HC12
    by_cases c14 : (t108.length : Int) = 0
    ·rw [if_pos c14] at H; have c14b0 : ((t108.length : Int) == 0) = true := beq_iff_eq.mpr c14; have c14b1 : ((t108.length : Int) != 0) = false := bne_eq_false_iff_eq.mpr c14; clear c14; (first | rw [c14b0] | (simp only [i64_w, i32_w]; rw [c14b0]) | skip); have H' := Aside0.mk H; clear H; go_wp2
     go_meet
     case rel => exact ⟨_, (((t108.length : Int) == 0)), (by first | rfl | (simp; done) | (simp [*]; done)), H', ⟨by first | omega | exact Nat.le_refl _⟩, ⟨by (with_reducible repeat (first | apply Kd.R_alloc | apply Kd.R_drewN | apply Kd.R_drew)); exact Kd.R_mono HO110.out (fun _ hk => hk.1)⟩, ⟨S.b BK106.out⟩, ⟨S.B⟩⟩
    ·rw [if_neg c14] at H; have c14b0 : ((t108.length : Int) == 0) = false := beq_eq_false_iff_ne.mpr c14; have c14b1 : ((t108.length : Int) != 0) = true := bne_iff_ne.mpr c14; (have c14b2 : ¬ (t108 = []) := fun h_ => c14 (by rw [h_]; rfl)); (first | rw [c14b0] | (simp only [i64_w, i32_w]; rw [c14b0]) | skip)
     by_cases c15 : (t108.length : Int) = 1
     ·rw [if_pos c15] at H; have c15b0 : ((t108.length : Int) == 1) = true := beq_iff_eq.mpr c15; have c15b1 : ((t108.length : Int) != 1) = false := bne_eq_false_iff_eq.mpr c15; clear c15
      by_cases c16 : 0 < (t108.length : Int)
      ·rw [if_pos c16] at H; have c16b0 : decide (0 < (t108.length : Int)) = true := decide_eq_true c16; have c16b1 : decide (0 < t108.length) = true := decide_eq_true (by omega); clear c16; have H' := Aside0.mk H; clear H; have p111 : 0 ≤ (0 : Int) := (by omega); have q111 : 0 < (t108.length : Int) := of_decide_eq_true (by first | (with_reducible assumption) | assumption); obtain ⟨ad111, e111, hx111_0⟩ := Kd.at_string (Kd.R_reads' HO110.out).2.2 0 p111 q111; cases e111; have qi111 : (0 < t108.length) = True := eq_true (by omega); (try rw [show ((0 : Int)).toNat = 0 from rfl] at hx111_0); (try rw [Addr.add_zero'] at hx111_0); replace p111 := eq_true p111; replace q111 := eq_true q111; go_wp2
       go_meet
       case rel => exact ⟨_, (((rdOf ByteArray.empty t108 0).toList == ([35, 35, 97, 110, 121] : List UInt8))), (by first | rfl | (simp; done) | (simp [*]; done)), H', ⟨by first | omega | exact Nat.le_refl _⟩, ⟨by (with_reducible repeat (first | apply Kd.R_alloc | apply Kd.R_drewN | apply Kd.R_drew)); exact Kd.R_mono HO110.out (fun _ hk => hk.1)⟩, ⟨S.b BK106.out⟩, ⟨S.B⟩⟩
      ·rw [if_neg c16] at H; exact absurd H (by simp)
     ·rw [if_neg c15] at H; have c15b0 : ((t108.length : Int) == 1) = false := beq_eq_false_iff_ne.mpr c15; have c15b1 : ((t108.length : Int) != 1) = true := bne_iff_ne.mpr c15; have H' := Aside0.mk H; clear H; go_wp2
      go_meet
      case rel => exact ⟨_, (false), (by first | rfl | (simp; done) | (simp [*]; done)), H', ⟨by first | omega | exact Nat.le_refl _⟩, ⟨by (with_reducible repeat (first | apply Kd.R_alloc | apply Kd.R_drewN | apply Kd.R_drew)); exact Kd.R_mono HO110.out (fun _ hk => hk.1)⟩, ⟨S.b BK106.out⟩, ⟨S.B⟩⟩
   case rest =>
    clear HC12; (try clear c1); (try clear p1); (try clear q1); (try clear hx1); (try clear qi1); (try clear c2); (try clear p2); (try clear c5); (try clear c5b0); (try clear c5b1); (try clear c7); (try clear p11); (try clear q11); (try clear hx11); (try clear qi11); (try clear c14); (try clear c14b0); (try clear c14b1); (try clear c14b2); (try clear c15); (try clear c15b0); (try clear c15b1); (try clear c16); (try clear c16b0); (try clear c16b1); (try clear hcz7_0); (try clear hcz7_1); (try clear hcz7_2); (try clear hcz7_3); (try clear hfz7_0); (try clear hfz7_1); (try clear hfz7_2); (try clear hfz7_3); (try clear hx111_0); (try clear p111); (try clear q111); obtain ⟨kq, x20_11, rfl, HA, HJ11, HO_9, BK106, HB⟩ := hcut
    cases kq with
    | zero => exact absurd HA.out (by simp [wild_Parse.j0])
    | succ kj11 =>
     have H := HA.out; clear HA; simp only [wild_Parse.j0] at H
     by_cases c17 : x20_11 = true
     ·subst c17; rw [if_pos rfl] at H; (try dsimp only at H); simp only [Option.some.injEq, Prod.mk.injEq] at H; obtain ⟨rfl, rfl, rfl, rfl, rfl⟩ := H; obtain ⟨hcz18_0, hcz18_1, hcz18_2, hcz18_3, hfz18_0, hfz18_1, hfz18_2, hfz18_3⟩ := S.c4 BK106.out; go_wp2; refine bodyPost_ret (results_ct rfl _ _ gb106 26 #[.int .i64 1, .string (⟨#[]⟩ : ByteArray), .slice none 0 0, .int .i64 t107] (0, 0) _ rfl (by (with_reducible repeat (first | refine blk_drewN ?_ _ | refine blk_drew ?_ | refine blk_alloc ?_ _)); refine blk_put (cs := #[.int .i64 1, .string (⟨#[]⟩ : ByteArray), .slice none 0 0, .int .i64 0]) ?_ 3 _ rfl; (with_reducible repeat (first | refine blk_drewN ?_ _ | refine blk_drew ?_ | refine blk_alloc ?_ _)); refine blk_put (cs := #[.int .i64 1, .string (⟨#[]⟩ : ByteArray), .slice none 0 0, .int .i64 0]) ?_ 2 _ rfl; (with_reducible repeat (first | refine blk_drewN ?_ _ | refine blk_drew ?_ | refine blk_alloc ?_ _)); refine blk_put (cs := #[.int .i64 1, .string (⟨#[]⟩ : ByteArray), .slice none 0 0, .int .i64 0]) ?_ 1 _ rfl; (with_reducible repeat (first | refine blk_drewN ?_ _ | refine blk_drew ?_ | refine blk_alloc ?_ _)); refine blk_put (cs := #[.int .i64 0, .string (⟨#[]⟩ : ByteArray), .slice none 0 0, .int .i64 0]) ?_ 0 _ rfl; (with_reducible repeat (first | refine blk_drewN ?_ _ | refine blk_drew ?_ | refine blk_alloc ?_ _)); exact BK106.out) Try.underlying26 rfl (by kernel_rfl)) rfl ?_; exact ⟨_, by first | rfl | (simp [errW_none, errW_some] <;> rfl) | (simp [*, errW_none, errW_some] <;> rfl), Kd.V_nil _ _ _ _ _, S.B⟩
     ·replace c17 := Bool.eq_false_iff.mpr c17; subst c17; rw [if_neg (show ¬ (false = true) by decide)] at H; (try dsimp only at H)
      by_cases c19 : (t108.length : Int) = 1
      ·rw [if_pos c19] at H; have c19b0 : ((t108.length : Int) == 1) = true := beq_iff_eq.mpr c19; have c19b1 : ((t108.length : Int) != 1) = false := bne_eq_false_iff_eq.mpr c19; clear c19
       by_cases c20 : 0 < (t108.length : Int)
       ·rw [if_pos c20] at H; have c20b0 : decide (0 < (t108.length : Int)) = true := decide_eq_true c20; have c20b1 : decide (0 < t108.length) = true := decide_eq_true (by omega); clear c20
        by_cases c21 : (rdOf ByteArray.empty t108 0).toList = ([35, 35, 111, 116, 104, 101, 114] : List UInt8)
        ·rw [if_pos c21] at H; have c21b0 : ((rdOf ByteArray.empty t108 0).toList == ([35, 35, 111, 116, 104, 101, 114] : List UInt8)) = true := beq_iff_eq.mpr c21; have c21b1 : ((rdOf ByteArray.empty t108 0).toList != ([35, 35, 111, 116, 104, 101, 114] : List UInt8)) = false := bne_eq_false_iff_eq.mpr c21; clear c21; simp only [Option.some.injEq, Prod.mk.injEq] at H; obtain ⟨rfl, rfl, rfl, rfl, rfl⟩ := H; have p112 : 0 ≤ (0 : Int) := (by omega); have q112 : 0 < (t108.length : Int) := of_decide_eq_true (by first | (with_reducible assumption) | assumption); obtain ⟨ad112, e112, hx112_0⟩ := Kd.at_string (Kd.R_reads' HO_9.out).2.2 0 p112 q112; cases e112; have qi112 : (0 < t108.length) = True := eq_true (by omega); (try rw [show ((0 : Int)).toNat = 0 from rfl] at hx112_0); (try rw [Addr.add_zero'] at hx112_0); replace p112 := eq_true p112; replace q112 := eq_true q112; obtain ⟨hcz22_0, hcz22_1, hcz22_2, hcz22_3, hfz22_0, hfz22_1, hfz22_2, hfz22_3⟩ := S.c4 BK106.out; go_wp2; refine bodyPost_ret (results_ct rfl _ _ gb106 26 #[.int .i64 2, .string a1, .slice none 0 0, .int .i64 t107] (0, 0) _ rfl (by (with_reducible repeat (first | refine blk_drewN ?_ _ | refine blk_drew ?_ | refine blk_alloc ?_ _)); refine blk_put (cs := #[.int .i64 2, .string a1, .slice none 0 0, .int .i64 0]) ?_ 3 _ rfl; (with_reducible repeat (first | refine blk_drewN ?_ _ | refine blk_drew ?_ | refine blk_alloc ?_ _)); refine blk_put (cs := #[.int .i64 2, .string a1, .slice none 0 0, .int .i64 0]) ?_ 2 _ rfl; (with_reducible repeat (first | refine blk_drewN ?_ _ | refine blk_drew ?_ | refine blk_alloc ?_ _)); refine blk_put (cs := #[.int .i64 2, .string (⟨#[]⟩ : ByteArray), .slice none 0 0, .int .i64 0]) ?_ 1 _ rfl; (with_reducible repeat (first | refine blk_drewN ?_ _ | refine blk_drew ?_ | refine blk_alloc ?_ _)); refine blk_put (cs := #[.int .i64 0, .string (⟨#[]⟩ : ByteArray), .slice none 0 0, .int .i64 0]) ?_ 0 _ rfl; (with_reducible repeat (first | refine blk_drewN ?_ _ | refine blk_drew ?_ | refine blk_alloc ?_ _)); exact BK106.out) Try.underlying26 rfl (by kernel_rfl)) rfl ?_; exact ⟨_, by first | rfl | (simp [errW_none, errW_some] <;> rfl) | (simp [*, errW_none, errW_some] <;> rfl), Kd.V_nil _ _ _ _ _, S.B⟩
        ·rw [if_neg c21] at H; have c21b0 : ((rdOf ByteArray.empty t108 0).toList == ([35, 35, 111, 116, 104, 101, 114] : List UInt8)) = false := beq_eq_false_iff_ne.mpr c21; have c21b1 : ((rdOf ByteArray.empty t108 0).toList != ([35, 35, 111, 116, 104, 101, 114] : List UInt8)) = true := bne_iff_ne.mpr c21; have H' := Aside0.mk H; clear H; have p112 : 0 ≤ (0 : Int) := (by omega); have q112 : 0 < (t108.length : Int) := of_decide_eq_true (by first | (with_reducible assumption) | assumption); obtain ⟨ad112, e112, hx112_0⟩ := Kd.at_string (Kd.R_reads' HO_9.out).2.2 0 p112 q112; cases e112; have qi112 : (0 < t108.length) = True := eq_true (by omega); (try rw [show ((0 : Int)).toNat = 0 from rfl] at hx112_0); (try rw [Addr.add_zero'] at hx112_0); replace p112 := eq_true p112; replace q112 := eq_true q112; go_wp2
         go_meet
         case rel => exact ⟨_, (0), ((⟨#[]⟩ : ByteArray)), (0), H', ⟨by have := HJ11.out; first | omega | exact Nat.le_refl _⟩, ⟨S.r HO_9.out⟩, ⟨S.b BK106.out⟩, ⟨S.B⟩⟩
       ·rw [if_neg c20] at H; exact absurd H (by simp)
      ·rw [if_neg c19] at H; have c19b0 : ((t108.length : Int) == 1) = false := beq_eq_false_iff_ne.mpr c19; have c19b1 : ((t108.length : Int) != 1) = true := bne_iff_ne.mpr c19; have H' := Aside0.mk H; clear H; go_wp2
       go_meet
       case rel => exact ⟨_, (0), ((⟨#[]⟩ : ByteArray)), (0), H', ⟨by have := HJ11.out; first | omega | exact Nat.le_refl _⟩, ⟨S.r HO_9.out⟩, ⟨S.b BK106.out⟩, ⟨S.B⟩⟩
  case rest =>
   clear HC9; (try clear c1); (try clear p1); (try clear q1); (try clear hx1); (try clear qi1); (try clear c2); (try clear p2); (try clear c5); (try clear c5b0); (try clear c5b1); (try clear c7); (try clear p11); (try clear q11); (try clear hx11); (try clear qi11); (try clear c14); (try clear c14b0); (try clear c14b1); (try clear c14b2); (try clear c15); (try clear c15b0); (try clear c15b1); (try clear c16); (try clear c16b0); (try clear c16b1); (try clear c17); (try clear c19); (try clear c19b0); (try clear c19b1); (try clear c20); (try clear c20b0); (try clear c20b1); (try clear c21); (try clear c21b0); (try clear c21b1); (try clear c22); (try clear hcz18_0); (try clear hcz18_1); (try clear hcz18_2); (try clear hcz18_3); (try clear hcz22_0); (try clear hcz22_1); (try clear hcz22_2); (try clear hcz22_3); (try clear hcz7_0); (try clear hcz7_1); (try clear hcz7_2); (try clear hcz7_3); (try clear hfz18_0); (try clear hfz18_1); (try clear hfz18_2); (try clear hfz18_3); (try clear hfz22_0); (try clear hfz22_1); (try clear hfz22_2); (try clear hfz22_3); (try clear hfz7_0); (try clear hfz7_1); (try clear hfz7_2); (try clear hfz7_3); (try clear hx111_0); (try clear hx112_0); (try clear p1); (try clear p11); (try clear p111); (try clear p112); (try clear p2); (try clear q1); (try clear q11); (try clear q111); (try clear q112); obtain ⟨kq, x107000_8, x107001_8, x107003_8, HA, HJ8, HO_9, BK106, HB⟩ := hcut
   cases kq with
   | zero => exact absurd HA.out (by simp [wild_Parse.j1])
   | succ kj8 =>
    have H := HA.out; clear HA; simp only [wild_Parse.j1] at H; have H' := Aside0.mk H; clear H; obtain ⟨Ao23, co23, eo23⟩ := Kd.R_slice HO_9.out; subst eo23; go_wp2
    go_loopg [10, 50] kj8 (fun kq v10 v50 w' => ∃ (x10_2 : List ByteArray) (x50_2 : Int) (x107000_2 : Int) (x107001_2 : ByteArray) (x107003_2 : Int), v50 = .int .i64 x50_2 ∧ Aside0 (wild_Parse.l0 kq a1 t107 x10_2 t108 (t108.length : Int) x50_2 = some (r1, r2, r3, r4, r5)) ∧ Aside0 (kq ≤ kj8) ∧ Aside0 (Kd.R Kd.string 9 w' w.heap.size (fun k_ => (w.heap.size ≤ k_) ∧ some k_ ≠ ((.slice Ao23 t108.length co23) : Value).ownBlock) v10 x10_2) ∧ Aside0 (Kd.R Kd.string 9 w' w.heap.size (fun k_ => (w.heap.size ≤ k_) ∧ some k_ ≠ (v10 : Value).ownBlock) (.slice Ao23 t108.length co23) t108) ∧ Aside0 (w'.heap[gb106]? = some (.cells #[.int .i64 x107000_2, .string x107001_2, (.slice none 0 0), .int .i64 x107003_2] 26 (0, 0))) ∧ Aside0 (Below w.heap.size w w'))
    case atStart => exact ⟨(([] : List ByteArray)), (0), (x107000_8), (x107001_8), (x107003_8), (by first | rfl | (simp; done) | (simp [*]; done)), H', ⟨Nat.le_refl _⟩, ⟨by first | exact Kd.R_nil _ _ _ _ _ | exact Kd.N_nil _ _ _ _ _ | exact Kd.V_nil _ _ _ _ _ | exact Kd.Q_nil _ _ _ _ _ | exact Kd.S_nil _ _ _ _ _⟩, ⟨by (with_reducible repeat (first | apply Kd.R_alloc | apply Kd.R_drewN | apply Kd.R_drew)); exact Kd.R_mono HO_9.out (fun _ hk => ⟨hk, (by simp [Value.ownBlock])⟩)⟩, ⟨S.b BK106.out⟩, ⟨S.B⟩⟩
    case round =>
     clear H'; (try clear c1); (try clear p1); (try clear q1); (try clear hx1); (try clear qi1); (try clear c2); (try clear p2); (try clear c5); (try clear c5b0); (try clear c5b1); (try clear c7); (try clear p11); (try clear q11); (try clear hx11); (try clear qi11); (try clear c14); (try clear c14b0); (try clear c14b1); (try clear c14b2); (try clear c15); (try clear c15b0); (try clear c15b1); (try clear c16); (try clear c16b0); (try clear c16b1); (try clear c17); (try clear c19); (try clear c19b0); (try clear c19b1); (try clear c20); (try clear c20b0); (try clear c20b1); (try clear c21); (try clear c21b0); (try clear c21b1); (try clear c22); (try clear c23); (try clear hcz18_0); (try clear hcz18_1); (try clear hcz18_2); (try clear hcz18_3); (try clear hcz22_0); (try clear hcz22_1); (try clear hcz22_2); (try clear hcz22_3); (try clear hcz7_0); (try clear hcz7_1); (try clear hcz7_2); (try clear hcz7_3); (try clear hfz18_0); (try clear hfz18_1); (try clear hfz18_2); (try clear hfz18_3); (try clear hfz22_0); (try clear hfz22_1); (try clear hfz22_2); (try clear hfz22_3); (try clear hfz7_0); (try clear hfz7_1); (try clear hfz7_2); (try clear hfz7_3); (try clear hx111_0); (try clear hx112_0); (try clear p1); (try clear p11); (try clear p111); (try clear p112); (try clear p2); (try clear q1); (try clear q11); (try clear q111); (try clear q112); obtain ⟨x10_2, x50_2, x107000_2, x107001_2, x107003_2, rfl, HA, HK2, HO_10, HO_48, BK106, HB⟩ := hrel
     cases gk with
     | zero => exact absurd HA.out (by simp [wild_Parse.l0])
     | succ k2 =>
      have H := HA.out; clear HA; simp only [wild_Parse.l0] at H
      by_cases c24 : x50_2 < (t108.length : Int)
      ·rw [if_pos c24] at H; have c24b0 : decide (x50_2 < (t108.length : Int)) = true := decide_eq_true c24; clear c24
       by_cases c25 : 0 ≤ x50_2
       ·rw [if_pos c25] at H; have c25b0 : decide (0 ≤ x50_2) = true := decide_eq_true c25; clear c25
        by_cases c26 : x50_2 < (t108.length : Int)
        ·rw [if_pos c26] at H; have c26b0 : decide (x50_2 < (t108.length : Int)) = true := decide_eq_true c26; clear c26
         by_cases c27 : (rdOf ByteArray.empty t108 x50_2).toList = ([35, 35, 116, 97, 114, 103, 101, 116, 78, 97, 109, 101, 115, 112, 97, 99, 101] : List UInt8)
         ·rw [if_pos c27] at H; have c27b0 : ((rdOf ByteArray.empty t108 x50_2).toList == ([35, 35, 116, 97, 114, 103, 101, 116, 78, 97, 109, 101, 115, 112, 97, 99, 101] : List UInt8)) = true := beq_iff_eq.mpr c27; have c27b1 : ((rdOf ByteArray.empty t108 x50_2).toList != ([35, 35, 116, 97, 114, 103, 101, 116, 78, 97, 109, 101, 115, 112, 97, 99, 101] : List UInt8)) = false := bne_eq_false_iff_eq.mpr c27; clear c27
          by_cases c28 : x10_2.length < 8796093022208
          ·rw [if_pos c28] at H; have LMc28 := Aside0.mk c28; clear c28; obtain ⟨y120, hy120⟩ : ∃ y_ : List ByteArray, y_ = (x10_2 ++ [a1]) := ⟨_, rfl⟩; (replace H : (wild_Parse.l0 k2 a1 t107 y120 t108 (t108.length : Int) (wrap64 (x50_2 + 1))) = some (r1, r2, r3, r4, r5) := by first | (rw [hy120]; with_reducible exact H) | (have H2_ := (Option.bind_some _ _).symm.trans H; rw [hy120]; with_reducible exact H2_) | (have H2_ := (Option.bind_some _ _).symm.trans H; with_reducible exact H2_) | with_reducible exact H | (rw [hy120]; exact H) | exact H); have Ny120 := Aside0.mk hy120; clear hy120; have H' := Aside0.mk H; clear H; have p119 : 0 ≤ (x50_2 : Int) := of_decide_eq_true (by first | (with_reducible assumption) | assumption); have q119 : x50_2 < (t108.length : Int) := of_decide_eq_true (by first | (with_reducible assumption) | assumption); obtain ⟨ad119, e119, hx119_0⟩ := Kd.at_string (Kd.R_reads' HO_48.out).2.2 x50_2 p119 q119; cases e119; replace p119 := eq_true p119; replace q119 := eq_true q119
           go_wp2_with (first | ((with_reducible refine gate_builtin (b := .append) (xs := #[.tmp 65, .tmp 67]) rfl ?_); at_builtin; refine Kd.R_append Kd.string (w0 := w) w.heap.size rfl (.tmp 65) (.tmp 67) 24 9 (.string ⟨#[]⟩) 16 rfl Try.underlying24 info9 rfl (by decide) (by omega) u10 x10_2 a1 [.string a1] (fun k_ => (w.heap.size ≤ k_) ∧ some k_ ≠ (.slice (some ad119) t108.length co23 : Value).ownBlock) (fun _ => False) rfl rfl ?aP (fun _ hk => hk.elim) ?aF ?aO ?aB ?aS ?aL ?_; (case aP => exact rfl); (case aB => exact S.B); (case aF => exact (fun k_ hk => ⟨(Nat.le_trans (below_size S.B) hk), Kd.fresh' (Kd.R_lt (S.r HO_48.out)) k_ hk⟩)); (case aO => exact (S.r HO_10.out)); (case aS => exact (below_size S.B)); (case aL => have := LMc28.out; omega); intro v121 w29 ho hb hg hat; rw [← Ny120.out] at ho; have n0_ := Aside0.mk (Kd.R_after (ok := (fun k_ => (w.heap.size ≤ k_))) (S.r HO_48.out) hg hat); have n1_ := Aside0.mk (blk_grown (S.b BK106.out) hg (Kd.R_ne HO_10.out BK106.out (by decide))); have n2_ := Aside0.mk (hb); have n3_ := Aside0.mk (ho); clear HO_48; clear BK106; clear HB; clear HO_10; have HO_48 := n0_; have BK106 := n1_; have HB := n2_; have HO122 := n3_; clear n0_ n1_ n2_ n3_; clear ho hb hg hat))
           go_roundg k2
           case measure => have := HJ8.out; have := HK2.out; omega
           case rel => exact ⟨(y120), (wrap64 (x50_2 + 1)), (x107000_2), (x107001_2), (x107003_2), (by first | rfl | (simp; done) | (simp [*]; done)), H', ⟨by have := HJ8.out; have := HK2.out; omega⟩, ⟨S.r HO122.out⟩, ⟨S.r HO_48.out⟩, ⟨S.b BK106.out⟩, ⟨S.B⟩⟩
          ·rw [if_neg c28] at H; exact absurd H (by simp)
         ·rw [if_neg c27] at H; have c27b0 : ((rdOf ByteArray.empty t108 x50_2).toList == ([35, 35, 116, 97, 114, 103, 101, 116, 78, 97, 109, 101, 115, 112, 97, 99, 101] : List UInt8)) = false := beq_eq_false_iff_ne.mpr c27; have c27b1 : ((rdOf ByteArray.empty t108 x50_2).toList != ([35, 35, 116, 97, 114, 103, 101, 116, 78, 97, 109, 101, 115, 112, 97, 99, 101] : List UInt8)) = true := bne_iff_ne.mpr c27
          by_cases c30 : (rdOf ByteArray.empty t108 x50_2).toList = ([35, 35, 108, 111, 99, 97, 108] : List UInt8)
          ·rw [if_pos c30] at H; have c30b0 : ((rdOf ByteArray.empty t108 x50_2).toList == ([35, 35, 108, 111, 99, 97, 108] : List UInt8)) = true := beq_iff_eq.mpr c30; have c30b1 : ((rdOf ByteArray.empty t108 x50_2).toList != ([35, 35, 108, 111, 99, 97, 108] : List UInt8)) = false := bne_eq_false_iff_eq.mpr c30; clear c30
           by_cases c31 : x10_2.length < 8796093022208
           ·rw [if_pos c31] at H; have LMc31 := Aside0.mk c31; clear c31; obtain ⟨y123, hy123⟩ : ∃ y_ : List ByteArray, y_ = (x10_2 ++ [(⟨#[]⟩ : ByteArray)]) := ⟨_, rfl⟩; (replace H : (wild_Parse.l0 k2 a1 t107 y123 t108 (t108.length : Int) (wrap64 (x50_2 + 1))) = some (r1, r2, r3, r4, r5) := by first | (rw [hy123]; with_reducible exact H) | (have H2_ := (Option.bind_some _ _).symm.trans H; rw [hy123]; with_reducible exact H2_) | (have H2_ := (Option.bind_some _ _).symm.trans H; with_reducible exact H2_) | with_reducible exact H | (rw [hy123]; exact H) | exact H); have Ny123 := Aside0.mk hy123; clear hy123; have H' := Aside0.mk H; clear H; have p119 : 0 ≤ (x50_2 : Int) := of_decide_eq_true (by first | (with_reducible assumption) | assumption); have q119 : x50_2 < (t108.length : Int) := of_decide_eq_true (by first | (with_reducible assumption) | assumption); obtain ⟨ad119, e119, hx119_0⟩ := Kd.at_string (Kd.R_reads' HO_48.out).2.2 x50_2 p119 q119; cases e119; replace p119 := eq_true p119; replace q119 := eq_true q119
            go_wp2_with (first | ((with_reducible refine gate_builtin (b := .append) (xs := #[.tmp 65, .tmp 67]) rfl ?_); at_builtin; refine Kd.R_append Kd.string (w0 := w) w.heap.size rfl (.tmp 65) (.tmp 67) 24 9 (.string ⟨#[]⟩) 16 rfl Try.underlying24 info9 rfl (by decide) (by omega) u10 x10_2 (⟨#[]⟩ : ByteArray) [.string (⟨#[]⟩ : ByteArray)] (fun k_ => (w.heap.size ≤ k_) ∧ some k_ ≠ (.slice (some ad119) t108.length co23 : Value).ownBlock) (fun _ => False) rfl rfl ?aP (fun _ hk => hk.elim) ?aF ?aO ?aB ?aS ?aL ?_; (case aP => exact rfl); (case aB => exact S.B); (case aF => exact (fun k_ hk => ⟨(Nat.le_trans (below_size S.B) hk), Kd.fresh' (Kd.R_lt (S.r HO_48.out)) k_ hk⟩)); (case aO => exact (S.r HO_10.out)); (case aS => exact (below_size S.B)); (case aL => have := LMc31.out; omega); intro v124 w32 ho hb hg hat; rw [← Ny123.out] at ho; have n0_ := Aside0.mk (Kd.R_after (ok := (fun k_ => (w.heap.size ≤ k_))) (S.r HO_48.out) hg hat); have n1_ := Aside0.mk (blk_grown (S.b BK106.out) hg (Kd.R_ne HO_10.out BK106.out (by decide))); have n2_ := Aside0.mk (hb); have n3_ := Aside0.mk (ho); clear HO_48; clear BK106; clear HB; clear HO_10; have HO_48 := n0_; have BK106 := n1_; have HB := n2_; have HO125 := n3_; clear n0_ n1_ n2_ n3_; clear ho hb hg hat))
            go_roundg k2
            case measure => have := HJ8.out; have := HK2.out; omega
            case rel => exact ⟨(y123), (wrap64 (x50_2 + 1)), (x107000_2), (x107001_2), (x107003_2), (by first | rfl | (simp; done) | (simp [*]; done)), H', ⟨by have := HJ8.out; have := HK2.out; omega⟩, ⟨S.r HO125.out⟩, ⟨S.r HO_48.out⟩, ⟨S.b BK106.out⟩, ⟨S.B⟩⟩
           ·rw [if_neg c31] at H; exact absurd H (by simp)
          ·rw [if_neg c30] at H; have c30b0 : ((rdOf ByteArray.empty t108 x50_2).toList == ([35, 35, 108, 111, 99, 97, 108] : List UInt8)) = false := beq_eq_false_iff_ne.mpr c30; have c30b1 : ((rdOf ByteArray.empty t108 x50_2).toList != ([35, 35, 108, 111, 99, 97, 108] : List UInt8)) = true := bne_iff_ne.mpr c30; replace H := Option.bind_eq_some_iff.mp H; obtain ⟨t126, A330, H⟩ := H; (try dsimp only at H); have A33 := Aside0.mk A330; clear A330
           by_cases c34 : t126 = true
           ·subst c34; rw [if_pos rfl] at H; (try dsimp only at H); simp only [Option.some.injEq, Prod.mk.injEq] at H; obtain ⟨rfl, rfl, rfl, rfl, rfl⟩ := H; have p119 : 0 ≤ (x50_2 : Int) := of_decide_eq_true (by first | (with_reducible assumption) | assumption); have q119 : x50_2 < (t108.length : Int) := of_decide_eq_true (by first | (with_reducible assumption) | assumption); obtain ⟨ad119, e119, hx119_0⟩ := Kd.at_string (Kd.R_reads' HO_48.out).2.2 x50_2 p119 q119; cases e119; replace p119 := eq_true p119; replace q119 := eq_true q119
            go_wp2_with (first | ((with_reducible refine gate_callee (f := 24) rfl ?_); refine goesL_ (some 63) rfl rfl Try.func24 (by kernel_rfl) rfl #[.string (rdOf ByteArray.empty t108 x50_2), .string (⟨#[35, 35]⟩ : ByteArray)] rfl (by (try simp only [List.map_toArray, List.map_cons, List.map_nil]); first | done | rfl | (simp only [List.length_drop, List.length_take]; rfl)) ?_; (with_reducible refine (strings_HasPrefix.calls (rdOf ByteArray.empty t108 x50_2) (⟨#[35, 35]⟩ : ByteArray) true _ A33.out).mono ?_); rintro e w' ⟨rfl, ⟨nd, rfl⟩⟩; refine ⟨_, rfl, ?_⟩; (try (rw [drewN_self wr]; generalize hq_ : World.drewN wr _ = wr; have n0_ : Aside0 (Kd.R Kd.string 9 wr w.heap.size (fun k_ => (w.heap.size ≤ k_) ∧ some k_ ≠ (.slice (some ad119) t108.length co23 : Value).ownBlock) u10 x10_2) := ⟨by rw [← hq_]; exact (S.r HO_10.out)⟩; have n1_ : Aside0 (Kd.R Kd.string 9 wr w.heap.size (fun k_ => (w.heap.size ≤ k_) ∧ some k_ ≠ (u10 : Value).ownBlock) (.slice (some ad119) t108.length co23) t108) := ⟨by rw [← hq_]; exact (S.r HO_48.out)⟩; have n2_ : Aside0 (wr.heap[gb106]? = some (.cells #[.int .i64 x107000_2, .string x107001_2, .slice none 0 0, .int .i64 x107003_2] 26 (0, 0))) := ⟨by rw [← hq_]; exact (S.b BK106.out)⟩; have n3_ : Aside0 (Below w.heap.size w wr) := ⟨by rw [← hq_]; exact S.B⟩; clear HO_10 HO_48 BK106 HB hq_; have HO_10 := n0_; have HO_48 := n1_; have BK106 := n2_; have HB := n3_; clear n0_ n1_ n2_ n3_)); obtain ⟨hcz35_0, hcz35_1, hcz35_2, hcz35_3, hfz35_0, hfz35_1, hfz35_2, hfz35_3⟩ := S.c4 BK106.out))
            refine bodyPost_ret (results_ct rfl _ _ gb106 26 #[.int .i64 0, .string (⟨#[]⟩ : ByteArray), .slice none 0 0, .int .i64 0] (0, 0) _ rfl (by (with_reducible repeat (first | refine blk_drewN ?_ _ | refine blk_drew ?_ | refine blk_alloc ?_ _)); refine blk_put (cs := #[.int .i64 0, .string (⟨#[]⟩ : ByteArray), .slice none 0 0, .int .i64 x107003_2]) ?_ 3 _ rfl; (with_reducible repeat (first | refine blk_drewN ?_ _ | refine blk_drew ?_ | refine blk_alloc ?_ _)); refine blk_put (cs := #[.int .i64 0, .string (⟨#[]⟩ : ByteArray), .slice none 0 0, .int .i64 x107003_2]) ?_ 2 _ rfl; (with_reducible repeat (first | refine blk_drewN ?_ _ | refine blk_drew ?_ | refine blk_alloc ?_ _)); refine blk_put (cs := #[.int .i64 0, .string x107001_2, .slice none 0 0, .int .i64 x107003_2]) ?_ 1 _ rfl; (with_reducible repeat (first | refine blk_drewN ?_ _ | refine blk_drew ?_ | refine blk_alloc ?_ _)); refine blk_put (cs := #[.int .i64 x107000_2, .string x107001_2, .slice none 0 0, .int .i64 x107003_2]) ?_ 0 _ rfl; (with_reducible repeat (first | refine blk_drewN ?_ _ | refine blk_drew ?_ | refine blk_alloc ?_ _)); exact BK106.out) Try.underlying26 rfl (by kernel_rfl)) rfl ?_; exact ⟨_, by first | rfl | (simp [errW_none, errW_some] <;> rfl) | (simp [*, errW_none, errW_some] <;> rfl), Kd.V_nil _ _ _ _ _, S.B⟩
           ·replace c34 := Bool.eq_false_iff.mpr c34; subst c34; rw [if_neg (show ¬ (false = true) by decide)] at H; (try dsimp only at H)
            by_cases c36 : x10_2.length < 8796093022208
            ·rw [if_pos c36] at H; have LMc36 := Aside0.mk c36; clear c36; obtain ⟨y127, hy127⟩ : ∃ y_ : List ByteArray, y_ = (x10_2 ++ [rdOf ByteArray.empty t108 x50_2]) := ⟨_, rfl⟩; (replace H : (wild_Parse.l0 k2 a1 t107 y127 t108 (t108.length : Int) (wrap64 (x50_2 + 1))) = some (r1, r2, r3, r4, r5) := by first | (rw [hy127]; with_reducible exact H) | (have H2_ := (Option.bind_some _ _).symm.trans H; rw [hy127]; with_reducible exact H2_) | (have H2_ := (Option.bind_some _ _).symm.trans H; with_reducible exact H2_) | with_reducible exact H | (rw [hy127]; exact H) | exact H); have Ny127 := Aside0.mk hy127; clear hy127; have H' := Aside0.mk H; clear H; have p119 : 0 ≤ (x50_2 : Int) := of_decide_eq_true (by first | (with_reducible assumption) | assumption); have q119 : x50_2 < (t108.length : Int) := of_decide_eq_true (by first | (with_reducible assumption) | assumption); obtain ⟨ad119, e119, hx119_0⟩ := Kd.at_string (Kd.R_reads' HO_48.out).2.2 x50_2 p119 q119; cases e119; replace p119 := eq_true p119; replace q119 := eq_true q119
             go_wp2_with (first | ((with_reducible refine gate_callee (f := 24) rfl ?_); refine goesL_ (some 63) rfl rfl Try.func24 (by kernel_rfl) rfl #[.string (rdOf ByteArray.empty t108 x50_2), .string (⟨#[35, 35]⟩ : ByteArray)] rfl (by (try simp only [List.map_toArray, List.map_cons, List.map_nil]); first | done | rfl | (simp only [List.length_drop, List.length_take]; rfl)) ?_; (with_reducible refine (strings_HasPrefix.calls (rdOf ByteArray.empty t108 x50_2) (⟨#[35, 35]⟩ : ByteArray) false _ A33.out).mono ?_); rintro e w' ⟨rfl, ⟨nd, rfl⟩⟩; refine ⟨_, rfl, ?_⟩) | ((with_reducible refine gate_builtin (b := .append) (xs := #[.tmp 65, .tmp 67]) rfl ?_); at_builtin; refine Kd.R_append Kd.string (w0 := w) w.heap.size rfl (.tmp 65) (.tmp 67) 24 9 (.string ⟨#[]⟩) 16 rfl Try.underlying24 info9 rfl (by decide) (by omega) u10 x10_2 (rdOf ByteArray.empty t108 x50_2) [.string (rdOf ByteArray.empty t108 x50_2)] (fun k_ => (w.heap.size ≤ k_) ∧ some k_ ≠ (.slice (some ad119) t108.length co23 : Value).ownBlock) (fun _ => False) rfl rfl ?aP (fun _ hk => hk.elim) ?aF ?aO ?aB ?aS ?aL ?_; (case aP => exact rfl); (case aB => exact S.B); (case aF => exact (fun k_ hk => ⟨(Nat.le_trans (below_size S.B) hk), Kd.fresh' (Kd.R_lt (S.r HO_48.out)) k_ hk⟩)); (case aO => exact (S.r HO_10.out)); (case aS => exact (below_size S.B)); (case aL => have := LMc36.out; omega); intro v128 w37 ho hb hg hat; rw [← Ny127.out] at ho; have n0_ := Aside0.mk (Kd.R_after (ok := (fun k_ => (w.heap.size ≤ k_))) (S.r HO_48.out) hg hat); have n1_ := Aside0.mk (blk_grown (S.b BK106.out) hg (Kd.R_ne HO_10.out BK106.out (by decide))); have n2_ := Aside0.mk (hb); have n3_ := Aside0.mk (ho); clear HO_48; clear BK106; clear HB; clear HO_10; have HO_48 := n0_; have BK106 := n1_; have HB := n2_; have HO129 := n3_; clear n0_ n1_ n2_ n3_; clear ho hb hg hat))
             go_roundg k2
             case measure => have := HJ8.out; have := HK2.out; omega
             case rel => exact ⟨(y127), (wrap64 (x50_2 + 1)), (x107000_2), (x107001_2), (x107003_2), (by first | rfl | (simp; done) | (simp [*]; done)), H', ⟨by have := HJ8.out; have := HK2.out; omega⟩, ⟨S.r HO129.out⟩, ⟨S.r HO_48.out⟩, ⟨S.b BK106.out⟩, ⟨S.B⟩⟩
            ·rw [if_neg c36] at H; exact absurd H (by simp)
        ·rw [if_neg c26] at H; exact absurd H (by simp)
       ·rw [if_neg c25] at H; exact absurd H (by simp)
      ·rw [if_neg c24] at H; have c24b0 : decide (x50_2 < (t108.length : Int)) = false := decide_eq_false c24; clear c24; replace H := Option.bind_eq_some_iff.mp H; obtain ⟨⟨t113, t114, t115, t118⟩, A380, H⟩ := H; (try dsimp only at H); have A38 := Aside0.mk A380; clear A380; simp only [Option.some.injEq, Prod.mk.injEq] at H; obtain ⟨rfl, rfl, rfl, rfl, rfl⟩ := H; obtain ⟨Ao39, co39, eo39⟩ := Kd.R_slice HO_10.out; subst eo39
       go_wp2_with (first | ((with_reducible refine gate_callee (f := 25) rfl ?_); refine goesL_ (some 72) rfl rfl Try.func25 (by kernel_rfl) rfl #[.slice Ao39 x10_2.length co39, .int .i64 t107] rfl (by (try simp only [List.map_toArray, List.map_cons, List.map_nil]); first | done | rfl | (simp only [List.length_drop, List.length_take]; rfl)) ?_; (with_reducible refine (G.wild_these.calls _ _ x10_2 t107 t113 t114 t115 t118 _ ?side1 ?side2 A38.out).mono ?_); (case side1 => repeat (first | exact (Kd.R_reads' HO_10.out).2.2 | (with_reducible refine Kd.C_alloc ?_ _) | (with_reducible refine Kd.C_drewN ?_ _) | (with_reducible refine Kd.C_drew ?_))); (case side2 => exact (Kd.R_reads' HO_10.out).2.1); rintro e w40 ⟨v116, rfl, ho0, hb⟩; refine ⟨_, rfl, ?_⟩; have n0_ := Aside0.mk (Kd.R_below (S.r HO_10.out) hb); have n1_ := Aside0.mk (Kd.R_below (S.r HO_48.out) hb); have n2_ := Aside0.mk (Kd.V_lower (Kd.V_mono (ok' := fun k_ => (w.heap.size ≤ k_) ∧ some k_ ≠ (.slice Ao39 x10_2.length co39 : Value).ownBlock ∧ some k_ ≠ (.slice Ao23 t108.length co23 : Value).ownBlock ∧ k_ ≠ gb106) ho0 (fun k_ hk_ => ⟨(Nat.le_trans (below_size S.B) hk_), (Kd.fresh' (Kd.R_lt (S.r HO_10.out)) k_ hk_), (Kd.fresh' (Kd.R_lt (S.r HO_48.out)) k_ hk_), (Kd.freshB (S.b BK106.out) k_ hk_)⟩)) (below_size S.B)); have n3_ := Aside0.mk (blk_below (S.b BK106.out) hb); have n4_ := Aside0.mk (below_step S.B hb); clear HO_10; clear HO_48; clear BK106; clear HB; have HO_10 := n0_; have HO_48 := n1_; have HO117 := n2_; have BK106 := n3_; have HB := n4_; clear n0_ n1_ n2_ n3_ n4_; (try clear hb); (try clear hb2); (try clear hk); (try clear hi); (try clear ho0); obtain ⟨hcz41_0, hcz41_1, hcz41_2, hcz41_3, hfz41_0, hfz41_1, hfz41_2, hfz41_3⟩ := S.c4 BK106.out; obtain ⟨Ao42, co42, eo42⟩ := Kd.V_slice HO117.out; subst eo42))
       refine bodyPost_ret (results_ct rfl _ _ gb106 26 #[.int .i64 t113, .string t114, .slice Ao42 t115.length co42, .int .i64 t118] (0, 0) _ rfl (by (with_reducible repeat (first | refine blk_drewN ?_ _ | refine blk_drew ?_ | refine blk_alloc ?_ _)); refine blk_put (cs := #[.int .i64 t113, .string t114, .slice Ao42 t115.length co42, .int .i64 x107003_2]) ?_ 3 _ rfl; (with_reducible repeat (first | refine blk_drewN ?_ _ | refine blk_drew ?_ | refine blk_alloc ?_ _)); refine blk_put (cs := #[.int .i64 t113, .string t114, .slice none 0 0, .int .i64 x107003_2]) ?_ 2 _ rfl; (with_reducible repeat (first | refine blk_drewN ?_ _ | refine blk_drew ?_ | refine blk_alloc ?_ _)); refine blk_put (cs := #[.int .i64 t113, .string x107001_2, .slice none 0 0, .int .i64 x107003_2]) ?_ 1 _ rfl; (with_reducible repeat (first | refine blk_drewN ?_ _ | refine blk_drew ?_ | refine blk_alloc ?_ _)); refine blk_put (cs := #[.int .i64 x107000_2, .string x107001_2, .slice none 0 0, .int .i64 x107003_2]) ?_ 0 _ rfl; (with_reducible repeat (first | refine blk_drewN ?_ _ | refine blk_drew ?_ | refine blk_alloc ?_ _)); exact BK106.out) Try.underlying26 rfl (by kernel_rfl)) rfl ?_; exact ⟨_, by first | rfl | (simp [errW_none, errW_some] <;> rfl) | (simp [*, errW_none, errW_some] <;> rfl), by (with_reducible repeat (first | apply Kd.V_alloc | apply Kd.V_drewN | apply Kd.V_drew)); exact Kd.V_mono (Kd.V_far (p := ⟨gb106, 3, none⟩) (Kd.V_far (p := ⟨gb106, 2, none⟩) (Kd.V_far (p := ⟨gb106, 1, none⟩) (Kd.V_far (p := ⟨gb106, 0, none⟩) (Kd.V_mono HO117.out (fun k_ hk => (⟨hk, hk.2.2.2⟩ : _ ∧ k_ ≠ gb106))) (fun _ hk => hk.2) (.int .i64 t113)) (fun _ hk => hk.2) (.string t114)) (fun _ hk => hk.2) (.slice Ao42 t115.length co42)) (fun _ hk => hk.2) (.int .i64 t118)) (fun _ hk => hk.1.1), S.B⟩

/-! ### slices_Index_string_string: function 41 -/
def slices_Index_string_string.l0 : Nat → List ByteArray → ByteArray → Int → Int → Option (Int)
 | 0, _, _, _, _ => none
 | k + 1, x0, x1, x7, x8 => if x8 < x7 then (if 0 ≤ x8 then (if x8 < (x0.length : Int) then (if x1.toList = (rdOf ByteArray.empty x0 x8).toList then (some x8) else (slices_Index_string_string.l0 k x0 x1 x7 (wrap64 (x8 + 1)))) else (none)) else (none)) else (some (-1))
def slices_Index_string_string.f (k : Nat) (l0 : List ByteArray) (a1 : ByteArray) : Option (Int) := slices_Index_string_string.l0 k l0 a1 (l0.length : Int) 0
theorem slices_Index_string_string.mono_l : ∀ k, (∀ y0 y1 y2 y3, LeO (slices_Index_string_string.l0 k y0 y1 y2 y3) (slices_Index_string_string.l0 (k + 1) y0 y1 y2 y3))
 | 0 => fun _ _ _ _ r h => by simp [slices_Index_string_string.l0] at h
 | k + 1 => by
  have ih0 := slices_Index_string_string.mono_l k
  ·intro y0 y1 y2 y3
   unfold slices_Index_string_string.l0
   repeat' first
   | (with_reducible exact ih0 _ _ _ _)
   | (with_reducible exact LeO.refl _)
   | (with_reducible exact LeO.none _)
   | (with_reducible refine LeO.ite ?_ ?_)
   | (with_reducible refine LeO.bind ?_ (fun _ => ?_))
   | exact ih0 _ _ _ _
   | exact LeO.none _
   | refine LeO.ite ?_ ?_
   | refine LeO.bind ?_ (fun _ => ?_)
theorem slices_Index_string_string.mono : ∀ a0 a1 k, LeO (slices_Index_string_string.f k a0 a1) (slices_Index_string_string.f (k + 1) a0 a1) := by
 intro a0 a1 k; have ih0 := slices_Index_string_string.mono_l k
 unfold slices_Index_string_string.f
 repeat' first
   | (with_reducible exact ih0 _ _ _ _)
   | (with_reducible exact LeO.refl _)
   | (with_reducible exact LeO.none _)
   | (with_reducible refine LeO.ite ?_ ?_)
   | (with_reducible refine LeO.bind ?_ (fun _ => ?_))
   | exact ih0 _ _ _ _
   | exact LeO.none _
   | refine LeO.ite ?_ ?_
   | refine LeO.bind ?_ (fun _ => ?_)
set_option maxHeartbeats 8000000 in
set_option maxRecDepth 100000 in
theorem slices_Index_string_string.calls (k : Nat) (A0 : Option Addr) (c0 : Nat) (l0 : List ByteArray) (a1 : ByteArray) (r : Int) (w : World) (hr0 : Kd.C Kd.string w A0 l0.length l0) (hc0 : l0.length ≤ c0) (h : slices_Index_string_string.f k l0 a1 = some r) :
  Calls Try.prog 41 #[.slice A0 l0.length c0, .string a1] w fun e w' => e = .returned (.int .i64 r) ∧ Drawn0 w w' := by
 have HR0 := Aside0.mk hr0; have HC0 := Aside0.mk hc0; clear hr0 hc0; have H : (slices_Index_string_string.l0 k l0 a1 (l0.length : Int) 0) = some r := h; clear h; have H' := Aside0.mk H; clear H
 go_enter Try.func41, Try.ntmps41
 go_wp2
 go_loopg [8] k (fun kq v8 w' => ∃ (x8_1 : Int), v8 = .int .i64 x8_1 ∧ Aside0 (slices_Index_string_string.l0 kq l0 a1 (l0.length : Int) x8_1 = some r) ∧ Aside0 (kq ≤ k) ∧ Drawn0 w w')
 case atStart => exact ⟨(0), (by first | rfl | (simp; done) | (simp [*]; done)), H', ⟨Nat.le_refl _⟩, by repeat (first | exact Drawn0.refl _ | apply Drawn0.step)⟩
 case round =>
  clear H'; (try clear p2); obtain ⟨x8_1, rfl, HA, HK1, ⟨m1, rfl⟩⟩ := hrel
  cases gk with
  | zero => exact absurd HA.out (by simp [slices_Index_string_string.l0])
  | succ k1 =>
   have H := HA.out; clear HA; simp only [slices_Index_string_string.l0] at H
   by_cases c3 : x8_1 < (l0.length : Int)
   ·rw [if_pos c3] at H; have c3b0 : decide (x8_1 < (l0.length : Int)) = true := decide_eq_true c3; clear c3
    by_cases c4 : 0 ≤ x8_1
    ·rw [if_pos c4] at H; have c4b0 : decide (0 ≤ x8_1) = true := decide_eq_true c4; clear c4
     by_cases c5 : x8_1 < (l0.length : Int)
     ·rw [if_pos c5] at H; have c5b0 : decide (x8_1 < (l0.length : Int)) = true := decide_eq_true c5; clear c5
      by_cases c6 : a1.toList = (rdOf ByteArray.empty l0 x8_1).toList
      ·rw [if_pos c6] at H; have c6b0 : (a1.toList == (rdOf ByteArray.empty l0 x8_1).toList) = true := beq_iff_eq.mpr c6; have c6b1 : (a1.toList != (rdOf ByteArray.empty l0 x8_1).toList) = false := bne_eq_false_iff_eq.mpr c6; clear c6; obtain rfl := Option.some.inj H; have p130 : 0 ≤ (x8_1 : Int) := of_decide_eq_true (by first | (with_reducible assumption) | assumption); have q130 : x8_1 < (l0.length : Int) := of_decide_eq_true (by first | (with_reducible assumption) | assumption); obtain ⟨ad130, e130, hx130_0⟩ := Kd.at_string HR0.out x8_1 p130 q130; cases e130; replace p130 := eq_true p130; replace q130 := eq_true q130; go_wp2; go_ret; exact ⟨by first | rfl | (simp; done) | (simp [*]; done), by repeat (first | exact Drawn0.refl _ | apply Drawn0.step)⟩
      ·rw [if_neg c6] at H; have c6b0 : (a1.toList == (rdOf ByteArray.empty l0 x8_1).toList) = false := beq_eq_false_iff_ne.mpr c6; have c6b1 : (a1.toList != (rdOf ByteArray.empty l0 x8_1).toList) = true := bne_iff_ne.mpr c6; have H' := Aside0.mk H; clear H; have p130 : 0 ≤ (x8_1 : Int) := of_decide_eq_true (by first | (with_reducible assumption) | assumption); have q130 : x8_1 < (l0.length : Int) := of_decide_eq_true (by first | (with_reducible assumption) | assumption); obtain ⟨ad130, e130, hx130_0⟩ := Kd.at_string HR0.out x8_1 p130 q130; cases e130; replace p130 := eq_true p130; replace q130 := eq_true q130; go_wp2
       go_roundg k1
       case measure => have := HK1.out; omega
       case rel => exact ⟨(wrap64 (x8_1 + 1)), (by first | rfl | (simp; done) | (simp [*]; done)), H', ⟨by have := HK1.out; omega⟩, by repeat (first | exact Drawn0.refl _ | apply Drawn0.step)⟩
     ·rw [if_neg c5] at H; exact absurd H (by simp)
    ·rw [if_neg c4] at H; exact absurd H (by simp)
   ·rw [if_neg c3] at H; have c3b0 : decide (x8_1 < (l0.length : Int)) = false := decide_eq_false c3; clear c3; obtain rfl := Option.some.inj H; go_wp2; go_ret; exact ⟨by first | rfl | (simp; done) | (simp [*]; done), by repeat (first | exact Drawn0.refl _ | apply Drawn0.step)⟩

/-! ### slices_Contains_string_string: function 30 -/
def slices_Contains_string_string.f (k : Nat) (l0 : List ByteArray) (a1 : ByteArray) : Option (Bool) := (slices_Index_string_string.f k l0 a1).bind fun t131 => (some (decide (t131 ≥ 0)))
theorem slices_Contains_string_string.mono : ∀ a0 a1 k, LeO (slices_Contains_string_string.f k a0 a1) (slices_Contains_string_string.f (k + 1) a0 a1) := by
 intro a0 a1 k
 unfold slices_Contains_string_string.f
 repeat' first
   | (with_reducible exact slices_Index_string_string.mono _ _ _)
   | (with_reducible exact LeO.refl _)
   | (with_reducible exact LeO.none _)
   | (with_reducible refine LeO.ite ?_ ?_)
   | (with_reducible refine LeO.bind ?_ (fun _ => ?_))
   | exact slices_Index_string_string.mono _ _ _
   | exact LeO.none _
   | refine LeO.ite ?_ ?_
   | refine LeO.bind ?_ (fun _ => ?_)
set_option maxHeartbeats 8000000 in
set_option maxRecDepth 100000 in
theorem slices_Contains_string_string.calls (k : Nat) (A0 : Option Addr) (c0 : Nat) (l0 : List ByteArray) (a1 : ByteArray) (r : Bool) (w : World) (hr0 : Kd.C Kd.string w A0 l0.length l0) (hc0 : l0.length ≤ c0) (h : slices_Contains_string_string.f k l0 a1 = some r) :
  Calls Try.prog 30 #[.slice A0 l0.length c0, .string a1] w fun e w' => e = .returned (.bool r) ∧ Drawn0 w w' := by
 have HR0 := Aside0.mk hr0; have HC0 := Aside0.mk hc0; clear hr0 hc0; have H : ((slices_Index_string_string.f k l0 a1).bind fun t131 => (some (decide (t131 ≥ 0)))) = some r := h; clear h; replace H := Option.bind_eq_some_iff.mp H; obtain ⟨t131, A30, H⟩ := H; (try dsimp only at H); have A3 := Aside0.mk A30; clear A30; obtain rfl := Option.some.inj H
 go_enter Try.func30, Try.ntmps30
 go_wp2_with (first | ((with_reducible refine gate_callee (f := 41) rfl ?_); refine goesL_ (some 7) rfl rfl Try.func41 (by kernel_rfl) rfl #[.slice A0 l0.length c0, .string a1] rfl (by (try simp only [List.map_toArray, List.map_cons, List.map_nil]); first | done | rfl | (simp only [List.length_drop, List.length_take]; rfl)) ?_; (with_reducible refine (slices_Index_string_string.calls k _ _ l0 a1 t131 _ ?side1 ?side2 A3.out).mono ?_); (case side1 => repeat (first | exact HR0.out | (with_reducible refine Kd.C_alloc ?_ _) | (with_reducible refine Kd.C_drewN ?_ _) | (with_reducible refine Kd.C_drew ?_))); (case side2 => exact HC0.out); rintro e w' ⟨rfl, ⟨nd, rfl⟩⟩; refine ⟨_, rfl, ?_⟩))
 go_ret; exact ⟨by first | rfl | (simp; done) | (simp [*]; done), by repeat (first | exact Drawn0.refl _ | apply Drawn0.step)⟩

/-! ### wild_Allows: function 9 -/
def wild_Allows.f (k : Nat) (a0_0 : Int) (a0_1 : ByteArray) (l0_2 : List ByteArray) (a0_3 : Int) (a1 : ByteArray) : Option (Bool) := if a0_0 = 1 then (some true) else (if a0_0 = 2 then (if a1.toList = ([] : List UInt8) then (some false) else (some (a1.toList != a0_1.toList))) else (if a0_0 = 3 then ((slices_Contains_string_string.f k l0_2 a1).bind fun t133 => (some t133)) else (some false)))
theorem wild_Allows.mono : ∀ a0 a1 a2 a3 a4 k, LeO (wild_Allows.f k a0 a1 a2 a3 a4) (wild_Allows.f (k + 1) a0 a1 a2 a3 a4) := by
 intro a0 a1 a2 a3 a4 k
 unfold wild_Allows.f
 repeat' first
   | (with_reducible exact slices_Contains_string_string.mono _ _ _)
   | (with_reducible exact LeO.refl _)
   | (with_reducible exact LeO.none _)
   | (with_reducible refine LeO.ite ?_ ?_)
   | (with_reducible refine LeO.bind ?_ (fun _ => ?_))
   | exact slices_Contains_string_string.mono _ _ _
   | exact LeO.none _
   | refine LeO.ite ?_ ?_
   | refine LeO.bind ?_ (fun _ => ?_)
set_option maxHeartbeats 8000000 in
set_option maxRecDepth 100000 in
theorem wild_Allows.calls (k : Nat) (a0_0 : Int) (a0_1 : ByteArray) (A0_2 : Option Addr) (c0_2 : Nat) (l0_2 : List ByteArray) (a0_3 : Int) (a1 : ByteArray) (r : Bool) (w : World) (hr0_2 : Kd.C Kd.string w A0_2 l0_2.length l0_2) (hc0_2 : l0_2.length ≤ c0_2) (h : wild_Allows.f k a0_0 a0_1 l0_2 a0_3 a1 = some r) :
  Calls Try.prog 9 #[.agg #[.int .i64 a0_0, .string a0_1, .slice A0_2 l0_2.length c0_2, .int .i64 a0_3], .string a1] w fun e w' => e = .returned (.bool r) ∧ Below w.heap.size w w' := by
 have hu26 := Try.underlying26; have HR0_2 := Aside0.mk hr0_2; have HC0_2 := Aside0.mk hc0_2; clear hr0_2 hc0_2; have HB := Aside0.mk (Below.refl w.heap.size w); have H : (if a0_0 = 1 then (some true) else (if a0_0 = 2 then (if a1.toList = ([] : List UInt8) then (some false) else (some (a1.toList != a0_1.toList))) else (if a0_0 = 3 then ((slices_Contains_string_string.f k l0_2 a1).bind fun t133 => (some t133)) else (some false)))) = some r := h; clear h
 by_cases c3 : a0_0 = 1
 ·rw [if_pos c3] at H; have c3b0 : (a0_0 == 1) = true := beq_iff_eq.mpr c3; have c3b1 : (a0_0 != 1) = false := bne_eq_false_iff_eq.mpr c3; clear c3; obtain rfl := Option.some.inj H
  go_enter Try.func9, Try.ntmps9
  go_wp2_with (first | ((with_reducible refine gate_dst (N := 2) rfl ?_); refine box_event ?hg (N := 2) ?hd (cs := #[.int .i64 a0_0, .string a0_1, .slice A0_2 l0_2.length c0_2, .int .i64 a0_3]) (t := 26) ?hr ?_; (case hd => rfl); (case hg => rfl); (case hr => first | (go_simp; done) | (go_simp; rfl)); intro gb132 hg w4 hbox hb; have n0_ := Aside0.mk (below_step S.B hb); have n1_ := Aside0.mk (hbox); have n2_ := Aside0.mk ((by rw [hg]; exact (below_size S.B) : w.heap.size ≤ gb132)); have n3_ := Aside0.mk ((by rw [hg]; exact (below_size S.B) : w.heap.size ≤ gb132)); clear HB; have HB := n0_; have BK132 := n1_; have GW132 := n2_; have GE132 := n3_; clear n0_ n1_ n2_ n3_; clear hb hbox hg; obtain ⟨hcz5_0, hcz5_1, hcz5_2, hcz5_3, hfz5_0, hfz5_1, hfz5_2, hfz5_3⟩ := S.c4 BK132.out))
  go_ret; exact ⟨by first | rfl | (simp [errW_none, errW_some] <;> rfl) | (simp [*, errW_none, errW_some] <;> rfl), S.B⟩
 ·rw [if_neg c3] at H; have c3b0 : (a0_0 == 1) = false := beq_eq_false_iff_ne.mpr c3; have c3b1 : (a0_0 != 1) = true := bne_iff_ne.mpr c3
  by_cases c6 : a0_0 = 2
  ·rw [if_pos c6] at H; have c6b0 : (a0_0 == 2) = true := beq_iff_eq.mpr c6; have c6b1 : (a0_0 != 2) = false := bne_eq_false_iff_eq.mpr c6; clear c6
   by_cases c7 : a1.toList = ([] : List UInt8)
   ·rw [if_pos c7] at H; have c7b0 : (a1.toList == ([] : List UInt8)) = true := beq_iff_eq.mpr c7; have c7b1 : (a1.toList != ([] : List UInt8)) = false := bne_eq_false_iff_eq.mpr c7; clear c7; obtain rfl := Option.some.inj H
    go_enter Try.func9, Try.ntmps9
    go_wp2_with (first | ((with_reducible refine gate_dst (N := 2) rfl ?_); refine box_event ?hg (N := 2) ?hd (cs := #[.int .i64 a0_0, .string a0_1, .slice A0_2 l0_2.length c0_2, .int .i64 a0_3]) (t := 26) ?hr ?_; (case hd => rfl); (case hg => rfl); (case hr => first | (go_simp; done) | (go_simp; rfl)); intro gb132 hg w8 hbox hb; have n0_ := Aside0.mk (below_step S.B hb); have n1_ := Aside0.mk (hbox); have n2_ := Aside0.mk ((by rw [hg]; exact (below_size S.B) : w.heap.size ≤ gb132)); have n3_ := Aside0.mk ((by rw [hg]; exact (below_size S.B) : w.heap.size ≤ gb132)); clear HB; have HB := n0_; have BK132 := n1_; have GW132 := n2_; have GE132 := n3_; clear n0_ n1_ n2_ n3_; clear hb hbox hg; obtain ⟨hcz9_0, hcz9_1, hcz9_2, hcz9_3, hfz9_0, hfz9_1, hfz9_2, hfz9_3⟩ := S.c4 BK132.out))
    go_ret; exact ⟨by first | rfl | (simp [errW_none, errW_some] <;> rfl) | (simp [*, errW_none, errW_some] <;> rfl), S.B⟩
   ·rw [if_neg c7] at H; have c7b0 : (a1.toList == ([] : List UInt8)) = false := beq_eq_false_iff_ne.mpr c7; have c7b1 : (a1.toList != ([] : List UInt8)) = true := bne_iff_ne.mpr c7; obtain rfl := Option.some.inj H
    go_enter Try.func9, Try.ntmps9
    go_wp2_with (first | ((with_reducible refine gate_dst (N := 2) rfl ?_); refine box_event ?hg (N := 2) ?hd (cs := #[.int .i64 a0_0, .string a0_1, .slice A0_2 l0_2.length c0_2, .int .i64 a0_3]) (t := 26) ?hr ?_; (case hd => rfl); (case hg => rfl); (case hr => first | (go_simp; done) | (go_simp; rfl)); intro gb132 hg w10 hbox hb; have n0_ := Aside0.mk (below_step S.B hb); have n1_ := Aside0.mk (hbox); have n2_ := Aside0.mk ((by rw [hg]; exact (below_size S.B) : w.heap.size ≤ gb132)); have n3_ := Aside0.mk ((by rw [hg]; exact (below_size S.B) : w.heap.size ≤ gb132)); clear HB; have HB := n0_; have BK132 := n1_; have GW132 := n2_; have GE132 := n3_; clear n0_ n1_ n2_ n3_; clear hb hbox hg; obtain ⟨hcz11_0, hcz11_1, hcz11_2, hcz11_3, hfz11_0, hfz11_1, hfz11_2, hfz11_3⟩ := S.c4 BK132.out))
    go_ret; exact ⟨by first | rfl | (simp [errW_none, errW_some] <;> rfl) | (simp [*, errW_none, errW_some] <;> rfl), S.B⟩
  ·rw [if_neg c6] at H; have c6b0 : (a0_0 == 2) = false := beq_eq_false_iff_ne.mpr c6; have c6b1 : (a0_0 != 2) = true := bne_iff_ne.mpr c6
   by_cases c12 : a0_0 = 3
   ·rw [if_pos c12] at H; have c12b0 : (a0_0 == 3) = true := beq_iff_eq.mpr c12; have c12b1 : (a0_0 != 3) = false := bne_eq_false_iff_eq.mpr c12; clear c12; replace H := Option.bind_eq_some_iff.mp H; obtain ⟨t133, A130, H⟩ := H; (try dsimp only at H); have A13 := Aside0.mk A130; clear A130; obtain rfl := Option.some.inj H
    go_enter Try.func9, Try.ntmps9
    go_wp2_with (first | ((with_reducible refine gate_dst (N := 2) rfl ?_); refine box_event ?hg (N := 2) ?hd (cs := #[.int .i64 a0_0, .string a0_1, .slice A0_2 l0_2.length c0_2, .int .i64 a0_3]) (t := 26) ?hr ?_; (case hd => rfl); (case hg => rfl); (case hr => first | (go_simp; done) | (go_simp; rfl)); intro gb132 hg w14 hbox hb; have n0_ := Aside0.mk (below_step S.B hb); have n1_ := Aside0.mk (hbox); have n2_ := Aside0.mk ((by rw [hg]; exact (below_size S.B) : w.heap.size ≤ gb132)); have n3_ := Aside0.mk ((by rw [hg]; exact (below_size S.B) : w.heap.size ≤ gb132)); clear HB; have HB := n0_; have BK132 := n1_; have GW132 := n2_; have GE132 := n3_; clear n0_ n1_ n2_ n3_; clear hb hbox hg; obtain ⟨hcz15_0, hcz15_1, hcz15_2, hcz15_3, hfz15_0, hfz15_1, hfz15_2, hfz15_3⟩ := S.c4 BK132.out) | ((with_reducible refine gate_callee (f := 30) rfl ?_); refine goesL_ (some 24) rfl rfl Try.func30 (by kernel_rfl) rfl #[.slice A0_2 l0_2.length c0_2, .string a1] rfl (by (try simp only [List.map_toArray, List.map_cons, List.map_nil]); first | done | rfl | (simp only [List.length_drop, List.length_take]; rfl)) ?_; (with_reducible refine (slices_Contains_string_string.calls k _ _ l0_2 a1 t133 _ ?side1 ?side2 A13.out).mono ?_); (case side1 => repeat (first | exact (Kd.C_below HR0_2.out HB.out) | (with_reducible refine Kd.C_alloc ?_ _) | (with_reducible refine Kd.C_drewN ?_ _) | (with_reducible refine Kd.C_drew ?_))); (case side2 => exact HC0_2.out); rintro e w' ⟨rfl, ⟨nd, rfl⟩⟩; refine ⟨_, rfl, ?_⟩))
    go_ret; exact ⟨by first | rfl | (simp [errW_none, errW_some] <;> rfl) | (simp [*, errW_none, errW_some] <;> rfl), S.B⟩
   ·rw [if_neg c12] at H; have c12b0 : (a0_0 == 3) = false := beq_eq_false_iff_ne.mpr c12; have c12b1 : (a0_0 != 3) = true := bne_iff_ne.mpr c12; obtain rfl := Option.some.inj H
    go_enter Try.func9, Try.ntmps9
    go_wp2_with (first | ((with_reducible refine gate_dst (N := 2) rfl ?_); refine box_event ?hg (N := 2) ?hd (cs := #[.int .i64 a0_0, .string a0_1, .slice A0_2 l0_2.length c0_2, .int .i64 a0_3]) (t := 26) ?hr ?_; (case hd => rfl); (case hg => rfl); (case hr => first | (go_simp; done) | (go_simp; rfl)); intro gb132 hg w16 hbox hb; have n0_ := Aside0.mk (below_step S.B hb); have n1_ := Aside0.mk (hbox); have n2_ := Aside0.mk ((by rw [hg]; exact (below_size S.B) : w.heap.size ≤ gb132)); have n3_ := Aside0.mk ((by rw [hg]; exact (below_size S.B) : w.heap.size ≤ gb132)); clear HB; have HB := n0_; have BK132 := n1_; have GW132 := n2_; have GE132 := n3_; clear n0_ n1_ n2_ n3_; clear hb hbox hg; obtain ⟨hcz17_0, hcz17_1, hcz17_2, hcz17_3, hfz17_0, hfz17_1, hfz17_2, hfz17_3⟩ := S.c4 BK132.out))
    go_ret; exact ⟨by first | rfl | (simp [errW_none, errW_some] <;> rfl) | (simp [*, errW_none, errW_some] <;> rfl), S.B⟩

-- given: function 12 (wild_Both): its contract is G.wild_Both.calls, proved by hand
-- given: function 13 (wild_Sub): its contract is G.wild_Sub.calls, proved by hand
end Go.Proofs.Ytfpedicgeepikaa.Pr
