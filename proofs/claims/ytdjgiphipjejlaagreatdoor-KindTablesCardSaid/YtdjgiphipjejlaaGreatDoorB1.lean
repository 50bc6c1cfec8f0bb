import Derived.Test.YtdjgiphipjejlaaGreatDoorPrx5
import Derived.KernelRfl
namespace Go.Proofs.YtdjgiphipjejlaaGreatDoor.B
open Go.RowKit Go.Proofs.YtdjgiphipjejlaaGreatDoor Go.Proofs.YtdjgiphipjejlaaGreatDoor.G Go.Proofs.YtdjgiphipjejlaaGreatDoor.Pr Go.Proofs.YtdjgiphipjejlaaGreatDoorW.PrintWords Go.Proofs.YtdjgiphipjejlaaGreatDoorW.PrintLast
set_option linter.unusedVariables false
set_option linter.unusedSimpArgs false
/-! ### KindTables: the plain law -/
theorem w64 {x : Int} (h1 : -9223372036854775808 ≤ x) (h2 : x ≤ 9223372036854775807) : wrap64 x = x := by unfold wrap64; omega
theorem Ev_succ {α : Type} {g : Nat → Option α} {r : α} (h : Ev (fun k => g (k + 1)) r) : Ev g r := Ev.step (fun _ => rfl) h
theorem tl_eq {a b : ByteArray} : a.toList = b.toList ↔ a = b := by
  constructor
  · intro h
    rw [Lib.toList_data, Lib.toList_data] at h
    cases a; cases b
    simpa using h
  · intro h; rw [h]
theorem names_eq : rubricref11_names.f = some namesL := by kernel_rfl
theorem rdOf_get {l : List ByteArray} {i : Nat} (hi : i < l.length) : rdOf ByteArray.empty l (i : Int) = l[i] := by
  unfold rdOf
  rw [Int.toNat_natCast, List.getD_eq_getElem?_getD, List.getElem?_eq_getElem hi]
  rfl
def oddL : List ByteArray := [(⟨#[102, 108, 111, 97, 116]⟩ : ByteArray), (⟨#[100, 111, 117, 98, 108, 101]⟩ : ByteArray), (⟨#[104, 101, 120, 66, 105, 110, 97, 114, 121]⟩ : ByteArray), (⟨#[98, 97, 115, 101, 54, 52, 66, 105, 110, 97, 114, 121]⟩ : ByteArray), (⟨#[97, 110, 121, 85, 82, 73]⟩ : ByteArray), (⟨#[81, 78, 97, 109, 101]⟩ : ByteArray), (⟨#[78, 79, 84, 65, 84, 73, 79, 78]⟩ : ByteArray), (⟨#[108, 97, 110, 103, 117, 97, 103, 101]⟩ : ByteArray), (⟨#[78, 77, 84, 79, 75, 69, 78, 83]⟩ : ByteArray), (⟨#[73, 68, 82, 69, 70, 83]⟩ : ByteArray), (⟨#[69, 78, 84, 73, 84, 89]⟩ : ByteArray), (⟨#[69, 78, 84, 73, 84, 73, 69, 83]⟩ : ByteArray)]
def scan1 (s : ByteArray) : List ByteArray → Int × Int
  | [] => (0, 4)
  | x :: l => if x = s then (0, 6) else scan1 s l
theorem scan1_odd (s : ByteArray) : scan1 s oddL = (0, if Odd s then 6 else 4) := by
  by_cases h : Odd s
  · rw [if_pos h]
    unfold Odd at h
    simp only [scan1, oddL]
    rcases h with rfl | rfl | rfl | rfl | rfl | rfl | rfl | rfl | rfl | rfl | rfl | rfl <;> simp
  · rw [if_neg h]
    simp only [Odd, not_or] at h
    obtain ⟨h0, h1, h2, h3, h4, h5, h6, h7, h8, h9, h10, h11⟩ := h
    simp only [scan1, oddL]
    rw [if_neg (fun e => h0 e.symm), if_neg (fun e => h1 e.symm), if_neg (fun e => h2 e.symm), if_neg (fun e => h3 e.symm), if_neg (fun e => h4 e.symm), if_neg (fun e => h5 e.symm), if_neg (fun e => h6 e.symm), if_neg (fun e => h7 e.symm), if_neg (fun e => h8 e.symm), if_neg (fun e => h9 e.symm), if_neg (fun e => h10 e.symm), if_neg (fun e => h11 e.symm)]
theorem find_l1 (s : ByteArray) (L : List ByteArray) (hL : L.length ≤ 1000) : ∀ (d i : Nat), i + d = L.length → Ev (fun k => rubricref11_Find.l1 k s L (i : Int)) (scan1 s (L.drop i))
  | 0, i, hi => by
    refine Ev_succ ?_
    simp only [rubricref11_Find.l1, if_neg (show ¬ (i : Int) < (L.length : Int) by omega)]
    rw [List.drop_of_length_le (by omega)]
    exact Ev.now _
  | d + 1, i, hi => by
    have hlt : i < L.length := by omega
    have e2 : wrap64 ((i : Int) + 1) = ((i + 1 : Nat) : Int) := by rw [w64 (x := (i : Int) + 1) (by omega) (by omega)]; omega
    refine Ev_succ ?_
    simp only [rubricref11_Find.l1, if_pos (show (i : Int) < (L.length : Int) by omega), if_pos (show (0 : Int) ≤ (i : Int) by omega), rdOf_get hlt, e2, tl_eq]
    have ih := find_l1 s L hL d (i + 1) (by omega)
    rw [List.drop_eq_getElem_cons hlt]
    simp only [scan1]
    by_cases e : L[i] = s
    · simp only [if_pos e]; exact Ev.now _
    · simp only [if_neg e]; exact ih
theorem find_l0 (s : ByteArray) : ∀ (d i : Nat), i + d = 33 → Ev (fun k => rubricref11_Find.l0 k s namesL (i : Int)) (scan s (namesL.drop i) (i : Int))
  | 0, i, hi => by
    refine Ev_succ ?_
    simp only [rubricref11_Find.l0, if_neg (show ¬ (i : Int) < (namesL.length : Int) by rw [names_length]; omega)]
    rw [List.drop_of_length_le (by rw [names_length]; omega)]
    have := find_l1 s oddL (by decide) oddL.length 0 (by omega)
    rw [List.drop_zero, scan1_odd] at this
    exact this
  | d + 1, i, hi => by
    have hlt : i < namesL.length := by rw [names_length]; omega
    have e2 : wrap64 ((i : Int) + 1) = ((i + 1 : Nat) : Int) := by rw [w64 (x := (i : Int) + 1) (by omega) (by omega)]; omega
    refine Ev_succ ?_
    simp only [rubricref11_Find.l0, if_pos (show (i : Int) < (namesL.length : Int) by omega), if_pos (show (0 : Int) ≤ (i : Int) by omega), rdOf_get hlt, e2, tl_eq]
    have ih := find_l0 s d (i + 1) (by omega)
    rw [List.drop_eq_getElem_cons hlt]
    simp only [scan]
    by_cases e : namesL[i] = s
    · simp only [if_pos e]; exact Ev.now _
    · simp only [if_neg e]; exact ih
theorem find_ev (s : ByteArray) : Ev (fun k => rubricref11_Find.f k s) (scan s (namesL.drop 1) 1) := by
  unfold rubricref11_Find.f
  simp only [names_eq, Option.bind_some]
  exact find_l0 s 32 1 rfl
def okT (a : Nat) : Bool := decide (kind_Name.f (a : Int) = rubricref11_Name.f (a : Int)) && (decide (kind_Base.f (a : Int) = rubricref11_Base.f (a : Int)) && (decide (kind_Prim.f 60 (a : Int) = rubricref11_Prim.f 60 (a : Int)) && ((kind_Prim.f 60 (a : Int)).isSome && (decide (kind_White.f (a : Int) = rubricref11_White.f (a : Int)) && ((kind_White.f (a : Int)).isSome && decide (rubricref11_Derived.f 60 (a : Int) 0 = some false))))))
theorem okT_all : (List.range 33).all (fun a => decide (a = 0) || okT a) = true := by kernel_rfl
def okD (a b : Nat) : Bool := decide (kind_Derived.f 60 (a : Int) (b : Int) = rubricref11_Derived.f 60 (a : Int) (b : Int)) && (kind_Derived.f 60 (a : Int) (b : Int)).isSome
theorem okD_all : (List.range 33).all (fun a => decide (a = 0) || (List.range 33).all (fun b => decide (b = 0) || okD a b)) = true := by kernel_rfl
theorem is_in {x : Int} (h : 1 ≤ x ∧ x ≤ 32) : rubricref11_Is.f x = some true := by unfold rubricref11_Is.f; rw [if_pos (by omega), decide_eq_true h.2]
theorem is_out {x : Int} (h : ¬ (1 ≤ x ∧ x ≤ 32)) : rubricref11_Is.f x = some false := by
  unfold rubricref11_Is.f
  by_cases h1 : x ≥ 1
  · rw [if_pos h1, decide_eq_false (by omega)]
  · rw [if_neg h1]
theorem kis_in {x : Int} (h : 1 ≤ x ∧ x ≤ 32) : kind_is.f x = some true := is_in h
theorem kis_out {x : Int} (h : ¬ (1 ≤ x ∧ x ≤ 32)) : kind_is.f x = some false := is_out h
theorem derived_out : ∀ (k : Nat) (x a : Int), ¬ (1 ≤ a ∧ a ≤ 32) → rubricref11_Derived.l0 k x a = rubricref11_Derived.l0 k x 0
  | 0, _, _, _ => rfl
  | k + 1, x, a, ha => by
    simp only [rubricref11_Derived.l0]
    by_cases hx : 1 ≤ x ∧ x ≤ 32
    · rw [is_in hx]
      simp only [Option.bind_some, if_true]
      rw [if_neg (show ¬ x = a by rintro rfl; exact ha hx), if_neg (show ¬ x = 0 by omega)]
      congr 1
      funext t
      exact derived_out k t a ha
    · rw [is_out hx]
      rfl
theorem derived_ev (a b : Int) : ∃ d, Ev (fun k => kind_Derived.f k a b) d ∧ Ev (fun k => rubricref11_Derived.f k a b) d := by
  by_cases ha : 1 ≤ a ∧ a ≤ 32
  · obtain ⟨n, rfl⟩ : ∃ n : Nat, a = n := ⟨a.toNat, by omega⟩
    by_cases hb : 1 ≤ b ∧ b ≤ 32
    · obtain ⟨m, rfl⟩ : ∃ m : Nat, b = m := ⟨b.toNat, by omega⟩
      have h1 := List.all_eq_true.1 okD_all n (List.mem_range.2 (by omega))
      rw [decide_eq_false (show ¬ n = 0 by omega), Bool.false_or] at h1
      have h2 := List.all_eq_true.1 h1 m (List.mem_range.2 (by omega))
      rw [decide_eq_false (show ¬ m = 0 by omega), Bool.false_or] at h2
      simp only [okD, Bool.and_eq_true, decide_eq_true_iff] at h2
      obtain ⟨d, hd⟩ := Option.isSome_iff_exists.1 h2.2
      exact ⟨d, Ev.of (kind_Derived.mono _ _) hd, Ev.of (rubricref11_Derived.mono _ _) (h2.1.symm.trans hd)⟩
    · have h1 := List.all_eq_true.1 okT_all n (List.mem_range.2 (by omega))
      rw [decide_eq_false (show ¬ n = 0 by omega), Bool.false_or] at h1
      simp only [okT, Bool.and_eq_true, decide_eq_true_iff] at h1
      refine ⟨false, ?_, Ev.of (rubricref11_Derived.mono _ _) (k := 60) ?_⟩
      · unfold kind_Derived.f
        simp only [kis_out hb, Option.bind_some, Bool.false_eq_true, if_false]
        exact Ev.now _
      · have := h1.2.2.2.2.2.2
        unfold rubricref11_Derived.f at this ⊢
        rw [derived_out _ _ _ hb]
        exact this
  · refine ⟨false, ?_, ?_⟩
    · unfold kind_Derived.f
      by_cases hb : 1 ≤ b ∧ b ≤ 32
      · simp only [kis_in hb, Option.bind_some, if_true]
        refine Ev_succ ?_
        simp only [kind_Derived.l0, kis_out ha, Option.bind_some]
        have no : Ev (fun k => kind_Derived.j1 k a b false) false := Ev_succ (by
          simp only [kind_Derived.j1, Bool.false_eq_true, if_false]
          exact Ev.now _)
        by_cases h0 : a > 0
        · simp only [if_pos h0]; exact no
        · simp only [if_neg h0]; exact no
      · simp only [kis_out hb, Option.bind_some, Bool.false_eq_true, if_false]
        exact Ev.now _
    · unfold rubricref11_Derived.f
      refine Ev_succ ?_
      simp only [rubricref11_Derived.l0, is_out ha, Option.bind_some, Bool.false_eq_true, if_false]
      exact Ev.now _
theorem prim_ev (a : Int) : ∃ d, Ev (fun k => kind_Prim.f k a) d ∧ Ev (fun k => rubricref11_Prim.f k a) d := by
  by_cases ha : 1 ≤ a ∧ a ≤ 32
  · obtain ⟨n, rfl⟩ : ∃ n : Nat, a = n := ⟨a.toNat, by omega⟩
    have h1 := List.all_eq_true.1 okT_all n (List.mem_range.2 (by omega))
    rw [decide_eq_false (show ¬ n = 0 by omega), Bool.false_or] at h1
    simp only [okT, Bool.and_eq_true, decide_eq_true_iff] at h1
    obtain ⟨d, hd⟩ := Option.isSome_iff_exists.1 h1.2.2.2.1
    exact ⟨d, Ev.of (kind_Prim.mono _) hd, Ev.of (rubricref11_Prim.mono _) (h1.2.2.1.symm.trans hd)⟩
  · refine ⟨0, ?_, ?_⟩
    · unfold kind_Prim.f
      refine Ev_succ ?_
      have hb : kind_Base.f a = some 0 := by unfold kind_Base.f; rw [if_neg ha]
      simp only [kind_Prim.l0, hb, Option.bind_some, kis_out ha, Bool.false_eq_true, if_false, gt_iff_lt, Int.lt_irrefl]
      exact Ev.now _
    · unfold rubricref11_Prim.f
      refine Ev_succ ?_
      have hb : rubricref11_Base.f a = some 0 := by unfold rubricref11_Base.f; rw [is_out ha]; rfl
      simp only [rubricref11_Prim.l0, hb, Option.bind_some, if_true, is_out ha, Bool.false_eq_true, if_false]
      exact Ev.now _
theorem row_eq (a : Int) : (∃ n, kind_Name.f a = some n ∧ rubricref11_Name.f a = some n) ∧ (∃ b, kind_Base.f a = some b ∧ rubricref11_Base.f a = some b) ∧ (∃ c, kind_White.f a = some c ∧ rubricref11_White.f a = some c) := by
  by_cases ha : 1 ≤ a ∧ a ≤ 32
  · obtain ⟨n, rfl⟩ : ∃ n : Nat, a = n := ⟨a.toNat, by omega⟩
    have h1 := List.all_eq_true.1 okT_all n (List.mem_range.2 (by omega))
    rw [decide_eq_false (show ¬ n = 0 by omega), Bool.false_or] at h1
    simp only [okT, Bool.and_eq_true, decide_eq_true_iff] at h1
    obtain ⟨c, hc⟩ := Option.isSome_iff_exists.1 h1.2.2.2.2.2.1
    exact ⟨⟨_, rfl, h1.1.symm⟩, ⟨_, rfl, h1.2.1.symm⟩, ⟨c, hc, h1.2.2.2.2.1.symm.trans hc⟩⟩
  · refine ⟨⟨⟨#[]⟩, ?_, ?_⟩, ⟨0, ?_, ?_⟩, ⟨0, ?_, ?_⟩⟩
    · unfold kind_Name.f; rw [if_neg ha]
    · unfold rubricref11_Name.f; rw [is_out ha]; rfl
    · unfold kind_Base.f; rw [if_neg ha]
    · unfold rubricref11_Base.f; rw [is_out ha]; rfl
    · unfold kind_White.f; rw [kis_out ha]; rfl
    · unfold rubricref11_White.f; rw [is_out ha]; rfl
theorem tables_ev (a0 a1 : Int) (a2 : ByteArray) : Ev (fun k => rubriclaw11_KindTables.f k a0 a1 a2) true := by
  unfold rubriclaw11_KindTables.f
  refine Ev.bind (g := fun k => known.f k) (a := true) (Ev.now _) ?_
  simp only [if_true]
  by_cases hs : (a2.size : Int) > 400
  · simp only [if_pos hs]; exact Ev.now _
  simp only [if_neg hs]
  have hf : kind_Find.f a2 = some (scan a2 (namesL.drop 1) 1) := rfl
  simp only [hf, Option.bind_some]
  refine Ev.bind (find_ev a2) ?_
  obtain ⟨⟨n, n1, n2⟩, ⟨b, b1, b2⟩, ⟨c, c1, c2⟩⟩ := row_eq a0
  simp only [n1, n2, b1, b2, c1, c2, Option.bind_some, if_true]
  obtain ⟨p, p1, p2⟩ := prim_ev a0
  refine Ev.bind p1 (Ev.bind p2 ?_)
  simp only [if_true]
  obtain ⟨d, d1, d2⟩ := derived_ev a0 a1
  refine Ev.bind d1 (Ev.bind d2 ?_)
  simp only [beq_self_eq_true]
  exact Ev.now _
theorem KindTables_t : rubriclaw11_KindTables.Pure := fun a0 a1 a2 _ _ _ => (tables_ev a0 a1 a2).rounds

end Go.Proofs.YtdjgiphipjejlaaGreatDoor.B
