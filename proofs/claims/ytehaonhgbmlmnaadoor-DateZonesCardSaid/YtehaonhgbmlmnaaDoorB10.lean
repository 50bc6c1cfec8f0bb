import Derived.Test.YtehaonhgbmlmnaaDoorB7
import Derived.Test.YtehaonhgbmlmnaaDoorB9r
import Derived.Test.YtehaonhgbmlmnaaDoorB4k
import Derived.Test.YtehaonhgbmlmnaaDoorG7
namespace Go.Proofs.YtehaonhgbmlmnaaDoor.B
open Go.RowKit Go.Proofs.YtehaonhgbmlmnaaDoor Go.Proofs.YtehaonhgbmlmnaaDoor.G Go.Proofs.YtehaonhgbmlmnaaDoor.Pr Go.Proofs.YtehaonhgbmlmnaaDoorW.PrintWords Go.Proofs.YtehaonhgbmlmnaaDoorW.PrintLast
set_option linter.unusedVariables false
set_option linter.unusedSimpArgs false
/-! ### DateZones -/
theorem dl_vd {c y d : Int} {m : Nat} (v : Vd c y m d) : dl (Yr c y) ((m : Int) + 1) d = num c y m d := by
  unfold dl Yr
  rw [ofY_sdY, show ((m : Int) + 1 - 1).toNat = m from by omega, dn_at v.y0 v.y1]
  rfl
theorem mok_vd {c y d : Int} {m : Nat} (v : Vd c y m d) {K S N z : Int} {hz : Bool} (s1 : 0 ≤ S) (s2 : S < 86400) (n1 : 0 ≤ N) (n2 : N ≤ 999999999) (z1 : -840 ≤ z) (z2 : z ≤ 840) : Mok K (Yr c y) ((m : Int) + 1) d S N hz z := by
  have hm := v.m1
  have hd0 := v.d0
  have hd1 := v.d1
  have hr := mlen_range y ((m : Int) + 1)
  exact ⟨Yr_bd v, by omega, by omega, ⟨s1, s2⟩, ⟨n1, n2⟩, ⟨z1, z2⟩⟩
theorem cO_self' (a an : Int) : cO a an a an = 0 := by
  unfold cO
  rw [if_neg (by omega), if_pos ⟨rfl, rfl⟩]
theorem cP_self' (A an : Int) (ha : Bool) (za : Int) : cP A an ha za A an ha za = 0 := by
  unfold cP
  rw [if_pos (by simp), cO_self']
theorem cP_same (A B an za zb : Int) (h : A - 60 * za = B - 60 * zb) : cP A an true za B an true zb = 0 := by
  unfold cP
  rw [if_pos (by rfl : (true == true) = true), h, cO_self']
theorem zones_in (a0 a1 a2 a3 a4 : Int) (w : World) (y1 : 1000 ≤ a0) (y2 : a0 ≤ 9000) (m1 : 1 ≤ a1) (m2 : a1 ≤ 12) (d1 : 1 ≤ a2) (d2 : a2 ≤ 28) (s1 : 0 ≤ a3) (s2 : a3 ≤ 86399) (z1 : -840 ≤ a4) (z2 : a4 ≤ 840) :
    Calls Tryd.prog 4 #[.int .i64 a0, .int .i64 a1, .int .i64 a2, .int .i64 a3, .int .i64 a4] w fun e w' => e = .returned (.bool true) ∧ Below w.heap.size w w' := by
  obtain ⟨c, y, m, v, e1, e2, c1, c2⟩ := of_year (Y := a0) (M := a1) (D := a2) (by omega) (by omega) (by omega) m1 m2 d1 d2
  have hr := v.rest
  have hy0 := v.y0; have hy1 := v.y1
  have hnum : num c y m a2 = c * 146097 + (Yd y + cum y m + a2 - 1) := by unfold num; omega
  obtain ⟨c', y', m', d', v', e3⟩ := vd_of' (num c y m a2 + (a3 + 60 * a4) / 86400) (by omega) (by omega)
  have h1 := Add_sec' (K := 1) (S := a3) (N := 0) (z := 0) (sec := 60 * a4) (nano := 0) (hz := true) v v' s1 (by omega) (by omega) (by omega) (by omega) (by omega) (by omega) e3 1000 (by omega)
  have h2 := Add_sec' (K := 1) (S := (a3 + 60 * a4) % 86400) (N := 0) (z := a4) (sec := 0) (nano := 1) (hz := true) v' v' (by omega) (by omega) (by omega) (by omega) (by omega) (by omega) (by omega) (by omega) 1000 (by omega)
  have M1 : Mok 1 a0 a1 a2 a3 0 true 0 := by
    have := mok_vd (K := 1) (S := a3) (N := 0) (z := 0) (hz := true) v s1 (by omega) (by omega) (by omega) (by omega) (by omega)
    rw [e1, e2] at this; exact this
  have M2 := mok_vd (K := 1) (S := (a3 + 60 * a4) % 86400) (N := 0) (z := a4) (hz := true) v' (by omega) (by omega) (by omega) (by omega) z1 z2
  have M3 := mok_vd (K := 1) (S := (a3 + 60 * a4) % 86400) (N := 0) (z := 0) (hz := false) v' (by omega) (by omega) (by omega) (by omega) (by omega) (by omega)
  have M4 := mok_vd (K := 1) (S := ((a3 + 60 * a4) % 86400 + 0) % 86400) (N := 1) (z := a4) (hz := true) v' (by omega) (by omega) (by omega) (by omega) z1 z2
  have L1 : l0 a0 a1 a2 a3 = 86400 * num c y m a2 + a3 := by
    have := dl_vd v
    rw [e1, e2] at this
    unfold l0; rw [this]
  have L2 : l0 (Yr c' y') ((m' : Int) + 1) d' ((a3 + 60 * a4) % 86400) = 86400 * num c y m a2 + a3 + 60 * a4 := by
    unfold l0; rw [dl_vd v', e3]; omega
  have L3 : l0 (Yr c' y') ((m' : Int) + 1) d' (((a3 + 60 * a4) % 86400 + 0) % 86400) = 86400 * num c y m a2 + a3 + 60 * a4 := by
    unfold l0; rw [dl_vd v', e3]; omega
  rw [e1, e2, show (0 : Int) + 0 = 0 from rfl] at h1
  rw [show (0 : Int) + 1 = 1 from rfl] at h2
  have h5 := Cmp_f M1 M2 1000 (by omega)
  rw [cP_same _ _ _ _ _ (by rw [L1, L2]; omega)] at h5
  have h8 := Cmp_f M1 M1 1000 (by omega)
  rw [cP_self'] at h8
  have h6 := Cmp_f M1 M3 1000 (by omega)
  have e6 : cP (l0 a0 a1 a2 a3) 0 true 0 (l0 (Yr c' y') ((m' : Int) + 1) d' ((a3 + 60 * a4) % 86400)) 0 false 0 = 2 := by
    rw [L1, L2]
    unfold cP
    rw [if_neg (by decide : ¬ (true == false) = true), if_pos (by rfl : true = true)]
    have : mix (86400 * num c y m a2 + a3 + 60 * a4) 0 (86400 * num c y m a2 + a3 - 60 * 0) 0 = 2 := by
      unfold mix
      rw [if_neg]
      unfold cO
      repeat' split
      all_goals omega
    rw [this]; rfl
  rw [e6] at h6
  have h7 := Cmp_f M2 M4 1000 (by omega)
  have e7 : cP (l0 (Yr c' y') ((m' : Int) + 1) d' ((a3 + 60 * a4) % 86400)) 0 true a4 (l0 (Yr c' y') ((m' : Int) + 1) d' (((a3 + 60 * a4) % 86400 + 0) % 86400)) 1 true a4 = -1 := by
    rw [L2, L3]
    unfold cP cO
    rw [if_pos (by rfl : (true == true) = true), if_pos (by omega)]
  rw [e7] at h7
  clear e1 e2 e3 e6 e7 L1 L2 L3 hnum
  obtain ⟨Y, rfl⟩ := Int.eq_ofNat_of_zero_le (a := a0) (by omega)
  obtain ⟨M, rfl⟩ := Int.eq_ofNat_of_zero_le (a := a1) (by omega)
  obtain ⟨D, rfl⟩ := Int.eq_ofNat_of_zero_le (a := a2) (by omega)
  obtain ⟨S, rfl⟩ := Int.eq_ofNat_of_zero_le (a := a3) (by omega)
  exact zones_main 1000 _ _ _ _ _ _ _ _ _ _ _ _ _ _ _ _ _ _ _ _ _ _ w y1 y2 m1 m2 d1 d2 s1 s2 z1 z2 (known_k (by omega)) h1 h2
    (text_f Y M D S (by omega) (by omega) (by omega) (by omega) 1000 (by omega)) (parse_txt Y M D S (by omega) (by omega) (by omega) (by omega) (by omega) (by omega) (by omega) 1000 (by omega)) h5 h6 h7 h8
theorem zones_walk (a0 a1 a2 a3 a4 : Int) (w : World) :
    Calls Tryd.prog 4 #[.int .i64 a0, .int .i64 a1, .int .i64 a2, .int .i64 a3, .int .i64 a4] w fun e w' => e = .returned (.bool true) ∧ Below w.heap.size w w' := by
  by_cases h : 1000 ≤ a0 ∧ a0 ≤ 9000 ∧ 1 ≤ a1 ∧ a1 ≤ 12 ∧ 1 ≤ a2 ∧ a2 ≤ 28 ∧ 0 ≤ a3 ∧ a3 ≤ 86399 ∧ -840 ≤ a4 ∧ a4 ≤ 840
  · obtain ⟨p1, p2, p3, p4, p5, p6, p7, p8, p9, p10⟩ := h
    exact zones_in a0 a1 a2 a3 a4 w p1 p2 p3 p4 p5 p6 p7 p8 p9 p10
  · exact zones_out 60 a0 a1 a2 a3 a4 w (known_k (by omega)) (by omega)

end Go.Proofs.YtehaonhgbmlmnaaDoor.B
