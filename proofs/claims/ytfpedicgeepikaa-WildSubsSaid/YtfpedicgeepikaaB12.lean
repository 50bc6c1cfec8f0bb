import Derived.Test.YtfpedicgeepikaaB11
namespace Go.Proofs.Ytfpedicgeepikaa.B
open Go.RowKit Go.Proofs.Ytfpedicgeepikaa Go.Proofs.Ytfpedicgeepikaa.G Go.Proofs.Ytfpedicgeepikaa.Pr Go.Proofs.YtfpedicgeepikaaW.PrintWords Go.Proofs.YtfpedicgeepikaaW.PrintLast
set_option linter.unusedVariables false
set_option linter.unusedSimpArgs false
def tW : ByteArray := ⟨#[116]⟩
def uW : ByteArray := ⟨#[117]⟩
theorem ba_ne {a b : ByteArray} (h : lst a ≠ lst b) : a ≠ b := fun e => h (by rw [e])
theorem mapW_self (t w : ByteArray) (h1 : lst w ≠ lst tgtW) (h2 : lst w ≠ lst locW) : mapW t w = w := by
  unfold mapW
  rw [if_neg (fun e => h1 (by rw [e])), if_neg (fun e => h2 (by rw [e]))]
theorem known_b : Ev (fun k => wild_Parse.f k (⟨#[116, 32, 117, 32, 35, 35, 108, 111, 99, 97, 108]⟩ : ByteArray) tW (⟨#[]⟩ : ByteArray)) (3, ⟨#[]⟩, setL [tW, uW, ⟨#[]⟩], 1, 0) := by
  have h := parse_these (⟨#[116, 32, 117, 32, 35, 35, 108, 111, 99, 97, 108]⟩ : ByteArray) tW (by decide) [tW, uW, locW] rfl (by decide) (by simp) (fun w e => by simp at e) (fun w hw => by
    simp only [List.mem_cons, List.not_mem_nil, or_false] at hw
    rcases hw with rfl | rfl | rfl
    · exact .inr (.inr (by decide))
    · exact .inr (.inr (by decide))
    · exact .inr (.inl rfl))
  have e1 : mapW tW tW = tW := mapW_self _ _ (by decide) (by decide)
  have e2 : mapW tW uW = uW := mapW_self _ _ (by decide) (by decide)
  have e3 : mapW tW locW = ⟨#[]⟩ := by unfold mapW; rw [if_neg (ba_ne (by decide)), if_pos rfl]
  simp only [List.map_cons, List.map_nil, e1, e2, e3] at h
  exact h

end Go.Proofs.Ytfpedicgeepikaa.B
