/- The given statements, out of the walked laws. -/
import Derived.Test.YtnmfiiejhoafnaaFacts
import Derived.Test.YtnmfiiejhoafnaaLaw
import Derived.Test.YtnmfiiejhoafnaaHash2
namespace Go.Proofs.Ytnmfiiejhoafnaa
open Go Ex Calm Go.RowKit Go.ChangeShapes Go.WideShapes Go.ChangeAt

set_option maxRecDepth 100000 in
theorem hashSums_holds : Rows.HashSumsSaid :=
  OpenClaim.holds_of_wide 8 Try.f8 rfl rfl rfl rfl rfl rfl rfl ⟨rfl, rfl, rfl, rfl, rfl⟩ rfl rfl rfl rfl rfl (by kernel_rfl) Try.func8 (facts_of rfl rfl (by kernel_rfl) (by kernel_rfl) (by kernel_rfl) (by kernel_rfl))
    (of_decide_eq_true (by kernel_rfl)) (by unfold Func.isWrapper; first | (rw [if_pos (by decide +kernel)]; kernel_rfl) | (rw [if_neg (by decide +kernel)]; exact ⟨rfl, rfl⟩))
    (fun os started H enc _ => law_lifted (s := Rows.hashSumsSpec) Try.func8 (by kernel_rfl) rfl (by kernel_rfl)
      (fun ds hl => by
        rw [show Try.f8.params.size = 1 from by kernel_rfl] at hl
        match ds, hl with
        | [d0], _ => exact ⟨rfl, rfl, rfl⟩)
      (by rw [Try.params8]; decide +kernel) os started
      (ChangeSpec.witness6 (enc := enc) (C := Try.checked) false ⟨#[], #[.slice none 0 0], []⟩ 8 (by kernel_rfl) (by kernel_rfl) (by kernel_rfl) (by kernel_rfl))
      (fun W base args ds p hval hA hw => by
        rw [Try.params8] at hA hval hw
        obtain ⟨v0, r0, d0, s0, p0, q0, hargs, rfl, rfl, h0, g0⟩ := trodAll_cons hA
        obtain ⟨e1, rfl, rfl⟩ := trodAll_nil g0
        have ha : args = #[v0] := by
          apply Array.toList_inj.1
          rw [hargs, e1]
        subst ha
        simp only [DataW.weightsEach, List.all_append, Bool.and_eq_true] at hw
        obtain ⟨w0, _⟩ := hw
        obtain ⟨x0, b0, o0⟩ := open_bytes (hval 0 34 v0 rfl rfl) h0 w0
        exact c_HashSums (by omega) 0 v0 W (Nat.zero_le _) o0))

end Go.Proofs.Ytnmfiiejhoafnaa
