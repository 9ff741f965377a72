/- The given statements, out of the walked laws. -/
import Derived.Test.YtnmfiiejhoafnaaFacts
import Derived.Test.YtnmfiiejhoafnaaLaw
import Derived.Test.YtnmfiiejhoafnaaOnetime1
namespace Go.Proofs.Ytnmfiiejhoafnaa
open Go Ex Calm Go.RowKit Go.ChangeShapes Go.WideShapes Go.ChangeAt

set_option maxRecDepth 100000 in
theorem onetimeDigits_holds : Rows.OnetimeDigitsSaid :=
  OpenClaim.holds_of_wide 3 Try.f3 rfl rfl rfl rfl rfl rfl rfl ⟨rfl, rfl, rfl, rfl, rfl⟩ rfl rfl rfl rfl rfl (by kernel_rfl) Try.func3 (facts_of rfl rfl (by kernel_rfl) (by kernel_rfl) (by kernel_rfl) (by kernel_rfl))
    (of_decide_eq_true (by kernel_rfl)) (by unfold Func.isWrapper; first | (rw [if_pos (by decide +kernel)]; kernel_rfl) | (rw [if_neg (by decide +kernel)]; exact ⟨rfl, rfl⟩))
    (fun os started H enc _ => law_lifted (s := Rows.onetimeDigitsSpec) Try.func3 (by kernel_rfl) rfl (by kernel_rfl)
      (fun ds hl => by
        rw [show Try.f3.params.size = 1 from by kernel_rfl] at hl
        match ds, hl with
        | [d0], _ => exact ⟨rfl, rfl, rfl⟩)
      (by rw [Try.params3]; decide +kernel) os started
      (ChangeSpec.witness6 (enc := enc) (C := Try.checked) false ⟨#[], #[.agg #[.int .u8 0, .int .u8 0, .int .u8 0, .int .u8 0, .int .u8 0, .int .u8 0, .int .u8 0, .int .u8 0]], []⟩ 8 (by kernel_rfl) (by kernel_rfl) (by kernel_rfl) (by kernel_rfl))
      (fun W base args ds p hval hA => by
        rw [Try.params3] at hA hval
        obtain ⟨v0, r0, d0, s0, p0, q0, hargs, rfl, rfl, h0, g0⟩ := trodAll_cons hA
        obtain ⟨e1, rfl, rfl⟩ := trodAll_nil g0
        have ha : args = #[v0] := by
          apply Array.toList_inj.1
          rw [hargs, e1]
        subst ha
        obtain ⟨x0, o0⟩ := open_nm (hval 0 23 v0 rfl rfl) h0
        exact c_OnetimeDigits 0 v0 W (Nat.zero_le _) o0))

set_option maxRecDepth 100000 in
theorem onetimeGuards_holds : Rows.OnetimeGuardsSaid :=
  OpenClaim.holds_of_wide 4 Try.f4 rfl rfl rfl rfl rfl rfl rfl ⟨rfl, rfl, rfl, rfl, rfl⟩ rfl rfl rfl rfl rfl (by kernel_rfl) Try.func4 (facts_of rfl rfl (by kernel_rfl) (by kernel_rfl) (by kernel_rfl) (by kernel_rfl))
    (of_decide_eq_true (by kernel_rfl)) (by unfold Func.isWrapper; first | (rw [if_pos (by decide +kernel)]; kernel_rfl) | (rw [if_neg (by decide +kernel)]; exact ⟨rfl, rfl⟩))
    (fun os started H enc _ => law_lifted (s := Rows.onetimeGuardsSpec) Try.func4 (by kernel_rfl) rfl (by kernel_rfl)
      (fun ds hl => by
        rw [show Try.f4.params.size = 2 from by kernel_rfl] at hl
        match ds, hl with
        | [d0, d1], _ => exact ⟨rfl, rfl, rfl⟩)
      (by rw [Try.params4]; decide +kernel) os started
      (ChangeSpec.witness6 (enc := enc) (C := Try.checked) false ⟨#[], #[.agg #[.int .u8 0, .int .u8 0, .int .u8 0, .int .u8 0, .int .u8 0, .int .u8 0, .int .u8 0, .int .u8 0], .agg #[.int .u8 0, .int .u8 0, .int .u8 0, .int .u8 0, .int .u8 0, .int .u8 0, .int .u8 0, .int .u8 0]], []⟩ 8 (by kernel_rfl) (by kernel_rfl) (by kernel_rfl) (by kernel_rfl))
      (fun W base args ds p hval hA => by
        rw [Try.params4] at hA hval
        obtain ⟨v0, r0, d0, s0, p0, q0, hargs, rfl, rfl, h0, g0⟩ := trodAll_cons hA
        obtain ⟨v1, r1, d1, s1, p1, q1, e1, rfl, rfl, h1, g1⟩ := trodAll_cons g0
        obtain ⟨e2, rfl, rfl⟩ := trodAll_nil g1
        have ha : args = #[v0, v1] := by
          apply Array.toList_inj.1
          rw [hargs, e1, e2]
        subst ha
        obtain ⟨x0, o0⟩ := open_nm (hval 0 23 v0 rfl rfl) h0
        obtain ⟨x1, o1⟩ := open_nm (hval 1 23 v1 rfl rfl) h1
        exact c_OnetimeGuards 0 v0 v1 W (Nat.zero_le _) o0 o1))

end Go.Proofs.Ytnmfiiejhoafnaa
