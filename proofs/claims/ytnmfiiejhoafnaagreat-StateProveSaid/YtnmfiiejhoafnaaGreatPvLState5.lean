/- The given statements, out of the walked laws. -/
import Derived.Test.YtnmfiiejhoafnaaGreatPvFacts
import Derived.Test.YtnmfiiejhoafnaaGreatPvLaw2
import Derived.Test.YtnmfiiejhoafnaaGreatPvState23
set_option linter.unusedSimpArgs false
set_option linter.unusedVariables false
namespace Go.Proofs.YtnmfiiejhoafnaaGreat
open Go Ex Calm Go.RowKit Go.ChangeShapes Go.WideShapes Go.ChangeAt
set_option maxRecDepth 100000 in
theorem stateProve_holds : Rows.StateProveSaid :=
  OpenClaim.holds_of_wide 4 Tryz.f4 rfl rfl rfl rfl rfl rfl rfl ⟨rfl, rfl, rfl, rfl, rfl⟩ rfl rfl rfl rfl rfl (by kernel_rfl) Tryz.func4 (facts_of rfl rfl (by kernel_rfl) (by kernel_rfl) (by kernel_rfl) (by kernel_rfl))
    (of_decide_eq_true (by kernel_rfl)) (by unfold Func.isWrapper; first | (rw [if_pos (by decide +kernel)]; kernel_rfl) | (rw [if_neg (by decide +kernel)]; exact ⟨rfl, rfl⟩))
    (fun os started H enc _ => law_lifted (s := Rows.stateProveSpec) Tryz.func4 (by kernel_rfl) rfl (by kernel_rfl)
      (fun ds hl => by
        rw [show Tryz.f4.params.size = 3 from by kernel_rfl] at hl
        match ds, hl with
        | [d0, d1, d2], _ => exact ⟨rfl, rfl, rfl⟩)
      (by rw [Tryz.params4]; decide +kernel) os started
      (ChangeSpec.witness6 (enc := enc) (C := Tryz.checked) false ⟨#[], #[.agg #[.slice none 0 0, .slice none 0 0, .slice none 0 0, .slice none 0 0, .int .i64 0], .agg #[.int .i64 0, .int .i64 0, .int .u8 0, .int .u8 0, .int .u8 0, .int .u8 0, .int .u8 0, .int .u8 0, .int .u8 0, .int .u8 0], .agg #[.int .u8 0, .int .u8 0, .int .u8 0, .int .u8 0, .int .u8 0, .int .u8 0, .int .u8 0, .int .u8 0]], []⟩ 8 (by kernel_rfl) (by kernel_rfl) (by kernel_rfl) (by kernel_rfl))
      (fun W base args ds p hval hA hw => by
        rw [Tryz.params4] at hA hval hw
        obtain ⟨v0, r0, d0, s0, p0, q0, hargs, rfl, rfl, h0, g0⟩ := trodAll_cons hA
        obtain ⟨v1, r1, d1, s1, p1, q1, e1, rfl, rfl, h1, g1⟩ := trodAll_cons g0
        obtain ⟨v2, r2, d2, s2, p2, q2, e2, rfl, rfl, h2, g2⟩ := trodAll_cons g1
        obtain ⟨e3, rfl, rfl⟩ := trodAll_nil g2
        have ha : args = #[v0, v1, v2] := by
          apply Array.toList_inj.1
          rw [hargs, e1, e2, e3]
        subst ha
        simp only [DataW.weightsEach, List.all_append, Bool.and_eq_true] at hw
        obtain ⟨w0, w1, w2, _⟩ := hw
        obtain ⟨x0, o0⟩ := open_state (hval 0 28 v0 rfl rfl) h0
        obtain ⟨x1, o1⟩ := open_cell (hval 1 42 v1 rfl rfl) h1
        obtain ⟨x2, o2⟩ := open_nm (hval 2 30 v2 rfl rfl) h2
        exact c_StateProve  0 v0 v1 v2 W (Nat.zero_le _) o0 o1 o2))
end Go.Proofs.YtnmfiiejhoafnaaGreat
