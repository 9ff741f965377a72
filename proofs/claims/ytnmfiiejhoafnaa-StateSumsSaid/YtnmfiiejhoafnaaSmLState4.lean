/- The given statements, out of the walked laws. -/
import Derived.Test.YtnmfiiejhoafnaaSmFacts
import Derived.Test.YtnmfiiejhoafnaaSmLaw2
import Derived.Test.YtnmfiiejhoafnaaSmState17
set_option linter.unusedSimpArgs false
set_option linter.unusedVariables false
namespace Go.Proofs.Ytnmfiiejhoafnaa
open Go Ex Calm Go.RowKit Go.ChangeShapes Go.WideShapes Go.ChangeAt
set_option maxRecDepth 100000 in
theorem stateSums_holds : Rows.StateSumsSaid :=
  OpenClaim.holds_of_wide 25 Try.f25 rfl rfl rfl rfl rfl rfl rfl ⟨rfl, rfl, rfl, rfl, rfl⟩ rfl rfl rfl rfl rfl (by kernel_rfl) Try.func25 (facts_of rfl rfl (by kernel_rfl) (by kernel_rfl) (by kernel_rfl) (by kernel_rfl))
    (of_decide_eq_true (by kernel_rfl)) (by unfold Func.isWrapper; first | (rw [if_pos (by decide +kernel)]; kernel_rfl) | (rw [if_neg (by decide +kernel)]; exact ⟨rfl, rfl⟩))
    (fun os started H enc _ => law_lifted (s := Rows.stateSumsSpec) Try.func25 (by kernel_rfl) rfl (by kernel_rfl)
      (fun ds hl => by
        rw [show Try.f25.params.size = 2 from by kernel_rfl] at hl
        match ds, hl with
        | [d0, d1], _ => exact ⟨rfl, rfl, rfl⟩)
      (by rw [Try.params25]; decide +kernel) os started
      (ChangeSpec.witness6 (enc := enc) (C := Try.checked) false ⟨#[], #[.agg #[.slice none 0 0, .slice none 0 0, .slice none 0 0, .slice none 0 0, .int .i64 0], .slice none 0 0], []⟩ 8 (by kernel_rfl) (by kernel_rfl) (by kernel_rfl) (by kernel_rfl))
      (fun W base args ds p hval hA hw => by
        rw [Try.params25] at hA hval hw
        obtain ⟨v0, r0, d0, s0, p0, q0, hargs, rfl, rfl, h0, g0⟩ := trodAll_cons hA
        obtain ⟨v1, r1, d1, s1, p1, q1, e1, rfl, rfl, h1, g1⟩ := trodAll_cons g0
        obtain ⟨e2, rfl, rfl⟩ := trodAll_nil g1
        have ha : args = #[v0, v1] := by
          apply Array.toList_inj.1
          rw [hargs, e1, e2]
        subst ha
        simp only [DataW.weightsEach, List.all_append, Bool.and_eq_true] at hw
        obtain ⟨w0, w1, _⟩ := hw
        obtain ⟨x0, o0⟩ := open_state (hval 0 42 v0 rfl rfl) h0
        obtain ⟨x1, o1⟩ := open_deltas (hval 1 37 v1 rfl rfl) h1
        exact c_StateSums  0 v0 v1 W (Nat.zero_le _) o0 o1))
end Go.Proofs.Ytnmfiiejhoafnaa
