/- The given statements, out of the walked laws. -/
import Derived.Test.YtnmfiiejhoafnaaFacts
import Derived.Test.YtnmfiiejhoafnaaLaw
import Derived.Test.YtnmfiiejhoafnaaHash3
namespace Go.Proofs.Ytnmfiiejhoafnaa
open Go Ex Calm Go.RowKit Go.ChangeShapes Go.WideShapes Go.ChangeAt

set_option maxRecDepth 100000 in
theorem hashPure_holds : Rows.HashPureSaid :=
  OpenClaim.holds_of_wide 10 Try.f10 rfl rfl rfl rfl rfl rfl rfl ⟨rfl, rfl, rfl, rfl, rfl⟩ rfl rfl rfl rfl rfl (by kernel_rfl) Try.func10 (facts_of rfl rfl (by kernel_rfl) (by kernel_rfl) (by kernel_rfl) (by kernel_rfl))
    (of_decide_eq_true (by kernel_rfl)) (by unfold Func.isWrapper; first | (rw [if_pos (by decide +kernel)]; kernel_rfl) | (rw [if_neg (by decide +kernel)]; exact ⟨rfl, rfl⟩))
    (fun os started H enc _ => law_lifted (s := Rows.hashPureSpec) Try.func10 (by kernel_rfl) rfl (by kernel_rfl)
      (fun ds hl => by
        rw [show Try.f10.params.size = 2 from by kernel_rfl] at hl
        match ds, hl with
        | [d0, d1], _ => exact ⟨rfl, rfl, rfl⟩)
      (by rw [Try.params10]; decide +kernel) os started
      (ChangeSpec.witness6 (enc := enc) (C := Try.checked) false ⟨#[], #[.slice none 0 0, .slice none 0 0], []⟩ 8 (by kernel_rfl) (by kernel_rfl) (by kernel_rfl) (by kernel_rfl))
      (fun W base args ds p hval hA hw => by
        rw [Try.params10] at hA hval hw
        obtain ⟨v0, r0, d0, s0, p0, q0, hargs, rfl, rfl, h0, g0⟩ := trodAll_cons hA
        obtain ⟨v1, r1, d1, s1, p1, q1, e1, rfl, rfl, h1, g1⟩ := trodAll_cons g0
        obtain ⟨e2, rfl, rfl⟩ := trodAll_nil g1
        have ha : args = #[v0, v1] := by
          apply Array.toList_inj.1
          rw [hargs, e1, e2]
        subst ha
        simp only [DataW.weightsEach, List.all_append, Bool.and_eq_true] at hw
        obtain ⟨w0, w1, _⟩ := hw
        obtain ⟨x0, b0, o0⟩ := open_bytes (hval 0 34 v0 rfl rfl) h0 w0
        obtain ⟨x1, b1, o1⟩ := open_bytes (hval 1 34 v1 rfl rfl) h1 w1
        exact c_HashPure (by omega) (by omega) 0 v0 v1 W (Nat.zero_le _) o0 o1))

set_option maxRecDepth 100000 in
theorem hashTagged_holds : Rows.HashTaggedSaid :=
  OpenClaim.holds_of_wide 11 Try.f11 rfl rfl rfl rfl rfl rfl rfl ⟨rfl, rfl, rfl, rfl, rfl⟩ rfl rfl rfl rfl rfl (by kernel_rfl) Try.func11 (facts_of rfl rfl (by kernel_rfl) (by kernel_rfl) (by kernel_rfl) (by kernel_rfl))
    (of_decide_eq_true (by kernel_rfl)) (by unfold Func.isWrapper; first | (rw [if_pos (by decide +kernel)]; kernel_rfl) | (rw [if_neg (by decide +kernel)]; exact ⟨rfl, rfl⟩))
    (fun os started H enc _ => law_lifted (s := Rows.hashTaggedSpec) Try.func11 (by kernel_rfl) rfl (by kernel_rfl)
      (fun ds hl => by
        rw [show Try.f11.params.size = 4 from by kernel_rfl] at hl
        match ds, hl with
        | [d0, d1, d2, d3], _ => exact ⟨rfl, rfl, rfl⟩)
      (by rw [Try.params11]; decide +kernel) os started
      (ChangeSpec.witness6 (enc := enc) (C := Try.checked) false ⟨#[], #[.int .u8 0, .slice none 0 0, .agg #[.int .u8 0, .int .u8 0, .int .u8 0, .int .u8 0, .int .u8 0, .int .u8 0, .int .u8 0, .int .u8 0], .agg #[.int .u8 0, .int .u8 0, .int .u8 0, .int .u8 0, .int .u8 0, .int .u8 0, .int .u8 0, .int .u8 0]], []⟩ 8 (by kernel_rfl) (by kernel_rfl) (by kernel_rfl) (by kernel_rfl))
      (fun W base args ds p hval hA hw => by
        rw [Try.params11] at hA hval hw
        obtain ⟨v0, r0, d0, s0, p0, q0, hargs, rfl, rfl, h0, g0⟩ := trodAll_cons hA
        obtain ⟨v1, r1, d1, s1, p1, q1, e1, rfl, rfl, h1, g1⟩ := trodAll_cons g0
        obtain ⟨v2, r2, d2, s2, p2, q2, e2, rfl, rfl, h2, g2⟩ := trodAll_cons g1
        obtain ⟨v3, r3, d3, s3, p3, q3, e3, rfl, rfl, h3, g3⟩ := trodAll_cons g2
        obtain ⟨e4, rfl, rfl⟩ := trodAll_nil g3
        have ha : args = #[v0, v1, v2, v3] := by
          apply Array.toList_inj.1
          rw [hargs, e1, e2, e3, e4]
        subst ha
        simp only [DataW.weightsEach, List.all_append, Bool.and_eq_true] at hw
        obtain ⟨w0, w1, w2, w3, _⟩ := hw
        obtain ⟨x0, o0⟩ := open_byte (hval 0 5 v0 rfl rfl) h0
        obtain ⟨x1, b1, o1⟩ := open_bytes (hval 1 34 v1 rfl rfl) h1 w1
        obtain ⟨x2, o2⟩ := open_nm (hval 2 23 v2 rfl rfl) h2
        obtain ⟨x3, o3⟩ := open_nm (hval 3 23 v3 rfl rfl) h3
        exact c_HashTagged (by omega) 0 v0 v1 v2 v3 W (Nat.zero_le _) o0 o1 o2 o3))

end Go.Proofs.Ytnmfiiejhoafnaa
