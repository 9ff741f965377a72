/- The given statements, out of the walked laws. -/
import Derived.Test.YtnmfiiejhoafnaaFacts
import Derived.Test.YtnmfiiejhoafnaaLaw
import Derived.Test.YtnmfiiejhoafnaaMerkle1
namespace Go.Proofs.Ytnmfiiejhoafnaa
open Go Ex Calm Go.RowKit Go.ChangeShapes Go.WideShapes Go.ChangeAt

set_option maxRecDepth 100000 in
theorem merkleDepths_holds : Rows.MerkleDepthsSaid :=
  OpenClaim.holds_of_wide 16 Try.f16 rfl rfl rfl rfl rfl rfl rfl ⟨rfl, rfl, rfl, rfl, rfl⟩ rfl rfl rfl rfl rfl (by kernel_rfl) Try.func16 (facts_of rfl rfl (by kernel_rfl) (by kernel_rfl) (by kernel_rfl) (by kernel_rfl))
    (of_decide_eq_true (by kernel_rfl)) (by unfold Func.isWrapper; first | (rw [if_pos (by decide +kernel)]; kernel_rfl) | (rw [if_neg (by decide +kernel)]; exact ⟨rfl, rfl⟩))
    (fun os started H enc _ => law_lifted (s := Rows.merkleDepthsSpec) Try.func16 (by kernel_rfl) rfl (by kernel_rfl)
      (fun ds hl => by
        rw [show Try.f16.params.size = 2 from by kernel_rfl] at hl
        match ds, hl with
        | [d0, d1], _ => exact ⟨rfl, rfl, rfl⟩)
      (by rw [Try.params16]; decide +kernel) os started
      (ChangeSpec.witness6 (enc := enc) (C := Try.checked) false ⟨#[], #[.int .i64 0, .int .i64 0], []⟩ 8 (by kernel_rfl) (by kernel_rfl) (by kernel_rfl) (by kernel_rfl))
      (fun W base args ds p hval hA hw => by
        rw [Try.params16] at hA hval hw
        obtain ⟨v0, r0, d0, s0, p0, q0, hargs, rfl, rfl, h0, g0⟩ := trodAll_cons hA
        obtain ⟨v1, r1, d1, s1, p1, q1, e1, rfl, rfl, h1, g1⟩ := trodAll_cons g0
        obtain ⟨e2, rfl, rfl⟩ := trodAll_nil g1
        have ha : args = #[v0, v1] := by
          apply Array.toList_inj.1
          rw [hargs, e1, e2]
        subst ha
        simp only [DataW.weightsEach, List.all_append, Bool.and_eq_true] at hw
        obtain ⟨w0, w1, _⟩ := hw
        obtain ⟨x0, o0⟩ := open_i64 (hval 0 3 v0 rfl rfl) h0
        obtain ⟨x1, o1⟩ := open_i64 (hval 1 3 v1 rfl rfl) h1
        exact c_MerkleDepths  0 v0 v1 W (Nat.zero_le _) o0 o1))

set_option maxRecDepth 100000 in
theorem merkleFollows_holds : Rows.MerkleFollowsSaid :=
  OpenClaim.holds_of_wide 17 Try.f17 rfl rfl rfl rfl rfl rfl rfl ⟨rfl, rfl, rfl, rfl, rfl⟩ rfl rfl rfl rfl rfl (by kernel_rfl) Try.func17 (facts_of rfl rfl (by kernel_rfl) (by kernel_rfl) (by kernel_rfl) (by kernel_rfl))
    (of_decide_eq_true (by kernel_rfl)) (by unfold Func.isWrapper; first | (rw [if_pos (by decide +kernel)]; kernel_rfl) | (rw [if_neg (by decide +kernel)]; exact ⟨rfl, rfl⟩))
    (fun os started H enc _ => law_lifted (s := Rows.merkleFollowsSpec) Try.func17 (by kernel_rfl) rfl (by kernel_rfl)
      (fun ds hl => by
        rw [show Try.f17.params.size = 5 from by kernel_rfl] at hl
        match ds, hl with
        | [d0, d1, d2, d3, d4], _ => exact ⟨rfl, rfl, rfl⟩)
      (by rw [Try.params17]; decide +kernel) os started
      (ChangeSpec.witness6 (enc := enc) (C := Try.checked) false ⟨#[], #[.agg #[.int .u8 0, .int .u8 0, .int .u8 0, .int .u8 0, .int .u8 0, .int .u8 0, .int .u8 0, .int .u8 0], .agg #[.int .u8 0, .int .u8 0, .int .u8 0, .int .u8 0, .int .u8 0, .int .u8 0, .int .u8 0, .int .u8 0], .int .i64 0, .int .i64 0, .slice none 0 0], []⟩ 8 (by kernel_rfl) (by kernel_rfl) (by kernel_rfl) (by kernel_rfl))
      (fun W base args ds p hval hA hw => by
        rw [Try.params17] at hA hval hw
        obtain ⟨v0, r0, d0, s0, p0, q0, hargs, rfl, rfl, h0, g0⟩ := trodAll_cons hA
        obtain ⟨v1, r1, d1, s1, p1, q1, e1, rfl, rfl, h1, g1⟩ := trodAll_cons g0
        obtain ⟨v2, r2, d2, s2, p2, q2, e2, rfl, rfl, h2, g2⟩ := trodAll_cons g1
        obtain ⟨v3, r3, d3, s3, p3, q3, e3, rfl, rfl, h3, g3⟩ := trodAll_cons g2
        obtain ⟨v4, r4, d4, s4, p4, q4, e4, rfl, rfl, h4, g4⟩ := trodAll_cons g3
        obtain ⟨e5, rfl, rfl⟩ := trodAll_nil g4
        have ha : args = #[v0, v1, v2, v3, v4] := by
          apply Array.toList_inj.1
          rw [hargs, e1, e2, e3, e4, e5]
        subst ha
        simp only [DataW.weightsEach, List.all_append, Bool.and_eq_true] at hw
        obtain ⟨w0, w1, w2, w3, w4, _⟩ := hw
        obtain ⟨x0, o0⟩ := open_nm (hval 0 23 v0 rfl rfl) h0
        obtain ⟨x1, o1⟩ := open_nm (hval 1 23 v1 rfl rfl) h1
        obtain ⟨x2, o2⟩ := open_i64 (hval 2 3 v2 rfl rfl) h2
        obtain ⟨x3, o3⟩ := open_i64 (hval 3 3 v3 rfl rfl) h3
        obtain ⟨x4, b4, o4⟩ := open_nms (hval 4 39 v4 rfl rfl) h4 w4
        exact c_MerkleFollows  0 v0 v1 v2 v3 v4 W (Nat.zero_le _) o0 o1 o2 o3 o4))

end Go.Proofs.Ytnmfiiejhoafnaa
