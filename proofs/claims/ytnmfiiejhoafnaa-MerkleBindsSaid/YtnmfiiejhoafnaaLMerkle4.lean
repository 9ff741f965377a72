/- The given statements, out of the walked laws. -/
import Derived.Test.YtnmfiiejhoafnaaFacts
import Derived.Test.YtnmfiiejhoafnaaLaw
import Derived.Test.YtnmfiiejhoafnaaMerkle4
namespace Go.Proofs.Ytnmfiiejhoafnaa
open Go Ex Calm Go.RowKit Go.ChangeShapes Go.WideShapes Go.ChangeAt

set_option maxRecDepth 100000 in
theorem merkleBinds_holds : Rows.MerkleBindsSaid :=
  OpenClaim.holds_of_wide 19 Try.f19 rfl rfl rfl rfl rfl rfl rfl ⟨rfl, rfl, rfl, rfl, rfl⟩ rfl rfl rfl rfl rfl (by kernel_rfl) Try.func19 (facts_of rfl rfl (by kernel_rfl) (by kernel_rfl) (by kernel_rfl) (by kernel_rfl))
    (of_decide_eq_true (by kernel_rfl)) (by unfold Func.isWrapper; first | (rw [if_pos (by decide +kernel)]; kernel_rfl) | (rw [if_neg (by decide +kernel)]; exact ⟨rfl, rfl⟩))
    (fun os started H enc _ => law_lifted (s := Rows.merkleBindsSpec) Try.func19 (by kernel_rfl) rfl (by kernel_rfl)
      (fun ds hl => by
        rw [show Try.f19.params.size = 7 from by kernel_rfl] at hl
        match ds, hl with
        | [d0, d1, d2, d3, d4, d5, d6], _ => exact ⟨rfl, rfl, rfl⟩)
      (by rw [Try.params19]; decide +kernel) os started
      (ChangeSpec.witness6 (enc := enc) (C := Try.checked) false ⟨#[], #[.agg #[.int .u8 0, .int .u8 0, .int .u8 0, .int .u8 0, .int .u8 0, .int .u8 0, .int .u8 0, .int .u8 0], .agg #[.int .u8 0, .int .u8 0, .int .u8 0, .int .u8 0, .int .u8 0, .int .u8 0, .int .u8 0, .int .u8 0], .agg #[.int .u8 0, .int .u8 0, .int .u8 0, .int .u8 0, .int .u8 0, .int .u8 0, .int .u8 0, .int .u8 0], .int .i64 0, .int .i64 0, .slice none 0 0, .slice none 0 0], []⟩ 8 (by kernel_rfl) (by kernel_rfl) (by kernel_rfl) (by kernel_rfl))
      (fun W base args ds p hval hA hw => by
        rw [Try.params19] at hA hval hw
        obtain ⟨v0, r0, d0, s0, p0, q0, hargs, rfl, rfl, h0, g0⟩ := trodAll_cons hA
        obtain ⟨v1, r1, d1, s1, p1, q1, e1, rfl, rfl, h1, g1⟩ := trodAll_cons g0
        obtain ⟨v2, r2, d2, s2, p2, q2, e2, rfl, rfl, h2, g2⟩ := trodAll_cons g1
        obtain ⟨v3, r3, d3, s3, p3, q3, e3, rfl, rfl, h3, g3⟩ := trodAll_cons g2
        obtain ⟨v4, r4, d4, s4, p4, q4, e4, rfl, rfl, h4, g4⟩ := trodAll_cons g3
        obtain ⟨v5, r5, d5, s5, p5, q5, e5, rfl, rfl, h5, g5⟩ := trodAll_cons g4
        obtain ⟨v6, r6, d6, s6, p6, q6, e6, rfl, rfl, h6, g6⟩ := trodAll_cons g5
        obtain ⟨e7, rfl, rfl⟩ := trodAll_nil g6
        have ha : args = #[v0, v1, v2, v3, v4, v5, v6] := by
          apply Array.toList_inj.1
          rw [hargs, e1, e2, e3, e4, e5, e6, e7]
        subst ha
        simp only [DataW.weightsEach, List.all_append, Bool.and_eq_true] at hw
        obtain ⟨w0, w1, w2, w3, w4, w5, w6, _⟩ := hw
        obtain ⟨x0, o0⟩ := open_nm (hval 0 23 v0 rfl rfl) h0
        obtain ⟨x1, o1⟩ := open_nm (hval 1 23 v1 rfl rfl) h1
        obtain ⟨x2, o2⟩ := open_nm (hval 2 23 v2 rfl rfl) h2
        obtain ⟨x3, o3⟩ := open_i64 (hval 3 3 v3 rfl rfl) h3
        obtain ⟨x4, o4⟩ := open_i64 (hval 4 3 v4 rfl rfl) h4
        obtain ⟨x5, b5, o5⟩ := open_nms (hval 5 39 v5 rfl rfl) h5 w5
        obtain ⟨x6, b6, o6⟩ := open_nms (hval 6 39 v6 rfl rfl) h6 w6
        exact c_MerkleBinds  0 v0 v1 v2 v3 v4 v5 v6 W (Nat.zero_le _) o0 o1 o2 o3 o4 o5 o6))

end Go.Proofs.Ytnmfiiejhoafnaa
