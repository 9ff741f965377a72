/- The given statements, out of the walked laws. -/
import Derived.Test.YtnmfiiejhoafnaaFacts
import Derived.Test.YtnmfiiejhoafnaaLaw
import Derived.Test.YtnmfiiejhoafnaaMerkle2
namespace Go.Proofs.Ytnmfiiejhoafnaa
open Go Ex Calm Go.RowKit Go.ChangeShapes Go.WideShapes Go.ChangeAt

set_option maxRecDepth 100000 in
theorem merkleSplits_holds : Rows.MerkleSplitsSaid :=
  OpenClaim.holds_of_wide 18 Try.f18 rfl rfl rfl rfl rfl rfl rfl ⟨rfl, rfl, rfl, rfl, rfl⟩ rfl rfl rfl rfl rfl (by kernel_rfl) Try.func18 (facts_of rfl rfl (by kernel_rfl) (by kernel_rfl) (by kernel_rfl) (by kernel_rfl))
    (of_decide_eq_true (by kernel_rfl)) (by unfold Func.isWrapper; first | (rw [if_pos (by decide +kernel)]; kernel_rfl) | (rw [if_neg (by decide +kernel)]; exact ⟨rfl, rfl⟩))
    (fun os started H enc _ => law_lifted (s := Rows.merkleSplitsSpec) Try.func18 (by kernel_rfl) rfl (by kernel_rfl)
      (fun ds hl => by
        rw [show Try.f18.params.size = 1 from by kernel_rfl] at hl
        match ds, hl with
        | [d0], _ => exact ⟨rfl, rfl, rfl⟩)
      (by rw [Try.params18]; decide +kernel) os started
      (ChangeSpec.witness6 (enc := enc) (C := Try.checked) false ⟨#[], #[.slice none 0 0], []⟩ 8 (by kernel_rfl) (by kernel_rfl) (by kernel_rfl) (by kernel_rfl))
      (fun W base args ds p hval hA hw => by
        rw [Try.params18] at hA hval hw
        obtain ⟨v0, r0, d0, s0, p0, q0, hargs, rfl, rfl, h0, g0⟩ := trodAll_cons hA
        obtain ⟨e1, rfl, rfl⟩ := trodAll_nil g0
        have ha : args = #[v0] := by
          apply Array.toList_inj.1
          rw [hargs, e1]
        subst ha
        simp only [DataW.weightsEach, List.all_append, Bool.and_eq_true] at hw
        obtain ⟨w0, _⟩ := hw
        obtain ⟨x0, b0, o0⟩ := open_nms (hval 0 39 v0 rfl rfl) h0 w0
        exact c_MerkleSplits  0 v0 W (Nat.zero_le _) o0))

set_option maxRecDepth 100000 in
theorem merkleRoots_holds : Rows.MerkleRootsSaid :=
  OpenClaim.holds_of_wide 20 Try.f20 rfl rfl rfl rfl rfl rfl rfl ⟨rfl, rfl, rfl, rfl, rfl⟩ rfl rfl rfl rfl rfl (by kernel_rfl) Try.func20 (facts_of rfl rfl (by kernel_rfl) (by kernel_rfl) (by kernel_rfl) (by kernel_rfl))
    (of_decide_eq_true (by kernel_rfl)) (by unfold Func.isWrapper; first | (rw [if_pos (by decide +kernel)]; kernel_rfl) | (rw [if_neg (by decide +kernel)]; exact ⟨rfl, rfl⟩))
    (fun os started H enc _ => law_lifted (s := Rows.merkleRootsSpec) Try.func20 (by kernel_rfl) rfl (by kernel_rfl)
      (fun ds hl => by
        rw [show Try.f20.params.size = 2 from by kernel_rfl] at hl
        match ds, hl with
        | [d0, d1], _ => exact ⟨rfl, rfl, rfl⟩)
      (by rw [Try.params20]; decide +kernel) os started
      (ChangeSpec.witness6 (enc := enc) (C := Try.checked) false ⟨#[], #[.slice none 0 0, .int .i64 0], []⟩ 8 (by kernel_rfl) (by kernel_rfl) (by kernel_rfl) (by kernel_rfl))
      (fun W base args ds p hval hA hw => by
        rw [Try.params20] at hA hval hw
        obtain ⟨v0, r0, d0, s0, p0, q0, hargs, rfl, rfl, h0, g0⟩ := trodAll_cons hA
        obtain ⟨v1, r1, d1, s1, p1, q1, e1, rfl, rfl, h1, g1⟩ := trodAll_cons g0
        obtain ⟨e2, rfl, rfl⟩ := trodAll_nil g1
        have ha : args = #[v0, v1] := by
          apply Array.toList_inj.1
          rw [hargs, e1, e2]
        subst ha
        simp only [DataW.weightsEach, List.all_append, Bool.and_eq_true] at hw
        obtain ⟨w0, w1, _⟩ := hw
        obtain ⟨x0, b0, o0⟩ := open_nms (hval 0 39 v0 rfl rfl) h0 w0
        obtain ⟨x1, o1⟩ := open_i64 (hval 1 3 v1 rfl rfl) h1
        exact c_MerkleRoots  0 v0 v1 W (Nat.zero_le _) o0 o1))

set_option maxRecDepth 100000 in
theorem merkleIncludes_holds : Rows.MerkleIncludesSaid :=
  OpenClaim.holds_of_wide 21 Try.f21 rfl rfl rfl rfl rfl rfl rfl ⟨rfl, rfl, rfl, rfl, rfl⟩ rfl rfl rfl rfl rfl (by kernel_rfl) Try.func21 (facts_of rfl rfl (by kernel_rfl) (by kernel_rfl) (by kernel_rfl) (by kernel_rfl))
    (of_decide_eq_true (by kernel_rfl)) (by unfold Func.isWrapper; first | (rw [if_pos (by decide +kernel)]; kernel_rfl) | (rw [if_neg (by decide +kernel)]; exact ⟨rfl, rfl⟩))
    (fun os started H enc _ => law_lifted (s := Rows.merkleIncludesSpec) Try.func21 (by kernel_rfl) rfl (by kernel_rfl)
      (fun ds hl => by
        rw [show Try.f21.params.size = 2 from by kernel_rfl] at hl
        match ds, hl with
        | [d0, d1], _ => exact ⟨rfl, rfl, rfl⟩)
      (by rw [Try.params21]; decide +kernel) os started
      (ChangeSpec.witness6 (enc := enc) (C := Try.checked) false ⟨#[], #[.slice none 0 0, .int .i64 0], []⟩ 8 (by kernel_rfl) (by kernel_rfl) (by kernel_rfl) (by kernel_rfl))
      (fun W base args ds p hval hA hw => by
        rw [Try.params21] at hA hval hw
        obtain ⟨v0, r0, d0, s0, p0, q0, hargs, rfl, rfl, h0, g0⟩ := trodAll_cons hA
        obtain ⟨v1, r1, d1, s1, p1, q1, e1, rfl, rfl, h1, g1⟩ := trodAll_cons g0
        obtain ⟨e2, rfl, rfl⟩ := trodAll_nil g1
        have ha : args = #[v0, v1] := by
          apply Array.toList_inj.1
          rw [hargs, e1, e2]
        subst ha
        simp only [DataW.weightsEach, List.all_append, Bool.and_eq_true] at hw
        obtain ⟨w0, w1, _⟩ := hw
        obtain ⟨x0, b0, o0⟩ := open_nms (hval 0 39 v0 rfl rfl) h0 w0
        obtain ⟨x1, o1⟩ := open_i64 (hval 1 3 v1 rfl rfl) h1
        exact c_MerkleIncludes  0 v0 v1 W (Nat.zero_le _) o0 o1))

end Go.Proofs.Ytnmfiiejhoafnaa
