/- Paths; the laws of trees. -/
import Derived.Test.YtnmfiiejhoafnaaMerkle1
namespace Go.Proofs.Ytnmfiiejhoafnaa
namespace Ex
open Go Calm Go.RowKit

theorem mod_len (i : Int) {n : Nat} (h : 1 ≤ n ∧ n ≤ 300) : (UInt64.ofNat (i % 18446744073709551616).toNat % UInt64.ofNat n).toNat < n := by
  have e : (UInt64.ofNat n).toNat = n := by rw [UInt64.toNat_ofNat']; omega
  have h1 := mod_lt (m := UInt64.ofNat (i % 18446744073709551616).toNat) (n := UInt64.ofNat n) (by omega)
  omega
theorem inc_all {L : List UInt64} {r : Nat} (h : r < L.length) : (((pathB L (r : Int) && decide (((pathV L (r : Int)).length : Int) = depI (r : Int) (L.length : Int))) && verB (root L) (L.getD r default) (r : Int) (L.length : Int) (pathV L (r : Int))) && true) = true := by
  have e1 : pathB L (r : Int) = true := (pathB_yes (by omega)).symm
  have e2 : pathV L (r : Int) = path L r := (pathV_yes (i := (r : Int)) (by omega)).symm
  have e3 := path_len L.length L r (Nat.le_refl _)
  have e4 := depI_yes h
  have e5 := comp_path L.length L r (Nat.le_refl _) h
  have hc : 0 ≤ depI (r : Int) (L.length : Int) ∧ ((path L r).length : Int) = depI (r : Int) (L.length : Int) := by rw [e3, e4]; omega
  have e6 : folB (r : Int) (L.length : Int) (path L r) = true := (folB_yes hc).symm
  have e7 : folV (L.getD r default) (r : Int) (L.length : Int) (path L r) = root L := by
    rw [← folV_yes hc]
    exact e5
  unfold verB
  rw [e1, e2, e6, e7, decide_eq_true hc.2]
  simp

set_option maxRecDepth 100000 in
theorem c_climb_step {l : List UInt64} {i : Nat} {iz : Int} (hl : l.length ≤ 1000000) (hi : i < l.length) (hz : iz = (i : Int)) (ih : ∀ (m : List UInt64) (j : Nat) (jz : Int), m.length < l.length → j < m.length → jz = (j : Int) → Con2 118 (Sl elNm m) (Is (intV jz)) (fun lo => OwnS lo elNm (path m j))) : Con2 118 (Sl elNm l) (Is (intV iz)) (fun lo => OwnS lo elNm (path l i)) := by
  intro lo v0 v1 w0 hlo hv0 hv1
  refine enter Try.func118 rfl Try.ntmps118 (by simp) ?_
  intro a0 hf0 ha
  have h00 : Holds (Is v0) (a0.eval (.tmp 0)) w0 := arg_holds ha rfl rfl
  have h01 : Holds _ (a0.eval (.tmp 1)) w0 := arg_holds ha rfl hv1
  clear ha
  have g0 : Grow w0 w0 := Grow.refl _
  refine wp_seq ?_
  refine wp_region_lit ?_
  refine wp_all [([], [])] [0, 1] w0.heap.size hf0 g0.size (by kernel_rfl) bund_nil ?_
  refine ch rfl (ob_assign (arg_cg (G := Any) (fun w => trivial))) ?_
  refine ch_nil ?_
  intro a1 w2 hf3 hg4 hk5 hn6
  have h7 : Holds _ (a1.eval (.tmp 0)) w0 := hk5.holds rfl h00
  have h8 : Holds _ (a1.eval (.tmp 1)) w0 := hk5.holds rfl h01
  have g9 : Grow w0 w2 := g0.trans hg4
  clear h00 h01 g0 hf0 hk5 hn6
  refine then_ ?_
  refine wp_seq ?_
  refine wp_seq ?_
  refine wp_region_lit ?_
  refine wp_all [([0], []), ([], [0]), ([], [1])] [0, 1] w0.heap.size hf3 g9.size (by kernel_rfl) (bund_cons (is_any h7) bund_nil) ?_
  refine ch rfl (ob_move (arg_free 0 rfl rfl)) ?_
  refine ch rfl (ob_len (ArgOK.val (arg_op 0 0 rfl rfl rfl rfl) (hv0.up g9)) Try.underlying39) ?_
  refine ch rfl (ob_eql (arg_op 1 0 rfl rfl rfl rfl) arg_c) ?_
  refine ch_nil ?_
  intro a10 w11 hf12 hg13 hk14 hn15
  have h16 : Holds _ (a10.eval (.tmp 10)) w11 := hn15.at 2 0 rfl rfl rfl
  have h17 : Holds _ (a10.eval (.tmp 0)) w0 := hk14.holds rfl h7
  have h18 : Holds _ (a10.eval (.tmp 1)) w0 := hk14.holds rfl h8
  have g19 : Grow w0 w11 := g9.trans hg13
  clear h7 h8 g9 hf3 hk14 hn15 hg13
  refine then_ ?_
  refine wp_if h16 ?_ ?_
  · intro hc20
    try simp only [cond_norm] at hc20
    refine wp_seq ?_
    have g21 : Grow w11 w11 := Grow.refl _
    have hz22 : w0.heap.size ≤ w11.heap.size := g19.size
    refine wp_region_lit ?_
    refine wp_all [([], [])] [] w11.heap.size hf12 g21.size (by kernel_rfl) bund_nil ?_
    refine ch rfl (ob_assign (arg_cg (G := OwnS w11.heap.size elNm []) (fun w => own_nil))) ?_
    refine ch_nil ?_
    intro a23 w24 hf25 hg26 hk27 hn28
    have h29 : Holds (OwnS w11.heap.size _ _) (a23.eval (.tmp 4)) w24 := hn28.at 0 0 rfl rfl rfl
    have g30 : Grow w0 w24 := g19.trans hg26
    have g31 : Grow w11 w24 := g21.trans hg26
    clear g19 g21 hf12 hk27 hn28
    obtain ⟨V32, h33, hV34⟩ := nameV h29
    clear h29
    refine then_ ?_
    refine wp_ret ?_
    refine thenR ?_
    exact ret_tmp rfl hf25 g30 (OwnS.mono (cast_own (by first | exact (path_one i (by omega)).symm | (rw [List.take_length]; first | exact (path_left (by omega) (by omega)).symm | exact (path_right (by omega) (by omega)).symm)) (unV h33 hV34)) (by omega))
  · intro hc20
    try simp only [cond_norm] at hc20
    refine wp_skip ?_
    refine then_ ?_
    refine wp_seq ?_
    refine wp_region_lit ?_
    refine wp_all [([], [])] [0, 1] w0.heap.size hf12 g19.size (by kernel_rfl) bund_nil ?_
    refine ch rfl (ob_assign (arg_cg (G := Any) (fun w => trivial))) ?_
    refine ch_nil ?_
    intro a35 w36 hf37 hg38 hk39 hn40
    have h41 : Holds _ (a35.eval (.tmp 0)) w0 := hk39.holds rfl h17
    have h42 : Holds _ (a35.eval (.tmp 1)) w0 := hk39.holds rfl h18
    have g43 : Grow w0 w36 := g19.trans hg38
    clear h17 h18 g19 hf12 hk39 hn40 hg38
    refine then_ ?_
    refine wp_seq ?_
    refine wp_region_lit ?_
    have g44 : Grow w36 w36 := Grow.refl _
    have hz45 : w0.heap.size ≤ w36.heap.size := g43.size
    refine wp_all [([], [])] [0, 1] w36.heap.size hf37 g44.size (by kernel_rfl) bund_nil ?_
    refine ch rfl (ob_alloc_nm) ?_
    refine ch_nil ?_
    intro a46 w47 hf48 hg49 hk50 hn51
    have h52 : Holds _ (a46.eval (.tmp 6)) w47 := hn51.at 0 0 rfl rfl rfl
    have h53 : Holds _ (a46.eval (.tmp 0)) w0 := hk50.holds rfl h41
    have h54 : Holds _ (a46.eval (.tmp 1)) w0 := hk50.holds rfl h42
    have g55 : Grow w0 w47 := g43.trans hg49
    have g56 : Grow w36 w47 := g44.trans hg49
    obtain ⟨bk57, hl58, hv59, hb60⟩ := OwnB.blk (lo := w36.heap.size) h52
    clear h41 h42 g43 g44 hf37 hk50 hn51
    refine then_ ?_
    refine wp_seq ?_
    refine wp_seq ?_
    have hb := split_bound (n := l.length) (by omega)
    have g61 : Grow w47 w47 := Grow.refl _
    have hl62 : bk57 < w47.heap.size := hb60.lt
    have hz63 : w36.heap.size ≤ w47.heap.size := g56.size
    refine wp_region_lit ?_
    refine wp_all [([0], []), ([], [0]), ([], [1]), ([], [2])] [0, 1, 6] w47.heap.size hf48 g61.size (by kernel_rfl) (bund_cons (is_any h53) bund_nil) ?_
    refine ch rfl (ob_move (arg_free 0 rfl rfl)) ?_
    refine ch rfl (ob_len (ArgOK.val (arg_op 0 0 rfl rfl rfl rfl) (hv0.up g55)) Try.underlying39) ?_
    refine ch rfl (ob_call1 (by kernel_rfl) (c_split (n := l.length) ?_ ?_) (arg_op 1 0 rfl rfl rfl rfl)) ?_
    · omega
    · rfl
    refine ch rfl (ob_assign (arg_op 2 0 rfl rfl rfl rfl)) ?_
    refine ch_nil ?_
    intro a64 w65 hf66 hg67 hk68 hn69
    have h70 : Holds _ (a64.eval (.tmp 7)) w65 := hn69.at 3 0 rfl rfl rfl
    have h71 : Holds _ (a64.eval (.tmp 0)) w0 := hk68.holds rfl h53
    have h72 : Holds _ (a64.eval (.tmp 1)) w0 := hk68.holds rfl h54
    have hv73 : Holds (Is (PtrV bk57)) (a64.eval (.tmp 6)) w65 := is_any (hk68.holds rfl hv59)
    have hb74 : Blk bk57 _ w65 := hb60.up hg67
    have g75 : Grow w0 w65 := g55.trans hg67
    have g76 : Grow w36 w65 := g56.trans hg67
    have g77 : Grow w47 w65 := g61.trans hg67
    clear h53 h54 hv59 hb60 g55 g56 g61 hf48 hk68 hn69
    refine then_ ?_
    refine wp_seq ?_
    refine wp_region_lit ?_
    refine wp_all [([1], []), ([7], []), ([], [0, 1])] [0, 1, 6, 7] w47.heap.size hf66 g77.size (by kernel_rfl) (bund_cons (is_any h72) (bund_cons h70 bund_nil)) ?_
    refine ch rfl (ob_move (arg_free 0 rfl rfl)) ?_
    refine ch rfl (ob_move (arg_free 1 rfl rfl)) ?_
    refine ch rfl (ob_lss (arg_op 0 1 rfl rfl rfl rfl) (arg_op 1 0 rfl rfl rfl rfl)) ?_
    refine ch_nil ?_
    intro a78 w79 hf80 hg81 hk82 hn83
    have h84 : Holds _ (a78.eval (.tmp 16)) w79 := hn83.at 2 0 rfl rfl rfl
    have h85 : Holds _ (a78.eval (.tmp 7)) w79 := hk82.holds rfl (h70.up hg81)
    have h86 : Holds _ (a78.eval (.tmp 0)) w0 := hk82.holds rfl h71
    have h87 : Holds _ (a78.eval (.tmp 1)) w0 := hk82.holds rfl h72
    have hv88 : Holds (Is (PtrV bk57)) (a78.eval (.tmp 6)) w79 := is_any (hk82.holds rfl hv73)
    have hb89 : Blk bk57 _ w79 := hb74.up hg81
    have g90 : Grow w0 w79 := g75.trans hg81
    have g91 : Grow w36 w79 := g76.trans hg81
    have g92 : Grow w47 w79 := g77.trans hg81
    clear h70 h71 h72 hv73 hb74 g75 g76 g77 hf66 hk82 hn83 hg81
    refine then_ ?_
    refine wp_if h84 ?_ ?_
    · intro hc93
      try simp only [cond_norm] at hc93
      have g94 : Grow w79 w79 := Grow.refl _
      have hl95 : bk57 < w79.heap.size := hb89.lt
      have hz96 : w47.heap.size ≤ w79.heap.size := g92.size
      refine wp_calm_tail (l1 := [_, _, _, _, _, _, _, _, _, _, _]) [0, 0, 0, 7, 0, 31, 0, 0, 192, 511, 1023, 2047] [([0], []), ([7], []), ([7], []), ([], [0, 1, 2]), ([1], []), ([], [3, 4]), ([0], []), ([7], []), ([], [6, 7]), ([], [8]), ([], [5])] [6] w79.heap.size hf80 g94.size (by kernel_rfl) (bund_cons (is_any h86) (bund_cons h85 (bund_cons (is_any h87) bund_nil))) ?_
      intro ws97 hs98
      refine ch rfl (ob_move (arg_free 0 rfl rfl)) ?_
      refine ch rfl (ob_move (arg_free 1 rfl rfl)) ?_
      refine ch rfl (ob_move (arg_free 1 rfl rfl)) ?_
      refine ch rfl (ob_slice_to3 (ArgOK.val (arg_op 0 2 rfl rfl rfl rfl) ((hv0.up g90).up hs98)) (arg_op 1 1 rfl rfl rfl rfl) (arg_op 2 0 rfl rfl rfl rfl) (⟨rfl, rfl⟩) ?_ Try.underlying39 szNm) ?_
      · exact ⟨Nat.le_refl _, by omega⟩
      refine ch rfl (ob_move (arg_free 2 rfl rfl)) ?_
      refine ch rfl (ob_call2 (by kernel_rfl) (ih _ (i) _ ?_ ?_ ?_) (arg_op 3 1 rfl rfl rfl rfl) (arg_op 4 0 rfl rfl rfl rfl)) ?_
      · ((try simp only [List.length_take, List.length_drop, List.length_cons, List.length_nil]); omega)
      · ((try simp only [List.length_take, List.length_drop, List.length_cons, List.length_nil]); omega)
      · omega
      refine ch rfl (ob_move (arg_free 0 rfl rfl)) ?_
      refine ch rfl (ob_move (arg_free 1 rfl rfl)) ?_
      refine ch rfl (ob_slice_from (ArgOK.val (arg_op 6 1 rfl rfl rfl rfl) ((hv0.up g90).up hs98)) (arg_op 7 0 rfl rfl rfl rfl) (rfl) ?_ Try.underlying39 szNm) ?_
      · omega
      refine ch rfl (ob_call1 (by kernel_rfl) (c_Root ?_) (arg_op 8 0 rfl rfl rfl rfl)) ?_
      · ((try simp only [List.length_take, List.length_drop, List.length_cons, List.length_nil]); omega)
      refine ch rfl (ob_assign (arg_op 5 4 rfl rfl rfl rfl)) ?_
      refine ch_nil ?_
      intro a99 w100 hf101 hg102 hk103 hn104
      have h105 : Holds _ (a99.eval (.tmp 26)) w100 := hn104.at 9 1 rfl rfl rfl
      have h106 : Holds (OwnS w79.heap.size _ _) (a99.eval (.tmp 5)) w100 := hn104.at 10 0 rfl rfl rfl
      have hv107 : Holds (Is (PtrV bk57)) (a99.eval (.tmp 6)) w100 := is_any (hk103.holds rfl hv88)
      have hb108 : Blk bk57 _ w100 := hb89.up hg102
      have g109 : Grow w0 w100 := g90.trans hg102
      have g110 : Grow w36 w100 := g91.trans hg102
      have g111 : Grow w47 w100 := g92.trans hg102
      have g112 : Grow w79 w100 := g94.trans hg102
      clear hv88 hb89 g90 g91 g92 g94 hf80 hk103 hn104
      obtain ⟨V113, h114, hV115⟩ := nameV h106
      clear h106
      refine wl_store_nm hv107 hb108 rfl h105 ?_
      intro w116 ho117 hb118
      have g119 : Grow w0 w116 := g109.only ho117 (by omega)
      have g120 : Grow w36 w116 := g110.only ho117 (by omega)
      have h121 : Holds _ (a99.eval (.tmp 5)) w116 := is_any h114
      have hv122 : Holds (Is (PtrV bk57)) (a99.eval (.tmp 6)) w116 := is_any hv107
      have hV123 : Holds _ V113 w116 := OwnS.only hV115 ho117 (by omega)
      refine wpList_nil ?_
      refine then_ ?_
      refine wp_seq ?_
      have hp1 := path_le (l.take (split l.length)) i
      have hp2 := path_le (l.drop (split l.length)) (i - split l.length)
      have hq1 : (l.take (split l.length)).length ≤ l.length := by rw [List.length_take]; omega
      have hq2 : (l.drop (split l.length)).length ≤ l.length := by rw [List.length_drop]; omega
      have g124 : Grow w116 w116 := Grow.refl _
      have hl125 : bk57 < w116.heap.size := hb118.lt
      have hz126 : w36.heap.size ≤ w116.heap.size := g120.size
      refine wp_calm [0, 0, 2, 0, 8, 31, 0, 64, 255, 511] [([5], []), ([5], []), ([], [1]), ([5], []), ([], [3]), ([], [0, 2, 4]), ([6], []), ([], [6]), ([], [5, 7]), ([], [8])] [] w116.heap.size hf101 g124.size (by kernel_rfl) (bund_cons h121 (bund_cons (hb118.ownp hv122) bund_nil)) ?_
      intro ws127 hs128
      refine ch rfl (ob_move (arg_free 0 rfl rfl)) ?_
      refine ch rfl (ob_move (arg_free 0 rfl rfl)) ?_
      refine ch rfl (ob_len (ArgOK.sl (ArgOK.val (arg_op 1 0 rfl rfl rfl rfl) (hV123.up hs128))) Try.underlying39) ?_
      refine ch rfl (ob_move (arg_free 0 rfl rfl)) ?_
      refine ch rfl (ob_len (ArgOK.sl (ArgOK.val (arg_op 3 0 rfl rfl rfl rfl) (hV123.up hs128))) Try.underlying39) ?_
      refine ch rfl (ob_slice_full (ArgOK.sl (ArgOK.val (arg_op 0 4 rfl rfl rfl rfl) (hV123.up hs128))) (arg_op 2 2 rfl rfl rfl rfl) (arg_op 4 0 rfl rfl rfl rfl) (⟨rfl, rfl⟩) ?_ Try.underlying39 szNm) ?_
      · exact Nat.le_refl _
      refine ch rfl (ob_load_nm (ArgOK.ownp (arg_free 1 rfl rfl))) ?_
      refine ch rfl (ob_bs1_nm (arg_op 6 0 rfl rfl rfl rfl)) ?_
      refine ch rfl (ob_append_new elNmP Try.underlying39 (arg_op 5 2 rfl rfl rfl rfl) (ArgOK.sl (ArgOK.ownf (arg_op 7 0 rfl rfl rfl rfl))) ?_) ?_
      · (refine ⟨List.cons_ne_nil _ _, ?_, ?_⟩ <;> simp only [List.take_length, List.length_cons, List.length_nil, elNm] <;> omega)
      refine ch rfl (ob_assign (arg_op 8 0 rfl rfl rfl rfl)) ?_
      refine ch_nil ?_
      intro a129 w130 hf131 hg132 hk133 hn134
      have h135 : Holds (OwnS w116.heap.size _ _) (a129.eval (.tmp 4)) w130 := hn134.at 9 0 rfl rfl rfl
      have g136 : Grow w0 w130 := g119.trans hg132
      have g137 : Grow w36 w130 := g120.trans hg132
      have g138 : Grow w116 w130 := g124.trans hg132
      clear g119 g120 g124 hf101 hk133 hn134
      obtain ⟨V139, h140, hV141⟩ := nameV h135
      clear h135
      refine then_ ?_
      refine wp_ret ?_
      exact ret_tmp rfl hf131 g136 (OwnS.mono (cast_own (by first | exact (path_one i (by omega)).symm | (rw [List.take_length]; first | exact (path_left (by omega) (by omega)).symm | exact (path_right (by omega) (by omega)).symm)) (unV h140 hV141)) (by omega))
    · intro hc93
      try simp only [cond_norm] at hc93
      have g142 : Grow w79 w79 := Grow.refl _
      have hl143 : bk57 < w79.heap.size := hb89.lt
      have hz144 : w47.heap.size ≤ w79.heap.size := g92.size
      refine wp_calm_tail (l1 := [_, _, _, _, _, _, _, _, _, _, _, _, _]) [0, 0, 3, 0, 0, 24, 63, 0, 0, 0, 896, 2047, 4095, 8191] [([0], []), ([7], []), ([], [0, 1]), ([1], []), ([7], []), ([], [3, 4]), ([], [2, 5]), ([0], []), ([7], []), ([7], []), ([], [7, 8, 9]), ([], [10]), ([], [6])] [6] w79.heap.size hf80 g142.size (by kernel_rfl) (bund_cons (is_any h86) (bund_cons h85 (bund_cons (is_any h87) bund_nil))) ?_
      intro ws145 hs146
      refine ch rfl (ob_move (arg_free 0 rfl rfl)) ?_
      refine ch rfl (ob_move (arg_free 1 rfl rfl)) ?_
      refine ch rfl (ob_slice_from (ArgOK.val (arg_op 0 1 rfl rfl rfl rfl) ((hv0.up g90).up hs146)) (arg_op 1 0 rfl rfl rfl rfl) (rfl) ?_ Try.underlying39 szNm) ?_
      · omega
      refine ch rfl (ob_move (arg_free 2 rfl rfl)) ?_
      refine ch rfl (ob_move (arg_free 1 rfl rfl)) ?_
      first
        | (refine ch rfl (ob_sub' (arg_op 3 1 rfl rfl rfl rfl) (arg_op 4 0 rfl rfl rfl rfl) ?_) ?_; · omega)
        | refine ch rfl (ob_sub (arg_op 3 1 rfl rfl rfl rfl) (arg_op 4 0 rfl rfl rfl rfl)) ?_
      refine ch rfl (ob_call2 (by kernel_rfl) (ih _ (i - split l.length) _ ?_ ?_ ?_) (arg_op 2 3 rfl rfl rfl rfl) (arg_op 5 0 rfl rfl rfl rfl)) ?_
      · ((try simp only [List.length_take, List.length_drop, List.length_cons, List.length_nil]); omega)
      · ((try simp only [List.length_take, List.length_drop, List.length_cons, List.length_nil]); omega)
      · omega
      refine ch rfl (ob_move (arg_free 0 rfl rfl)) ?_
      refine ch rfl (ob_move (arg_free 1 rfl rfl)) ?_
      refine ch rfl (ob_move (arg_free 1 rfl rfl)) ?_
      refine ch rfl (ob_slice_to3 (ArgOK.val (arg_op 7 2 rfl rfl rfl rfl) ((hv0.up g90).up hs146)) (arg_op 8 1 rfl rfl rfl rfl) (arg_op 9 0 rfl rfl rfl rfl) (⟨rfl, rfl⟩) ?_ Try.underlying39 szNm) ?_
      · exact ⟨Nat.le_refl _, by omega⟩
      refine ch rfl (ob_call1 (by kernel_rfl) (c_Root ?_) (arg_op 10 0 rfl rfl rfl rfl)) ?_
      · ((try simp only [List.length_take, List.length_drop, List.length_cons, List.length_nil]); omega)
      refine ch rfl (ob_assign (arg_op 6 5 rfl rfl rfl rfl)) ?_
      refine ch_nil ?_
      intro a147 w148 hf149 hg150 hk151 hn152
      have h153 : Holds _ (a147.eval (.tmp 38)) w148 := hn152.at 11 1 rfl rfl rfl
      have h154 : Holds (OwnS w79.heap.size _ _) (a147.eval (.tmp 5)) w148 := hn152.at 12 0 rfl rfl rfl
      have hv155 : Holds (Is (PtrV bk57)) (a147.eval (.tmp 6)) w148 := is_any (hk151.holds rfl hv88)
      have hb156 : Blk bk57 _ w148 := hb89.up hg150
      have g157 : Grow w0 w148 := g90.trans hg150
      have g158 : Grow w36 w148 := g91.trans hg150
      have g159 : Grow w47 w148 := g92.trans hg150
      have g160 : Grow w79 w148 := g142.trans hg150
      clear hv88 hb89 g90 g91 g92 g142 hf80 hk151 hn152
      obtain ⟨V161, h162, hV163⟩ := nameV h154
      clear h154
      refine wl_store_nm hv155 hb156 rfl h153 ?_
      intro w164 ho165 hb166
      have g167 : Grow w0 w164 := g157.only ho165 (by omega)
      have g168 : Grow w36 w164 := g158.only ho165 (by omega)
      have h169 : Holds _ (a147.eval (.tmp 5)) w164 := is_any h162
      have hv170 : Holds (Is (PtrV bk57)) (a147.eval (.tmp 6)) w164 := is_any hv155
      have hV171 : Holds _ V161 w164 := OwnS.only hV163 ho165 (by omega)
      refine wpList_nil ?_
      refine then_ ?_
      refine wp_seq ?_
      have hp1 := path_le (l.take (split l.length)) i
      have hp2 := path_le (l.drop (split l.length)) (i - split l.length)
      have hq1 : (l.take (split l.length)).length ≤ l.length := by rw [List.length_take]; omega
      have hq2 : (l.drop (split l.length)).length ≤ l.length := by rw [List.length_drop]; omega
      have g172 : Grow w164 w164 := Grow.refl _
      have hl173 : bk57 < w164.heap.size := hb166.lt
      have hz174 : w36.heap.size ≤ w164.heap.size := g168.size
      refine wp_calm [0, 0, 2, 0, 8, 31, 0, 64, 255, 511] [([5], []), ([5], []), ([], [1]), ([5], []), ([], [3]), ([], [0, 2, 4]), ([6], []), ([], [6]), ([], [5, 7]), ([], [8])] [] w164.heap.size hf149 g172.size (by kernel_rfl) (bund_cons h169 (bund_cons (hb166.ownp hv170) bund_nil)) ?_
      intro ws175 hs176
      refine ch rfl (ob_move (arg_free 0 rfl rfl)) ?_
      refine ch rfl (ob_move (arg_free 0 rfl rfl)) ?_
      refine ch rfl (ob_len (ArgOK.sl (ArgOK.val (arg_op 1 0 rfl rfl rfl rfl) (hV171.up hs176))) Try.underlying39) ?_
      refine ch rfl (ob_move (arg_free 0 rfl rfl)) ?_
      refine ch rfl (ob_len (ArgOK.sl (ArgOK.val (arg_op 3 0 rfl rfl rfl rfl) (hV171.up hs176))) Try.underlying39) ?_
      refine ch rfl (ob_slice_full (ArgOK.sl (ArgOK.val (arg_op 0 4 rfl rfl rfl rfl) (hV171.up hs176))) (arg_op 2 2 rfl rfl rfl rfl) (arg_op 4 0 rfl rfl rfl rfl) (⟨rfl, rfl⟩) ?_ Try.underlying39 szNm) ?_
      · exact Nat.le_refl _
      refine ch rfl (ob_load_nm (ArgOK.ownp (arg_free 1 rfl rfl))) ?_
      refine ch rfl (ob_bs1_nm (arg_op 6 0 rfl rfl rfl rfl)) ?_
      refine ch rfl (ob_append_new elNmP Try.underlying39 (arg_op 5 2 rfl rfl rfl rfl) (ArgOK.sl (ArgOK.ownf (arg_op 7 0 rfl rfl rfl rfl))) ?_) ?_
      · (refine ⟨List.cons_ne_nil _ _, ?_, ?_⟩ <;> simp only [List.take_length, List.length_cons, List.length_nil, elNm] <;> omega)
      refine ch rfl (ob_assign (arg_op 8 0 rfl rfl rfl rfl)) ?_
      refine ch_nil ?_
      intro a177 w178 hf179 hg180 hk181 hn182
      have h183 : Holds (OwnS w164.heap.size _ _) (a177.eval (.tmp 4)) w178 := hn182.at 9 0 rfl rfl rfl
      have g184 : Grow w0 w178 := g167.trans hg180
      have g185 : Grow w36 w178 := g168.trans hg180
      have g186 : Grow w164 w178 := g172.trans hg180
      clear g167 g168 g172 hf149 hk181 hn182
      obtain ⟨V187, h188, hV189⟩ := nameV h183
      clear h183
      refine then_ ?_
      refine wp_ret ?_
      exact ret_tmp rfl hf179 g184 (OwnS.mono (cast_own (by first | exact (path_one i (by omega)).symm | (rw [List.take_length]; first | exact (path_left (by omega) (by omega)).symm | exact (path_right (by omega) (by omega)).symm)) (unV h188 hV189)) (by omega))


theorem c_climb : ∀ {l : List UInt64} {i : Nat} {iz : Int} (_ : l.length ≤ 1000000) (_ : i < l.length) (_ : iz = (i : Int)), Con2 118 (Sl elNm l) (Is (intV iz)) (fun lo => OwnS lo elNm (path l i)) := by
  have key : ∀ (n : Nat) (l : List UInt64) (i : Nat) (iz : Int), l.length = n → n ≤ 1000000 → i < n → iz = (i : Int) → Con2 118 (Sl elNm l) (Is (intV iz)) (fun lo => OwnS lo elNm (path l i)) := by
    intro n
    induction n using Nat.strongRecOn with
    | _ n ih =>
      intro l i iz h1 h2 h3 h4
      exact c_climb_step (by omega) (by omega) h4 fun m j jz g1 g2 g3 => ih m.length (by omega) m j jz rfl (by omega) g2 g3
  intro l i iz h1 h2 h3
  exact key l.length l i iz rfl h1 h2 h3

set_option maxRecDepth 100000 in
theorem c_Path {l : List UInt64} {i : Int} (hl : l.length ≤ 1000000) (hi : -9223372036854775808 ≤ i) : Con2 66 (Sl elNm l) (Is (intV i)) (fun lo => Two (OwnS lo elNm (pathV l i)) (Is (.bool (pathB l i)))) := by
  intro lo v0 v1 w0 hlo hv0 hv1
  refine enter Try.func66 rfl Try.ntmps66 (by simp) ?_
  intro a0 hf0 ha
  have h00 : Holds (Is v0) (a0.eval (.tmp 0)) w0 := arg_holds ha rfl rfl
  have h01 : Holds _ (a0.eval (.tmp 1)) w0 := arg_holds ha rfl hv1
  clear ha
  have g0 : Grow w0 w0 := Grow.refl _
  refine wp_seq ?_
  refine wp_region_lit ?_
  refine wp_all [([], []), ([], [])] [0, 1] w0.heap.size hf0 g0.size (by kernel_rfl) bund_nil ?_
  refine ch rfl (ob_assign (arg_cg (G := Any) (fun w => trivial))) ?_
  refine ch rfl (ob_assign arg_c) ?_
  refine ch_nil ?_
  intro a1 w2 hf3 hg4 hk5 hn6
  have h7 : Holds _ (a1.eval (.tmp 0)) w0 := hk5.holds rfl h00
  have h8 : Holds _ (a1.eval (.tmp 1)) w0 := hk5.holds rfl h01
  have g9 : Grow w0 w2 := g0.trans hg4
  clear h00 h01 g0 hf0 hk5 hn6
  refine then_ ?_
  refine wp_seq ?_
  refine wp_seq ?_
  have g10 : Grow w2 w2 := Grow.refl _
  have hz11 : w0.heap.size ≤ w2.heap.size := g9.size
  refine wp_region_lit ?_
  refine wp_all [([1], []), ([0], []), ([], [1]), ([], [0, 2]), ([], [3])] [0, 1] w2.heap.size hf3 g10.size (by kernel_rfl) (bund_cons (is_any h8) (bund_cons (is_any h7) bund_nil)) ?_
  refine ch rfl (ob_move (arg_free 0 rfl rfl)) ?_
  refine ch rfl (ob_move (arg_free 1 rfl rfl)) ?_
  refine ch rfl (ob_len (ArgOK.val (arg_op 1 0 rfl rfl rfl rfl) (hv0.up g9)) Try.underlying39) ?_
  refine ch rfl (ob_call2 (by kernel_rfl) (c_Depth ?_ ?_) (arg_op 0 2 rfl rfl rfl rfl) (arg_op 2 0 rfl rfl rfl rfl)) ?_
  · omega
  · omega
  refine ch rfl (ob_lss (arg_op 3 0 rfl rfl rfl rfl) arg_c) ?_
  refine ch_nil ?_
  intro a12 w13 hf14 hg15 hk16 hn17
  have h18 : Holds _ (a12.eval (.tmp 10)) w13 := hn17.at 4 0 rfl rfl rfl
  have h19 : Holds _ (a12.eval (.tmp 0)) w0 := hk16.holds rfl h7
  have h20 : Holds _ (a12.eval (.tmp 1)) w0 := hk16.holds rfl h8
  have g21 : Grow w0 w13 := g9.trans hg15
  have g22 : Grow w2 w13 := g10.trans hg15
  clear h7 h8 g9 g10 hf3 hk16 hn17
  refine then_ ?_
  refine wp_if h18 ?_ ?_
  · intro hc23
    try simp only [cond_norm] at hc23
    have hno := depI_neg hc23
    refine wp_seq ?_
    have g24 : Grow w13 w13 := Grow.refl _
    have hz25 : w2.heap.size ≤ w13.heap.size := g22.size
    refine wp_region_lit ?_
    refine wp_all [([], []), ([], [])] [] w13.heap.size hf14 g24.size (by kernel_rfl) bund_nil ?_
    refine ch rfl (ob_assign (arg_cg (G := OwnS w13.heap.size elNm []) (fun w => own_nil))) ?_
    refine ch rfl (ob_assign arg_c) ?_
    refine ch_nil ?_
    intro a26 w27 hf28 hg29 hk30 hn31
    have h32 : Holds (OwnS w13.heap.size _ _) (a26.eval (.tmp 4)) w27 := hn31.at 0 1 rfl rfl rfl
    have h33 : Holds _ (a26.eval (.tmp 5)) w27 := hn31.at 1 0 rfl rfl rfl
    have g34 : Grow w0 w27 := g21.trans hg29
    have g35 : Grow w2 w27 := g22.trans hg29
    have g36 : Grow w13 w27 := g24.trans hg29
    clear g21 g22 g24 hf14 hk30 hn31
    obtain ⟨V37, h38, hV39⟩ := nameV h32
    clear h32
    refine then_ ?_
    refine wp_ret ?_
    refine thenR ?_
    exact ret_tmp2 rfl hf28 g34 (OwnS.mono (cast_own (by first | exact pathV_no (by omega) | exact pathV_yes (by omega)) (unV h38 hV39)) (by omega)) (is_cast h33 (congrArg Value.bool (by first | exact pathB_no (by omega) | exact pathB_yes (by omega))))
  · intro hc23
    try simp only [cond_norm] at hc23
    have hyes := depI_pos (Int.not_lt.1 hc23)
    refine wp_skip ?_
    refine then_ ?_
    refine wp_seq ?_
    have g40 : Grow w13 w13 := Grow.refl _
    have hz41 : w2.heap.size ≤ w13.heap.size := g22.size
    refine wp_region_lit ?_
    refine wp_all [([0], []), ([1], []), ([], [0, 1]), ([], [2]), ([], [])] [] w13.heap.size hf14 g40.size (by kernel_rfl) (bund_cons (is_any h19) (bund_cons (is_any h20) bund_nil)) ?_
    refine ch rfl (ob_move (arg_free 0 rfl rfl)) ?_
    refine ch rfl (ob_move (arg_free 1 rfl rfl)) ?_
    refine ch rfl (ob_call2 (by kernel_rfl) (c_climb (i := i.toNat) ?_ ?_ ?_) (ArgOK.val (arg_op 0 1 rfl rfl rfl rfl) (hv0.up g21)) (arg_op 1 0 rfl rfl rfl rfl)) ?_
    · omega
    · omega
    · omega
    refine ch rfl (ob_assign (arg_op 2 0 rfl rfl rfl rfl)) ?_
    refine ch rfl (ob_assign arg_c) ?_
    refine ch_nil ?_
    intro a42 w43 hf44 hg45 hk46 hn47
    have h48 : Holds (OwnS w13.heap.size _ _) (a42.eval (.tmp 4)) w43 := hn47.at 3 1 rfl rfl rfl
    have h49 : Holds _ (a42.eval (.tmp 5)) w43 := hn47.at 4 0 rfl rfl rfl
    have g50 : Grow w0 w43 := g21.trans hg45
    have g51 : Grow w2 w43 := g22.trans hg45
    have g52 : Grow w13 w43 := g40.trans hg45
    clear g21 g22 g40 hf14 hk46 hn47
    obtain ⟨V53, h54, hV55⟩ := nameV h48
    clear h48
    refine then_ ?_
    refine wp_ret ?_
    exact ret_tmp2 rfl hf44 g50 (OwnS.mono (cast_own (by first | exact pathV_no (by omega) | exact pathV_yes (by omega)) (unV h54 hV55)) (by omega)) (is_cast h49 (congrArg Value.bool (by first | exact pathB_no (by omega) | exact pathB_yes (by omega))))

set_option maxRecDepth 100000 in
theorem c_rPath_step {l : List UInt64} {i : Int} (hl : l.length ≤ 1000000) (hi : -9223372036854775808 ≤ i) (ih : ∀ (m : List UInt64) (j : Int), m.length < l.length → -9223372036854775808 ≤ j → Con2 67 (Sl elNm m) (Is (intV j)) (fun lo => Two (OwnS lo elNm (pathV m j)) (Is (.bool (pathB m j))))) : Con2 67 (Sl elNm l) (Is (intV i)) (fun lo => Two (OwnS lo elNm (pathV l i)) (Is (.bool (pathB l i)))) := by
  intro lo v0 v1 w0 hlo hv0 hv1
  refine enter Try.func67 rfl Try.ntmps67 (by simp) ?_
  intro a0 hf0 ha
  have h00 : Holds (Is v0) (a0.eval (.tmp 0)) w0 := arg_holds ha rfl rfl
  have h01 : Holds _ (a0.eval (.tmp 1)) w0 := arg_holds ha rfl hv1
  clear ha
  have g0 : Grow w0 w0 := Grow.refl _
  refine wp_seq ?_
  refine wp_region_lit ?_
  refine wp_all [([], []), ([], [])] [0, 1] w0.heap.size hf0 g0.size (by kernel_rfl) bund_nil ?_
  refine ch rfl (ob_assign (arg_cg (G := Any) (fun w => trivial))) ?_
  refine ch rfl (ob_assign arg_c) ?_
  refine ch_nil ?_
  intro a1 w2 hf3 hg4 hk5 hn6
  have h7 : Holds _ (a1.eval (.tmp 0)) w0 := hk5.holds rfl h00
  have h8 : Holds _ (a1.eval (.tmp 1)) w0 := hk5.holds rfl h01
  have g9 : Grow w0 w2 := g0.trans hg4
  clear h00 h01 g0 hf0 hk5 hn6
  refine then_ ?_
  refine wp_seq ?_
  refine wp_seq ?_
  refine wp_region_lit ?_
  refine wp_all [([1], []), ([], [0]), ([], [1]), ([1], [2]), ([0], [2]), ([], [4, 2]), ([], [3, 5, 2]), ([], [2, 6])] [0, 1] w0.heap.size hf3 g9.size (by kernel_rfl) (bund_cons (is_any h8) (bund_cons (is_any h7) bund_nil)) ?_
  refine ch rfl (ob_move (arg_free 0 rfl rfl)) ?_
  refine ch rfl (ob_lss (arg_op 0 0 rfl rfl rfl rfl) arg_c) ?_
  refine ch rfl (ob_move (arg_op 1 0 rfl rfl rfl rfl)) ?_
  refine chg (b := _) rfl rfl (arg_op 2 0 rfl rfl rfl rfl) (fun hb2 => ob_move (arg_free 0 rfl rfl)) ?_
  refine chg (b := _) rfl rfl (arg_op 2 1 rfl rfl rfl rfl) (fun hb2 => ob_move (arg_free 1 rfl rfl)) ?_
  refine chg (b := _) rfl rfl (arg_op 2 2 rfl rfl rfl rfl) (fun hb2 => ob_len (ArgOK.val (ArgOK.when (arg_op 4 0 rfl rfl rfl rfl) hb2) (hv0.up g9)) Try.underlying39) ?_
  refine chg (b := _) rfl rfl (arg_op 2 3 rfl rfl rfl rfl) (fun hb2 => ob_geq (ArgOK.when (arg_op 3 2 rfl rfl rfl rfl) hb2) (ArgOK.when (arg_op 5 0 rfl rfl rfl rfl) hb2)) ?_
  refine ch rfl (ob_or (arg_op 2 4 rfl rfl rfl rfl) (arg_op 6 0 rfl rfl rfl rfl)) ?_
  refine ch_nil ?_
  intro a10 w11 hf12 hg13 hk14 hn15
  have h16 : Holds _ (a10.eval (.tmp 18)) w11 := hn15.at 7 0 rfl rfl rfl
  have h17 : Holds _ (a10.eval (.tmp 0)) w0 := hk14.holds rfl h7
  have h18 : Holds _ (a10.eval (.tmp 1)) w0 := hk14.holds rfl h8
  have g19 : Grow w0 w11 := g9.trans hg13
  clear h7 h8 g9 hf3 hk14 hn15 hg13
  refine then_ ?_
  refine wp_if h16 ?_ ?_
  · intro hc20
    try simp only [cond_norm] at hc20
    refine wp_seq ?_
    have g21 : Grow w11 w11 := Grow.refl _
    have hz22 : w0.heap.size ≤ w11.heap.size := g19.size
    refine wp_region_lit ?_
    refine wp_all [([], []), ([], [])] [] w11.heap.size hf12 g21.size (by kernel_rfl) bund_nil ?_
    refine ch rfl (ob_assign (arg_cg (G := OwnS w11.heap.size elNm []) (fun w => own_nil))) ?_
    refine ch rfl (ob_assign arg_c) ?_
    refine ch_nil ?_
    intro a23 w24 hf25 hg26 hk27 hn28
    have h29 : Holds (OwnS w11.heap.size _ _) (a23.eval (.tmp 4)) w24 := hn28.at 0 1 rfl rfl rfl
    have h30 : Holds _ (a23.eval (.tmp 5)) w24 := hn28.at 1 0 rfl rfl rfl
    have g31 : Grow w0 w24 := g19.trans hg26
    have g32 : Grow w11 w24 := g21.trans hg26
    clear g19 g21 hf12 hk27 hn28
    obtain ⟨V33, h34, hV35⟩ := nameV h29
    clear h29
    refine then_ ?_
    refine wp_ret ?_
    refine thenR ?_
    exact ret_tmp2 rfl hf25 g31 (OwnS.mono (cast_own (by first | exact pathV_no (by omega) | exact pathV_one (by omega) | exact pathV_left (by omega) (by omega) (by omega) | exact pathV_right (by omega) (by omega) (by omega)) (unV h34 hV35)) (by omega)) (is_cast h30 (congrArg Value.bool (by first | exact pathB_no (by omega) | exact pathB_yes (by omega))))
  · intro hc20
    try simp only [cond_norm] at hc20
    refine wp_skip ?_
    refine then_ ?_
    refine wp_seq ?_
    refine wp_seq ?_
    refine wp_region_lit ?_
    refine wp_all [([0], []), ([], [0]), ([], [1])] [0, 1] w0.heap.size hf12 g19.size (by kernel_rfl) (bund_cons (is_any h17) bund_nil) ?_
    refine ch rfl (ob_move (arg_free 0 rfl rfl)) ?_
    refine ch rfl (ob_len (ArgOK.val (arg_op 0 0 rfl rfl rfl rfl) (hv0.up g19)) Try.underlying39) ?_
    refine ch rfl (ob_eql (arg_op 1 0 rfl rfl rfl rfl) arg_c) ?_
    refine ch_nil ?_
    intro a36 w37 hf38 hg39 hk40 hn41
    have h42 : Holds _ (a36.eval (.tmp 21)) w37 := hn41.at 2 0 rfl rfl rfl
    have h43 : Holds _ (a36.eval (.tmp 0)) w0 := hk40.holds rfl h17
    have h44 : Holds _ (a36.eval (.tmp 1)) w0 := hk40.holds rfl h18
    have g45 : Grow w0 w37 := g19.trans hg39
    clear h17 h18 g19 hf12 hk40 hn41 hg39
    refine then_ ?_
    refine wp_if h42 ?_ ?_
    · intro hc46
      try simp only [cond_norm] at hc46
      refine wp_seq ?_
      have g47 : Grow w37 w37 := Grow.refl _
      have hz48 : w0.heap.size ≤ w37.heap.size := g45.size
      refine wp_region_lit ?_
      refine wp_all [([], []), ([], [])] [] w37.heap.size hf38 g47.size (by kernel_rfl) bund_nil ?_
      refine ch rfl (ob_assign (arg_cg (G := OwnS w37.heap.size elNm []) (fun w => own_nil))) ?_
      refine ch rfl (ob_assign arg_c) ?_
      refine ch_nil ?_
      intro a49 w50 hf51 hg52 hk53 hn54
      have h55 : Holds (OwnS w37.heap.size _ _) (a49.eval (.tmp 4)) w50 := hn54.at 0 1 rfl rfl rfl
      have h56 : Holds _ (a49.eval (.tmp 5)) w50 := hn54.at 1 0 rfl rfl rfl
      have g57 : Grow w0 w50 := g45.trans hg52
      have g58 : Grow w37 w50 := g47.trans hg52
      clear g45 g47 hf38 hk53 hn54
      obtain ⟨V59, h60, hV61⟩ := nameV h55
      clear h55
      refine then_ ?_
      refine wp_ret ?_
      refine thenR ?_
      exact ret_tmp2 rfl hf51 g57 (OwnS.mono (cast_own (by first | exact pathV_no (by omega) | exact pathV_one (by omega) | exact pathV_left (by omega) (by omega) (by omega) | exact pathV_right (by omega) (by omega) (by omega)) (unV h60 hV61)) (by omega)) (is_cast h56 (congrArg Value.bool (by first | exact pathB_no (by omega) | exact pathB_yes (by omega))))
    · intro hc46
      try simp only [cond_norm] at hc46
      refine wp_skip ?_
      refine then_ ?_
      refine wp_seq ?_
      have hb := split_bound (n := l.length) (by omega)
      have hp1 := pathV_le (l.take (split l.length)) i
      have hp2 := pathV_le (l.drop (split l.length)) (i - (split l.length : Int))
      have hq1 : (l.take (split l.length)).length ≤ l.length := by rw [List.length_take]; omega
      have hq2 : (l.drop (split l.length)).length ≤ l.length := by rw [List.length_drop]; omega
      have g62 : Grow w37 w37 := Grow.refl _
      have hz63 : w0.heap.size ≤ w37.heap.size := g45.size
      refine wp_region_lit ?_
      refine wp_all [([0], []), ([], [0]), ([], [1]), ([], [2])] [0, 1] w37.heap.size hf38 g62.size (by kernel_rfl) (bund_cons (is_any h43) bund_nil) ?_
      refine ch rfl (ob_move (arg_free 0 rfl rfl)) ?_
      refine ch rfl (ob_len (ArgOK.val (arg_op 0 0 rfl rfl rfl rfl) (hv0.up g45)) Try.underlying39) ?_
      refine ch rfl (ob_call1 (by kernel_rfl) (c_rsplit (n := l.length) ?_ ?_) (arg_op 1 0 rfl rfl rfl rfl)) ?_
      · omega
      · rfl
      refine ch rfl (ob_assign (arg_op 2 0 rfl rfl rfl rfl)) ?_
      refine ch_nil ?_
      intro a64 w65 hf66 hg67 hk68 hn69
      have h70 : Holds _ (a64.eval (.tmp 6)) w65 := hn69.at 3 0 rfl rfl rfl
      have h71 : Holds _ (a64.eval (.tmp 0)) w0 := hk68.holds rfl h43
      have h72 : Holds _ (a64.eval (.tmp 1)) w0 := hk68.holds rfl h44
      have g73 : Grow w0 w65 := g45.trans hg67
      have g74 : Grow w37 w65 := g62.trans hg67
      clear h43 h44 g45 g62 hf38 hk68 hn69
      refine then_ ?_
      refine wp_seq ?_
      refine wp_seq ?_
      refine wp_region_lit ?_
      refine wp_all [([1], []), ([6], []), ([], [0, 1])] [0, 1, 6] w37.heap.size hf66 g74.size (by kernel_rfl) (bund_cons (is_any h72) (bund_cons h70 bund_nil)) ?_
      refine ch rfl (ob_move (arg_free 0 rfl rfl)) ?_
      refine ch rfl (ob_move (arg_free 1 rfl rfl)) ?_
      refine ch rfl (ob_lss (arg_op 0 1 rfl rfl rfl rfl) (arg_op 1 0 rfl rfl rfl rfl)) ?_
      refine ch_nil ?_
      intro a75 w76 hf77 hg78 hk79 hn80
      have h81 : Holds _ (a75.eval (.tmp 27)) w76 := hn80.at 2 0 rfl rfl rfl
      have h82 : Holds _ (a75.eval (.tmp 6)) w76 := hk79.holds rfl (h70.up hg78)
      have h83 : Holds _ (a75.eval (.tmp 0)) w0 := hk79.holds rfl h71
      have h84 : Holds _ (a75.eval (.tmp 1)) w0 := hk79.holds rfl h72
      have g85 : Grow w0 w76 := g73.trans hg78
      have g86 : Grow w37 w76 := g74.trans hg78
      clear h70 h71 h72 g73 g74 hf66 hk79 hn80 hg78
      refine then_ ?_
      refine wp_if h81 ?_ ?_
      · intro hc87
        try simp only [cond_norm] at hc87
        refine wp_seq ?_
        have g88 : Grow w76 w76 := Grow.refl _
        have hz89 : w37.heap.size ≤ w76.heap.size := g86.size
        refine wp_region_lit ?_
        refine wp_all [([0], []), ([6], []), ([], [0, 1]), ([1], []), ([], [2, 3]), ([], [4]), ([], [5]), ([], [5]), ([], [6]), ([], [7])] [0, 6] w76.heap.size hf77 g88.size (by kernel_rfl) (bund_cons (is_any h83) (bund_cons h82 (bund_cons (is_any h84) bund_nil))) ?_
        refine ch rfl (ob_move (arg_free 0 rfl rfl)) ?_
        refine ch rfl (ob_move (arg_free 1 rfl rfl)) ?_
        refine ch rfl (ob_slice_to (ArgOK.val (arg_op 0 1 rfl rfl rfl rfl) (hv0.up g85)) (arg_op 1 0 rfl rfl rfl rfl) (rfl) ?_ Try.underlying39 szNm) ?_
        · omega
        refine ch rfl (ob_move (arg_free 2 rfl rfl)) ?_
        refine ch rfl (ob_call2 (by kernel_rfl) (ih _ _ ?_ ?_) (arg_op 2 1 rfl rfl rfl rfl) (arg_op 3 0 rfl rfl rfl rfl)) ?_
        · ((try simp only [List.length_take, List.length_drop, List.length_cons, List.length_nil]); omega)
        · omega
        refine ch rfl (ob_move (arg_op 4 0 rfl rfl rfl rfl)) ?_
        refine ch rfl (ob_extract0 (arg_op 5 0 rfl rfl rfl rfl)) ?_
        refine ch rfl (ob_extract1 (arg_op 5 1 rfl rfl rfl rfl)) ?_
        refine ch rfl (ob_assign (arg_op 6 1 rfl rfl rfl rfl)) ?_
        refine ch rfl (ob_assign (arg_op 7 1 rfl rfl rfl rfl)) ?_
        refine ch_nil ?_
        intro a90 w91 hf92 hg93 hk94 hn95
        have h96 : Holds (OwnS w76.heap.size _ _) (a90.eval (.tmp 7)) w91 := hn95.at 8 1 rfl rfl rfl
        have h97 : Holds _ (a90.eval (.tmp 6)) w76 := hk94.holds rfl h82
        have h98 : Holds _ (a90.eval (.tmp 0)) w0 := hk94.holds rfl h83
        have g99 : Grow w0 w91 := g85.trans hg93
        have g100 : Grow w37 w91 := g86.trans hg93
        have g101 : Grow w76 w91 := g88.trans hg93
        clear h82 h83 g85 g86 g88 hf77 hk94 hn95
        obtain ⟨V102, h103, hV104⟩ := nameV h96
        clear h96
        refine then_ ?_
        refine wp_seq ?_
        have g105 : Grow w91 w91 := Grow.refl _
        have hz106 : w76.heap.size ≤ w91.heap.size := g101.size
        refine wp_region_lit ?_
        refine wp_seg (l1 := [_, _, _, _, _, _]) [([7], []), ([0], []), ([6], []), ([], [1, 2]), ([], [3]), ([], [4])] [] w91.heap.size hf92 g105.size (by kernel_rfl) (bund_cons h103 (bund_cons (is_any h98) (bund_cons (is_any h97) bund_nil))) ?_
        refine ch rfl (ob_move (arg_free 0 rfl rfl)) ?_
        refine ch rfl (ob_move (arg_free 1 rfl rfl)) ?_
        refine ch rfl (ob_move (arg_free 2 rfl rfl)) ?_
        refine ch rfl (ob_slice_from (ArgOK.val (arg_op 1 1 rfl rfl rfl rfl) (hv0.up g99)) (arg_op 2 0 rfl rfl rfl rfl) (rfl) ?_ Try.underlying39 szNm) ?_
        · omega
        refine ch rfl (ob_call1 (by kernel_rfl) (c_rRoot ?_) (arg_op 3 0 rfl rfl rfl rfl)) ?_
        · ((try simp only [List.length_take, List.length_drop, List.length_cons, List.length_nil]); omega)
        refine ch rfl (ob_bs1_nm (arg_op 4 0 rfl rfl rfl rfl)) ?_
        refine ch_nil ?_
        intro a107 w108 hf109 hg110 hk111 hn112
        have h113 : Holds _ (a107.eval (.tmp 36)) w108 := hn112.at 0 5 rfl rfl rfl
        have h114 : Holds (OwnF w91.heap.size _ _) (a107.eval (.tmp 41)) w108 := hn112.at 5 0 rfl rfl rfl
        have g115 : Grow w0 w108 := g99.trans hg110
        have g116 : Grow w37 w108 := g100.trans hg110
        have g117 : Grow w76 w108 := g101.trans hg110
        have g118 : Grow w91 w108 := g105.trans hg110
        clear g99 g100 g101 g105 hf92 hk111 hn112
        obtain ⟨V119, h120, hV121⟩ := nameV h114
        clear h114
        refine wl_appendW elNmP [] hf109 (by kernel_rfl) rfl Try.underlying39 (unV h113 (hV104.up g118)) (OwnS.sl (OwnF.own (unV h120 hV121))) ?_ ?_ g117.size ?_
        · (simp only [List.length_cons, List.length_nil, maxLen]; omega)
        · (simp only [List.length_cons, List.length_nil, elNm]; omega)
        intro a122 w123 hf124 hw125 hk126 h127
        have g128 : Grow w0 w123 := g115.wr hw125 (by omega)
        have g129 : Grow w37 w123 := g116.wr hw125 (by omega)
        have g130 : Grow w76 w123 := g117.wr hw125 (by omega)
        obtain ⟨V131, h132, hV133⟩ := nameV h127
        clear h127
        refine wp_all [([42], []), ([], [])] [] w76.heap.size hf124 g130.size (by kernel_rfl) (bund_cons h132 bund_nil) ?_
        refine ch rfl (ob_assign (arg_free 0 rfl rfl)) ?_
        refine ch rfl (ob_assign arg_c) ?_
        refine ch_nil ?_
        intro a134 w135 hf136 hg137 hk138 hn139
        have h140 : Holds _ (a134.eval (.tmp 4)) w135 := hn139.at 0 1 rfl rfl rfl
        have h141 : Holds _ (a134.eval (.tmp 5)) w135 := hn139.at 1 0 rfl rfl rfl
        have g142 : Grow w0 w135 := g128.trans hg137
        have g143 : Grow w37 w135 := g129.trans hg137
        have g144 : Grow w76 w135 := g130.trans hg137
        have hV145 : Holds _ V131 w135 := hV133.up hg137
        clear g128 g129 g130 hf124 hk138 hn139 hg137 hV133
        refine then_ ?_
        refine wp_ret ?_
        refine thenR ?_
        exact ret_tmp2 rfl hf136 g142 (OwnS.mono (cast_own (by first | exact pathV_no (by omega) | exact pathV_one (by omega) | exact pathV_left (by omega) (by omega) (by omega) | exact pathV_right (by omega) (by omega) (by omega)) (unV h140 hV145)) (by omega)) (is_cast h141 (congrArg Value.bool (by first | exact pathB_no (by omega) | exact pathB_yes (by omega))))
      · intro hc87
        try simp only [cond_norm] at hc87
        refine wp_skip ?_
        refine then_ ?_
        refine wp_seq ?_
        have g146 : Grow w76 w76 := Grow.refl _
        have hz147 : w37.heap.size ≤ w76.heap.size := g86.size
        refine wp_region_lit ?_
        refine wp_all [([0], []), ([6], []), ([], [0, 1]), ([1], []), ([6], []), ([], [3, 4]), ([], [2, 5]), ([], [6]), ([], [7]), ([], [7]), ([], [8]), ([], [9])] [0, 6] w76.heap.size hf77 g146.size (by kernel_rfl) (bund_cons (is_any h83) (bund_cons h82 (bund_cons (is_any h84) bund_nil))) ?_
        refine ch rfl (ob_move (arg_free 0 rfl rfl)) ?_
        refine ch rfl (ob_move (arg_free 1 rfl rfl)) ?_
        refine ch rfl (ob_slice_from (ArgOK.val (arg_op 0 1 rfl rfl rfl rfl) (hv0.up g85)) (arg_op 1 0 rfl rfl rfl rfl) (rfl) ?_ Try.underlying39 szNm) ?_
        · omega
        refine ch rfl (ob_move (arg_free 2 rfl rfl)) ?_
        refine ch rfl (ob_move (arg_free 1 rfl rfl)) ?_
        first
          | (refine ch rfl (ob_sub' (arg_op 3 1 rfl rfl rfl rfl) (arg_op 4 0 rfl rfl rfl rfl) ?_) ?_; · omega)
          | refine ch rfl (ob_sub (arg_op 3 1 rfl rfl rfl rfl) (arg_op 4 0 rfl rfl rfl rfl)) ?_
        refine ch rfl (ob_call2 (by kernel_rfl) (ih _ _ ?_ ?_) (arg_op 2 3 rfl rfl rfl rfl) (arg_op 5 0 rfl rfl rfl rfl)) ?_
        · ((try simp only [List.length_take, List.length_drop, List.length_cons, List.length_nil]); omega)
        · omega
        refine ch rfl (ob_move (arg_op 6 0 rfl rfl rfl rfl)) ?_
        refine ch rfl (ob_extract0 (arg_op 7 0 rfl rfl rfl rfl)) ?_
        refine ch rfl (ob_extract1 (arg_op 7 1 rfl rfl rfl rfl)) ?_
        refine ch rfl (ob_assign (arg_op 8 1 rfl rfl rfl rfl)) ?_
        refine ch rfl (ob_assign (arg_op 9 1 rfl rfl rfl rfl)) ?_
        refine ch_nil ?_
        intro a148 w149 hf150 hg151 hk152 hn153
        have h154 : Holds (OwnS w76.heap.size _ _) (a148.eval (.tmp 9)) w149 := hn153.at 10 1 rfl rfl rfl
        have h155 : Holds _ (a148.eval (.tmp 6)) w76 := hk152.holds rfl h82
        have h156 : Holds _ (a148.eval (.tmp 0)) w0 := hk152.holds rfl h83
        have g157 : Grow w0 w149 := g85.trans hg151
        have g158 : Grow w37 w149 := g86.trans hg151
        have g159 : Grow w76 w149 := g146.trans hg151
        clear h82 h83 g85 g86 g146 hf77 hk152 hn153
        obtain ⟨V160, h161, hV162⟩ := nameV h154
        clear h154
        refine then_ ?_
        refine wp_seq ?_
        have g163 : Grow w149 w149 := Grow.refl _
        have hz164 : w76.heap.size ≤ w149.heap.size := g159.size
        refine wp_region_lit ?_
        refine wp_seg (l1 := [_, _, _, _, _, _]) [([9], []), ([0], []), ([6], []), ([], [1, 2]), ([], [3]), ([], [4])] [] w149.heap.size hf150 g163.size (by kernel_rfl) (bund_cons h161 (bund_cons (is_any h156) (bund_cons (is_any h155) bund_nil))) ?_
        refine ch rfl (ob_move (arg_free 0 rfl rfl)) ?_
        refine ch rfl (ob_move (arg_free 1 rfl rfl)) ?_
        refine ch rfl (ob_move (arg_free 2 rfl rfl)) ?_
        refine ch rfl (ob_slice_to (ArgOK.val (arg_op 1 1 rfl rfl rfl rfl) (hv0.up g157)) (arg_op 2 0 rfl rfl rfl rfl) (rfl) ?_ Try.underlying39 szNm) ?_
        · omega
        refine ch rfl (ob_call1 (by kernel_rfl) (c_rRoot ?_) (arg_op 3 0 rfl rfl rfl rfl)) ?_
        · ((try simp only [List.length_take, List.length_drop, List.length_cons, List.length_nil]); omega)
        refine ch rfl (ob_bs1_nm (arg_op 4 0 rfl rfl rfl rfl)) ?_
        refine ch_nil ?_
        intro a165 w166 hf167 hg168 hk169 hn170
        have h171 : Holds _ (a165.eval (.tmp 53)) w166 := hn170.at 0 5 rfl rfl rfl
        have h172 : Holds (OwnF w149.heap.size _ _) (a165.eval (.tmp 58)) w166 := hn170.at 5 0 rfl rfl rfl
        have g173 : Grow w0 w166 := g157.trans hg168
        have g174 : Grow w37 w166 := g158.trans hg168
        have g175 : Grow w76 w166 := g159.trans hg168
        have g176 : Grow w149 w166 := g163.trans hg168
        clear g157 g158 g159 g163 hf150 hk169 hn170
        obtain ⟨V177, h178, hV179⟩ := nameV h172
        clear h172
        refine wl_appendW elNmP [] hf167 (by kernel_rfl) rfl Try.underlying39 (unV h171 (hV162.up g176)) (OwnS.sl (OwnF.own (unV h178 hV179))) ?_ ?_ g175.size ?_
        · (simp only [List.length_cons, List.length_nil, maxLen]; omega)
        · (simp only [List.length_cons, List.length_nil, elNm]; omega)
        intro a180 w181 hf182 hw183 hk184 h185
        have g186 : Grow w0 w181 := g173.wr hw183 (by omega)
        have g187 : Grow w37 w181 := g174.wr hw183 (by omega)
        have g188 : Grow w76 w181 := g175.wr hw183 (by omega)
        obtain ⟨V189, h190, hV191⟩ := nameV h185
        clear h185
        refine wp_all [([59], []), ([], [])] [] w76.heap.size hf182 g188.size (by kernel_rfl) (bund_cons h190 bund_nil) ?_
        refine ch rfl (ob_assign (arg_free 0 rfl rfl)) ?_
        refine ch rfl (ob_assign arg_c) ?_
        refine ch_nil ?_
        intro a192 w193 hf194 hg195 hk196 hn197
        have h198 : Holds _ (a192.eval (.tmp 4)) w193 := hn197.at 0 1 rfl rfl rfl
        have h199 : Holds _ (a192.eval (.tmp 5)) w193 := hn197.at 1 0 rfl rfl rfl
        have g200 : Grow w0 w193 := g186.trans hg195
        have g201 : Grow w37 w193 := g187.trans hg195
        have g202 : Grow w76 w193 := g188.trans hg195
        have hV203 : Holds _ V189 w193 := hV191.up hg195
        clear g186 g187 g188 hf182 hk196 hn197 hg195 hV191
        refine then_ ?_
        refine wp_ret ?_
        exact ret_tmp2 rfl hf194 g200 (OwnS.mono (cast_own (by first | exact pathV_no (by omega) | exact pathV_one (by omega) | exact pathV_left (by omega) (by omega) (by omega) | exact pathV_right (by omega) (by omega) (by omega)) (unV h198 hV203)) (by omega)) (is_cast h199 (congrArg Value.bool (by first | exact pathB_no (by omega) | exact pathB_yes (by omega))))


theorem c_rPath : ∀ {l : List UInt64} {i : Int} (_ : l.length ≤ 1000000) (_ : -9223372036854775808 ≤ i), Con2 67 (Sl elNm l) (Is (intV i)) (fun lo => Two (OwnS lo elNm (pathV l i)) (Is (.bool (pathB l i)))) := by
  have key : ∀ (n : Nat) (l : List UInt64) (i : Int), l.length = n → n ≤ 1000000 → -9223372036854775808 ≤ i → Con2 67 (Sl elNm l) (Is (intV i)) (fun lo => Two (OwnS lo elNm (pathV l i)) (Is (.bool (pathB l i)))) := by
    intro n
    induction n using Nat.strongRecOn with
    | _ n ih =>
      intro l i h1 h2 h3
      exact c_rPath_step (by omega) h3 fun m j g1 g2 => ih m.length (by omega) m j rfl (by omega) g2
  intro l i h1 h2
  exact key l.length l i rfl h1 h2

set_option maxRecDepth 100000 in
theorem c_cut {l : List UInt64} : Con1 63 (Sl elNm l) (fun _ => Sl elNm (l.take 300)) := by
  intro lo v0 w0 hlo hv0
  refine enter Try.func63 rfl Try.ntmps63 (by simp) ?_
  intro a0 hf0 ha
  have h00 : Holds (Is v0) (a0.eval (.tmp 0)) w0 := arg_holds ha rfl rfl
  clear ha
  have g0 : Grow w0 w0 := Grow.refl _
  refine wp_seq ?_
  refine wp_region_lit ?_
  refine wp_all [([], [])] [0] w0.heap.size hf0 g0.size (by kernel_rfl) bund_nil ?_
  refine ch rfl (ob_assign (arg_cg (G := Any) (fun w => trivial))) ?_
  refine ch_nil ?_
  intro a1 w2 hf3 hg4 hk5 hn6
  have h7 : Holds _ (a1.eval (.tmp 0)) w0 := hk5.holds rfl h00
  have g8 : Grow w0 w2 := g0.trans hg4
  clear h00 g0 hf0 hk5 hn6
  refine then_ ?_
  refine wp_seq ?_
  refine wp_seq ?_
  refine wp_region_lit ?_
  refine wp_all [([0], []), ([], [0]), ([], [1])] [0] w0.heap.size hf3 g8.size (by kernel_rfl) (bund_cons (is_any h7) bund_nil) ?_
  refine ch rfl (ob_move (arg_free 0 rfl rfl)) ?_
  refine ch rfl (ob_len (ArgOK.val (arg_op 0 0 rfl rfl rfl rfl) (hv0.up g8)) Try.underlying39) ?_
  refine ch rfl (ob_gtr (arg_op 1 0 rfl rfl rfl rfl) arg_c) ?_
  refine ch_nil ?_
  intro a9 w10 hf11 hg12 hk13 hn14
  have h15 : Holds _ (a9.eval (.tmp 5)) w10 := hn14.at 2 0 rfl rfl rfl
  have h16 : Holds _ (a9.eval (.tmp 0)) w0 := hk13.holds rfl h7
  have g17 : Grow w0 w10 := g8.trans hg12
  clear h7 g8 hf3 hk13 hn14 hg12
  refine then_ ?_
  refine wp_if h15 ?_ ?_
  · intro hc18
    try simp only [cond_norm] at hc18
    refine wp_seq ?_
    refine wp_region_lit ?_
    refine wp_all [([0], []), ([], [0]), ([], [1])] [] w0.heap.size hf11 g17.size (by kernel_rfl) (bund_cons (is_any h16) bund_nil) ?_
    refine ch rfl (ob_move (arg_free 0 rfl rfl)) ?_
    refine ch rfl (ob_slice_to (ArgOK.val (arg_op 0 0 rfl rfl rfl rfl) (hv0.up g17)) arg_c (show (300 : Int) = ((300 : Nat) : Int) from rfl) ?_ Try.underlying39 szNm) ?_
    · omega
    refine ch rfl (ob_assign (arg_op 1 0 rfl rfl rfl rfl)) ?_
    refine ch_nil ?_
    intro a19 w20 hf21 hg22 hk23 hn24
    have h25 : Holds _ (a19.eval (.tmp 2)) w20 := hn24.at 2 0 rfl rfl rfl
    have g26 : Grow w0 w20 := g17.trans hg22
    clear g17 hf11 hk23 hn24 hg22
    obtain ⟨V27, h28, hV29⟩ := nameV h25
    clear h25
    refine then_ ?_
    refine wp_ret ?_
    refine thenR ?_
    exact ret_tmp rfl hf21 g26 (cast_sl (by first | rfl | exact (List.take_of_length_le (by omega)).symm) (unV h28 hV29))
  · intro hc18
    try simp only [cond_norm] at hc18
    refine wp_skip ?_
    refine then_ ?_
    refine wp_seq ?_
    refine wp_region_lit ?_
    refine wp_all [([0], []), ([], [0])] [] w0.heap.size hf11 g17.size (by kernel_rfl) (bund_cons (is_any h16) bund_nil) ?_
    refine ch rfl (ob_move (arg_free 0 rfl rfl)) ?_
    refine ch rfl (ob_assign (arg_op 0 0 rfl rfl rfl rfl)) ?_
    refine ch_nil ?_
    intro a30 w31 hf32 hg33 hk34 hn35
    have h36 : Holds _ (a30.eval (.tmp 2)) w31 := hn35.at 1 0 rfl rfl rfl
    have g37 : Grow w0 w31 := g17.trans hg33
    clear g17 hf11 hk34 hn35 hg33
    refine then_ ?_
    refine wp_ret ?_
    exact ret_tmp rfl hf32 g37 (cast_sl (by first | rfl | exact (List.take_of_length_le (by omega)).symm) (unV h36 (hv0.up g37)))

set_option maxRecDepth 100000 in
theorem c_same3 {a b : List UInt64} (ha : a.length ≤ 1000000) : Con2 69 (Sl elNm a) (Sl elNm b) (fun _ => Is (.bool (decide (a = b)))) := by
  intro lo v0 v1 w0 hlo hv0 hv1
  refine enter Try.func69 rfl Try.ntmps69 (by simp) ?_
  intro a0 hf0 ha
  have h00 : Holds (Is v0) (a0.eval (.tmp 0)) w0 := arg_holds ha rfl rfl
  have h01 : Holds (Is v1) (a0.eval (.tmp 1)) w0 := arg_holds ha rfl rfl
  clear ha
  have g0 : Grow w0 w0 := Grow.refl _
  refine wp_seq ?_
  refine wp_region_lit ?_
  refine wp_all [([], [])] [0, 1] w0.heap.size hf0 g0.size (by kernel_rfl) bund_nil ?_
  refine ch rfl (ob_assign arg_c) ?_
  refine ch_nil ?_
  intro a1 w2 hf3 hg4 hk5 hn6
  have h7 : Holds _ (a1.eval (.tmp 0)) w0 := hk5.holds rfl h00
  have h8 : Holds _ (a1.eval (.tmp 1)) w0 := hk5.holds rfl h01
  have g9 : Grow w0 w2 := g0.trans hg4
  clear h00 h01 g0 hf0 hk5 hn6
  refine then_ ?_
  refine wp_seq ?_
  refine wp_seq ?_
  refine wp_region_lit ?_
  refine wp_all [([0], []), ([], [0]), ([1], []), ([], [2]), ([], [1, 3])] [0, 1] w0.heap.size hf3 g9.size (by kernel_rfl) (bund_cons (is_any h7) (bund_cons (is_any h8) bund_nil)) ?_
  refine ch rfl (ob_move (arg_free 0 rfl rfl)) ?_
  refine ch rfl (ob_len (ArgOK.val (arg_op 0 0 rfl rfl rfl rfl) (hv0.up g9)) Try.underlying39) ?_
  refine ch rfl (ob_move (arg_free 1 rfl rfl)) ?_
  refine ch rfl (ob_len (ArgOK.val (arg_op 2 0 rfl rfl rfl rfl) (hv1.up g9)) Try.underlying39) ?_
  refine ch rfl (ob_neq (arg_op 1 2 rfl rfl rfl rfl) (arg_op 3 0 rfl rfl rfl rfl)) ?_
  refine ch_nil ?_
  intro a10 w11 hf12 hg13 hk14 hn15
  have h16 : Holds _ (a10.eval (.tmp 10)) w11 := hn15.at 4 0 rfl rfl rfl
  have h17 : Holds _ (a10.eval (.tmp 0)) w0 := hk14.holds rfl h7
  have h18 : Holds _ (a10.eval (.tmp 1)) w0 := hk14.holds rfl h8
  have g19 : Grow w0 w11 := g9.trans hg13
  clear h7 h8 g9 hf3 hk14 hn15 hg13
  refine then_ ?_
  refine wp_if h16 ?_ ?_
  · intro hc20
    try simp only [cond_norm] at hc20
    have hs := same_len (a := a) (b := b) (by omega)
    refine wp_seq ?_
    refine wp_region_lit ?_
    refine wp_all [([], [])] [] w0.heap.size hf12 g19.size (by kernel_rfl) bund_nil ?_
    refine ch rfl (ob_assign arg_c) ?_
    refine ch_nil ?_
    intro a21 w22 hf23 hg24 hk25 hn26
    have h27 : Holds _ (a21.eval (.tmp 4)) w22 := hn26.at 0 0 rfl rfl rfl
    have g28 : Grow w0 w22 := g19.trans hg24
    clear g19 hf12 hk25 hn26 hg24
    refine then_ ?_
    refine wp_ret ?_
    refine thenR ?_
    exact ret_tmp rfl hf23 g28 (is_cast h27 (congrArg Value.bool hs))
  · intro hc20
    try simp only [cond_norm] at hc20
    have hlen := hc20
    refine wp_skip ?_
    refine then_ ?_
    refine wp_seq ?_
    refine wp_seq ?_
    refine wp_region_lit ?_
    refine wp_all [([], [])] [0, 1] w0.heap.size hf12 g19.size (by kernel_rfl) bund_nil ?_
    refine ch rfl (ob_assign arg_c) ?_
    refine ch_nil ?_
    intro a29 w30 hf31 hg32 hk33 hn34
    have h35 : Holds _ (a29.eval (.tmp 5)) w30 := hn34.at 0 0 rfl rfl rfl
    have h36 : Holds _ (a29.eval (.tmp 0)) w0 := hk33.holds rfl h17
    have h37 : Holds _ (a29.eval (.tmp 1)) w0 := hk33.holds rfl h18
    have g38 : Grow w0 w30 := g19.trans hg32
    clear h17 h18 g19 hf12 hk33 hn34 hg32
    refine then_ ?_
    refine wp_block ?_
    have g39 : Grow w30 w30 := Grow.refl _
    have hz40 : w0.heap.size ≤ w30.heap.size := g38.size
    refine wp_loopL (α := Nat) (fun i a' w' => Fr 26 a' ∧ (i ≤ a.length) ∧ (a.take i = b.take i) ∧ Grow w0 w' ∧ Grow w30 w' ∧ Keep [0, 1] a29 a' ∧ Holds (Is (intV (i : Int))) (a'.eval (.tmp 5)) w') (fun i => a.length - i) (0) ⟨hf31, (by omega), (by rfl), g38, g39, Keep.refl _ _, (is_cast h35 (by first | rfl | (refine congrArg intV ?_; (try dsimp only); omega)))⟩ ?_
    intro i a41 w42 ⟨hf43, hi45, hi46, g47, g48, kk44, h49⟩
    have h50 : Holds _ (a41.eval (.tmp 0)) w0 := kk44.holds rfl h36
    have h51 : Holds _ (a41.eval (.tmp 1)) w0 := kk44.holds rfl h37
    refine wp_seq ?_
    refine wp_seq ?_
    refine wp_region_lit ?_
    refine wp_all [([5], []), ([0], []), ([], [1]), ([], [0, 2])] [0, 1, 5] w30.heap.size hf43 g48.size (by kernel_rfl) (bund_cons h49 (bund_cons (is_any h50) bund_nil)) ?_
    refine ch rfl (ob_move (arg_free 0 rfl rfl)) ?_
    refine ch rfl (ob_move (arg_free 1 rfl rfl)) ?_
    refine ch rfl (ob_len (ArgOK.val (arg_op 1 0 rfl rfl rfl rfl) (hv0.up g47)) Try.underlying39) ?_
    refine ch rfl (ob_lss (arg_op 0 2 rfl rfl rfl rfl) (arg_op 2 0 rfl rfl rfl rfl)) ?_
    refine ch_nil ?_
    intro a52 w53 hf54 hg55 hk56 hn57
    have h58 : Holds _ (a52.eval (.tmp 14)) w53 := hn57.at 3 0 rfl rfl rfl
    have h59 : Holds _ (a52.eval (.tmp 5)) w53 := hk56.holds rfl (h49.up hg55)
    have h60 : Holds _ (a52.eval (.tmp 0)) w0 := hk56.holds rfl h50
    have h61 : Holds _ (a52.eval (.tmp 1)) w0 := hk56.holds rfl h51
    have g62 : Grow w0 w53 := g47.trans hg55
    have g63 : Grow w30 w53 := g48.trans hg55
    have kk64 : Keep _ a29 a52 := kk44.trans hk56 rfl
    clear h49 h50 h51 g47 g48 kk44 hf43 hk56 hn57 hg55
    refine then_ ?_
    refine wp_if h58 ?_ ?_
    · intro hc65
      try simp only [cond_norm] at hc65
      refine wp_skip ?_
      refine then_ ?_
      refine wp_seq ?_
      refine wp_block ?_
      refine wp_seq ?_
      refine wp_calm [0, 0, 3, 7, 0, 0, 48, 112, 255] [([0], []), ([5], []), ([], [0, 1]), ([], [2]), ([1], []), ([5], []), ([], [4, 5]), ([], [6]), ([], [3, 7])] [0, 1, 5] w30.heap.size hf54 g63.size (by kernel_rfl) (bund_cons (is_any h60) (bund_cons h59 (bund_cons (is_any h61) bund_nil))) ?_
      intro ws66 hs67
      refine ch rfl (ob_move (arg_free 0 rfl rfl)) ?_
      refine ch rfl (ob_move (arg_free 1 rfl rfl)) ?_
      refine ch rfl (ob_ix (ArgOK.val (arg_op 0 1 rfl rfl rfl rfl) ((hv0.up g62).up hs67)) (arg_op 1 0 rfl rfl rfl rfl) (rfl) ?_ Try.underlying39 szNm) ?_
      · omega
      refine ch rfl (ob_load_nm (arg_op 2 0 rfl rfl rfl rfl)) ?_
      refine ch rfl (ob_move (arg_free 2 rfl rfl)) ?_
      refine ch rfl (ob_move (arg_free 1 rfl rfl)) ?_
      refine ch rfl (ob_ix (ArgOK.val (arg_op 4 1 rfl rfl rfl rfl) ((hv1.up g62).up hs67)) (arg_op 5 0 rfl rfl rfl rfl) (rfl) ?_ Try.underlying39 szNm) ?_
      · omega
      refine ch rfl (ob_load_nm (arg_op 6 0 rfl rfl rfl rfl)) ?_
      refine ch rfl (ob_neqnm (arg_op 3 4 rfl rfl rfl rfl) (arg_op 7 0 rfl rfl rfl rfl)) ?_
      refine ch_nil ?_
      intro a68 w69 hf70 hg71 hk72 hn73
      have h74 : Holds _ (a68.eval (.tmp 25)) w69 := hn73.at 8 0 rfl rfl rfl
      have h75 : Holds _ (a68.eval (.tmp 5)) w69 := hk72.holds rfl (h59.up hg71)
      have h76 : Holds _ (a68.eval (.tmp 0)) w0 := hk72.holds rfl h60
      have h77 : Holds _ (a68.eval (.tmp 1)) w0 := hk72.holds rfl h61
      have g78 : Grow w0 w69 := g62.trans hg71
      have g79 : Grow w30 w69 := g63.trans hg71
      have kk80 : Keep _ a29 a68 := kk64.trans hk72 rfl
      clear h59 h60 h61 g62 g63 kk64 hf54 hk72 hn73 hg71
      refine then_ ?_
      refine wp_if h74 ?_ ?_
      · intro hc81
        try simp only [cond_norm] at hc81
        have hs := same_ne hc81
        refine wp_seq ?_
        refine wp_region_lit ?_
        refine wp_all [([], [])] [0, 1] w30.heap.size hf70 g79.size (by kernel_rfl) bund_nil ?_
        refine ch rfl (ob_assign arg_c) ?_
        refine ch_nil ?_
        intro a82 w83 hf84 hg85 hk86 hn87
        have h88 : Holds _ (a82.eval (.tmp 4)) w83 := hn87.at 0 0 rfl rfl rfl
        have h89 : Holds _ (a82.eval (.tmp 0)) w0 := hk86.holds rfl h76
        have h90 : Holds _ (a82.eval (.tmp 1)) w0 := hk86.holds rfl h77
        have g91 : Grow w0 w83 := g78.trans hg85
        have g92 : Grow w30 w83 := g79.trans hg85
        have kk93 : Keep _ a29 a82 := kk80.trans hk86 rfl
        clear h76 h77 g78 g79 kk80 hf70 hk86 hn87 hg85
        refine then_ ?_
        refine wp_ret ?_
        refine blockR ?_
        refine thenR ?_
        refine thenR ?_
        refine blockR ?_
        refine thenR ?_
        exact ret_tmp rfl hf84 g91 (is_cast h88 (congrArg Value.bool hs))
      · intro hc81
        try simp only [cond_norm] at hc81
        have hst := same_step (a := a) (b := b) (i := i) (by assumption) (by first | exact hc81 | exact Classical.not_not.1 hc81) (by omega) (by omega)
        refine wp_skip ?_
        refine blockN ?_
        refine then_ ?_
        refine wp_region_lit ?_
        refine wp_all [([5], []), ([], [0]), ([], [1])] [0, 1] w30.heap.size hf70 g79.size (by kernel_rfl) (bund_cons h75 bund_nil) ?_
        refine ch rfl (ob_move (arg_free 0 rfl rfl)) ?_
        first
          | (refine ch rfl (ob_add' (arg_op 0 0 rfl rfl rfl rfl) arg_c ?_) ?_; · omega)
          | refine ch rfl (ob_add (arg_op 0 0 rfl rfl rfl rfl) arg_c) ?_
        refine ch rfl (ob_assign (arg_op 1 0 rfl rfl rfl rfl)) ?_
        refine ch_nil ?_
        intro a94 w95 hf96 hg97 hk98 hn99
        have h100 : Holds _ (a94.eval (.tmp 5)) w95 := hn99.at 2 0 rfl rfl rfl
        have h101 : Holds _ (a94.eval (.tmp 0)) w0 := hk98.holds rfl h76
        have h102 : Holds _ (a94.eval (.tmp 1)) w0 := hk98.holds rfl h77
        have g103 : Grow w0 w95 := g78.trans hg97
        have g104 : Grow w30 w95 := g79.trans hg97
        have kk105 : Keep _ a29 a94 := kk80.trans hk98 rfl
        clear h76 h77 g78 g79 kk80 hf70 hk98 hn99 hg97
        refine then_ ?_
        exact ⟨(i + 1), (by ((try dsimp only); omega)), hf96, (by omega), (by exact hst), g103, g104, kk105, (is_cast h100 (by first | rfl | (refine congrArg intV ?_; (try dsimp only); omega)))⟩
    · intro hc65
      try simp only [cond_norm] at hc65
      have hs := same_all (a := a) (b := b) (i := i) (by omega) (by assumption) (by omega)
      refine wp_exit ?_
      refine thenX ?_
      refine thenX ?_
      refine blockX ?_
      refine then_ ?_
      refine wp_seq ?_
      refine wp_region_lit ?_
      refine wp_all [([], [])] [] w30.heap.size hf54 g63.size (by kernel_rfl) bund_nil ?_
      refine ch rfl (ob_assign arg_c) ?_
      refine ch_nil ?_
      intro a106 w107 hf108 hg109 hk110 hn111
      have h112 : Holds _ (a106.eval (.tmp 4)) w107 := hn111.at 0 0 rfl rfl rfl
      have g113 : Grow w0 w107 := g62.trans hg109
      have g114 : Grow w30 w107 := g63.trans hg109
      clear g62 g63 hf54 hk110 hn111 hg109
      refine then_ ?_
      refine wp_ret ?_
      exact ret_tmp rfl hf108 g113 (is_cast h112 (congrArg Value.bool hs))

set_option maxRecDepth 100000 in
theorem c_MerkleSplits {l : List UInt64} : Con1 18 (Sl elNm l) (fun _ => Is (.bool true)) := by
  intro lo v0 w0 hlo hv0
  refine enter Try.func18 rfl Try.ntmps18 (by simp) ?_
  intro a0 hf0 ha
  have h00 : Holds (Is v0) (a0.eval (.tmp 0)) w0 := arg_holds ha rfl rfl
  clear ha
  have g0 : Grow w0 w0 := Grow.refl _
  have h300 := take300 l
  refine wp_seq ?_
  refine wp_region_lit ?_
  refine wp_all [([], [])] [0] w0.heap.size hf0 g0.size (by kernel_rfl) bund_nil ?_
  refine ch rfl (ob_assign arg_c) ?_
  refine ch_nil ?_
  intro a1 w2 hf3 hg4 hk5 hn6
  have h7 : Holds _ (a1.eval (.tmp 0)) w0 := hk5.holds rfl h00
  have g8 : Grow w0 w2 := g0.trans hg4
  clear h00 g0 hf0 hk5 hn6
  refine then_ ?_
  refine wp_seq ?_
  have g9 : Grow w2 w2 := Grow.refl _
  have hz10 : w0.heap.size ≤ w2.heap.size := g8.size
  refine wp_region_lit ?_
  refine wp_all [([0], []), ([], [0]), ([], [1])] [] w2.heap.size hf3 g9.size (by kernel_rfl) (bund_cons (is_any h7) bund_nil) ?_
  refine ch rfl (ob_move (arg_free 0 rfl rfl)) ?_
  refine ch rfl (ob_call1 (by kernel_rfl) (c_cut) (ArgOK.val (arg_op 0 0 rfl rfl rfl rfl) (hv0.up g8))) ?_
  refine ch rfl (ob_assign (arg_op 1 0 rfl rfl rfl rfl)) ?_
  refine ch_nil ?_
  intro a11 w12 hf13 hg14 hk15 hn16
  have h17 : Holds _ (a11.eval (.tmp 0)) w12 := hn16.at 2 0 rfl rfl rfl
  have g18 : Grow w0 w12 := g8.trans hg14
  have g19 : Grow w2 w12 := g9.trans hg14
  clear g8 g9 hf3 hk15 hn16
  obtain ⟨V20, h21, hV22⟩ := nameV h17
  clear h17
  refine then_ ?_
  refine wp_seq ?_
  refine wp_seq ?_
  refine wp_region_lit ?_
  refine wp_all [([0], []), ([], [0]), ([], [1])] [0] w2.heap.size hf13 g19.size (by kernel_rfl) (bund_cons h21 bund_nil) ?_
  refine ch rfl (ob_move (arg_free 0 rfl rfl)) ?_
  refine ch rfl (ob_len (ArgOK.val (arg_op 0 0 rfl rfl rfl rfl) hV22) Try.underlying39) ?_
  refine ch rfl (ob_lss (arg_op 1 0 rfl rfl rfl rfl) arg_c) ?_
  refine ch_nil ?_
  intro a23 w24 hf25 hg26 hk27 hn28
  have h29 : Holds _ (a23.eval (.tmp 8)) w24 := hn28.at 2 0 rfl rfl rfl
  have h30 : Holds _ (a23.eval (.tmp 0)) w24 := hk27.holds rfl (h21.up hg26)
  have g31 : Grow w0 w24 := g18.trans hg26
  have g32 : Grow w2 w24 := g19.trans hg26
  have hV33 : Holds _ V20 w24 := hV22.up hg26
  clear h21 g18 g19 hf13 hk27 hn28 hg26 hV22
  refine then_ ?_
  refine wp_if h29 ?_ ?_
  · intro hc34
    try simp only [cond_norm] at hc34
    refine wp_seq ?_
    have g35 : Grow w24 w24 := Grow.refl _
    have hz36 : w2.heap.size ≤ w24.heap.size := g32.size
    refine wp_region_lit ?_
    refine wp_all [([], []), ([], [0])] [] w24.heap.size hf25 g35.size (by kernel_rfl) bund_nil ?_
    refine ch rfl (ob_call0 (by kernel_rfl) (c_awake3) ) ?_
    refine ch rfl (ob_assign (arg_op 0 0 rfl rfl rfl rfl)) ?_
    refine ch_nil ?_
    intro a37 w38 hf39 hg40 hk41 hn42
    have h43 : Holds _ (a37.eval (.tmp 2)) w38 := hn42.at 1 0 rfl rfl rfl
    have g44 : Grow w0 w38 := g31.trans hg40
    have g45 : Grow w2 w38 := g32.trans hg40
    have g46 : Grow w24 w38 := g35.trans hg40
    clear g31 g32 g35 hf25 hk41 hn42
    refine then_ ?_
    refine wp_ret ?_
    refine thenR ?_
    exact ret_tmp rfl hf39 g44 (is_cast h43 (congrArg Value.bool (by first | rfl | (rw [hk, ← root_two (by omega)]; simp))))
  · intro hc34
    try simp only [cond_norm] at hc34
    refine wp_skip ?_
    refine then_ ?_
    refine wp_seq ?_
    refine wp_region_lit ?_
    refine wp_all [([], [])] [0] w2.heap.size hf25 g32.size (by kernel_rfl) bund_nil ?_
    refine ch rfl (ob_assign arg_c) ?_
    refine ch_nil ?_
    intro a47 w48 hf49 hg50 hk51 hn52
    have h53 : Holds _ (a47.eval (.tmp 3)) w48 := hn52.at 0 0 rfl rfl rfl
    have h54 : Holds _ (a47.eval (.tmp 0)) w48 := hk51.holds rfl (h30.up hg50)
    have g55 : Grow w0 w48 := g31.trans hg50
    have g56 : Grow w2 w48 := g32.trans hg50
    have hV57 : Holds _ V20 w48 := hV33.up hg50
    clear h30 g31 g32 hf25 hk51 hn52 hg50 hV33
    refine then_ ?_
    refine wp_seq ?_
    refine wp_block ?_
    have g58 : Grow w48 w48 := Grow.refl _
    have hz59 : w2.heap.size ≤ w48.heap.size := g56.size
    refine wp_loopL (α := Nat) (fun k a' w' => Fr 32 a' ∧ (1 ≤ k) ∧ (k ≤ 1 ∨ k < (l.take 300).length) ∧ (splitGo (l.take 300).length (l.take 300).length k = split (l.take 300).length) ∧ Grow w0 w' ∧ Grow w2 w' ∧ Grow w48 w' ∧ Keep [0] a47 a' ∧ Holds (Is (intV (k : Int))) (a'.eval (.tmp 3)) w') (fun k => (l.take 300).length - k) (1) ⟨hf49, (by omega), (by omega), (by rfl), g55, g56, g58, Keep.refl _ _, (is_cast h53 (by first | rfl | (refine congrArg intV ?_; (try dsimp only); omega)))⟩ ?_
    intro k a60 w61 ⟨hf62, hi64, hi65, hi66, g67, g68, g69, kk63, h70⟩
    have h71 : Holds _ (a60.eval (.tmp 0)) w48 := kk63.holds rfl h54
    refine wp_seq ?_
    refine wp_seq ?_
    refine wp_region_lit ?_
    refine wp_all [([3], []), ([], [0]), ([0], []), ([], [2]), ([], [1, 3])] [0, 3] w48.heap.size hf62 g69.size (by kernel_rfl) (bund_cons h70 (bund_cons (is_any h71) bund_nil)) ?_
    refine ch rfl (ob_move (arg_free 0 rfl rfl)) ?_
    first
      | (refine ch rfl (ob_mul' arg_c (arg_op 0 0 rfl rfl rfl rfl) ?_) ?_; · omega)
      | refine ch rfl (ob_mul arg_c (arg_op 0 0 rfl rfl rfl rfl)) ?_
    refine ch rfl (ob_move (arg_free 1 rfl rfl)) ?_
    refine ch rfl (ob_len (ArgOK.val (arg_op 2 0 rfl rfl rfl rfl) (hV57.up g69)) Try.underlying39) ?_
    refine ch rfl (ob_lss (arg_op 1 2 rfl rfl rfl rfl) (arg_op 3 0 rfl rfl rfl rfl)) ?_
    refine ch_nil ?_
    intro a72 w73 hf74 hg75 hk76 hn77
    have h78 : Holds _ (a72.eval (.tmp 14)) w73 := hn77.at 4 0 rfl rfl rfl
    have h79 : Holds _ (a72.eval (.tmp 3)) w73 := hk76.holds rfl (h70.up hg75)
    have h80 : Holds _ (a72.eval (.tmp 0)) w48 := hk76.holds rfl h71
    have g81 : Grow w0 w73 := g67.trans hg75
    have g82 : Grow w2 w73 := g68.trans hg75
    have g83 : Grow w48 w73 := g69.trans hg75
    have kk84 : Keep _ a47 a72 := kk63.trans hk76 rfl
    clear h70 h71 g67 g68 g69 kk63 hf62 hk76 hn77 hg75
    refine then_ ?_
    refine wp_if h78 ?_ ?_
    · intro hc85
      try simp only [cond_norm] at hc85
      refine wp_skip ?_
      refine then_ ?_
      refine wp_block ?_
      refine wp_region_lit ?_
      refine wp_all [([3], []), ([], [0]), ([], [1])] [0] w48.heap.size hf74 g83.size (by kernel_rfl) (bund_cons h79 bund_nil) ?_
      refine ch rfl (ob_move (arg_free 0 rfl rfl)) ?_
      first
        | (refine ch rfl (ob_mul' arg_c (arg_op 0 0 rfl rfl rfl rfl) ?_) ?_; · omega)
        | refine ch rfl (ob_mul arg_c (arg_op 0 0 rfl rfl rfl rfl)) ?_
      refine ch rfl (ob_assign (arg_op 1 0 rfl rfl rfl rfl)) ?_
      refine ch_nil ?_
      intro a86 w87 hf88 hg89 hk90 hn91
      have h92 : Holds _ (a86.eval (.tmp 3)) w87 := hn91.at 2 0 rfl rfl rfl
      have h93 : Holds _ (a86.eval (.tmp 0)) w48 := hk90.holds rfl h80
      have g94 : Grow w0 w87 := g81.trans hg89
      have g95 : Grow w2 w87 := g82.trans hg89
      have g96 : Grow w48 w87 := g83.trans hg89
      have kk97 : Keep _ a47 a86 := kk84.trans hk90 rfl
      clear h80 g81 g82 g83 kk84 hf74 hk90 hn91 hg89
      refine blockN ?_
      refine then_ ?_
      exact ⟨(2 * k), (by ((try dsimp only); omega)), hf88, (by omega), (by omega), (by rw [splitN_step (by omega) (by omega)]; assumption), g94, g95, g96, kk97, (is_cast h92 (by first | rfl | (refine congrArg intV ?_; (try dsimp only); omega)))⟩
    · intro hc85
      try simp only [cond_norm] at hc85
      have hk : k = split (l.take 300).length := (splitN_end (n := (l.take 300).length) (by assumption) (by omega)).trans (by assumption)
      refine wp_exit ?_
      refine thenX ?_
      refine thenX ?_
      refine blockX ?_
      refine then_ ?_
      refine wp_seq ?_
      have g98 : Grow w73 w73 := Grow.refl _
      have hz99 : w48.heap.size ≤ w73.heap.size := g83.size
      refine wp_calm [0, 1, 0, 0, 12, 31, 0, 0, 192, 511, 1023, 2047, 4095, 8191, 16383, 32767] [([0], []), ([], [0]), ([0], []), ([3], []), ([], [2, 3]), ([], [4]), ([0], []), ([3], []), ([], [6, 7]), ([], [8]), ([], [5, 9]), ([], [1, 10]), ([], [11]), ([], [12]), ([], [12, 13]), ([], [14])] [] w73.heap.size hf74 g98.size (by kernel_rfl) (bund_cons (is_any h80) (bund_cons h79 bund_nil)) ?_
      intro ws100 hs101
      refine ch rfl (ob_move (arg_free 0 rfl rfl)) ?_
      refine ch rfl (ob_call1 (by kernel_rfl) (c_Root ?_) (ArgOK.val (arg_op 0 0 rfl rfl rfl rfl) ((hV57.up g83).up hs101))) ?_
      · ((try simp only [List.length_take, List.length_drop, List.length_cons, List.length_nil]); omega)
      refine ch rfl (ob_move (arg_free 0 rfl rfl)) ?_
      refine ch rfl (ob_move (arg_free 1 rfl rfl)) ?_
      refine ch rfl (ob_slice_to (ArgOK.val (arg_op 2 1 rfl rfl rfl rfl) ((hV57.up g83).up hs101)) (arg_op 3 0 rfl rfl rfl rfl) (rfl) ?_ Try.underlying39 szNm) ?_
      · omega
      refine ch rfl (ob_call1 (by kernel_rfl) (c_Root ?_) (arg_op 4 0 rfl rfl rfl rfl)) ?_
      · ((try simp only [List.length_take, List.length_drop, List.length_cons, List.length_nil]); omega)
      refine ch rfl (ob_move (arg_free 0 rfl rfl)) ?_
      refine ch rfl (ob_move (arg_free 1 rfl rfl)) ?_
      refine ch rfl (ob_slice_from (ArgOK.val (arg_op 6 1 rfl rfl rfl rfl) ((hV57.up g83).up hs101)) (arg_op 7 0 rfl rfl rfl rfl) (rfl) ?_ Try.underlying39 szNm) ?_
      · omega
      refine ch rfl (ob_call1 (by kernel_rfl) (c_Root ?_) (arg_op 8 0 rfl rfl rfl rfl)) ?_
      · ((try simp only [List.length_take, List.length_drop, List.length_cons, List.length_nil]); omega)
      refine ch rfl (ob_call3 (by kernel_rfl) (c_Pair) (arg_cb 18 rfl) (arg_op 5 4 rfl rfl rfl rfl) (arg_op 9 0 rfl rfl rfl rfl)) ?_
      refine ch rfl (ob_eqnm (arg_op 1 9 rfl rfl rfl rfl) (arg_op 10 0 rfl rfl rfl rfl)) ?_
      refine ch rfl (ob_move (arg_op 11 0 rfl rfl rfl rfl)) ?_
      refine chg (b := _) rfl rfl (arg_op 12 0 rfl rfl rfl rfl) (fun hb12 => ob_call0 (by kernel_rfl) (c_awake3) ) ?_
      refine ch rfl (ob_and (arg_op 12 1 rfl rfl rfl rfl) (arg_op 13 0 rfl rfl rfl rfl)) ?_
      refine ch rfl (ob_assign (arg_op 14 0 rfl rfl rfl rfl)) ?_
      refine ch_nil ?_
      intro a102 w103 hf104 hg105 hk106 hn107
      have h108 : Holds _ (a102.eval (.tmp 2)) w103 := hn107.at 15 0 rfl rfl rfl
      have g109 : Grow w0 w103 := g81.trans hg105
      have g110 : Grow w2 w103 := g82.trans hg105
      have g111 : Grow w48 w103 := g83.trans hg105
      have g112 : Grow w73 w103 := g98.trans hg105
      clear g81 g82 g83 g98 hf74 hk106 hn107
      refine then_ ?_
      refine wp_ret ?_
      exact ret_tmp rfl hf104 g109 (is_cast h108 (congrArg Value.bool (by first | rfl | (rw [hk, ← root_two (by omega)]; simp))))

set_option maxRecDepth 100000 in
theorem c_MerkleRoots {l : List UInt64} {i : Int64} : Con2 20 (Sl elNm l) (Is (intV i.toInt)) (fun _ => Is (.bool true)) := by
  intro lo v0 v1 w0 hlo hv0 hv1
  refine enter Try.func20 rfl Try.ntmps20 (by simp) ?_
  intro a0 hf0 ha
  have h00 : Holds (Is v0) (a0.eval (.tmp 0)) w0 := arg_holds ha rfl rfl
  have h01 : Holds _ (a0.eval (.tmp 1)) w0 := arg_holds ha rfl hv1
  clear ha
  have g0 : Grow w0 w0 := Grow.refl _
  have hi1 := i.le_toInt
  have hi2 := i.toInt_lt
  have h300 := take300 l
  refine wp_seq ?_
  refine wp_region_lit ?_
  refine wp_all [([], [])] [0, 1] w0.heap.size hf0 g0.size (by kernel_rfl) bund_nil ?_
  refine ch rfl (ob_assign arg_c) ?_
  refine ch_nil ?_
  intro a1 w2 hf3 hg4 hk5 hn6
  have h7 : Holds _ (a1.eval (.tmp 0)) w0 := hk5.holds rfl h00
  have h8 : Holds _ (a1.eval (.tmp 1)) w0 := hk5.holds rfl h01
  have g9 : Grow w0 w2 := g0.trans hg4
  clear h00 h01 g0 hf0 hk5 hn6
  refine then_ ?_
  refine wp_seq ?_
  have g10 : Grow w2 w2 := Grow.refl _
  have hz11 : w0.heap.size ≤ w2.heap.size := g9.size
  refine wp_region_lit ?_
  refine wp_all [([0], []), ([], [0]), ([], [1])] [1] w2.heap.size hf3 g10.size (by kernel_rfl) (bund_cons (is_any h7) bund_nil) ?_
  refine ch rfl (ob_move (arg_free 0 rfl rfl)) ?_
  refine ch rfl (ob_call1 (by kernel_rfl) (c_cut) (ArgOK.val (arg_op 0 0 rfl rfl rfl rfl) (hv0.up g9))) ?_
  refine ch rfl (ob_assign (arg_op 1 0 rfl rfl rfl rfl)) ?_
  refine ch_nil ?_
  intro a12 w13 hf14 hg15 hk16 hn17
  have h18 : Holds _ (a12.eval (.tmp 0)) w13 := hn17.at 2 0 rfl rfl rfl
  have h19 : Holds _ (a12.eval (.tmp 1)) w0 := hk16.holds rfl h8
  have g20 : Grow w0 w13 := g9.trans hg15
  have g21 : Grow w2 w13 := g10.trans hg15
  clear h8 g9 g10 hf3 hk16 hn17
  obtain ⟨V22, h23, hV24⟩ := nameV h18
  clear h18
  refine then_ ?_
  refine wp_seq ?_
  have g25 : Grow w13 w13 := Grow.refl _
  have hz26 : w2.heap.size ≤ w13.heap.size := g21.size
  refine wp_region_lit ?_
  refine wp_all [([0], []), ([1], []), ([], [0, 1]), ([], [2]), ([], [3]), ([], [3]), ([], [4]), ([], [5])] [0, 1] w13.heap.size hf14 g25.size (by kernel_rfl) (bund_cons h23 (bund_cons (is_any h19) bund_nil)) ?_
  refine ch rfl (ob_move (arg_free 0 rfl rfl)) ?_
  refine ch rfl (ob_move (arg_free 1 rfl rfl)) ?_
  refine ch rfl (ob_call2 (by kernel_rfl) (c_Path ?_ ?_) (ArgOK.val (arg_op 0 1 rfl rfl rfl rfl) hV24) (arg_op 1 0 rfl rfl rfl rfl)) ?_
  · ((try simp only [List.length_take, List.length_drop, List.length_cons, List.length_nil]); omega)
  · omega
  refine ch rfl (ob_move (arg_op 2 0 rfl rfl rfl rfl)) ?_
  refine ch rfl (ob_extract0 (arg_op 3 0 rfl rfl rfl rfl)) ?_
  refine ch rfl (ob_extract1 (arg_op 3 1 rfl rfl rfl rfl)) ?_
  refine ch rfl (ob_assign (arg_op 4 1 rfl rfl rfl rfl)) ?_
  refine ch rfl (ob_assign (arg_op 5 1 rfl rfl rfl rfl)) ?_
  refine ch_nil ?_
  intro a27 w28 hf29 hg30 hk31 hn32
  have h33 : Holds (OwnS w13.heap.size _ _) (a27.eval (.tmp 5)) w28 := hn32.at 6 1 rfl rfl rfl
  have h34 : Holds _ (a27.eval (.tmp 6)) w28 := hn32.at 7 0 rfl rfl rfl
  have h35 : Holds _ (a27.eval (.tmp 0)) w13 := hk31.holds rfl h23
  have h36 : Holds _ (a27.eval (.tmp 1)) w0 := hk31.holds rfl h19
  have g37 : Grow w0 w28 := g20.trans hg30
  have g38 : Grow w2 w28 := g21.trans hg30
  have g39 : Grow w13 w28 := g25.trans hg30
  clear h23 h19 g20 g21 g25 hf14 hk31 hn32
  obtain ⟨V40, h41, hV42⟩ := nameV h33
  clear h33
  refine then_ ?_
  refine wp_seq ?_
  have g43 : Grow w28 w28 := Grow.refl _
  have hz44 : w13.heap.size ≤ w28.heap.size := g39.size
  refine wp_region_lit ?_
  refine wp_all [([0], []), ([1], []), ([], [0, 1]), ([], [2]), ([], [3]), ([], [3]), ([], [4]), ([], [5])] [0, 5, 6] w28.heap.size hf29 g43.size (by kernel_rfl) (bund_cons (is_any h35) (bund_cons (is_any h36) bund_nil)) ?_
  refine ch rfl (ob_move (arg_free 0 rfl rfl)) ?_
  refine ch rfl (ob_move (arg_free 1 rfl rfl)) ?_
  refine ch rfl (ob_call2 (by kernel_rfl) (c_rPath ?_ ?_) (ArgOK.val (arg_op 0 1 rfl rfl rfl rfl) (hV24.up g39)) (arg_op 1 0 rfl rfl rfl rfl)) ?_
  · ((try simp only [List.length_take, List.length_drop, List.length_cons, List.length_nil]); omega)
  · omega
  refine ch rfl (ob_move (arg_op 2 0 rfl rfl rfl rfl)) ?_
  refine ch rfl (ob_extract0 (arg_op 3 0 rfl rfl rfl rfl)) ?_
  refine ch rfl (ob_extract1 (arg_op 3 1 rfl rfl rfl rfl)) ?_
  refine ch rfl (ob_assign (arg_op 4 1 rfl rfl rfl rfl)) ?_
  refine ch rfl (ob_assign (arg_op 5 1 rfl rfl rfl rfl)) ?_
  refine ch_nil ?_
  intro a45 w46 hf47 hg48 hk49 hn50
  have h51 : Holds (OwnS w28.heap.size _ _) (a45.eval (.tmp 7)) w46 := hn50.at 6 1 rfl rfl rfl
  have h52 : Holds _ (a45.eval (.tmp 8)) w46 := hn50.at 7 0 rfl rfl rfl
  have h53 : Holds _ (a45.eval (.tmp 5)) w28 := hk49.holds rfl h41
  have h54 : Holds _ (a45.eval (.tmp 6)) w28 := hk49.holds rfl h34
  have h55 : Holds _ (a45.eval (.tmp 0)) w13 := hk49.holds rfl h35
  have g56 : Grow w0 w46 := g37.trans hg48
  have g57 : Grow w2 w46 := g38.trans hg48
  have g58 : Grow w13 w46 := g39.trans hg48
  have g59 : Grow w28 w46 := g43.trans hg48
  clear h41 h34 h35 g37 g38 g39 g43 hf29 hk49 hn50
  obtain ⟨V60, h61, hV62⟩ := nameV h51
  clear h51
  refine then_ ?_
  refine wp_seq ?_
  have g63 : Grow w46 w46 := Grow.refl _
  have hz64 : w28.heap.size ≤ w46.heap.size := g59.size
  refine wp_region_lit ?_
  refine wp_all [([0], []), ([], [0]), ([0], []), ([], [2]), ([], [1, 3]), ([], [4]), ([5], [5]), ([7], [5]), ([], [6, 7, 5]), ([], [5, 8]), ([], [9]), ([6], [10]), ([8], [10]), ([], [11, 12, 10]), ([], [10, 13]), ([], [14]), ([], [15]), ([], [15, 16]), ([], [17])] [] w46.heap.size hf47 g63.size (by kernel_rfl) (bund_cons (is_any h55) (bund_cons (is_any h53) (bund_cons h61 (bund_cons (is_any h54) (bund_cons h52 bund_nil))))) ?_
  refine ch rfl (ob_move (arg_free 0 rfl rfl)) ?_
  refine ch rfl (ob_call1 (by kernel_rfl) (c_Root ?_) (ArgOK.val (arg_op 0 0 rfl rfl rfl rfl) (hV24.up g58))) ?_
  · ((try simp only [List.length_take, List.length_drop, List.length_cons, List.length_nil]); omega)
  refine ch rfl (ob_move (arg_free 0 rfl rfl)) ?_
  refine ch rfl (ob_call1 (by kernel_rfl) (c_rRoot ?_) (ArgOK.val (arg_op 2 0 rfl rfl rfl rfl) (hV24.up g58))) ?_
  · ((try simp only [List.length_take, List.length_drop, List.length_cons, List.length_nil]); omega)
  refine ch rfl (ob_eqnm (arg_op 1 2 rfl rfl rfl rfl) (arg_op 3 0 rfl rfl rfl rfl)) ?_
  refine ch rfl (ob_move (arg_op 4 0 rfl rfl rfl rfl)) ?_
  refine chg (b := _) rfl rfl (arg_op 5 0 rfl rfl rfl rfl) (fun hb5 => ob_move (arg_free 1 rfl rfl)) ?_
  refine chg (b := _) rfl rfl (arg_op 5 1 rfl rfl rfl rfl) (fun hb5 => ob_move (arg_free 2 rfl rfl)) ?_
  refine chg (b := _) rfl rfl (arg_op 5 2 rfl rfl rfl rfl) (fun hb5 => ob_call2 (by kernel_rfl) (c_same3 ?_) (ArgOK.sl (ArgOK.val (ArgOK.when (arg_op 6 1 rfl rfl rfl rfl) hb5) (hV42.up g59))) (ArgOK.sl (ArgOK.val (ArgOK.when (arg_op 7 0 rfl rfl rfl rfl) hb5) hV62))) ?_
  · (have := pathV_le (l.take 300) i.toInt; omega)
  refine ch rfl (ob_and (arg_op 5 3 rfl rfl rfl rfl) (arg_op 8 0 rfl rfl rfl rfl)) ?_
  refine ch rfl (ob_move (arg_op 9 0 rfl rfl rfl rfl)) ?_
  refine chg (b := _) rfl rfl (arg_op 10 0 rfl rfl rfl rfl) (fun hb10 => ob_move (arg_free 3 rfl rfl)) ?_
  refine chg (b := _) rfl rfl (arg_op 10 1 rfl rfl rfl rfl) (fun hb10 => ob_move (arg_free 4 rfl rfl)) ?_
  refine chg (b := _) rfl rfl (arg_op 10 2 rfl rfl rfl rfl) (fun hb10 => ob_eqbool (ArgOK.when (arg_op 11 1 rfl rfl rfl rfl) hb10) (ArgOK.when (arg_op 12 0 rfl rfl rfl rfl) hb10) Try.underlying4) ?_
  refine ch rfl (ob_and (arg_op 10 3 rfl rfl rfl rfl) (arg_op 13 0 rfl rfl rfl rfl)) ?_
  refine ch rfl (ob_move (arg_op 14 0 rfl rfl rfl rfl)) ?_
  refine chg (b := _) rfl rfl (arg_op 15 0 rfl rfl rfl rfl) (fun hb15 => ob_call0 (by kernel_rfl) (c_awake3) ) ?_
  refine ch rfl (ob_and (arg_op 15 1 rfl rfl rfl rfl) (arg_op 16 0 rfl rfl rfl rfl)) ?_
  refine ch rfl (ob_assign (arg_op 17 0 rfl rfl rfl rfl)) ?_
  refine ch_nil ?_
  intro a65 w66 hf67 hg68 hk69 hn70
  have h71 : Holds _ (a65.eval (.tmp 4)) w66 := hn70.at 18 0 rfl rfl rfl
  have g72 : Grow w0 w66 := g56.trans hg68
  have g73 : Grow w2 w66 := g57.trans hg68
  have g74 : Grow w13 w66 := g58.trans hg68
  have g75 : Grow w28 w66 := g59.trans hg68
  have g76 : Grow w46 w66 := g63.trans hg68
  clear g56 g57 g58 g59 g63 hf47 hk69 hn70
  refine then_ ?_
  refine wp_ret ?_
  exact ret_tmp rfl hf67 g72 (is_cast h71 (congrArg Value.bool (by simp)))

set_option maxRecDepth 100000 in
theorem c_MerkleIncludes {l : List UInt64} {i : Int64} : Con2 21 (Sl elNm l) (Is (intV i.toInt)) (fun _ => Is (.bool true)) := by
  intro lo v0 v1 w0 hlo hv0 hv1
  refine enter Try.func21 rfl Try.ntmps21 (by simp) ?_
  intro a0 hf0 ha
  have h00 : Holds (Is v0) (a0.eval (.tmp 0)) w0 := arg_holds ha rfl rfl
  have h01 : Holds _ (a0.eval (.tmp 1)) w0 := arg_holds ha rfl hv1
  clear ha
  have g0 : Grow w0 w0 := Grow.refl _
  have hi1 := i.le_toInt
  have hi2 := i.toInt_lt
  have h300 := take300 l
  refine wp_seq ?_
  refine wp_region_lit ?_
  refine wp_all [([], [])] [0, 1] w0.heap.size hf0 g0.size (by kernel_rfl) bund_nil ?_
  refine ch rfl (ob_assign arg_c) ?_
  refine ch_nil ?_
  intro a1 w2 hf3 hg4 hk5 hn6
  have h7 : Holds _ (a1.eval (.tmp 0)) w0 := hk5.holds rfl h00
  have h8 : Holds _ (a1.eval (.tmp 1)) w0 := hk5.holds rfl h01
  have g9 : Grow w0 w2 := g0.trans hg4
  clear h00 h01 g0 hf0 hk5 hn6
  refine then_ ?_
  refine wp_seq ?_
  have g10 : Grow w2 w2 := Grow.refl _
  have hz11 : w0.heap.size ≤ w2.heap.size := g9.size
  refine wp_region_lit ?_
  refine wp_all [([0], []), ([], [0]), ([], [1])] [1] w2.heap.size hf3 g10.size (by kernel_rfl) (bund_cons (is_any h7) bund_nil) ?_
  refine ch rfl (ob_move (arg_free 0 rfl rfl)) ?_
  refine ch rfl (ob_call1 (by kernel_rfl) (c_cut) (ArgOK.val (arg_op 0 0 rfl rfl rfl rfl) (hv0.up g9))) ?_
  refine ch rfl (ob_assign (arg_op 1 0 rfl rfl rfl rfl)) ?_
  refine ch_nil ?_
  intro a12 w13 hf14 hg15 hk16 hn17
  have h18 : Holds _ (a12.eval (.tmp 0)) w13 := hn17.at 2 0 rfl rfl rfl
  have h19 : Holds _ (a12.eval (.tmp 1)) w0 := hk16.holds rfl h8
  have g20 : Grow w0 w13 := g9.trans hg15
  have g21 : Grow w2 w13 := g10.trans hg15
  clear h8 g9 g10 hf3 hk16 hn17
  obtain ⟨V22, h23, hV24⟩ := nameV h18
  clear h18
  refine then_ ?_
  refine wp_seq ?_
  refine wp_seq ?_
  refine wp_region_lit ?_
  refine wp_all [([0], []), ([], [0]), ([], [1])] [0, 1] w2.heap.size hf14 g21.size (by kernel_rfl) (bund_cons h23 bund_nil) ?_
  refine ch rfl (ob_move (arg_free 0 rfl rfl)) ?_
  refine ch rfl (ob_len (ArgOK.val (arg_op 0 0 rfl rfl rfl rfl) hV24) Try.underlying39) ?_
  refine ch rfl (ob_eql (arg_op 1 0 rfl rfl rfl rfl) arg_c) ?_
  refine ch_nil ?_
  intro a25 w26 hf27 hg28 hk29 hn30
  have h31 : Holds _ (a25.eval (.tmp 13)) w26 := hn30.at 2 0 rfl rfl rfl
  have h32 : Holds _ (a25.eval (.tmp 0)) w26 := hk29.holds rfl (h23.up hg28)
  have h33 : Holds _ (a25.eval (.tmp 1)) w0 := hk29.holds rfl h19
  have g34 : Grow w0 w26 := g20.trans hg28
  have g35 : Grow w2 w26 := g21.trans hg28
  have hV36 : Holds _ V22 w26 := hV24.up hg28
  clear h23 h19 g20 g21 hf14 hk29 hn30 hg28 hV24
  refine then_ ?_
  refine wp_if h31 ?_ ?_
  · intro hc37
    try simp only [cond_norm] at hc37
    refine wp_seq ?_
    have g38 : Grow w26 w26 := Grow.refl _
    have hz39 : w2.heap.size ≤ w26.heap.size := g35.size
    refine wp_region_lit ?_
    refine wp_all [([0], []), ([1], []), ([], [0, 1]), ([], [2]), ([], [3]), ([], [3]), ([], [4]), ([], [5])] [] w26.heap.size hf27 g38.size (by kernel_rfl) (bund_cons h32 (bund_cons (is_any h33) bund_nil)) ?_
    refine ch rfl (ob_move (arg_free 0 rfl rfl)) ?_
    refine ch rfl (ob_move (arg_free 1 rfl rfl)) ?_
    refine ch rfl (ob_call2 (by kernel_rfl) (c_Path ?_ ?_) (ArgOK.val (arg_op 0 1 rfl rfl rfl rfl) hV36) (arg_op 1 0 rfl rfl rfl rfl)) ?_
    · ((try simp only [List.length_take, List.length_drop, List.length_cons, List.length_nil]); omega)
    · omega
    refine ch rfl (ob_move (arg_op 2 0 rfl rfl rfl rfl)) ?_
    refine ch rfl (ob_extract0 (arg_op 3 0 rfl rfl rfl rfl)) ?_
    refine ch rfl (ob_extract1 (arg_op 3 1 rfl rfl rfl rfl)) ?_
    refine ch rfl (ob_assign (arg_op 4 1 rfl rfl rfl rfl)) ?_
    refine ch rfl (ob_assign (arg_op 5 1 rfl rfl rfl rfl)) ?_
    refine ch_nil ?_
    intro a40 w41 hf42 hg43 hk44 hn45
    have h46 : Holds _ (a40.eval (.tmp 6)) w41 := hn45.at 7 0 rfl rfl rfl
    have g47 : Grow w0 w41 := g34.trans hg43
    have g48 : Grow w2 w41 := g35.trans hg43
    have g49 : Grow w26 w41 := g38.trans hg43
    clear g34 g35 g38 hf27 hk44 hn45
    refine then_ ?_
    refine wp_seq ?_
    have g50 : Grow w41 w41 := Grow.refl _
    have hz51 : w26.heap.size ≤ w41.heap.size := g49.size
    refine wp_region_lit ?_
    refine wp_all [([6], []), ([], [0]), ([], [1]), ([], [2]), ([], [2, 3]), ([], [4])] [] w41.heap.size hf42 g50.size (by kernel_rfl) (bund_cons h46 bund_nil) ?_
    refine ch rfl (ob_move (arg_free 0 rfl rfl)) ?_
    refine ch rfl (ob_not (arg_op 0 0 rfl rfl rfl rfl)) ?_
    refine ch rfl (ob_move (arg_op 1 0 rfl rfl rfl rfl)) ?_
    refine chg (b := _) rfl rfl (arg_op 2 0 rfl rfl rfl rfl) (fun hb2 => ob_call0 (by kernel_rfl) (c_awake3) ) ?_
    refine ch rfl (ob_and (arg_op 2 1 rfl rfl rfl rfl) (arg_op 3 0 rfl rfl rfl rfl)) ?_
    refine ch rfl (ob_assign (arg_op 4 0 rfl rfl rfl rfl)) ?_
    refine ch_nil ?_
    intro a52 w53 hf54 hg55 hk56 hn57
    have h58 : Holds _ (a52.eval (.tmp 4)) w53 := hn57.at 5 0 rfl rfl rfl
    have g59 : Grow w0 w53 := g47.trans hg55
    have g60 : Grow w2 w53 := g48.trans hg55
    have g61 : Grow w26 w53 := g49.trans hg55
    have g62 : Grow w41 w53 := g50.trans hg55
    clear g47 g48 g49 g50 hf42 hk56 hn57
    refine then_ ?_
    refine wp_ret ?_
    refine thenR ?_
    exact ret_tmp rfl hf54 g59 (is_cast h58 (congrArg Value.bool (by first | (rw [← pathB_no (by omega)]; rfl) | exact inc_all hR)))
  · intro hc37
    try simp only [cond_norm] at hc37
    refine wp_skip ?_
    refine then_ ?_
    refine wp_seq ?_
    refine wp_region_lit ?_
    refine wp_all [([1], []), ([], [0]), ([0], []), ([], [2]), ([], [3]), ([], [1, 4]), ([], [5]), ([], [6])] [0] w2.heap.size hf27 g35.size (by kernel_rfl) (bund_cons (is_any h33) (bund_cons h32 bund_nil)) ?_
    refine ch rfl (ob_move (arg_free 0 rfl rfl)) ?_
    refine ch rfl (ob_intu64 (m := UInt64.ofNat (i.toInt % 18446744073709551616).toNat) (arg_op 0 0 rfl rfl rfl rfl) Try.underlying3 Try.underlying29 ?_) ?_
    · exact int_u64 _
    refine ch rfl (ob_move (arg_free 1 rfl rfl)) ?_
    refine ch rfl (ob_len (ArgOK.val (arg_op 2 0 rfl rfl rfl rfl) hV36) Try.underlying39) ?_
    refine ch rfl (ob_intu64 (m := UInt64.ofNat (l.take 300).length) (arg_op 3 0 rfl rfl rfl rfl) Try.underlying3 Try.underlying29 ?_) ?_
    · exact len_u64 (by omega)
    refine ch rfl (ob_remu (arg_op 1 3 rfl rfl rfl rfl) (arg_op 4 0 rfl rfl rfl rfl) ?_) ?_
    · (rw [UInt64.toNat_ofNat']; omega)
    refine ch rfl (ob_u64int (arg_op 5 0 rfl rfl rfl rfl) Try.underlying29 Try.underlying3) ?_
    refine ch rfl (ob_assign (arg_op 6 0 rfl rfl rfl rfl)) ?_
    refine ch_nil ?_
    intro a63 w64 hf65 hg66 hk67 hn68
    have h69 : Holds _ (a63.eval (.tmp 1)) w64 := hn68.at 7 0 rfl rfl rfl
    have h70 : Holds _ (a63.eval (.tmp 0)) w64 := hk67.holds rfl (h32.up hg66)
    have g71 : Grow w0 w64 := g34.trans hg66
    have g72 : Grow w2 w64 := g35.trans hg66
    have hV73 : Holds _ V22 w64 := hV36.up hg66
    clear h32 g34 g35 hf27 hk67 hn68 hg66 hV36
    refine then_ ?_
    refine wp_seq ?_
    have hR : (UInt64.ofNat (i.toInt % 18446744073709551616).toNat % UInt64.ofNat (l.take 300).length).toNat < (l.take 300).length := mod_len i.toInt (by omega)
    have h74 : Holds (Is (intV ((UInt64.ofNat (i.toInt % 18446744073709551616).toNat % UInt64.ofNat (l.take 300).length).toNat : Int))) (a63.eval (.tmp 1)) w64 := is_cast h69 ((congrArg intV (wrap_in (by omega))))
    have g75 : Grow w64 w64 := Grow.refl _
    have hz76 : w2.heap.size ≤ w64.heap.size := g72.size
    refine wp_region_lit ?_
    refine wp_all [([0], []), ([1], []), ([], [0, 1]), ([], [2]), ([], [3]), ([], [3]), ([], [4]), ([], [5])] [0, 1] w64.heap.size hf65 g75.size (by kernel_rfl) (bund_cons h70 (bund_cons h74 bund_nil)) ?_
    refine ch rfl (ob_move (arg_free 0 rfl rfl)) ?_
    refine ch rfl (ob_move (arg_free 1 rfl rfl)) ?_
    refine ch rfl (ob_call2 (by kernel_rfl) (c_Path ?_ ?_) (ArgOK.val (arg_op 0 1 rfl rfl rfl rfl) hV73) (arg_op 1 0 rfl rfl rfl rfl)) ?_
    · ((try simp only [List.length_take, List.length_drop, List.length_cons, List.length_nil]); omega)
    · omega
    refine ch rfl (ob_move (arg_op 2 0 rfl rfl rfl rfl)) ?_
    refine ch rfl (ob_extract0 (arg_op 3 0 rfl rfl rfl rfl)) ?_
    refine ch rfl (ob_extract1 (arg_op 3 1 rfl rfl rfl rfl)) ?_
    refine ch rfl (ob_assign (arg_op 4 1 rfl rfl rfl rfl)) ?_
    refine ch rfl (ob_assign (arg_op 5 1 rfl rfl rfl rfl)) ?_
    refine ch_nil ?_
    intro a77 w78 hf79 hg80 hk81 hn82
    have h83 : Holds (OwnS w64.heap.size _ _) (a77.eval (.tmp 7)) w78 := hn82.at 6 1 rfl rfl rfl
    have h84 : Holds _ (a77.eval (.tmp 8)) w78 := hn82.at 7 0 rfl rfl rfl
    have h85 : Holds _ (a77.eval (.tmp 1)) w64 := hk81.holds rfl h74
    have h86 : Holds _ (a77.eval (.tmp 0)) w64 := hk81.holds rfl h70
    have g87 : Grow w0 w78 := g71.trans hg80
    have g88 : Grow w2 w78 := g72.trans hg80
    have g89 : Grow w64 w78 := g75.trans hg80
    clear h74 h70 g71 g72 g75 hf65 hk81 hn82
    obtain ⟨V90, h91, hV92⟩ := nameV h83
    clear h83
    refine then_ ?_
    refine wp_seq ?_
    have g93 : Grow w78 w78 := Grow.refl _
    have hz94 : w64.heap.size ≤ w78.heap.size := g89.size
    refine wp_calm [0, 1, 3, 7, 3, 3, 35, 115, 255, 511, 1023, 2047, 4095, 2047, 2047, 26623, 59391, 2047, 2047, 264191, 2047, 2097151, 4194303, 8388607, 16777215, 33554431, 67108863] [([8], []), ([], [0]), ([7], [1]), ([], [2, 1]), ([1], [1]), ([0], [1]), ([], [5, 1]), ([], [4, 6, 1]), ([], [3, 7, 1]), ([], [1, 8]), ([], [9]), ([0], [10]), ([], [11, 10]), ([0], [10]), ([1], [10]), ([], [13, 14, 10]), ([], [15, 10]), ([1], [10]), ([0], [10]), ([], [18, 10]), ([7], [10]), ([], [12, 16, 17, 19, 20, 10]), ([], [10, 21]), ([], [22]), ([], [23]), ([], [23, 24]), ([], [25])] [] w78.heap.size hf79 g93.size (by kernel_rfl) (bund_cons h84 (bund_cons h91 (bund_cons (is_any h85) (bund_cons (is_any h86) bund_nil)))) ?_
    intro ws95 hs96
    refine ch rfl (ob_move (arg_free 0 rfl rfl)) ?_
    refine ch rfl (ob_move (arg_op 0 0 rfl rfl rfl rfl)) ?_
    refine chg (b := _) rfl rfl (arg_op 1 0 rfl rfl rfl rfl) (fun hb1 => ob_move (arg_free 1 rfl rfl)) ?_
    refine chg (b := _) rfl rfl (arg_op 1 1 rfl rfl rfl rfl) (fun hb1 => ob_len (ArgOK.sl (ArgOK.val (ArgOK.when (arg_op 2 0 rfl rfl rfl rfl) hb1) (hV92.up hs96))) Try.underlying39) ?_
    refine chg (b := _) rfl rfl (arg_op 1 2 rfl rfl rfl rfl) (fun hb1 => ob_move (arg_free 2 rfl rfl)) ?_
    refine chg (b := _) rfl rfl (arg_op 1 3 rfl rfl rfl rfl) (fun hb1 => ob_move (arg_free 3 rfl rfl)) ?_
    refine chg (b := _) rfl rfl (arg_op 1 4 rfl rfl rfl rfl) (fun hb1 => ob_len (ArgOK.val (ArgOK.when (arg_op 5 0 rfl rfl rfl rfl) hb1) ((hV73.up g89).up hs96)) Try.underlying39) ?_
    refine chg (b := _) rfl rfl (arg_op 1 5 rfl rfl rfl rfl) (fun hb1 => ob_call2 (by kernel_rfl) (c_Depth ?_ ?_) (ArgOK.when (arg_op 4 2 rfl rfl rfl rfl) hb1) (ArgOK.when (arg_op 6 0 rfl rfl rfl rfl) hb1)) ?_
    · omega
    · omega
    refine chg (b := _) rfl rfl (arg_op 1 6 rfl rfl rfl rfl) (fun hb1 => ob_eql (ArgOK.when (arg_op 3 4 rfl rfl rfl rfl) hb1) (ArgOK.when (arg_op 7 0 rfl rfl rfl rfl) hb1)) ?_
    refine ch rfl (ob_and (arg_op 1 7 rfl rfl rfl rfl) (arg_op 8 0 rfl rfl rfl rfl)) ?_
    refine ch rfl (ob_move (arg_op 9 0 rfl rfl rfl rfl)) ?_
    refine chg (b := _) rfl rfl (arg_op 10 0 rfl rfl rfl rfl) (fun hb10 => ob_move (arg_free 3 rfl rfl)) ?_
    refine chg (b := _) rfl rfl (arg_op 10 1 rfl rfl rfl rfl) (fun hb10 => ob_call1 (by kernel_rfl) (c_Root ?_) (ArgOK.val (ArgOK.when (arg_op 11 0 rfl rfl rfl rfl) hb10) ((hV73.up g89).up hs96))) ?_
    · ((try simp only [List.length_take, List.length_drop, List.length_cons, List.length_nil]); omega)
    refine chg (b := _) rfl rfl (arg_op 10 2 rfl rfl rfl rfl) (fun hb10 => ob_move (arg_free 3 rfl rfl)) ?_
    refine chg (b := _) rfl rfl (arg_op 10 3 rfl rfl rfl rfl) (fun hb10 => ob_move (arg_free 2 rfl rfl)) ?_
    refine chg (b := _) rfl rfl (arg_op 10 4 rfl rfl rfl rfl) (fun hb10 => ob_ix (ArgOK.val (ArgOK.when (arg_op 13 1 rfl rfl rfl rfl) hb10) ((hV73.up g89).up hs96)) (ArgOK.when (arg_op 14 0 rfl rfl rfl rfl) hb10) (rfl) ?_ Try.underlying39 szNm) ?_
    · omega
    refine chg (b := _) rfl rfl (arg_op 10 5 rfl rfl rfl rfl) (fun hb10 => ob_load_nm (ArgOK.when (arg_op 15 0 rfl rfl rfl rfl) hb10)) ?_
    refine chg (b := _) rfl rfl (arg_op 10 6 rfl rfl rfl rfl) (fun hb10 => ob_move (arg_free 2 rfl rfl)) ?_
    refine chg (b := _) rfl rfl (arg_op 10 7 rfl rfl rfl rfl) (fun hb10 => ob_move (arg_free 3 rfl rfl)) ?_
    refine chg (b := _) rfl rfl (arg_op 10 8 rfl rfl rfl rfl) (fun hb10 => ob_len (ArgOK.val (ArgOK.when (arg_op 18 0 rfl rfl rfl rfl) hb10) ((hV73.up g89).up hs96)) Try.underlying39) ?_
    refine chg (b := _) rfl rfl (arg_op 10 9 rfl rfl rfl rfl) (fun hb10 => ob_move (arg_free 1 rfl rfl)) ?_
    refine chg (b := _) rfl rfl (arg_op 10 10 rfl rfl rfl rfl) (fun hb10 => ob_call5 (by kernel_rfl) (c_Verify ?_ ?_) (ArgOK.when (arg_op 12 8 rfl rfl rfl rfl) hb10) (ArgOK.when (arg_op 16 4 rfl rfl rfl rfl) hb10) (ArgOK.when (arg_op 17 3 rfl rfl rfl rfl) hb10) (ArgOK.when (arg_op 19 1 rfl rfl rfl rfl) hb10) (ArgOK.sl (ArgOK.val (ArgOK.when (arg_op 20 0 rfl rfl rfl rfl) hb10) (hV92.up hs96)))) ?_
    · omega
    · omega
    refine ch rfl (ob_and (arg_op 10 11 rfl rfl rfl rfl) (arg_op 21 0 rfl rfl rfl rfl)) ?_
    refine ch rfl (ob_move (arg_op 22 0 rfl rfl rfl rfl)) ?_
    refine chg (b := _) rfl rfl (arg_op 23 0 rfl rfl rfl rfl) (fun hb23 => ob_call0 (by kernel_rfl) (c_awake3) ) ?_
    refine ch rfl (ob_and (arg_op 23 1 rfl rfl rfl rfl) (arg_op 24 0 rfl rfl rfl rfl)) ?_
    refine ch rfl (ob_assign (arg_op 25 0 rfl rfl rfl rfl)) ?_
    refine ch_nil ?_
    intro a97 w98 hf99 hg100 hk101 hn102
    have h103 : Holds _ (a97.eval (.tmp 4)) w98 := hn102.at 26 0 rfl rfl rfl
    have g104 : Grow w0 w98 := g87.trans hg100
    have g105 : Grow w2 w98 := g88.trans hg100
    have g106 : Grow w64 w98 := g89.trans hg100
    have g107 : Grow w78 w98 := g93.trans hg100
    clear g87 g88 g89 g93 hf79 hk101 hn102
    refine then_ ?_
    refine wp_ret ?_
    exact ret_tmp rfl hf99 g104 (is_cast h103 (congrArg Value.bool (by first | (rw [← pathB_no (by omega)]; rfl) | exact inc_all hR)))


end Ex
end Go.Proofs.Ytnmfiiejhoafnaa
