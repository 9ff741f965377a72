/- Paths; the laws of trees. -/
import Derived.Test.YtnmfiiejhoafnaaGreatPvMerkle1
set_option linter.unusedSimpArgs false
set_option linter.unusedVariables false
namespace Go.Proofs.YtnmfiiejhoafnaaGreat
namespace Ex
open Go Calm Go.RowKit
theorem inc_all {L : List UInt64} {r : Nat} (h : r < L.length) : (((pathB L (r : Int) && decide (((pathV L (r : Int)).length : Int) = depI (r : Int) (L.length : Int))) && verB (root L) (L.getD r default) (r : Int) (L.length : Int) (pathV L (r : Int))) && true) = true := by
  have e1 : pathB L (r : Int) = true := (pathB_yes (by omega)).symm
  have e2 : pathV L (r : Int) = path L r := (pathV_yes (i := (r : Int)) (by omega)).symm
  have e3 := path_len L.length L r (Nat.le_refl _)
  have e4 := depI_yes h
  have e5 := comp_path L.length L r (Nat.le_refl _) h
  have hc : 0 ≤ depI (r : Int) (L.length : Int) ∧ ((path L r).length : Int) = depI (r : Int) (L.length : Int) := by rw [e3, e4]; omega
  have e6 : folB (r : Int) (L.length : Int) (path L r) = true := (folB_yes hc).symm
  have e7 : folV (L.getD r default) (r : Int) (L.length : Int) (path L r) = root L := by
    rw [← folV_yes hc]
    exact e5
  unfold verB
  rw [e1, e2, e6, e7, decide_eq_true hc.2]
  simp
set_option maxRecDepth 100000 in
theorem c_climb_step {l : List UInt64} {i : Nat} {iz : Int} (hl : l.length ≤ 1000000) (hi : i < l.length) (hz : iz = (i : Int)) (ih : ∀ (m : List UInt64) (j : Nat) (jz : Int), m.length < l.length → j < m.length → jz = (j : Int) → Con2 111 (Sl elNm m) (Is (intV jz)) (fun lo => OwnS lo elNm (path m j))) : Con2 111 (Sl elNm l) (Is (intV iz)) (fun lo => OwnS lo elNm (path l i)) := by
  intro lo v0 v1 w0 hlo hv0 hv1
  refine enter Tryz.func111 rfl Tryz.ntmps111 (by simp) ?_
  intro a0 hf0 ha
  have h00 : Holds (Is v0) (a0.eval (.tmp 0)) w0 := arg_holds ha rfl rfl
  have h01 : Holds _ (a0.eval (.tmp 1)) w0 := arg_holds ha rfl hv1
  clear ha
  have g0 : Grow w0 w0 := Grow.refl _
  refine wp_seq ?_
  refine wp_region_lit ?_
  refine wp_all [([], [])] [0, 1] w0.heap.size hf0 g0.size (by kernel_rfl) bund_nil ?_
  refine ch rfl (ob_assign (arg_cg (G := Any) (fun w => trivial))) ?_
  refine ch_nil ?_
  intro a1 w2 hf3 hg4 hk5 hn6
  have h7 := hk5.holds rfl h00
  have h8 := hk5.holds rfl h01
  have g9 := g0.trans hg4
  clear h00 h01 g0 hf0 hk5 hn6
  refine then_ ?_
  refine wp_seq ?_
  refine wp_seq ?_
  refine wp_region_lit ?_
  refine wp_all [([0], []), ([], [0]), ([], [1])] [0, 1] w0.heap.size hf3 g9.size (by kernel_rfl) (bund_cons (is_any h7) bund_nil) ?_
  refine ch rfl (ob_move (arg_free 0 rfl rfl)) ?_
  refine ch rfl (ob_len (ArgOK.val (arg_op 0 0 rfl rfl rfl rfl) (hv0.up g9)) Tryz.underlying25) ?_
  refine ch rfl (ob_eql (arg_op 1 0 rfl rfl rfl rfl) arg_c) ?_
  refine ch_nil ?_
  intro a10 w11 hf12 hg13 hk14 hn15
  have h16 : Holds _ (a10.eval (.tmp 10)) w11 := hn15.at 2 0 rfl rfl rfl
  have h17 := hk14.holds rfl h7
  have h18 := hk14.holds rfl h8
  have g19 := g9.trans hg13
  clear h7 h8 g9 hf3 hk14 hn15 hg13
  refine then_ ?_
  refine wp_if h16 ?_ ?_
  · intro hc20
    try simp only [cond_norm] at hc20
    refine wp_seq ?_
    have g21 : Grow w11 w11 := Grow.refl _
    have hz22 : w0.heap.size ≤ w11.heap.size := g19.size
    refine wp_region_lit ?_
    refine wp_all [([], [])] [] w11.heap.size hf12 g21.size (by kernel_rfl) bund_nil ?_
    refine ch rfl (ob_assign (arg_cg (G := OwnS w11.heap.size elNm []) (fun w => own_nil))) ?_
    refine ch_nil ?_
    intro a23 w24 hf25 hg26 hk27 hn28
    have h29 : Holds (OwnS w11.heap.size _ _) (a23.eval (.tmp 4)) w24 := hn28.at 0 0 rfl rfl rfl
    have g30 := g19.trans hg26
    have g31 := g21.trans hg26
    clear g19 g21 hf12 hk27 hn28
    obtain ⟨V32, h33, hV34⟩ := nameV h29
    clear h29
    refine then_ ?_
    refine wp_ret ?_
    refine thenR ?_
    exact ret_tmp rfl hf25 g30 (OwnS.mono (cast_own (by first | exact (path_one i (by omega)).symm | (rw [List.take_length]; first | exact (path_left (by omega) (by omega)).symm | exact (path_right (by omega) (by omega)).symm)) (unV h33 hV34)) (by omega))
  · intro hc20
    try simp only [cond_norm] at hc20
    refine wp_skip ?_
    refine then_ ?_
    refine wp_seq ?_
    refine wp_region_lit ?_
    refine wp_all [([], [])] [0, 1] w0.heap.size hf12 g19.size (by kernel_rfl) bund_nil ?_
    refine ch rfl (ob_assign (arg_cg (G := Any) (fun w => trivial))) ?_
    refine ch_nil ?_
    intro a35 w36 hf37 hg38 hk39 hn40
    have h41 := hk39.holds rfl h17
    have h42 := hk39.holds rfl h18
    have g43 := g19.trans hg38
    clear h17 h18 g19 hf12 hk39 hn40 hg38
    refine then_ ?_
    refine wp_seq ?_
    refine wp_region_lit ?_
    have g44 : Grow w36 w36 := Grow.refl _
    have hz45 : w0.heap.size ≤ w36.heap.size := g43.size
    refine wp_all [([], [])] [0, 1] w36.heap.size hf37 g44.size (by kernel_rfl) bund_nil ?_
    refine ch rfl (ob_alloc_nm) ?_
    refine ch_nil ?_
    intro a46 w47 hf48 hg49 hk50 hn51
    have h52 : Holds _ (a46.eval (.tmp 6)) w47 := hn51.at 0 0 rfl rfl rfl
    have h53 := hk50.holds rfl h41
    have h54 := hk50.holds rfl h42
    have g55 := g43.trans hg49
    have g56 := g44.trans hg49
    obtain ⟨bk57, hl58, hv59, hb60⟩ := OwnB.blk (lo := w36.heap.size) h52
    clear h41 h42 g43 g44 hf37 hk50 hn51
    refine then_ ?_
    refine wp_seq ?_
    refine wp_seq ?_
    have hb := split_bound (n := l.length) (by omega)
    have g61 : Grow w47 w47 := Grow.refl _
    have hl62 : bk57 < w47.heap.size := hb60.lt
    have hz63 : w36.heap.size ≤ w47.heap.size := g56.size
    refine wp_region_lit ?_
    refine wp_all [([0], []), ([], [0]), ([], [1]), ([], [2])] [0, 1, 6] w47.heap.size hf48 g61.size (by kernel_rfl) (bund_cons (is_any h53) bund_nil) ?_
    refine ch rfl (ob_move (arg_free 0 rfl rfl)) ?_
    refine ch rfl (ob_len (ArgOK.val (arg_op 0 0 rfl rfl rfl rfl) (hv0.up g55)) Tryz.underlying25) ?_
    refine ch rfl (ob_call1 (by kernel_rfl) (c_split (n := l.length) ?_ ?_) (arg_op 1 0 rfl rfl rfl rfl)) ?_
    · omega
    · rfl
    refine ch rfl (ob_assign (arg_op 2 0 rfl rfl rfl rfl)) ?_
    refine ch_nil ?_
    intro a64 w65 hf66 hg67 hk68 hn69
    have h70 : Holds _ (a64.eval (.tmp 7)) w65 := hn69.at 3 0 rfl rfl rfl
    have h71 := hk68.holds rfl h53
    have h72 := hk68.holds rfl h54
    have hv73 : Holds (Is (PtrV bk57)) (a64.eval (.tmp 6)) w65 := is_any (hk68.holds rfl hv59)
    have hb74 := hb60.up hg67
    have g75 := g55.trans hg67
    have g76 := g56.trans hg67
    have g77 := g61.trans hg67
    clear h53 h54 hv59 hb60 g55 g56 g61 hf48 hk68 hn69
    refine then_ ?_
    refine wp_seq ?_
    refine wp_region_lit ?_
    refine wp_all [([1], []), ([7], []), ([], [0, 1])] [0, 1, 6, 7] w47.heap.size hf66 g77.size (by kernel_rfl) (bund_cons (is_any h72) (bund_cons h70 bund_nil)) ?_
    refine ch rfl (ob_move (arg_free 0 rfl rfl)) ?_
    refine ch rfl (ob_move (arg_free 1 rfl rfl)) ?_
    refine ch rfl (ob_lss (arg_op 0 1 rfl rfl rfl rfl) (arg_op 1 0 rfl rfl rfl rfl)) ?_
    refine ch_nil ?_
    intro a78 w79 hf80 hg81 hk82 hn83
    have h84 : Holds _ (a78.eval (.tmp 16)) w79 := hn83.at 2 0 rfl rfl rfl
    have h85 := hk82.holds rfl (h70.up hg81)
    have h86 := hk82.holds rfl h71
    have h87 := hk82.holds rfl h72
    have hv88 : Holds (Is (PtrV bk57)) (a78.eval (.tmp 6)) w79 := is_any (hk82.holds rfl hv73)
    have hb89 := hb74.up hg81
    have g90 := g75.trans hg81
    have g91 := g76.trans hg81
    have g92 := g77.trans hg81
    clear h70 h71 h72 hv73 hb74 g75 g76 g77 hf66 hk82 hn83 hg81
    refine then_ ?_
    refine wp_if h84 ?_ ?_
    · intro hc93
      try simp only [cond_norm] at hc93
      have g94 : Grow w79 w79 := Grow.refl _
      have hl95 : bk57 < w79.heap.size := hb89.lt
      have hz96 : w47.heap.size ≤ w79.heap.size := g92.size
      refine wp_calm_tail (l1 := [_, _, _, _, _, _, _, _, _, _, _]) [0, 0, 0, 7, 0, 31, 0, 0, 192, 511, 1023, 2047] [([0], []), ([7], []), ([7], []), ([], [0, 1, 2]), ([1], []), ([], [3, 4]), ([0], []), ([7], []), ([], [6, 7]), ([], [8]), ([], [5])] [6] w79.heap.size hf80 g94.size (by kernel_rfl) (bund_cons (is_any h86) (bund_cons h85 (bund_cons (is_any h87) bund_nil))) ?_
      intro ws97 hs98
      refine ch rfl (ob_move (arg_free 0 rfl rfl)) ?_
      refine ch rfl (ob_move (arg_free 1 rfl rfl)) ?_
      refine ch rfl (ob_move (arg_free 1 rfl rfl)) ?_
      refine ch rfl (ob_slice_to3 (ArgOK.val (arg_op 0 2 rfl rfl rfl rfl) ((hv0.up g90).up hs98)) (arg_op 1 1 rfl rfl rfl rfl) (arg_op 2 0 rfl rfl rfl rfl) (⟨rfl, rfl⟩) ?_ Tryz.underlying25 szNm) ?_
      · exact ⟨Nat.le_refl _, by omega⟩
      refine ch rfl (ob_move (arg_free 2 rfl rfl)) ?_
      refine ch rfl (ob_call2 (by kernel_rfl) (ih _ (i) _ ?_ ?_ ?_) (arg_op 3 1 rfl rfl rfl rfl) (arg_op 4 0 rfl rfl rfl rfl)) ?_
      · ((try simp only [List.length_take, List.length_drop, List.length_cons, List.length_nil]); omega)
      · ((try simp only [List.length_take, List.length_drop, List.length_cons, List.length_nil]); omega)
      · omega
      refine ch rfl (ob_move (arg_free 0 rfl rfl)) ?_
      refine ch rfl (ob_move (arg_free 1 rfl rfl)) ?_
      refine ch rfl (ob_slice_from (ArgOK.val (arg_op 6 1 rfl rfl rfl rfl) ((hv0.up g90).up hs98)) (arg_op 7 0 rfl rfl rfl rfl) (rfl) ?_ Tryz.underlying25 szNm) ?_
      · omega
      refine ch rfl (ob_call1 (by kernel_rfl) (c_Root ?_) (arg_op 8 0 rfl rfl rfl rfl)) ?_
      · ((try simp only [List.length_take, List.length_drop, List.length_cons, List.length_nil]); omega)
      refine ch rfl (ob_assign (arg_op 5 4 rfl rfl rfl rfl)) ?_
      refine ch_nil ?_
      intro a99 w100 hf101 hg102 hk103 hn104
      have h105 : Holds _ (a99.eval (.tmp 26)) w100 := hn104.at 9 1 rfl rfl rfl
      have h106 : Holds (OwnS w79.heap.size _ _) (a99.eval (.tmp 5)) w100 := hn104.at 10 0 rfl rfl rfl
      have hv107 : Holds (Is (PtrV bk57)) (a99.eval (.tmp 6)) w100 := is_any (hk103.holds rfl hv88)
      have hb108 := hb89.up hg102
      have g109 := g90.trans hg102
      have g110 := g91.trans hg102
      have g111 := g92.trans hg102
      have g112 := g94.trans hg102
      clear hv88 hb89 g90 g91 g92 g94 hf80 hk103 hn104
      obtain ⟨V113, h114, hV115⟩ := nameV h106
      clear h106
      refine wl_store_nm hv107 hb108 rfl h105 ?_
      intro w116 ho117 hb118
      have g119 : Grow w0 w116 := g109.only ho117 (by omega)
      have g120 : Grow w36 w116 := g110.only ho117 (by omega)
      have h123 : Holds _ (a99.eval (.tmp 5)) w116 := is_any h114
      have hv124 : Holds (Is (PtrV bk57)) (a99.eval (.tmp 6)) w116 := is_any hv107
      have hV125 : Holds (OwnS w36.heap.size _ _) V113 w116 := OwnS.mono (OwnS.only hV115 ho117 (by omega)) (by omega)
      refine wpList_nil ?_
      refine then_ ?_
      refine wp_seq ?_
      have hp1 := path_le (l.take (split l.length)) i
      have hp2 := path_le (l.drop (split l.length)) (i - split l.length)
      have hq1 : (l.take (split l.length)).length ≤ l.length := by rw [List.length_take]; omega
      have hq2 : (l.drop (split l.length)).length ≤ l.length := by rw [List.length_drop]; omega
      have g126 : Grow w116 w116 := Grow.refl _
      have hl127 : bk57 < w116.heap.size := hb118.lt
      have hz128 : w36.heap.size ≤ w116.heap.size := g120.size
      refine wp_calm [0, 0, 2, 0, 8, 31, 0, 64, 255, 511] [([5], []), ([5], []), ([], [1]), ([5], []), ([], [3]), ([], [0, 2, 4]), ([6], []), ([], [6]), ([], [5, 7]), ([], [8])] [] w116.heap.size hf101 g126.size (by kernel_rfl) (bund_cons h123 (bund_cons (hb118.ownp hv124) bund_nil)) ?_
      intro ws129 hs130
      refine ch rfl (ob_move (arg_free 0 rfl rfl)) ?_
      refine ch rfl (ob_move (arg_free 0 rfl rfl)) ?_
      refine ch rfl (ob_len (ArgOK.sl (ArgOK.val (arg_op 1 0 rfl rfl rfl rfl) (hV125.up hs130))) Tryz.underlying25) ?_
      refine ch rfl (ob_move (arg_free 0 rfl rfl)) ?_
      refine ch rfl (ob_len (ArgOK.sl (ArgOK.val (arg_op 3 0 rfl rfl rfl rfl) (hV125.up hs130))) Tryz.underlying25) ?_
      refine ch rfl (ob_slice_full (ArgOK.sl (ArgOK.val (arg_op 0 4 rfl rfl rfl rfl) (hV125.up hs130))) (arg_op 2 2 rfl rfl rfl rfl) (arg_op 4 0 rfl rfl rfl rfl) (⟨rfl, rfl⟩) ?_ Tryz.underlying25 szNm) ?_
      · exact Nat.le_refl _
      refine ch rfl (ob_load_nm (ArgOK.ownp (arg_free 1 rfl rfl))) ?_
      refine ch rfl (ob_bs1_nm (arg_op 6 0 rfl rfl rfl rfl)) ?_
      refine ch rfl (ob_append_new elNmP Tryz.underlying25 (arg_op 5 2 rfl rfl rfl rfl) (ArgOK.sl (ArgOK.ownf (arg_op 7 0 rfl rfl rfl rfl))) ?_) ?_
      · (refine ⟨List.cons_ne_nil _ _, ?_, ?_⟩ <;> simp only [List.take_length, List.length_cons, List.length_nil, elNm] <;> omega)
      refine ch rfl (ob_assign (arg_op 8 0 rfl rfl rfl rfl)) ?_
      refine ch_nil ?_
      intro a131 w132 hf133 hg134 hk135 hn136
      have h137 : Holds (OwnS w116.heap.size _ _) (a131.eval (.tmp 4)) w132 := hn136.at 9 0 rfl rfl rfl
      have g138 := g119.trans hg134
      have g139 := g120.trans hg134
      have g140 := g126.trans hg134
      clear g119 g120 g126 hf101 hk135 hn136
      obtain ⟨V141, h142, hV143⟩ := nameV h137
      clear h137
      refine then_ ?_
      refine wp_ret ?_
      exact ret_tmp rfl hf133 g138 (OwnS.mono (cast_own (by first | exact (path_one i (by omega)).symm | (rw [List.take_length]; first | exact (path_left (by omega) (by omega)).symm | exact (path_right (by omega) (by omega)).symm)) (unV h142 hV143)) (by omega))
    · intro hc93
      try simp only [cond_norm] at hc93
      have g144 : Grow w79 w79 := Grow.refl _
      have hl145 : bk57 < w79.heap.size := hb89.lt
      have hz146 : w47.heap.size ≤ w79.heap.size := g92.size
      refine wp_calm_tail (l1 := [_, _, _, _, _, _, _, _, _, _, _, _, _]) [0, 0, 3, 0, 0, 24, 63, 0, 0, 0, 896, 2047, 4095, 8191] [([0], []), ([7], []), ([], [0, 1]), ([1], []), ([7], []), ([], [3, 4]), ([], [2, 5]), ([0], []), ([7], []), ([7], []), ([], [7, 8, 9]), ([], [10]), ([], [6])] [6] w79.heap.size hf80 g144.size (by kernel_rfl) (bund_cons (is_any h86) (bund_cons h85 (bund_cons (is_any h87) bund_nil))) ?_
      intro ws147 hs148
      refine ch rfl (ob_move (arg_free 0 rfl rfl)) ?_
      refine ch rfl (ob_move (arg_free 1 rfl rfl)) ?_
      refine ch rfl (ob_slice_from (ArgOK.val (arg_op 0 1 rfl rfl rfl rfl) ((hv0.up g90).up hs148)) (arg_op 1 0 rfl rfl rfl rfl) (rfl) ?_ Tryz.underlying25 szNm) ?_
      · omega
      refine ch rfl (ob_move (arg_free 2 rfl rfl)) ?_
      refine ch rfl (ob_move (arg_free 1 rfl rfl)) ?_
      first
        | (refine ch rfl (ob_sub' (arg_op 3 1 rfl rfl rfl rfl) (arg_op 4 0 rfl rfl rfl rfl) ?_) ?_; · omega)
        | refine ch rfl (ob_sub (arg_op 3 1 rfl rfl rfl rfl) (arg_op 4 0 rfl rfl rfl rfl)) ?_
      refine ch rfl (ob_call2 (by kernel_rfl) (ih _ (i - split l.length) _ ?_ ?_ ?_) (arg_op 2 3 rfl rfl rfl rfl) (arg_op 5 0 rfl rfl rfl rfl)) ?_
      · ((try simp only [List.length_take, List.length_drop, List.length_cons, List.length_nil]); omega)
      · ((try simp only [List.length_take, List.length_drop, List.length_cons, List.length_nil]); omega)
      · omega
      refine ch rfl (ob_move (arg_free 0 rfl rfl)) ?_
      refine ch rfl (ob_move (arg_free 1 rfl rfl)) ?_
      refine ch rfl (ob_move (arg_free 1 rfl rfl)) ?_
      refine ch rfl (ob_slice_to3 (ArgOK.val (arg_op 7 2 rfl rfl rfl rfl) ((hv0.up g90).up hs148)) (arg_op 8 1 rfl rfl rfl rfl) (arg_op 9 0 rfl rfl rfl rfl) (⟨rfl, rfl⟩) ?_ Tryz.underlying25 szNm) ?_
      · exact ⟨Nat.le_refl _, by omega⟩
      refine ch rfl (ob_call1 (by kernel_rfl) (c_Root ?_) (arg_op 10 0 rfl rfl rfl rfl)) ?_
      · ((try simp only [List.length_take, List.length_drop, List.length_cons, List.length_nil]); omega)
      refine ch rfl (ob_assign (arg_op 6 5 rfl rfl rfl rfl)) ?_
      refine ch_nil ?_
      intro a149 w150 hf151 hg152 hk153 hn154
      have h155 : Holds _ (a149.eval (.tmp 38)) w150 := hn154.at 11 1 rfl rfl rfl
      have h156 : Holds (OwnS w79.heap.size _ _) (a149.eval (.tmp 5)) w150 := hn154.at 12 0 rfl rfl rfl
      have hv157 : Holds (Is (PtrV bk57)) (a149.eval (.tmp 6)) w150 := is_any (hk153.holds rfl hv88)
      have hb158 := hb89.up hg152
      have g159 := g90.trans hg152
      have g160 := g91.trans hg152
      have g161 := g92.trans hg152
      have g162 := g144.trans hg152
      clear hv88 hb89 g90 g91 g92 g144 hf80 hk153 hn154
      obtain ⟨V163, h164, hV165⟩ := nameV h156
      clear h156
      refine wl_store_nm hv157 hb158 rfl h155 ?_
      intro w166 ho167 hb168
      have g169 : Grow w0 w166 := g159.only ho167 (by omega)
      have g170 : Grow w36 w166 := g160.only ho167 (by omega)
      have h173 : Holds _ (a149.eval (.tmp 5)) w166 := is_any h164
      have hv174 : Holds (Is (PtrV bk57)) (a149.eval (.tmp 6)) w166 := is_any hv157
      have hV175 : Holds (OwnS w36.heap.size _ _) V163 w166 := OwnS.mono (OwnS.only hV165 ho167 (by omega)) (by omega)
      refine wpList_nil ?_
      refine then_ ?_
      refine wp_seq ?_
      have hp1 := path_le (l.take (split l.length)) i
      have hp2 := path_le (l.drop (split l.length)) (i - split l.length)
      have hq1 : (l.take (split l.length)).length ≤ l.length := by rw [List.length_take]; omega
      have hq2 : (l.drop (split l.length)).length ≤ l.length := by rw [List.length_drop]; omega
      have g176 : Grow w166 w166 := Grow.refl _
      have hl177 : bk57 < w166.heap.size := hb168.lt
      have hz178 : w36.heap.size ≤ w166.heap.size := g170.size
      refine wp_calm [0, 0, 2, 0, 8, 31, 0, 64, 255, 511] [([5], []), ([5], []), ([], [1]), ([5], []), ([], [3]), ([], [0, 2, 4]), ([6], []), ([], [6]), ([], [5, 7]), ([], [8])] [] w166.heap.size hf151 g176.size (by kernel_rfl) (bund_cons h173 (bund_cons (hb168.ownp hv174) bund_nil)) ?_
      intro ws179 hs180
      refine ch rfl (ob_move (arg_free 0 rfl rfl)) ?_
      refine ch rfl (ob_move (arg_free 0 rfl rfl)) ?_
      refine ch rfl (ob_len (ArgOK.sl (ArgOK.val (arg_op 1 0 rfl rfl rfl rfl) (hV175.up hs180))) Tryz.underlying25) ?_
      refine ch rfl (ob_move (arg_free 0 rfl rfl)) ?_
      refine ch rfl (ob_len (ArgOK.sl (ArgOK.val (arg_op 3 0 rfl rfl rfl rfl) (hV175.up hs180))) Tryz.underlying25) ?_
      refine ch rfl (ob_slice_full (ArgOK.sl (ArgOK.val (arg_op 0 4 rfl rfl rfl rfl) (hV175.up hs180))) (arg_op 2 2 rfl rfl rfl rfl) (arg_op 4 0 rfl rfl rfl rfl) (⟨rfl, rfl⟩) ?_ Tryz.underlying25 szNm) ?_
      · exact Nat.le_refl _
      refine ch rfl (ob_load_nm (ArgOK.ownp (arg_free 1 rfl rfl))) ?_
      refine ch rfl (ob_bs1_nm (arg_op 6 0 rfl rfl rfl rfl)) ?_
      refine ch rfl (ob_append_new elNmP Tryz.underlying25 (arg_op 5 2 rfl rfl rfl rfl) (ArgOK.sl (ArgOK.ownf (arg_op 7 0 rfl rfl rfl rfl))) ?_) ?_
      · (refine ⟨List.cons_ne_nil _ _, ?_, ?_⟩ <;> simp only [List.take_length, List.length_cons, List.length_nil, elNm] <;> omega)
      refine ch rfl (ob_assign (arg_op 8 0 rfl rfl rfl rfl)) ?_
      refine ch_nil ?_
      intro a181 w182 hf183 hg184 hk185 hn186
      have h187 : Holds (OwnS w166.heap.size _ _) (a181.eval (.tmp 4)) w182 := hn186.at 9 0 rfl rfl rfl
      have g188 := g169.trans hg184
      have g189 := g170.trans hg184
      have g190 := g176.trans hg184
      clear g169 g170 g176 hf151 hk185 hn186
      obtain ⟨V191, h192, hV193⟩ := nameV h187
      clear h187
      refine then_ ?_
      refine wp_ret ?_
      exact ret_tmp rfl hf183 g188 (OwnS.mono (cast_own (by first | exact (path_one i (by omega)).symm | (rw [List.take_length]; first | exact (path_left (by omega) (by omega)).symm | exact (path_right (by omega) (by omega)).symm)) (unV h192 hV193)) (by omega))
theorem c_climb : ∀ {l : List UInt64} {i : Nat} {iz : Int} (_ : l.length ≤ 1000000) (_ : i < l.length) (_ : iz = (i : Int)), Con2 111 (Sl elNm l) (Is (intV iz)) (fun lo => OwnS lo elNm (path l i)) := by
  have key : ∀ (n : Nat) (l : List UInt64) (i : Nat) (iz : Int), l.length = n → n ≤ 1000000 → i < n → iz = (i : Int) → Con2 111 (Sl elNm l) (Is (intV iz)) (fun lo => OwnS lo elNm (path l i)) := by
    intro n
    induction n using Nat.strongRecOn with
    | _ n ih =>
      intro l i iz h1 h2 h3 h4
      exact c_climb_step (by omega) (by omega) h4 fun m j jz g1 g2 g3 => ih m.length (by omega) m j jz rfl (by omega) g2 g3
  intro l i iz h1 h2 h3
  exact key l.length l i iz rfl h1 h2 h3
set_option maxRecDepth 100000 in
theorem c_Path {l : List UInt64} {i : Int} (hl : l.length ≤ 1000000) (hi : -9223372036854775808 ≤ i) : Con2 86 (Sl elNm l) (Is (intV i)) (fun lo => Two (OwnS lo elNm (pathV l i)) (Is (.bool (pathB l i)))) := by
  intro lo v0 v1 w0 hlo hv0 hv1
  refine enter Tryz.func86 rfl Tryz.ntmps86 (by simp) ?_
  intro a0 hf0 ha
  have h00 : Holds (Is v0) (a0.eval (.tmp 0)) w0 := arg_holds ha rfl rfl
  have h01 : Holds _ (a0.eval (.tmp 1)) w0 := arg_holds ha rfl hv1
  clear ha
  have g0 : Grow w0 w0 := Grow.refl _
  refine wp_seq ?_
  refine wp_region_lit ?_
  refine wp_all [([], []), ([], [])] [0, 1] w0.heap.size hf0 g0.size (by kernel_rfl) bund_nil ?_
  refine ch rfl (ob_assign (arg_cg (G := Any) (fun w => trivial))) ?_
  refine ch rfl (ob_assign arg_c) ?_
  refine ch_nil ?_
  intro a1 w2 hf3 hg4 hk5 hn6
  have h7 := hk5.holds rfl h00
  have h8 := hk5.holds rfl h01
  have g9 := g0.trans hg4
  clear h00 h01 g0 hf0 hk5 hn6
  refine then_ ?_
  refine wp_seq ?_
  refine wp_seq ?_
  have g10 : Grow w2 w2 := Grow.refl _
  have hz11 : w0.heap.size ≤ w2.heap.size := g9.size
  refine wp_region_lit ?_
  refine wp_all [([1], []), ([0], []), ([], [1]), ([], [0, 2]), ([], [3])] [0, 1] w2.heap.size hf3 g10.size (by kernel_rfl) (bund_cons (is_any h8) (bund_cons (is_any h7) bund_nil)) ?_
  refine ch rfl (ob_move (arg_free 0 rfl rfl)) ?_
  refine ch rfl (ob_move (arg_free 1 rfl rfl)) ?_
  refine ch rfl (ob_len (ArgOK.val (arg_op 1 0 rfl rfl rfl rfl) (hv0.up g9)) Tryz.underlying25) ?_
  refine ch rfl (ob_call2 (by kernel_rfl) (c_Depth ?_ ?_) (arg_op 0 2 rfl rfl rfl rfl) (arg_op 2 0 rfl rfl rfl rfl)) ?_
  · omega
  · omega
  refine ch rfl (ob_lss (arg_op 3 0 rfl rfl rfl rfl) arg_c) ?_
  refine ch_nil ?_
  intro a12 w13 hf14 hg15 hk16 hn17
  have h18 : Holds _ (a12.eval (.tmp 10)) w13 := hn17.at 4 0 rfl rfl rfl
  have h19 := hk16.holds rfl h7
  have h20 := hk16.holds rfl h8
  have g21 := g9.trans hg15
  have g22 := g10.trans hg15
  clear h7 h8 g9 g10 hf3 hk16 hn17
  refine then_ ?_
  refine wp_if h18 ?_ ?_
  · intro hc23
    try simp only [cond_norm] at hc23
    have hno := depI_neg hc23
    refine wp_seq ?_
    have g24 : Grow w13 w13 := Grow.refl _
    have hz25 : w2.heap.size ≤ w13.heap.size := g22.size
    refine wp_region_lit ?_
    refine wp_all [([], []), ([], [])] [] w13.heap.size hf14 g24.size (by kernel_rfl) bund_nil ?_
    refine ch rfl (ob_assign (arg_cg (G := OwnS w13.heap.size elNm []) (fun w => own_nil))) ?_
    refine ch rfl (ob_assign arg_c) ?_
    refine ch_nil ?_
    intro a26 w27 hf28 hg29 hk30 hn31
    have h32 : Holds (OwnS w13.heap.size _ _) (a26.eval (.tmp 4)) w27 := hn31.at 0 1 rfl rfl rfl
    have h33 : Holds _ (a26.eval (.tmp 5)) w27 := hn31.at 1 0 rfl rfl rfl
    have g34 := g21.trans hg29
    have g35 := g22.trans hg29
    have g36 := g24.trans hg29
    clear g21 g22 g24 hf14 hk30 hn31
    obtain ⟨V37, h38, hV39⟩ := nameV h32
    clear h32
    refine then_ ?_
    refine wp_ret ?_
    refine thenR ?_
    exact ret_tmp2 rfl hf28 g34 (OwnS.mono (cast_own (by first | exact pathV_no (by omega) | exact pathV_yes (by omega)) (unV h38 hV39)) (by omega)) (is_cast h33 (congrArg Value.bool (by first | exact pathB_no (by omega) | exact pathB_yes (by omega))))
  · intro hc23
    try simp only [cond_norm] at hc23
    have hyes := depI_pos (Int.not_lt.1 hc23)
    refine wp_skip ?_
    refine then_ ?_
    refine wp_seq ?_
    have g40 : Grow w13 w13 := Grow.refl _
    have hz41 : w2.heap.size ≤ w13.heap.size := g22.size
    refine wp_region_lit ?_
    refine wp_all [([0], []), ([1], []), ([], [0, 1]), ([], [2]), ([], [])] [] w13.heap.size hf14 g40.size (by kernel_rfl) (bund_cons (is_any h19) (bund_cons (is_any h20) bund_nil)) ?_
    refine ch rfl (ob_move (arg_free 0 rfl rfl)) ?_
    refine ch rfl (ob_move (arg_free 1 rfl rfl)) ?_
    refine ch rfl (ob_call2 (by kernel_rfl) (c_climb (i := i.toNat) ?_ ?_ ?_) (ArgOK.val (arg_op 0 1 rfl rfl rfl rfl) (hv0.up g21)) (arg_op 1 0 rfl rfl rfl rfl)) ?_
    · omega
    · omega
    · omega
    refine ch rfl (ob_assign (arg_op 2 0 rfl rfl rfl rfl)) ?_
    refine ch rfl (ob_assign arg_c) ?_
    refine ch_nil ?_
    intro a42 w43 hf44 hg45 hk46 hn47
    have h48 : Holds (OwnS w13.heap.size _ _) (a42.eval (.tmp 4)) w43 := hn47.at 3 1 rfl rfl rfl
    have h49 : Holds _ (a42.eval (.tmp 5)) w43 := hn47.at 4 0 rfl rfl rfl
    have g50 := g21.trans hg45
    have g51 := g22.trans hg45
    have g52 := g40.trans hg45
    clear g21 g22 g40 hf14 hk46 hn47
    obtain ⟨V53, h54, hV55⟩ := nameV h48
    clear h48
    refine then_ ?_
    refine wp_ret ?_
    exact ret_tmp2 rfl hf44 g50 (OwnS.mono (cast_own (by first | exact pathV_no (by omega) | exact pathV_yes (by omega)) (unV h54 hV55)) (by omega)) (is_cast h49 (congrArg Value.bool (by first | exact pathB_no (by omega) | exact pathB_yes (by omega))))
set_option maxRecDepth 100000 in
theorem c_rPath_step {l : List UInt64} {i : Int} (hl : l.length ≤ 1000000) (hi : -9223372036854775808 ≤ i) (ih : ∀ (m : List UInt64) (j : Int), m.length < l.length → -9223372036854775808 ≤ j → Con2 87 (Sl elNm m) (Is (intV j)) (fun lo => Two (OwnS lo elNm (pathV m j)) (Is (.bool (pathB m j))))) : Con2 87 (Sl elNm l) (Is (intV i)) (fun lo => Two (OwnS lo elNm (pathV l i)) (Is (.bool (pathB l i)))) := by
  intro lo v0 v1 w0 hlo hv0 hv1
  refine enter Tryz.func87 rfl Tryz.ntmps87 (by simp) ?_
  intro a0 hf0 ha
  have h00 : Holds (Is v0) (a0.eval (.tmp 0)) w0 := arg_holds ha rfl rfl
  have h01 : Holds _ (a0.eval (.tmp 1)) w0 := arg_holds ha rfl hv1
  clear ha
  have g0 : Grow w0 w0 := Grow.refl _
  refine wp_seq ?_
  refine wp_region_lit ?_
  refine wp_all [([], []), ([], [])] [0, 1] w0.heap.size hf0 g0.size (by kernel_rfl) bund_nil ?_
  refine ch rfl (ob_assign (arg_cg (G := Any) (fun w => trivial))) ?_
  refine ch rfl (ob_assign arg_c) ?_
  refine ch_nil ?_
  intro a1 w2 hf3 hg4 hk5 hn6
  have h7 := hk5.holds rfl h00
  have h8 := hk5.holds rfl h01
  have g9 := g0.trans hg4
  clear h00 h01 g0 hf0 hk5 hn6
  refine then_ ?_
  refine wp_seq ?_
  refine wp_seq ?_
  refine wp_region_lit ?_
  refine wp_all [([1], []), ([], [0]), ([], [1]), ([1], [2]), ([0], [2]), ([], [4, 2]), ([], [3, 5, 2]), ([], [2, 6])] [0, 1] w0.heap.size hf3 g9.size (by kernel_rfl) (bund_cons (is_any h8) (bund_cons (is_any h7) bund_nil)) ?_
  refine ch rfl (ob_move (arg_free 0 rfl rfl)) ?_
  refine ch rfl (ob_lss (arg_op 0 0 rfl rfl rfl rfl) arg_c) ?_
  refine ch rfl (ob_move (arg_op 1 0 rfl rfl rfl rfl)) ?_
  refine chg (b := _) rfl rfl (arg_op 2 0 rfl rfl rfl rfl) (fun hb2 => ob_move (arg_free 0 rfl rfl)) ?_
  refine chg (b := _) rfl rfl (arg_op 2 1 rfl rfl rfl rfl) (fun hb2 => ob_move (arg_free 1 rfl rfl)) ?_
  refine chg (b := _) rfl rfl (arg_op 2 2 rfl rfl rfl rfl) (fun hb2 => ob_len (ArgOK.val (ArgOK.when (arg_op 4 0 rfl rfl rfl rfl) hb2) (hv0.up g9)) Tryz.underlying25) ?_
  refine chg (b := _) rfl rfl (arg_op 2 3 rfl rfl rfl rfl) (fun hb2 => ob_geq (ArgOK.when (arg_op 3 2 rfl rfl rfl rfl) hb2) (ArgOK.when (arg_op 5 0 rfl rfl rfl rfl) hb2)) ?_
  refine ch rfl (ob_or (arg_op 2 4 rfl rfl rfl rfl) (arg_op 6 0 rfl rfl rfl rfl)) ?_
  refine ch_nil ?_
  intro a10 w11 hf12 hg13 hk14 hn15
  have h16 : Holds _ (a10.eval (.tmp 18)) w11 := hn15.at 7 0 rfl rfl rfl
  have h17 := hk14.holds rfl h7
  have h18 := hk14.holds rfl h8
  have g19 := g9.trans hg13
  clear h7 h8 g9 hf3 hk14 hn15 hg13
  refine then_ ?_
  refine wp_if h16 ?_ ?_
  · intro hc20
    try simp only [cond_norm] at hc20
    refine wp_seq ?_
    have g21 : Grow w11 w11 := Grow.refl _
    have hz22 : w0.heap.size ≤ w11.heap.size := g19.size
    refine wp_region_lit ?_
    refine wp_all [([], []), ([], [])] [] w11.heap.size hf12 g21.size (by kernel_rfl) bund_nil ?_
    refine ch rfl (ob_assign (arg_cg (G := OwnS w11.heap.size elNm []) (fun w => own_nil))) ?_
    refine ch rfl (ob_assign arg_c) ?_
    refine ch_nil ?_
    intro a23 w24 hf25 hg26 hk27 hn28
    have h29 : Holds (OwnS w11.heap.size _ _) (a23.eval (.tmp 4)) w24 := hn28.at 0 1 rfl rfl rfl
    have h30 : Holds _ (a23.eval (.tmp 5)) w24 := hn28.at 1 0 rfl rfl rfl
    have g31 := g19.trans hg26
    have g32 := g21.trans hg26
    clear g19 g21 hf12 hk27 hn28
    obtain ⟨V33, h34, hV35⟩ := nameV h29
    clear h29
    refine then_ ?_
    refine wp_ret ?_
    refine thenR ?_
    exact ret_tmp2 rfl hf25 g31 (OwnS.mono (cast_own (by first | exact pathV_no (by omega) | exact pathV_one (by omega) | exact pathV_left (by omega) (by omega) (by omega) | exact pathV_right (by omega) (by omega) (by omega)) (unV h34 hV35)) (by omega)) (is_cast h30 (congrArg Value.bool (by first | exact pathB_no (by omega) | exact pathB_yes (by omega))))
  · intro hc20
    try simp only [cond_norm] at hc20
    refine wp_skip ?_
    refine then_ ?_
    refine wp_seq ?_
    refine wp_seq ?_
    refine wp_region_lit ?_
    refine wp_all [([0], []), ([], [0]), ([], [1])] [0, 1] w0.heap.size hf12 g19.size (by kernel_rfl) (bund_cons (is_any h17) bund_nil) ?_
    refine ch rfl (ob_move (arg_free 0 rfl rfl)) ?_
    refine ch rfl (ob_len (ArgOK.val (arg_op 0 0 rfl rfl rfl rfl) (hv0.up g19)) Tryz.underlying25) ?_
    refine ch rfl (ob_eql (arg_op 1 0 rfl rfl rfl rfl) arg_c) ?_
    refine ch_nil ?_
    intro a36 w37 hf38 hg39 hk40 hn41
    have h42 : Holds _ (a36.eval (.tmp 21)) w37 := hn41.at 2 0 rfl rfl rfl
    have h43 := hk40.holds rfl h17
    have h44 := hk40.holds rfl h18
    have g45 := g19.trans hg39
    clear h17 h18 g19 hf12 hk40 hn41 hg39
    refine then_ ?_
    refine wp_if h42 ?_ ?_
    · intro hc46
      try simp only [cond_norm] at hc46
      refine wp_seq ?_
      have g47 : Grow w37 w37 := Grow.refl _
      have hz48 : w0.heap.size ≤ w37.heap.size := g45.size
      refine wp_region_lit ?_
      refine wp_all [([], []), ([], [])] [] w37.heap.size hf38 g47.size (by kernel_rfl) bund_nil ?_
      refine ch rfl (ob_assign (arg_cg (G := OwnS w37.heap.size elNm []) (fun w => own_nil))) ?_
      refine ch rfl (ob_assign arg_c) ?_
      refine ch_nil ?_
      intro a49 w50 hf51 hg52 hk53 hn54
      have h55 : Holds (OwnS w37.heap.size _ _) (a49.eval (.tmp 4)) w50 := hn54.at 0 1 rfl rfl rfl
      have h56 : Holds _ (a49.eval (.tmp 5)) w50 := hn54.at 1 0 rfl rfl rfl
      have g57 := g45.trans hg52
      have g58 := g47.trans hg52
      clear g45 g47 hf38 hk53 hn54
      obtain ⟨V59, h60, hV61⟩ := nameV h55
      clear h55
      refine then_ ?_
      refine wp_ret ?_
      refine thenR ?_
      exact ret_tmp2 rfl hf51 g57 (OwnS.mono (cast_own (by first | exact pathV_no (by omega) | exact pathV_one (by omega) | exact pathV_left (by omega) (by omega) (by omega) | exact pathV_right (by omega) (by omega) (by omega)) (unV h60 hV61)) (by omega)) (is_cast h56 (congrArg Value.bool (by first | exact pathB_no (by omega) | exact pathB_yes (by omega))))
    · intro hc46
      try simp only [cond_norm] at hc46
      refine wp_skip ?_
      refine then_ ?_
      refine wp_seq ?_
      have hb := split_bound (n := l.length) (by omega)
      have hp1 := pathV_le (l.take (split l.length)) i
      have hp2 := pathV_le (l.drop (split l.length)) (i - (split l.length : Int))
      have hq1 : (l.take (split l.length)).length ≤ l.length := by rw [List.length_take]; omega
      have hq2 : (l.drop (split l.length)).length ≤ l.length := by rw [List.length_drop]; omega
      have g62 : Grow w37 w37 := Grow.refl _
      have hz63 : w0.heap.size ≤ w37.heap.size := g45.size
      refine wp_region_lit ?_
      refine wp_all [([0], []), ([], [0]), ([], [1]), ([], [2])] [0, 1] w37.heap.size hf38 g62.size (by kernel_rfl) (bund_cons (is_any h43) bund_nil) ?_
      refine ch rfl (ob_move (arg_free 0 rfl rfl)) ?_
      refine ch rfl (ob_len (ArgOK.val (arg_op 0 0 rfl rfl rfl rfl) (hv0.up g45)) Tryz.underlying25) ?_
      refine ch rfl (ob_call1 (by kernel_rfl) (c_rsplit (n := l.length) ?_ ?_) (arg_op 1 0 rfl rfl rfl rfl)) ?_
      · omega
      · rfl
      refine ch rfl (ob_assign (arg_op 2 0 rfl rfl rfl rfl)) ?_
      refine ch_nil ?_
      intro a64 w65 hf66 hg67 hk68 hn69
      have h70 : Holds _ (a64.eval (.tmp 6)) w65 := hn69.at 3 0 rfl rfl rfl
      have h71 := hk68.holds rfl h43
      have h72 := hk68.holds rfl h44
      have g73 := g45.trans hg67
      have g74 := g62.trans hg67
      clear h43 h44 g45 g62 hf38 hk68 hn69
      refine then_ ?_
      refine wp_seq ?_
      refine wp_seq ?_
      refine wp_region_lit ?_
      refine wp_all [([1], []), ([6], []), ([], [0, 1])] [0, 1, 6] w37.heap.size hf66 g74.size (by kernel_rfl) (bund_cons (is_any h72) (bund_cons h70 bund_nil)) ?_
      refine ch rfl (ob_move (arg_free 0 rfl rfl)) ?_
      refine ch rfl (ob_move (arg_free 1 rfl rfl)) ?_
      refine ch rfl (ob_lss (arg_op 0 1 rfl rfl rfl rfl) (arg_op 1 0 rfl rfl rfl rfl)) ?_
      refine ch_nil ?_
      intro a75 w76 hf77 hg78 hk79 hn80
      have h81 : Holds _ (a75.eval (.tmp 27)) w76 := hn80.at 2 0 rfl rfl rfl
      have h82 := hk79.holds rfl (h70.up hg78)
      have h83 := hk79.holds rfl h71
      have h84 := hk79.holds rfl h72
      have g85 := g73.trans hg78
      have g86 := g74.trans hg78
      clear h70 h71 h72 g73 g74 hf66 hk79 hn80 hg78
      refine then_ ?_
      refine wp_if h81 ?_ ?_
      · intro hc87
        try simp only [cond_norm] at hc87
        refine wp_seq ?_
        have g88 : Grow w76 w76 := Grow.refl _
        have hz89 : w37.heap.size ≤ w76.heap.size := g86.size
        refine wp_region_lit ?_
        refine wp_all [([0], []), ([6], []), ([], [0, 1]), ([1], []), ([], [2, 3]), ([], [4]), ([], [5]), ([], [5]), ([], [6]), ([], [7])] [0, 6] w76.heap.size hf77 g88.size (by kernel_rfl) (bund_cons (is_any h83) (bund_cons h82 (bund_cons (is_any h84) bund_nil))) ?_
        refine ch rfl (ob_move (arg_free 0 rfl rfl)) ?_
        refine ch rfl (ob_move (arg_free 1 rfl rfl)) ?_
        refine ch rfl (ob_slice_to (ArgOK.val (arg_op 0 1 rfl rfl rfl rfl) (hv0.up g85)) (arg_op 1 0 rfl rfl rfl rfl) (rfl) ?_ Tryz.underlying25 szNm) ?_
        · omega
        refine ch rfl (ob_move (arg_free 2 rfl rfl)) ?_
        refine ch rfl (ob_call2 (by kernel_rfl) (ih _ _ ?_ ?_) (arg_op 2 1 rfl rfl rfl rfl) (arg_op 3 0 rfl rfl rfl rfl)) ?_
        · ((try simp only [List.length_take, List.length_drop, List.length_cons, List.length_nil]); omega)
        · omega
        refine ch rfl (ob_move (arg_op 4 0 rfl rfl rfl rfl)) ?_
        refine ch rfl (ob_extract0 (arg_op 5 0 rfl rfl rfl rfl)) ?_
        refine ch rfl (ob_extract1 (arg_op 5 1 rfl rfl rfl rfl)) ?_
        refine ch rfl (ob_assign (arg_op 6 1 rfl rfl rfl rfl)) ?_
        refine ch rfl (ob_assign (arg_op 7 1 rfl rfl rfl rfl)) ?_
        refine ch_nil ?_
        intro a90 w91 hf92 hg93 hk94 hn95
        have h96 : Holds (OwnS w76.heap.size _ _) (a90.eval (.tmp 7)) w91 := hn95.at 8 1 rfl rfl rfl
        have h97 := hk94.holds rfl h82
        have h98 := hk94.holds rfl h83
        have g99 := g85.trans hg93
        have g100 := g86.trans hg93
        have g101 := g88.trans hg93
        clear h82 h83 g85 g86 g88 hf77 hk94 hn95
        obtain ⟨V102, h103, hV104⟩ := nameV h96
        clear h96
        refine then_ ?_
        refine wp_seq ?_
        have g105 : Grow w91 w91 := Grow.refl _
        have hz106 : w76.heap.size ≤ w91.heap.size := g101.size
        refine wp_region_lit ?_
        refine wp_seg (l1 := [_, _, _, _, _, _]) [([7], []), ([0], []), ([6], []), ([], [1, 2]), ([], [3]), ([], [4])] [] w91.heap.size hf92 g105.size (by kernel_rfl) (bund_cons h103 (bund_cons (is_any h98) (bund_cons (is_any h97) bund_nil))) ?_
        refine ch rfl (ob_move (arg_free 0 rfl rfl)) ?_
        refine ch rfl (ob_move (arg_free 1 rfl rfl)) ?_
        refine ch rfl (ob_move (arg_free 2 rfl rfl)) ?_
        refine ch rfl (ob_slice_from (ArgOK.val (arg_op 1 1 rfl rfl rfl rfl) (hv0.up g99)) (arg_op 2 0 rfl rfl rfl rfl) (rfl) ?_ Tryz.underlying25 szNm) ?_
        · omega
        refine ch rfl (ob_call1 (by kernel_rfl) (c_rRoot ?_) (arg_op 3 0 rfl rfl rfl rfl)) ?_
        · ((try simp only [List.length_take, List.length_drop, List.length_cons, List.length_nil]); omega)
        refine ch rfl (ob_bs1_nm (arg_op 4 0 rfl rfl rfl rfl)) ?_
        refine ch_nil ?_
        intro a107 w108 hf109 hg110 hk111 hn112
        have h113 : Holds _ (a107.eval (.tmp 36)) w108 := hn112.at 0 5 rfl rfl rfl
        have h114 : Holds (OwnF w91.heap.size _ _) (a107.eval (.tmp 41)) w108 := hn112.at 5 0 rfl rfl rfl
        have g115 := g99.trans hg110
        have g116 := g100.trans hg110
        have g117 := g101.trans hg110
        have g118 := g105.trans hg110
        clear g99 g100 g101 g105 hf92 hk111 hn112
        obtain ⟨V119, h120, hV121⟩ := nameV h114
        clear h114
        refine wl_appendW elNmP [] hf109 (by kernel_rfl) rfl Tryz.underlying25 (unV h113 (hV104.up g118)) (OwnS.sl (OwnF.own (unV h120 hV121))) ?_ ?_ g117.size ?_
        · (simp only [List.length_cons, List.length_nil, maxLen]; omega)
        · (simp only [List.length_cons, List.length_nil, elNm]; omega)
        intro a122 w123 hf124 hw125 hk126 h127
        have g128 : Grow w0 w123 := g115.wr hw125 (by omega)
        have g129 : Grow w37 w123 := g116.wr hw125 (by omega)
        have g130 : Grow w76 w123 := g117.wr hw125 (by omega)
        obtain ⟨V131, h132, hV133⟩ := nameV h127
        clear h127
        refine wp_all [([42], []), ([], [])] [] w76.heap.size hf124 g130.size (by kernel_rfl) (bund_cons h132 bund_nil) ?_
        refine ch rfl (ob_assign (arg_free 0 rfl rfl)) ?_
        refine ch rfl (ob_assign arg_c) ?_
        refine ch_nil ?_
        intro a134 w135 hf136 hg137 hk138 hn139
        have h140 : Holds _ (a134.eval (.tmp 4)) w135 := hn139.at 0 1 rfl rfl rfl
        have h141 : Holds _ (a134.eval (.tmp 5)) w135 := hn139.at 1 0 rfl rfl rfl
        have g142 := g128.trans hg137
        have g143 := g129.trans hg137
        have g144 := g130.trans hg137
        have hV145 := hV133.up hg137
        clear g128 g129 g130 hf124 hk138 hn139 hg137 hV133
        refine then_ ?_
        refine wp_ret ?_
        refine thenR ?_
        exact ret_tmp2 rfl hf136 g142 (OwnS.mono (cast_own (by first | exact pathV_no (by omega) | exact pathV_one (by omega) | exact pathV_left (by omega) (by omega) (by omega) | exact pathV_right (by omega) (by omega) (by omega)) (unV h140 hV145)) (by omega)) (is_cast h141 (congrArg Value.bool (by first | exact pathB_no (by omega) | exact pathB_yes (by omega))))
      · intro hc87
        try simp only [cond_norm] at hc87
        refine wp_skip ?_
        refine then_ ?_
        refine wp_seq ?_
        have g146 : Grow w76 w76 := Grow.refl _
        have hz147 : w37.heap.size ≤ w76.heap.size := g86.size
        refine wp_region_lit ?_
        refine wp_all [([0], []), ([6], []), ([], [0, 1]), ([1], []), ([6], []), ([], [3, 4]), ([], [2, 5]), ([], [6]), ([], [7]), ([], [7]), ([], [8]), ([], [9])] [0, 6] w76.heap.size hf77 g146.size (by kernel_rfl) (bund_cons (is_any h83) (bund_cons h82 (bund_cons (is_any h84) bund_nil))) ?_
        refine ch rfl (ob_move (arg_free 0 rfl rfl)) ?_
        refine ch rfl (ob_move (arg_free 1 rfl rfl)) ?_
        refine ch rfl (ob_slice_from (ArgOK.val (arg_op 0 1 rfl rfl rfl rfl) (hv0.up g85)) (arg_op 1 0 rfl rfl rfl rfl) (rfl) ?_ Tryz.underlying25 szNm) ?_
        · omega
        refine ch rfl (ob_move (arg_free 2 rfl rfl)) ?_
        refine ch rfl (ob_move (arg_free 1 rfl rfl)) ?_
        first
          | (refine ch rfl (ob_sub' (arg_op 3 1 rfl rfl rfl rfl) (arg_op 4 0 rfl rfl rfl rfl) ?_) ?_; · omega)
          | refine ch rfl (ob_sub (arg_op 3 1 rfl rfl rfl rfl) (arg_op 4 0 rfl rfl rfl rfl)) ?_
        refine ch rfl (ob_call2 (by kernel_rfl) (ih _ _ ?_ ?_) (arg_op 2 3 rfl rfl rfl rfl) (arg_op 5 0 rfl rfl rfl rfl)) ?_
        · ((try simp only [List.length_take, List.length_drop, List.length_cons, List.length_nil]); omega)
        · omega
        refine ch rfl (ob_move (arg_op 6 0 rfl rfl rfl rfl)) ?_
        refine ch rfl (ob_extract0 (arg_op 7 0 rfl rfl rfl rfl)) ?_
        refine ch rfl (ob_extract1 (arg_op 7 1 rfl rfl rfl rfl)) ?_
        refine ch rfl (ob_assign (arg_op 8 1 rfl rfl rfl rfl)) ?_
        refine ch rfl (ob_assign (arg_op 9 1 rfl rfl rfl rfl)) ?_
        refine ch_nil ?_
        intro a148 w149 hf150 hg151 hk152 hn153
        have h154 : Holds (OwnS w76.heap.size _ _) (a148.eval (.tmp 9)) w149 := hn153.at 10 1 rfl rfl rfl
        have h155 := hk152.holds rfl h82
        have h156 := hk152.holds rfl h83
        have g157 := g85.trans hg151
        have g158 := g86.trans hg151
        have g159 := g146.trans hg151
        clear h82 h83 g85 g86 g146 hf77 hk152 hn153
        obtain ⟨V160, h161, hV162⟩ := nameV h154
        clear h154
        refine then_ ?_
        refine wp_seq ?_
        have g163 : Grow w149 w149 := Grow.refl _
        have hz164 : w76.heap.size ≤ w149.heap.size := g159.size
        refine wp_region_lit ?_
        refine wp_seg (l1 := [_, _, _, _, _, _]) [([9], []), ([0], []), ([6], []), ([], [1, 2]), ([], [3]), ([], [4])] [] w149.heap.size hf150 g163.size (by kernel_rfl) (bund_cons h161 (bund_cons (is_any h156) (bund_cons (is_any h155) bund_nil))) ?_
        refine ch rfl (ob_move (arg_free 0 rfl rfl)) ?_
        refine ch rfl (ob_move (arg_free 1 rfl rfl)) ?_
        refine ch rfl (ob_move (arg_free 2 rfl rfl)) ?_
        refine ch rfl (ob_slice_to (ArgOK.val (arg_op 1 1 rfl rfl rfl rfl) (hv0.up g157)) (arg_op 2 0 rfl rfl rfl rfl) (rfl) ?_ Tryz.underlying25 szNm) ?_
        · omega
        refine ch rfl (ob_call1 (by kernel_rfl) (c_rRoot ?_) (arg_op 3 0 rfl rfl rfl rfl)) ?_
        · ((try simp only [List.length_take, List.length_drop, List.length_cons, List.length_nil]); omega)
        refine ch rfl (ob_bs1_nm (arg_op 4 0 rfl rfl rfl rfl)) ?_
        refine ch_nil ?_
        intro a165 w166 hf167 hg168 hk169 hn170
        have h171 : Holds _ (a165.eval (.tmp 53)) w166 := hn170.at 0 5 rfl rfl rfl
        have h172 : Holds (OwnF w149.heap.size _ _) (a165.eval (.tmp 58)) w166 := hn170.at 5 0 rfl rfl rfl
        have g173 := g157.trans hg168
        have g174 := g158.trans hg168
        have g175 := g159.trans hg168
        have g176 := g163.trans hg168
        clear g157 g158 g159 g163 hf150 hk169 hn170
        obtain ⟨V177, h178, hV179⟩ := nameV h172
        clear h172
        refine wl_appendW elNmP [] hf167 (by kernel_rfl) rfl Tryz.underlying25 (unV h171 (hV162.up g176)) (OwnS.sl (OwnF.own (unV h178 hV179))) ?_ ?_ g175.size ?_
        · (simp only [List.length_cons, List.length_nil, maxLen]; omega)
        · (simp only [List.length_cons, List.length_nil, elNm]; omega)
        intro a180 w181 hf182 hw183 hk184 h185
        have g186 : Grow w0 w181 := g173.wr hw183 (by omega)
        have g187 : Grow w37 w181 := g174.wr hw183 (by omega)
        have g188 : Grow w76 w181 := g175.wr hw183 (by omega)
        obtain ⟨V189, h190, hV191⟩ := nameV h185
        clear h185
        refine wp_all [([59], []), ([], [])] [] w76.heap.size hf182 g188.size (by kernel_rfl) (bund_cons h190 bund_nil) ?_
        refine ch rfl (ob_assign (arg_free 0 rfl rfl)) ?_
        refine ch rfl (ob_assign arg_c) ?_
        refine ch_nil ?_
        intro a192 w193 hf194 hg195 hk196 hn197
        have h198 : Holds _ (a192.eval (.tmp 4)) w193 := hn197.at 0 1 rfl rfl rfl
        have h199 : Holds _ (a192.eval (.tmp 5)) w193 := hn197.at 1 0 rfl rfl rfl
        have g200 := g186.trans hg195
        have g201 := g187.trans hg195
        have g202 := g188.trans hg195
        have hV203 := hV191.up hg195
        clear g186 g187 g188 hf182 hk196 hn197 hg195 hV191
        refine then_ ?_
        refine wp_ret ?_
        exact ret_tmp2 rfl hf194 g200 (OwnS.mono (cast_own (by first | exact pathV_no (by omega) | exact pathV_one (by omega) | exact pathV_left (by omega) (by omega) (by omega) | exact pathV_right (by omega) (by omega) (by omega)) (unV h198 hV203)) (by omega)) (is_cast h199 (congrArg Value.bool (by first | exact pathB_no (by omega) | exact pathB_yes (by omega))))
theorem c_rPath : ∀ {l : List UInt64} {i : Int} (_ : l.length ≤ 1000000) (_ : -9223372036854775808 ≤ i), Con2 87 (Sl elNm l) (Is (intV i)) (fun lo => Two (OwnS lo elNm (pathV l i)) (Is (.bool (pathB l i)))) := by
  have key : ∀ (n : Nat) (l : List UInt64) (i : Int), l.length = n → n ≤ 1000000 → -9223372036854775808 ≤ i → Con2 87 (Sl elNm l) (Is (intV i)) (fun lo => Two (OwnS lo elNm (pathV l i)) (Is (.bool (pathB l i)))) := by
    intro n
    induction n using Nat.strongRecOn with
    | _ n ih =>
      intro l i h1 h2 h3
      exact c_rPath_step (by omega) h3 fun m j g1 g2 => ih m.length (by omega) m j rfl (by omega) g2
  intro l i h1 h2
  exact key l.length l i rfl h1 h2
end Ex
end Go.Proofs.YtnmfiiejhoafnaaGreat
