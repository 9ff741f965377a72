/- The values of two signatures lie on the same chains; a signature leads back to the public name. -/
import Derived.Test.YtnmfiiejhoafnaaOnetime2
import Derived.Test.YtnmfiiejhoafnaaTwo
namespace Go.Proofs.Ytnmfiiejhoafnaa
namespace Ex
open Go Calm Go.RowKit

theorem chain_on (s a b : UInt64) {c : Nat} (h : dgN a c ≤ dgN b c) : walkN c (dgN a c) (sigF s a c) (dgN b c - dgN a c) = sigF s b c := by
  unfold sigF
  have h2 := walkN_add c 0 (startN s c) (dgN a c) (dgN b c - dgN a c)
  rw [Nat.zero_add] at h2
  rw [h2, show dgN a c + (dgN b c - dgN a c) = dgN b c by omega]

set_option maxRecDepth 100000 in
theorem c_OnetimeVerifies {s m : UInt64} : Con2 15 (Is (nmV s)) (Is (nmV m)) (fun _ => Is (.bool true)) := by
  intro lo v0 v1 w0 hlo hv0 hv1
  refine enter Try.func15 rfl Try.ntmps15 (by simp) ?_
  intro a0 hf0 ha
  have h00 : Holds _ (a0.eval (.tmp 0)) w0 := arg_holds ha rfl hv0
  have h01 : Holds _ (a0.eval (.tmp 1)) w0 := arg_holds ha rfl hv1
  clear ha
  have g0 : Grow w0 w0 := Grow.refl _
  refine wp_seq ?_
  refine wp_region_lit ?_
  refine wp_seg (l1 := [_]) [([0], [])] [1] w0.heap.size hf0 g0.size (by kernel_rfl) (bund_cons h00 bund_nil) ?_
  refine ch rfl (ob_box_nm (arg_free 0 rfl rfl)) ?_
  refine ch_nil ?_
  intro a1 w2 hf3 hg4 hk5 hn6
  have h7 : Holds _ (a1.eval (.tmp 2)) w2 := hn6.at 0 0 rfl rfl rfl
  have h8 : Holds _ (a1.eval (.tmp 1)) w0 := hk5.holds rfl h01
  have g9 : Grow w0 w2 := g0.trans hg4
  obtain ⟨bk10, hl11, hv12, hb13⟩ := OwnB.blk (lo := w0.heap.size) h7
  clear h01 g0 hf0 hk5 hn6
  have g14 : Grow w2 w2 := Grow.refl _
  have hl15 : bk10 < w2.heap.size := hb13.lt
  have hz16 : w0.heap.size ≤ w2.heap.size := g9.size
  refine wp_all [([1], []), ([], [])] [2] w2.heap.size hf3 g14.size (by kernel_rfl) (bund_cons (is_any h8) bund_nil) ?_
  refine ch rfl (ob_box_nm (arg_free 0 rfl rfl)) ?_
  refine ch rfl (ob_assign arg_c) ?_
  refine ch_nil ?_
  intro a17 w18 hf19 hg20 hk21 hn22
  have h23 : Holds _ (a17.eval (.tmp 3)) w18 := hn22.at 0 1 rfl rfl rfl
  have hv24 : Holds (Is (PtrV bk10)) (a17.eval (.tmp 2)) w18 := is_any (hk21.holds rfl hv12)
  have hb25 : Blk bk10 _ w18 := hb13.up hg20
  have g26 : Grow w0 w18 := g9.trans hg20
  have g27 : Grow w2 w18 := g14.trans hg20
  obtain ⟨bk28, hl29, hv30, hb31⟩ := OwnB.blk (lo := w2.heap.size) h23
  clear hv12 hb13 g9 g14 hf3 hk21 hn22
  refine then_ ?_
  refine wp_seq ?_
  have g32 : Grow w18 w18 := Grow.refl _
  have hl33 : bk10 < w18.heap.size := hb25.lt
  have hl34 : bk28 < w18.heap.size := hb31.lt
  have hz35 : w2.heap.size ≤ w18.heap.size := g27.size
  refine wp_calm2 (l1 := [_, _, _, _, _, _, _, _, _]) (l2 := [_, _]) [] (some 7) [0, 0, 0, 6, 15, 31, 63, 63, 0, 383, 1023] [([3], []), ([2], []), ([3], []), ([], [1, 2]), ([], [0, 3]), ([], [4]), ([], [5]), ([], [5]), ([], [])] [2] w18.heap.size hf19 g32.size (by kernel_rfl) (bund_cons (hb31.ownp hv30) (bund_cons (hb25.ownp hv24) bund_nil)) ?_
  intro ws36 hs37
  refine ch rfl (ob_load_nm (ArgOK.ownp (arg_free 0 rfl rfl))) ?_
  refine ch rfl (ob_load_nm (ArgOK.ownp (arg_free 1 rfl rfl))) ?_
  refine ch rfl (ob_load_nm (ArgOK.ownp (arg_free 0 rfl rfl))) ?_
  refine ch rfl (ob_call2 (by kernel_rfl) (c_Sign) (arg_op 1 1 rfl rfl rfl rfl) (arg_op 2 0 rfl rfl rfl rfl)) ?_
  refine ch rfl (ob_call2 (by kernel_rfl) (c_Recover) (arg_op 0 3 rfl rfl rfl rfl) (ArgOK.sl (arg_op 3 0 rfl rfl rfl rfl))) ?_
  refine ch rfl (ob_move (arg_op 4 0 rfl rfl rfl rfl)) ?_
  refine ch rfl (ob_extract0 (arg_op 5 0 rfl rfl rfl rfl)) ?_
  refine ch rfl (ob_extract1 (arg_op 5 1 rfl rfl rfl rfl)) ?_
  refine ch rfl (ob_alloc_nm) ?_
  refine ch_nil ?_
  refine ⟨ptrok0, ?_, ?_⟩
  · intro a39 w40 hf41 hg42 hk43 hn44 hap38
    have h45 : Holds _ (a39.eval (.tmp 7)) w40 := hn44.at 5 3 rfl rfl rfl
    have h46 : Holds _ (a39.eval (.tmp 13)) w40 := hn44.at 6 2 rfl rfl rfl
    have h47 : Holds _ (a39.eval (.tmp 14)) w40 := hn44.at 7 1 rfl rfl rfl
    have h48 : Holds _ (a39.eval (.tmp 5)) w40 := hn44.at 8 0 rfl rfl rfl
    have hv49 : Holds (Is (PtrV bk10)) (a39.eval (.tmp 2)) w40 := is_any (hk43.holds rfl hv24)
    have hb50 : Blk bk10 _ w40 := hb25.up hg42
    have g51 : Grow w0 w40 := g26.trans hg42
    have g52 : Grow w2 w40 := g27.trans hg42
    have g53 : Grow w18 w40 := g32.trans hg42
    obtain ⟨bk54, hl55, hv56, hb57⟩ := OwnB.blk (lo := w18.heap.size) h48
    clear hv24 hb25 g26 g27 g32 hf19 hk43 hn44
    refine wl_store_nm hv56 hb57 rfl h46 ?_
    intro w58 ho59 hb60
    have g61 : Grow w0 w58 := g51.only ho59 (by omega)
    have g62 : Grow w2 w58 := g52.only ho59 (by omega)
    have g63 : Grow w18 w58 := g53.only ho59 (by omega)
    have h64 : Holds _ (a39.eval (.tmp 14)) w58 := is_any h47
    have hv65 : Holds (Is (PtrV bk10)) (a39.eval (.tmp 2)) w58 := is_any hv49
    have hb66 : Blk bk10 _ w58 := hb50.only ho59 (by omega)
    have hv67 : Holds (Is (PtrV bk54)) (a39.eval (.tmp 5)) w58 := is_any hv56
    refine wp_all [([14], [])] [2, 5] w18.heap.size hf41 g63.size (by kernel_rfl) (bund_cons h64 bund_nil) ?_
    refine ch rfl (ob_assign (arg_free 0 rfl rfl)) ?_
    refine ch_nil ?_
    intro a68 w69 hf70 hg71 hk72 hn73
    have h74 : Holds _ (a68.eval (.tmp 6)) w69 := hn73.at 0 0 rfl rfl rfl
    have hv75 : Holds (Is (PtrV bk10)) (a68.eval (.tmp 2)) w69 := is_any (hk72.holds rfl hv65)
    have hb76 : Blk bk10 _ w69 := hb66.up hg71
    have hv77 : Holds (Is (PtrV bk54)) (a68.eval (.tmp 5)) w69 := is_any (hk72.holds rfl hv67)
    have hb78 : Blk bk54 _ w69 := hb60.up hg71
    have g79 : Grow w0 w69 := g61.trans hg71
    have g80 : Grow w2 w69 := g62.trans hg71
    have g81 : Grow w18 w69 := g63.trans hg71
    clear hv65 hb66 hv67 hb60 g61 g62 g63 hf41 hk72 hn73 hg71
    refine then_ ?_
    refine wp_seq ?_
    have g82 : Grow w69 w69 := Grow.refl _
    have hl83 : bk10 < w69.heap.size := hb76.lt
    have hl84 : bk54 < w69.heap.size := hb78.lt
    have hz85 : w18.heap.size ≤ w69.heap.size := g81.size
    refine wp_calm [0, 1, 3, 3, 11, 31, 63, 127, 255, 511, 1023] [([6], []), ([], [0]), ([5], [1]), ([2], [1]), ([], [3, 1]), ([], [2, 4, 1]), ([], [1, 5]), ([], [6]), ([], [7]), ([], [7, 8]), ([], [9])] [] w69.heap.size hf70 g82.size (by kernel_rfl) (bund_cons h74 (bund_cons (hb78.ownp hv77) (bund_cons (hb76.ownp hv75) bund_nil))) ?_
    intro ws86 hs87
    refine ch rfl (ob_move (arg_free 0 rfl rfl)) ?_
    refine ch rfl (ob_move (arg_op 0 0 rfl rfl rfl rfl)) ?_
    refine chg (b := _) rfl rfl (arg_op 1 0 rfl rfl rfl rfl) (fun hb1 => ob_load_nm (ArgOK.ownp (arg_free 1 rfl rfl))) ?_
    refine chg (b := _) rfl rfl (arg_op 1 1 rfl rfl rfl rfl) (fun hb1 => ob_load_nm (ArgOK.ownp (arg_free 2 rfl rfl))) ?_
    refine chg (b := _) rfl rfl (arg_op 1 2 rfl rfl rfl rfl) (fun hb1 => ob_call1 (by kernel_rfl) (c_Public) (ArgOK.when (arg_op 3 0 rfl rfl rfl rfl) hb1)) ?_
    refine chg (b := _) rfl rfl (arg_op 1 3 rfl rfl rfl rfl) (fun hb1 => ob_eqnm (ArgOK.when (arg_op 2 2 rfl rfl rfl rfl) hb1) (ArgOK.when (arg_op 4 0 rfl rfl rfl rfl) hb1)) ?_
    refine ch rfl (ob_and (arg_op 1 4 rfl rfl rfl rfl) (arg_op 5 0 rfl rfl rfl rfl)) ?_
    refine ch rfl (ob_move (arg_op 6 0 rfl rfl rfl rfl)) ?_
    refine chg (b := _) rfl rfl (arg_op 7 0 rfl rfl rfl rfl) (fun hb7 => ob_call0 (by kernel_rfl) (c_awake4) ) ?_
    refine ch rfl (ob_and (arg_op 7 1 rfl rfl rfl rfl) (arg_op 8 0 rfl rfl rfl rfl)) ?_
    refine ch rfl (ob_assign (arg_op 9 0 rfl rfl rfl rfl)) ?_
    refine ch_nil ?_
    intro a88 w89 hf90 hg91 hk92 hn93
    have h94 : Holds _ (a88.eval (.tmp 4)) w89 := hn93.at 10 0 rfl rfl rfl
    have g95 : Grow w0 w89 := g79.trans hg91
    have g96 : Grow w2 w89 := g80.trans hg91
    have g97 : Grow w18 w89 := g81.trans hg91
    have g98 : Grow w69 w89 := g82.trans hg91
    clear g79 g80 g81 g82 hf70 hk92 hn93
    refine then_ ?_
    refine wp_ret ?_
    exact ret_tmp rfl hf90 g95 (is_cast h94 (congrArg Value.bool (by simp [vals_len, recV_yes, rec_sig])))
  · intro dd hdd
    obtain rfl := Option.some.inj hdd
    intro a100 w101 hf102 hg103 hk104 hn105 hap99
    have h106 : Holds _ (a100.eval (.tmp 7)) w101 := hn105.at 5 3 rfl rfl rfl
    have h107 : Holds _ (a100.eval (.tmp 13)) w101 := hn105.at 6 2 rfl rfl rfl
    have h108 : Holds _ (a100.eval (.tmp 5)) w101 := hn105.at 8 0 rfl rfl rfl
    have hv109 : Holds (Is (PtrV bk10)) (a100.eval (.tmp 2)) w101 := is_any (hk104.holds rfl hv24)
    have hb110 : Blk bk10 _ w101 := hb25.up hg103
    have g111 : Grow w0 w101 := g26.trans hg103
    have g112 : Grow w2 w101 := g27.trans hg103
    have g113 : Grow w18 w101 := g32.trans hg103
    obtain ⟨bk114, hl115, hv116, hb117⟩ := OwnB.blk (lo := w18.heap.size) h108
    clear hv24 hb25 g26 g27 g32 hf19 hk104 hn105
    refine wl_store_nm hv116 hb117 rfl h107 ?_
    intro w118 ho119 hb120
    have g121 : Grow w0 w118 := g111.only ho119 (by omega)
    have g122 : Grow w2 w118 := g112.only ho119 (by omega)
    have g123 : Grow w18 w118 := g113.only ho119 (by omega)
    have h124 : Holds _ (a100.eval (.tmp 7)) w118 := two_any h106
    have hv125 : Holds (Is (PtrV bk10)) (a100.eval (.tmp 2)) w118 := is_any hv109
    have hb126 : Blk bk10 _ w118 := hb110.only ho119 (by omega)
    have hv127 : Holds (Is (PtrV bk114)) (a100.eval (.tmp 5)) w118 := is_any hv116
    refine wp_all [([7], []), ([], [0])] [2, 5] w18.heap.size hf102 g123.size (by kernel_rfl) (bund_cons h124 bund_nil) ?_
    refine ch rfl (ob_extract1 (arg_free 0 rfl rfl)) ?_
    refine ch rfl (ob_assign (arg_op 0 0 rfl rfl rfl rfl)) ?_
    refine ch_nil ?_
    intro a128 w129 hf130 hg131 hk132 hn133
    have h134 : Holds _ (a128.eval (.tmp 6)) w129 := hn133.at 1 0 rfl rfl rfl
    have hv135 : Holds (Is (PtrV bk10)) (a128.eval (.tmp 2)) w129 := is_any (hk132.holds rfl hv125)
    have hb136 : Blk bk10 _ w129 := hb126.up hg131
    have hv137 : Holds (Is (PtrV bk114)) (a128.eval (.tmp 5)) w129 := is_any (hk132.holds rfl hv127)
    have hb138 : Blk bk114 _ w129 := hb120.up hg131
    have g139 : Grow w0 w129 := g121.trans hg131
    have g140 : Grow w2 w129 := g122.trans hg131
    have g141 : Grow w18 w129 := g123.trans hg131
    clear hv125 hb126 hv127 hb120 g121 g122 g123 hf102 hk132 hn133 hg131
    refine then_ ?_
    refine wp_seq ?_
    have g142 : Grow w129 w129 := Grow.refl _
    have hl143 : bk10 < w129.heap.size := hb136.lt
    have hl144 : bk114 < w129.heap.size := hb138.lt
    have hz145 : w18.heap.size ≤ w129.heap.size := g141.size
    refine wp_calm [0, 1, 3, 3, 11, 31, 63, 127, 255, 511, 1023] [([6], []), ([], [0]), ([5], [1]), ([2], [1]), ([], [3, 1]), ([], [2, 4, 1]), ([], [1, 5]), ([], [6]), ([], [7]), ([], [7, 8]), ([], [9])] [] w129.heap.size hf130 g142.size (by kernel_rfl) (bund_cons h134 (bund_cons (hb138.ownp hv137) (bund_cons (hb136.ownp hv135) bund_nil))) ?_
    intro ws146 hs147
    refine ch rfl (ob_move (arg_free 0 rfl rfl)) ?_
    refine ch rfl (ob_move (arg_op 0 0 rfl rfl rfl rfl)) ?_
    refine chg (b := _) rfl rfl (arg_op 1 0 rfl rfl rfl rfl) (fun hb1 => ob_load_nm (ArgOK.ownp (arg_free 1 rfl rfl))) ?_
    refine chg (b := _) rfl rfl (arg_op 1 1 rfl rfl rfl rfl) (fun hb1 => ob_load_nm (ArgOK.ownp (arg_free 2 rfl rfl))) ?_
    refine chg (b := _) rfl rfl (arg_op 1 2 rfl rfl rfl rfl) (fun hb1 => ob_call1 (by kernel_rfl) (c_Public) (ArgOK.when (arg_op 3 0 rfl rfl rfl rfl) hb1)) ?_
    refine chg (b := _) rfl rfl (arg_op 1 3 rfl rfl rfl rfl) (fun hb1 => ob_eqnm (ArgOK.when (arg_op 2 2 rfl rfl rfl rfl) hb1) (ArgOK.when (arg_op 4 0 rfl rfl rfl rfl) hb1)) ?_
    refine ch rfl (ob_and (arg_op 1 4 rfl rfl rfl rfl) (arg_op 5 0 rfl rfl rfl rfl)) ?_
    refine ch rfl (ob_move (arg_op 6 0 rfl rfl rfl rfl)) ?_
    refine chg (b := _) rfl rfl (arg_op 7 0 rfl rfl rfl rfl) (fun hb7 => ob_call0 (by kernel_rfl) (c_awake4) ) ?_
    refine ch rfl (ob_and (arg_op 7 1 rfl rfl rfl rfl) (arg_op 8 0 rfl rfl rfl rfl)) ?_
    refine ch rfl (ob_assign (arg_op 9 0 rfl rfl rfl rfl)) ?_
    refine ch_nil ?_
    intro a148 w149 hf150 hg151 hk152 hn153
    have h154 : Holds _ (a148.eval (.tmp 4)) w149 := hn153.at 10 0 rfl rfl rfl
    have g155 : Grow w0 w149 := g139.trans hg151
    have g156 : Grow w2 w149 := g140.trans hg151
    have g157 : Grow w18 w149 := g141.trans hg151
    have g158 : Grow w129 w149 := g142.trans hg151
    clear g139 g140 g141 g142 hf130 hk152 hn153
    refine then_ ?_
    refine wp_ret ?_
    exact ret_tmp rfl hf150 g155 (is_cast h154 (congrArg Value.bool (by simp [vals_len, recV_yes, rec_sig])))

set_option maxRecDepth 100000 in
theorem c_OnetimeChains {s a b : UInt64} : Con3 12 (Is (nmV s)) (Is (nmV a)) (Is (nmV b)) (fun _ => Is (.bool true)) := by
  intro lo v0 v1 v2 w0 hlo hv0 hv1 hv2
  refine enter Try.func12 rfl Try.ntmps12 (by simp) ?_
  intro a0 hf0 ha
  have h00 : Holds _ (a0.eval (.tmp 0)) w0 := arg_holds ha rfl hv0
  have h01 : Holds _ (a0.eval (.tmp 1)) w0 := arg_holds ha rfl hv1
  have h02 : Holds _ (a0.eval (.tmp 2)) w0 := arg_holds ha rfl hv2
  clear ha
  have g0 : Grow w0 w0 := Grow.refl _
  refine wp_seq ?_
  refine wp_region_lit ?_
  refine wp_seg (l1 := [_]) [([0], [])] [1, 2] w0.heap.size hf0 g0.size (by kernel_rfl) (bund_cons h00 bund_nil) ?_
  refine ch rfl (ob_box_nm (arg_free 0 rfl rfl)) ?_
  refine ch_nil ?_
  intro a1 w2 hf3 hg4 hk5 hn6
  have h7 : Holds _ (a1.eval (.tmp 3)) w2 := hn6.at 0 0 rfl rfl rfl
  have h8 : Holds _ (a1.eval (.tmp 1)) w0 := hk5.holds rfl h01
  have h9 : Holds _ (a1.eval (.tmp 2)) w0 := hk5.holds rfl h02
  have g10 : Grow w0 w2 := g0.trans hg4
  obtain ⟨bk11, hl12, hv13, hb14⟩ := OwnB.blk (lo := w0.heap.size) h7
  clear h01 h02 g0 hf0 hk5 hn6
  have g15 : Grow w2 w2 := Grow.refl _
  have hl16 : bk11 < w2.heap.size := hb14.lt
  have hz17 : w0.heap.size ≤ w2.heap.size := g10.size
  refine wp_seg (l1 := [_]) [([1], [])] [2, 3] w2.heap.size hf3 g15.size (by kernel_rfl) (bund_cons (is_any h8) bund_nil) ?_
  refine ch rfl (ob_box_nm (arg_free 0 rfl rfl)) ?_
  refine ch_nil ?_
  intro a18 w19 hf20 hg21 hk22 hn23
  have h24 : Holds _ (a18.eval (.tmp 4)) w19 := hn23.at 0 0 rfl rfl rfl
  have h25 : Holds _ (a18.eval (.tmp 2)) w0 := hk22.holds rfl h9
  have hv26 : Holds (Is (PtrV bk11)) (a18.eval (.tmp 3)) w19 := is_any (hk22.holds rfl hv13)
  have hb27 : Blk bk11 _ w19 := hb14.up hg21
  have g28 : Grow w0 w19 := g10.trans hg21
  have g29 : Grow w2 w19 := g15.trans hg21
  obtain ⟨bk30, hl31, hv32, hb33⟩ := OwnB.blk (lo := w2.heap.size) h24
  clear h9 hv13 hb14 g10 g15 hf3 hk22 hn23
  have g34 : Grow w19 w19 := Grow.refl _
  have hl35 : bk11 < w19.heap.size := hb27.lt
  have hl36 : bk30 < w19.heap.size := hb33.lt
  have hz37 : w2.heap.size ≤ w19.heap.size := g29.size
  refine wp_all [([2], []), ([], [])] [3, 4] w19.heap.size hf20 g34.size (by kernel_rfl) (bund_cons (is_any h25) bund_nil) ?_
  refine ch rfl (ob_box_nm (arg_free 0 rfl rfl)) ?_
  refine ch rfl (ob_assign arg_c) ?_
  refine ch_nil ?_
  intro a38 w39 hf40 hg41 hk42 hn43
  have h44 : Holds _ (a38.eval (.tmp 5)) w39 := hn43.at 0 1 rfl rfl rfl
  have hv45 : Holds (Is (PtrV bk11)) (a38.eval (.tmp 3)) w39 := is_any (hk42.holds rfl hv26)
  have hb46 : Blk bk11 _ w39 := hb27.up hg41
  have hv47 : Holds (Is (PtrV bk30)) (a38.eval (.tmp 4)) w39 := is_any (hk42.holds rfl hv32)
  have hb48 : Blk bk30 _ w39 := hb33.up hg41
  have g49 : Grow w0 w39 := g28.trans hg41
  have g50 : Grow w2 w39 := g29.trans hg41
  have g51 : Grow w19 w39 := g34.trans hg41
  obtain ⟨bk52, hl53, hv54, hb55⟩ := OwnB.blk (lo := w19.heap.size) h44
  clear hv26 hb27 hv32 hb33 g28 g29 g34 hf20 hk42 hn43
  refine then_ ?_
  refine wp_seq ?_
  have g56 : Grow w39 w39 := Grow.refl _
  have hl57 : bk11 < w39.heap.size := hb46.lt
  have hl58 : bk30 < w39.heap.size := hb48.lt
  have hl59 : bk52 < w39.heap.size := hb55.lt
  have hz60 : w19.heap.size ≤ w39.heap.size := g51.size
  refine wp_calm [0, 0, 3, 0, 0, 31, 63, 127] [([3], []), ([4], []), ([], [0, 1]), ([3], []), ([5], []), ([], [3, 4]), ([], [2]), ([], [5])] [4, 5] w39.heap.size hf40 g56.size (by kernel_rfl) (bund_cons (hb46.ownp hv45) (bund_cons (hb48.ownp hv47) (bund_cons (hb55.ownp hv54) bund_nil))) ?_
  intro ws61 hs62
  refine ch rfl (ob_load_nm (ArgOK.ownp (arg_free 0 rfl rfl))) ?_
  refine ch rfl (ob_load_nm (ArgOK.ownp (arg_free 1 rfl rfl))) ?_
  refine ch rfl (ob_call2 (by kernel_rfl) (c_Sign) (arg_op 0 1 rfl rfl rfl rfl) (arg_op 1 0 rfl rfl rfl rfl)) ?_
  refine ch rfl (ob_load_nm (ArgOK.ownp (arg_free 0 rfl rfl))) ?_
  refine ch rfl (ob_load_nm (ArgOK.ownp (arg_free 2 rfl rfl))) ?_
  refine ch rfl (ob_call2 (by kernel_rfl) (c_Sign) (arg_op 3 1 rfl rfl rfl rfl) (arg_op 4 0 rfl rfl rfl rfl)) ?_
  refine ch rfl (ob_assign (arg_op 2 3 rfl rfl rfl rfl)) ?_
  refine ch rfl (ob_assign (arg_op 5 1 rfl rfl rfl rfl)) ?_
  refine ch_nil ?_
  intro a63 w64 hf65 hg66 hk67 hn68
  have h69 : Holds (OwnS w39.heap.size _ _) (a63.eval (.tmp 7)) w64 := hn68.at 6 1 rfl rfl rfl
  have h70 : Holds (OwnS w39.heap.size _ _) (a63.eval (.tmp 8)) w64 := hn68.at 7 0 rfl rfl rfl
  have hv71 : Holds (Is (PtrV bk30)) (a63.eval (.tmp 4)) w64 := is_any (hk67.holds rfl hv47)
  have hb72 : Blk bk30 _ w64 := hb48.up hg66
  have hv73 : Holds (Is (PtrV bk52)) (a63.eval (.tmp 5)) w64 := is_any (hk67.holds rfl hv54)
  have hb74 : Blk bk52 _ w64 := hb55.up hg66
  have g75 : Grow w0 w64 := g49.trans hg66
  have g76 : Grow w2 w64 := g50.trans hg66
  have g77 : Grow w19 w64 := g51.trans hg66
  have g78 : Grow w39 w64 := g56.trans hg66
  clear hv47 hb48 hv54 hb55 g49 g50 g51 g56 hf40 hk67 hn68
  obtain ⟨V79, h80, hV81⟩ := nameV h69
  clear h69
  obtain ⟨V82, h83, hV84⟩ := nameV h70
  clear h70
  refine then_ ?_
  refine wp_seq ?_
  have g85 : Grow w64 w64 := Grow.refl _
  have hl86 : bk30 < w64.heap.size := hb72.lt
  have hl87 : bk52 < w64.heap.size := hb74.lt
  have hz88 : w39.heap.size ≤ w64.heap.size := g78.size
  refine wp_calm [0, 1, 0, 7, 15, 31] [([4], []), ([], [0]), ([5], []), ([], [2]), ([], [1]), ([], [3])] [7, 8] w64.heap.size hf65 g85.size (by kernel_rfl) (bund_cons (hb72.ownp hv71) (bund_cons (hb74.ownp hv73) bund_nil)) ?_
  intro ws89 hs90
  refine ch rfl (ob_load_nm (ArgOK.ownp (arg_free 0 rfl rfl))) ?_
  refine ch rfl (ob_call1 (by kernel_rfl) (c_Digits) (arg_op 0 0 rfl rfl rfl rfl)) ?_
  refine ch rfl (ob_load_nm (ArgOK.ownp (arg_free 1 rfl rfl))) ?_
  refine ch rfl (ob_call1 (by kernel_rfl) (c_Digits) (arg_op 2 0 rfl rfl rfl rfl)) ?_
  refine ch rfl (ob_assign (arg_op 1 2 rfl rfl rfl rfl)) ?_
  refine ch rfl (ob_assign (arg_op 3 1 rfl rfl rfl rfl)) ?_
  refine ch_nil ?_
  intro a91 w92 hf93 hg94 hk95 hn96
  have h97 : Holds (OwnS w64.heap.size _ _) (a91.eval (.tmp 9)) w92 := hn96.at 4 1 rfl rfl rfl
  have h98 : Holds (OwnS w64.heap.size _ _) (a91.eval (.tmp 10)) w92 := hn96.at 5 0 rfl rfl rfl
  have h99 : Holds _ (a91.eval (.tmp 7)) w64 := hk95.holds rfl h80
  have h100 : Holds _ (a91.eval (.tmp 8)) w64 := hk95.holds rfl h83
  have g101 : Grow w0 w92 := g75.trans hg94
  have g102 : Grow w2 w92 := g76.trans hg94
  have g103 : Grow w19 w92 := g77.trans hg94
  have g104 : Grow w39 w92 := g78.trans hg94
  have g105 : Grow w64 w92 := g85.trans hg94
  clear h80 h83 g75 g76 g77 g78 g85 hf65 hk95 hn96
  obtain ⟨V106, h107, hV108⟩ := nameV h97
  clear h97
  obtain ⟨V109, h110, hV111⟩ := nameV h98
  clear h98
  refine then_ ?_
  refine wp_seq ?_
  refine wp_seq ?_
  refine wp_region_lit ?_
  refine wp_all [([7], []), ([], [0]), ([], [1]), ([], [2]), ([8], [3]), ([], [4, 3]), ([], [5, 3]), ([], [3, 6]), ([], [7]), ([9], [8]), ([], [9, 8]), ([], [10, 8]), ([], [8, 11]), ([], [12]), ([10], [13]), ([], [14, 13]), ([], [15, 13]), ([], [13, 16])] [7, 8, 9, 10] w64.heap.size hf93 g105.size (by kernel_rfl) (bund_cons (is_any h99) (bund_cons (is_any h100) (bund_cons h107 (bund_cons h110 bund_nil)))) ?_
  refine ch rfl (ob_move (arg_free 0 rfl rfl)) ?_
  refine ch rfl (ob_len (ArgOK.sl (ArgOK.val (arg_op 0 0 rfl rfl rfl rfl) (hV81.up g105))) Try.underlying39) ?_
  refine ch rfl (ob_neq (arg_op 1 0 rfl rfl rfl rfl) arg_c) ?_
  refine ch rfl (ob_move (arg_op 2 0 rfl rfl rfl rfl)) ?_
  refine chg (b := _) rfl rfl (arg_op 3 0 rfl rfl rfl rfl) (fun hb3 => ob_move (arg_free 1 rfl rfl)) ?_
  refine chg (b := _) rfl rfl (arg_op 3 1 rfl rfl rfl rfl) (fun hb3 => ob_len (ArgOK.sl (ArgOK.val (ArgOK.when (arg_op 4 0 rfl rfl rfl rfl) hb3) (hV84.up g105))) Try.underlying39) ?_
  refine chg (b := _) rfl rfl (arg_op 3 2 rfl rfl rfl rfl) (fun hb3 => ob_neq (ArgOK.when (arg_op 5 0 rfl rfl rfl rfl) hb3) arg_c) ?_
  refine ch rfl (ob_or (arg_op 3 3 rfl rfl rfl rfl) (arg_op 6 0 rfl rfl rfl rfl)) ?_
  refine ch rfl (ob_move (arg_op 7 0 rfl rfl rfl rfl)) ?_
  refine chg (b := _) rfl rfl (arg_op 8 0 rfl rfl rfl rfl) (fun hb8 => ob_move (arg_free 2 rfl rfl)) ?_
  refine chg (b := _) rfl rfl (arg_op 8 1 rfl rfl rfl rfl) (fun hb8 => ob_len (ArgOK.sl (ArgOK.val (ArgOK.when (arg_op 9 0 rfl rfl rfl rfl) hb8) hV108)) Try.underlying24) ?_
  refine chg (b := _) rfl rfl (arg_op 8 2 rfl rfl rfl rfl) (fun hb8 => ob_neq (ArgOK.when (arg_op 10 0 rfl rfl rfl rfl) hb8) arg_c) ?_
  refine ch rfl (ob_or (arg_op 8 3 rfl rfl rfl rfl) (arg_op 11 0 rfl rfl rfl rfl)) ?_
  refine ch rfl (ob_move (arg_op 12 0 rfl rfl rfl rfl)) ?_
  refine chg (b := _) rfl rfl (arg_op 13 0 rfl rfl rfl rfl) (fun hb13 => ob_move (arg_free 3 rfl rfl)) ?_
  refine chg (b := _) rfl rfl (arg_op 13 1 rfl rfl rfl rfl) (fun hb13 => ob_len (ArgOK.sl (ArgOK.val (ArgOK.when (arg_op 14 0 rfl rfl rfl rfl) hb13) hV111)) Try.underlying24) ?_
  refine chg (b := _) rfl rfl (arg_op 13 2 rfl rfl rfl rfl) (fun hb13 => ob_neq (ArgOK.when (arg_op 15 0 rfl rfl rfl rfl) hb13) arg_c) ?_
  refine ch rfl (ob_or (arg_op 13 3 rfl rfl rfl rfl) (arg_op 16 0 rfl rfl rfl rfl)) ?_
  refine ch_nil ?_
  intro a112 w113 hf114 hg115 hk116 hn117
  have h118 : Holds _ (a112.eval (.tmp 44)) w113 := hn117.at 17 0 rfl rfl rfl
  have h119 : Holds _ (a112.eval (.tmp 9)) w113 := hk116.holds rfl (h107.up hg115)
  have h120 : Holds _ (a112.eval (.tmp 10)) w113 := hk116.holds rfl (h110.up hg115)
  have h121 : Holds _ (a112.eval (.tmp 7)) w64 := hk116.holds rfl h99
  have h122 : Holds _ (a112.eval (.tmp 8)) w64 := hk116.holds rfl h100
  have g123 : Grow w0 w113 := g101.trans hg115
  have g124 : Grow w2 w113 := g102.trans hg115
  have g125 : Grow w19 w113 := g103.trans hg115
  have g126 : Grow w39 w113 := g104.trans hg115
  have g127 : Grow w64 w113 := g105.trans hg115
  have hV128 : Holds _ V106 w113 := hV108.up hg115
  have hV129 : Holds _ V109 w113 := hV111.up hg115
  clear h107 h110 h99 h100 g101 g102 g103 g104 g105 hf93 hk116 hn117 hg115 hV108 hV111
  refine then_ ?_
  refine wp_if h118 ?_ ?_
  · intro hc130
    try simp only [digits_len, vals_len, cond_norm] at hc130
    simp [digits_len, vals_len] at hc130
  · intro hc130
    try simp only [digits_len, vals_len, cond_norm] at hc130
    refine wp_skip ?_
    refine then_ ?_
    refine wp_seq ?_
    refine wp_seq ?_
    refine wp_region_lit ?_
    refine wp_all [([], [])] [7, 8, 9, 10] w64.heap.size hf114 g127.size (by kernel_rfl) bund_nil ?_
    refine ch rfl (ob_assign arg_c) ?_
    refine ch_nil ?_
    intro a131 w132 hf133 hg134 hk135 hn136
    have h137 : Holds _ (a131.eval (.tmp 11)) w132 := hn136.at 0 0 rfl rfl rfl
    have h138 : Holds _ (a131.eval (.tmp 9)) w132 := hk135.holds rfl (h119.up hg134)
    have h139 : Holds _ (a131.eval (.tmp 10)) w132 := hk135.holds rfl (h120.up hg134)
    have h140 : Holds _ (a131.eval (.tmp 7)) w64 := hk135.holds rfl h121
    have h141 : Holds _ (a131.eval (.tmp 8)) w64 := hk135.holds rfl h122
    have g142 : Grow w0 w132 := g123.trans hg134
    have g143 : Grow w2 w132 := g124.trans hg134
    have g144 : Grow w19 w132 := g125.trans hg134
    have g145 : Grow w39 w132 := g126.trans hg134
    have g146 : Grow w64 w132 := g127.trans hg134
    have hV147 : Holds _ V106 w132 := hV128.up hg134
    have hV148 : Holds _ V109 w132 := hV129.up hg134
    clear h119 h120 h121 h122 g123 g124 g125 g126 g127 hf114 hk135 hn136 hg134 hV128 hV129
    refine then_ ?_
    refine wp_block ?_
    have g149 : Grow w132 w132 := Grow.refl _
    have hz150 : w64.heap.size ≤ w132.heap.size := g146.size
    refine wp_loopL (α := Nat) (fun c a' w' => Fr 104 a' ∧ (c ≤ 18) ∧ Grow w0 w' ∧ Grow w2 w' ∧ Grow w19 w' ∧ Grow w39 w' ∧ Grow w64 w' ∧ Grow w132 w' ∧ Keep [7, 8, 9, 10] a131 a' ∧ Holds (Is (intV (c : Int))) (a'.eval (.tmp 11)) w') (fun c => 18 - c) (0) ⟨hf133, (by ((try dsimp only); omega)), g142, g143, g144, g145, g146, g149, Keep.refl _ _, (is_cast h137 (by first | rfl | (refine congrArg intV ?_; (try dsimp only); omega)))⟩ ?_
    intro c a151 w152 ⟨hf153, hi155, g156, g157, g158, g159, g160, g161, kk154, h162⟩
    have h163 : Holds _ (a151.eval (.tmp 9)) w132 := kk154.holds rfl h138
    have h164 : Holds _ (a151.eval (.tmp 10)) w132 := kk154.holds rfl h139
    have h165 : Holds _ (a151.eval (.tmp 7)) w64 := kk154.holds rfl h140
    have h166 : Holds _ (a151.eval (.tmp 8)) w64 := kk154.holds rfl h141
    refine wp_seq ?_
    refine wp_seq ?_
    refine wp_region_lit ?_
    refine wp_all [([11], []), ([], [0])] [7, 8, 9, 10, 11] w132.heap.size hf153 g161.size (by kernel_rfl) (bund_cons h162 bund_nil) ?_
    refine ch rfl (ob_move (arg_free 0 rfl rfl)) ?_
    refine ch rfl (ob_lss (arg_op 0 0 rfl rfl rfl rfl) arg_c) ?_
    refine ch_nil ?_
    intro a167 w168 hf169 hg170 hk171 hn172
    have h173 : Holds _ (a167.eval (.tmp 46)) w168 := hn172.at 1 0 rfl rfl rfl
    have h174 : Holds _ (a167.eval (.tmp 11)) w168 := hk171.holds rfl (h162.up hg170)
    have h175 : Holds _ (a167.eval (.tmp 9)) w132 := hk171.holds rfl h163
    have h176 : Holds _ (a167.eval (.tmp 10)) w132 := hk171.holds rfl h164
    have h177 : Holds _ (a167.eval (.tmp 7)) w64 := hk171.holds rfl h165
    have h178 : Holds _ (a167.eval (.tmp 8)) w64 := hk171.holds rfl h166
    have g179 : Grow w0 w168 := g156.trans hg170
    have g180 : Grow w2 w168 := g157.trans hg170
    have g181 : Grow w19 w168 := g158.trans hg170
    have g182 : Grow w39 w168 := g159.trans hg170
    have g183 : Grow w64 w168 := g160.trans hg170
    have g184 : Grow w132 w168 := g161.trans hg170
    have kk185 : Keep _ a131 a167 := kk154.trans hk171 rfl
    clear h162 h163 h164 h165 h166 g156 g157 g158 g159 g160 g161 kk154 hf153 hk171 hn172 hg170
    refine then_ ?_
    refine wp_if h173 ?_ ?_
    · intro hc186
      try simp only [digits_len, vals_len, cond_norm] at hc186
      refine wp_skip ?_
      refine then_ ?_
      refine wp_seq ?_
      refine wp_block ?_
      refine wp_seq ?_
      have g187 : Grow w168 w168 := Grow.refl _
      have hz188 : w132.heap.size ≤ w168.heap.size := g184.size
      refine wp_calm2 (l1 := [_, _, _, _, _, _, _, _, _, _, _, _, _, _, _, _, _, _]) (l2 := [_, _, _, _]) [16, 17] (none) [0, 0, 3, 7, 0, 0, 48, 112, 0, 0, 768, 1792, 0, 0, 12288, 28672, 0, 0, 262143, 524287, 1048575, 2097151] [([7], []), ([11], []), ([], [0, 1]), ([], [2]), ([9], []), ([11], []), ([], [4, 5]), ([], [6]), ([10], []), ([11], []), ([], [8, 9]), ([], [10]), ([8], []), ([11], []), ([], [12, 13]), ([], [14]), ([], []), ([], [])] [7, 8, 9, 10, 11] w168.heap.size hf169 g187.size (by kernel_rfl) (bund_cons (is_any h177) (bund_cons h174 (bund_cons (is_any h175) (bund_cons (is_any h176) (bund_cons (is_any h178) bund_nil))))) ?_
      intro ws189 hs190
      refine ch rfl (ob_move (arg_free 0 rfl rfl)) ?_
      refine ch rfl (ob_move (arg_free 1 rfl rfl)) ?_
      refine ch rfl (ob_ix (ArgOK.sl (ArgOK.val (arg_op 0 1 rfl rfl rfl rfl) ((hV81.up g183).up hs190))) (arg_op 1 0 rfl rfl rfl rfl) (rfl) ?_ Try.underlying39 szNm) ?_
      · (rw [vals_len]; omega)
      refine ch rfl (ob_load_nm (arg_op 2 0 rfl rfl rfl rfl)) ?_
      refine ch rfl (ob_move (arg_free 2 rfl rfl)) ?_
      refine ch rfl (ob_move (arg_free 1 rfl rfl)) ?_
      refine ch rfl (ob_ix (ArgOK.sl (ArgOK.val (arg_op 4 1 rfl rfl rfl rfl) ((hV147.up g184).up hs190))) (arg_op 5 0 rfl rfl rfl rfl) (rfl) ?_ Try.underlying24 szInt) ?_
      · (rw [digits_len]; omega)
      refine ch rfl (ob_load1 (arg_op 6 0 rfl rfl rfl rfl) Try.underlying3 rfl) ?_
      refine ch rfl (ob_move (arg_free 3 rfl rfl)) ?_
      refine ch rfl (ob_move (arg_free 1 rfl rfl)) ?_
      refine ch rfl (ob_ix (ArgOK.sl (ArgOK.val (arg_op 8 1 rfl rfl rfl rfl) ((hV148.up g184).up hs190))) (arg_op 9 0 rfl rfl rfl rfl) (rfl) ?_ Try.underlying24 szInt) ?_
      · (rw [digits_len]; omega)
      refine ch rfl (ob_load1 (arg_op 10 0 rfl rfl rfl rfl) Try.underlying3 rfl) ?_
      refine ch rfl (ob_move (arg_free 4 rfl rfl)) ?_
      refine ch rfl (ob_move (arg_free 1 rfl rfl)) ?_
      refine ch rfl (ob_ix (ArgOK.sl (ArgOK.val (arg_op 12 1 rfl rfl rfl rfl) ((hV84.up g183).up hs190))) (arg_op 13 0 rfl rfl rfl rfl) (rfl) ?_ Try.underlying39 szNm) ?_
      · (rw [vals_len]; omega)
      refine ch rfl (ob_load_nm (arg_op 14 0 rfl rfl rfl rfl)) ?_
      refine ch rfl (ob_alloc_nm) ?_
      refine ch rfl (ob_alloc_nm) ?_
      refine ch_nil ?_
      refine ⟨ptrok2 rfl rfl, ?_, ?_⟩
      · intro a192 w193 hf194 hg195 hk196 hn197 hap191
        have h198 : Holds _ (a192.eval (.tmp 52)) w193 := hn197.at 3 14 rfl rfl rfl
        have h199 : Holds _ (a192.eval (.tmp 56)) w193 := hn197.at 7 10 rfl rfl rfl
        have h200 : Holds _ (a192.eval (.tmp 60)) w193 := hn197.at 11 6 rfl rfl rfl
        have h201 : Holds _ (a192.eval (.tmp 64)) w193 := hn197.at 15 2 rfl rfl rfl
        have h202 : Holds _ (a192.eval (.tmp 12)) w193 := hn197.at 16 1 rfl rfl rfl
        have h203 : Holds _ (a192.eval (.tmp 15)) w193 := hn197.at 17 0 rfl rfl rfl
        have h204 : Holds _ (a192.eval (.tmp 11)) w168 := hk196.holds rfl h174
        have h205 : Holds _ (a192.eval (.tmp 9)) w132 := hk196.holds rfl h175
        have h206 : Holds _ (a192.eval (.tmp 10)) w132 := hk196.holds rfl h176
        have h207 : Holds _ (a192.eval (.tmp 7)) w64 := hk196.holds rfl h177
        have h208 : Holds _ (a192.eval (.tmp 8)) w64 := hk196.holds rfl h178
        have g209 : Grow w0 w193 := g179.trans hg195
        have g210 : Grow w2 w193 := g180.trans hg195
        have g211 : Grow w19 w193 := g181.trans hg195
        have g212 : Grow w39 w193 := g182.trans hg195
        have g213 : Grow w64 w193 := g183.trans hg195
        have g214 : Grow w132 w193 := g184.trans hg195
        have g215 : Grow w168 w193 := g187.trans hg195
        have kk216 : Keep _ a131 a192 := kk185.trans hk196 rfl
        obtain ⟨bk217, hl218, hv219, hb220⟩ := OwnB.blk (lo := w168.heap.size) h202
        obtain ⟨bk221, hl222, hv223, hb224⟩ := OwnB.blk (lo := w168.heap.size) h203
        have hne225 : bk217 ≠ bk221 := Apart.at hap191 16 17 rfl rfl rfl rfl rfl hv219 hv223
        clear h174 h175 h176 h177 h178 g179 g180 g181 g182 g183 g184 g187 kk185 hf169 hk196 hn197
        refine wl_store_nm hv219 hb220 rfl h198 ?_
        intro w226 ho227 hb228
        have g229 : Grow w0 w226 := g209.only ho227 (by omega)
        have g230 : Grow w2 w226 := g210.only ho227 (by omega)
        have g231 : Grow w19 w226 := g211.only ho227 (by omega)
        have g232 : Grow w39 w226 := g212.only ho227 (by omega)
        have g233 : Grow w64 w226 := g213.only ho227 (by omega)
        have g234 : Grow w132 w226 := g214.only ho227 (by omega)
        have g235 : Grow w168 w226 := g215.only ho227 (by omega)
        have h236 : Holds _ (a192.eval (.tmp 56)) w226 := is_any h199
        have h237 : Holds _ (a192.eval (.tmp 60)) w226 := is_any h200
        have h238 : Holds _ (a192.eval (.tmp 64)) w226 := is_any h201
        have hv239 : Holds (Is (PtrV bk217)) (a192.eval (.tmp 12)) w226 := is_any hv219
        have hv240 : Holds (Is (PtrV bk221)) (a192.eval (.tmp 15)) w226 := is_any hv223
        have hb241 : Blk bk221 _ w226 := hb224.only ho227 (by omega)
        refine wp_seg (l1 := [_, _]) [([56], []), ([60], [])] [7, 8, 9, 10, 11, 12, 15, 64] w168.heap.size hf194 g235.size (by kernel_rfl) (bund_cons h236 (bund_cons h237 bund_nil)) ?_
        refine ch rfl (ob_assign (arg_free 0 rfl rfl)) ?_
        refine ch rfl (ob_assign (arg_free 1 rfl rfl)) ?_
        refine ch_nil ?_
        intro a242 w243 hf244 hg245 hk246 hn247
        have h248 : Holds _ (a242.eval (.tmp 13)) w243 := hn247.at 0 1 rfl rfl rfl
        have h249 : Holds _ (a242.eval (.tmp 14)) w243 := hn247.at 1 0 rfl rfl rfl
        have h250 : Holds _ (a242.eval (.tmp 64)) w243 := hk246.holds rfl (h238.up hg245)
        have h251 : Holds _ (a242.eval (.tmp 11)) w168 := hk246.holds rfl h204
        have h252 : Holds _ (a242.eval (.tmp 9)) w132 := hk246.holds rfl h205
        have h253 : Holds _ (a242.eval (.tmp 10)) w132 := hk246.holds rfl h206
        have h254 : Holds _ (a242.eval (.tmp 7)) w64 := hk246.holds rfl h207
        have h255 : Holds _ (a242.eval (.tmp 8)) w64 := hk246.holds rfl h208
        have hv256 : Holds (Is (PtrV bk217)) (a242.eval (.tmp 12)) w243 := is_any (hk246.holds rfl hv239)
        have hb257 : Blk bk217 _ w243 := hb228.up hg245
        have hv258 : Holds (Is (PtrV bk221)) (a242.eval (.tmp 15)) w243 := is_any (hk246.holds rfl hv240)
        have hb259 : Blk bk221 _ w243 := hb241.up hg245
        have g260 : Grow w0 w243 := g229.trans hg245
        have g261 : Grow w2 w243 := g230.trans hg245
        have g262 : Grow w19 w243 := g231.trans hg245
        have g263 : Grow w39 w243 := g232.trans hg245
        have g264 : Grow w64 w243 := g233.trans hg245
        have g265 : Grow w132 w243 := g234.trans hg245
        have g266 : Grow w168 w243 := g235.trans hg245
        have kk267 : Keep _ a131 a242 := kk216.trans hk246 rfl
        clear h238 h204 h205 h206 h207 h208 hv239 hb228 hv240 hb241 g229 g230 g231 g232 g233 g234 g235 kk216 hf194 hk246 hn247 hg245
        refine wl_store_nm hv258 hb259 rfl h250 ?_
        intro w268 ho269 hb270
        have g271 : Grow w0 w268 := g260.only ho269 (by omega)
        have g272 : Grow w2 w268 := g261.only ho269 (by omega)
        have g273 : Grow w19 w268 := g262.only ho269 (by omega)
        have g274 : Grow w39 w268 := g263.only ho269 (by omega)
        have g275 : Grow w64 w268 := g264.only ho269 (by omega)
        have g276 : Grow w132 w268 := g265.only ho269 (by omega)
        have g277 : Grow w168 w268 := g266.only ho269 (by omega)
        have h278 : Holds _ (a242.eval (.tmp 13)) w268 := is_any h248
        have h279 : Holds _ (a242.eval (.tmp 14)) w268 := is_any h249
        have hv280 : Holds (Is (PtrV bk217)) (a242.eval (.tmp 12)) w268 := is_any hv256
        have hb281 : Blk bk217 _ w268 := hb257.only ho269 (by omega)
        have hv282 : Holds (Is (PtrV bk221)) (a242.eval (.tmp 15)) w268 := is_any hv258
        refine wpList_nil ?_
        refine then_ ?_
        refine wp_seq ?_
        refine wp_seq ?_
        have hda := dgD a (c := c) (by omega)
        have hdb := dgD b (c := c) (by omega)
        refine wp_region_lit ?_
        refine wp_all [([13], []), ([14], []), ([], [0, 1])] [7, 8, 9, 10, 11, 12, 13, 14, 15] w168.heap.size hf244 g277.size (by kernel_rfl) (bund_cons h278 (bund_cons h279 bund_nil)) ?_
        refine ch rfl (ob_move (arg_free 0 rfl rfl)) ?_
        refine ch rfl (ob_move (arg_free 1 rfl rfl)) ?_
        refine ch rfl (ob_gtr (arg_op 0 1 rfl rfl rfl rfl) (arg_op 1 0 rfl rfl rfl rfl)) ?_
        refine ch_nil ?_
        intro a283 w284 hf285 hg286 hk287 hn288
        have h289 : Holds _ (a283.eval (.tmp 67)) w284 := hn288.at 2 0 rfl rfl rfl
        have h290 : Holds _ (a283.eval (.tmp 13)) w284 := hk287.holds rfl (h278.up hg286)
        have h291 : Holds _ (a283.eval (.tmp 14)) w284 := hk287.holds rfl (h279.up hg286)
        have h292 : Holds _ (a283.eval (.tmp 11)) w168 := hk287.holds rfl h251
        have h293 : Holds _ (a283.eval (.tmp 9)) w132 := hk287.holds rfl h252
        have h294 : Holds _ (a283.eval (.tmp 10)) w132 := hk287.holds rfl h253
        have h295 : Holds _ (a283.eval (.tmp 7)) w64 := hk287.holds rfl h254
        have h296 : Holds _ (a283.eval (.tmp 8)) w64 := hk287.holds rfl h255
        have hv297 : Holds (Is (PtrV bk217)) (a283.eval (.tmp 12)) w284 := is_any (hk287.holds rfl hv280)
        have hb298 : Blk bk217 _ w284 := hb281.up hg286
        have hv299 : Holds (Is (PtrV bk221)) (a283.eval (.tmp 15)) w284 := is_any (hk287.holds rfl hv282)
        have hb300 : Blk bk221 _ w284 := hb270.up hg286
        have g301 : Grow w0 w284 := g271.trans hg286
        have g302 : Grow w2 w284 := g272.trans hg286
        have g303 : Grow w19 w284 := g273.trans hg286
        have g304 : Grow w39 w284 := g274.trans hg286
        have g305 : Grow w64 w284 := g275.trans hg286
        have g306 : Grow w132 w284 := g276.trans hg286
        have g307 : Grow w168 w284 := g277.trans hg286
        have kk308 : Keep _ a131 a283 := kk267.trans hk287 rfl
        clear h278 h279 h251 h252 h253 h254 h255 hv280 hb281 hv282 hb270 g271 g272 g273 g274 g275 g276 g277 kk267 hf244 hk287 hn288 hg286
        refine then_ ?_
        refine wp_if h289 ?_ ?_
        · intro hc309
          try simp only [digits_len, vals_len, cond_norm] at hc309
          have g310 : Grow w284 w284 := Grow.refl _
          have hl311 : bk217 < w284.heap.size := hb298.lt
          have hl312 : bk221 < w284.heap.size := hb300.lt
          have hz313 : w168.heap.size ≤ w284.heap.size := g307.size
          refine wp_calm_tail (l1 := [_, _, _, _, _, _, _, _, _, _, _, _, _, _, _, _]) [0, 0, 3, 7, 0, 0, 48, 112, 0, 0, 768, 1792, 0, 0, 12288, 28672, 65535, 131071, 262143, 524287] [([8], []), ([11], []), ([], [0, 1]), ([], [2]), ([10], []), ([11], []), ([], [4, 5]), ([], [6]), ([9], []), ([11], []), ([], [8, 9]), ([], [10]), ([7], []), ([11], []), ([], [12, 13]), ([], [14])] [7, 8, 9, 10, 11, 12, 13, 14, 15] w284.heap.size hf285 g310.size (by kernel_rfl) (bund_cons (is_any h296) (bund_cons (is_any h292) (bund_cons (is_any h294) (bund_cons (is_any h293) (bund_cons (is_any h295) bund_nil))))) ?_
          intro ws314 hs315
          refine ch rfl (ob_move (arg_free 0 rfl rfl)) ?_
          refine ch rfl (ob_move (arg_free 1 rfl rfl)) ?_
          refine ch rfl (ob_ix (ArgOK.sl (ArgOK.val (arg_op 0 1 rfl rfl rfl rfl) ((hV84.up g305).up hs315))) (arg_op 1 0 rfl rfl rfl rfl) (rfl) ?_ Try.underlying39 szNm) ?_
          · (rw [vals_len]; omega)
          refine ch rfl (ob_load_nm (arg_op 2 0 rfl rfl rfl rfl)) ?_
          refine ch rfl (ob_move (arg_free 2 rfl rfl)) ?_
          refine ch rfl (ob_move (arg_free 1 rfl rfl)) ?_
          refine ch rfl (ob_ix (ArgOK.sl (ArgOK.val (arg_op 4 1 rfl rfl rfl rfl) ((hV148.up g306).up hs315))) (arg_op 5 0 rfl rfl rfl rfl) (rfl) ?_ Try.underlying24 szInt) ?_
          · (rw [digits_len]; omega)
          refine ch rfl (ob_load1 (arg_op 6 0 rfl rfl rfl rfl) Try.underlying3 rfl) ?_
          refine ch rfl (ob_move (arg_free 3 rfl rfl)) ?_
          refine ch rfl (ob_move (arg_free 1 rfl rfl)) ?_
          refine ch rfl (ob_ix (ArgOK.sl (ArgOK.val (arg_op 8 1 rfl rfl rfl rfl) ((hV147.up g306).up hs315))) (arg_op 9 0 rfl rfl rfl rfl) (rfl) ?_ Try.underlying24 szInt) ?_
          · (rw [digits_len]; omega)
          refine ch rfl (ob_load1 (arg_op 10 0 rfl rfl rfl rfl) Try.underlying3 rfl) ?_
          refine ch rfl (ob_move (arg_free 4 rfl rfl)) ?_
          refine ch rfl (ob_move (arg_free 1 rfl rfl)) ?_
          refine ch rfl (ob_ix (ArgOK.sl (ArgOK.val (arg_op 12 1 rfl rfl rfl rfl) ((hV81.up g305).up hs315))) (arg_op 13 0 rfl rfl rfl rfl) (rfl) ?_ Try.underlying39 szNm) ?_
          · (rw [vals_len]; omega)
          refine ch rfl (ob_load_nm (arg_op 14 0 rfl rfl rfl rfl)) ?_
          refine ch_nil ?_
          intro a316 w317 hf318 hg319 hk320 hn321
          have h322 : Holds _ (a316.eval (.tmp 71)) w317 := hn321.at 3 12 rfl rfl rfl
          have h323 : Holds _ (a316.eval (.tmp 75)) w317 := hn321.at 7 8 rfl rfl rfl
          have h324 : Holds _ (a316.eval (.tmp 79)) w317 := hn321.at 11 4 rfl rfl rfl
          have h325 : Holds _ (a316.eval (.tmp 83)) w317 := hn321.at 15 0 rfl rfl rfl
          have h326 : Holds _ (a316.eval (.tmp 13)) w284 := hk320.holds rfl h290
          have h327 : Holds _ (a316.eval (.tmp 14)) w284 := hk320.holds rfl h291
          have h328 : Holds _ (a316.eval (.tmp 11)) w168 := hk320.holds rfl h292
          have h329 : Holds _ (a316.eval (.tmp 9)) w132 := hk320.holds rfl h293
          have h330 : Holds _ (a316.eval (.tmp 10)) w132 := hk320.holds rfl h294
          have h331 : Holds _ (a316.eval (.tmp 7)) w64 := hk320.holds rfl h295
          have h332 : Holds _ (a316.eval (.tmp 8)) w64 := hk320.holds rfl h296
          have hv333 : Holds (Is (PtrV bk217)) (a316.eval (.tmp 12)) w317 := is_any (hk320.holds rfl hv297)
          have hb334 : Blk bk217 _ w317 := hb298.up hg319
          have hv335 : Holds (Is (PtrV bk221)) (a316.eval (.tmp 15)) w317 := is_any (hk320.holds rfl hv299)
          have hb336 : Blk bk221 _ w317 := hb300.up hg319
          have g337 : Grow w0 w317 := g301.trans hg319
          have g338 : Grow w2 w317 := g302.trans hg319
          have g339 : Grow w19 w317 := g303.trans hg319
          have g340 : Grow w39 w317 := g304.trans hg319
          have g341 : Grow w64 w317 := g305.trans hg319
          have g342 : Grow w132 w317 := g306.trans hg319
          have g343 : Grow w168 w317 := g307.trans hg319
          have g344 : Grow w284 w317 := g310.trans hg319
          have kk345 : Keep _ a131 a316 := kk308.trans hk320 rfl
          clear h290 h291 h292 h293 h294 h295 h296 hv297 hb298 hv299 hb300 g301 g302 g303 g304 g305 g306 g307 g310 kk308 hf285 hk320 hn321
          refine wl_store_nm hv333 hb334 rfl h322 ?_
          intro w346 ho347 hb348
          have g349 : Grow w0 w346 := g337.only ho347 (by omega)
          have g350 : Grow w2 w346 := g338.only ho347 (by omega)
          have g351 : Grow w19 w346 := g339.only ho347 (by omega)
          have g352 : Grow w39 w346 := g340.only ho347 (by omega)
          have g353 : Grow w64 w346 := g341.only ho347 (by omega)
          have g354 : Grow w132 w346 := g342.only ho347 (by omega)
          have g355 : Grow w168 w346 := g343.only ho347 (by omega)
          have h356 : Holds _ (a316.eval (.tmp 75)) w346 := is_any h323
          have h357 : Holds _ (a316.eval (.tmp 79)) w346 := is_any h324
          have h358 : Holds _ (a316.eval (.tmp 83)) w346 := is_any h325
          have h359 : Holds _ (a316.eval (.tmp 13)) w346 := is_any h326
          have h360 : Holds _ (a316.eval (.tmp 14)) w346 := is_any h327
          have hv361 : Holds (Is (PtrV bk217)) (a316.eval (.tmp 12)) w346 := is_any hv333
          have hv362 : Holds (Is (PtrV bk221)) (a316.eval (.tmp 15)) w346 := is_any hv335
          have hb363 : Blk bk221 _ w346 := hb336.only ho347 (by omega)
          refine wp_seg (l1 := [_, _]) [([75], []), ([79], [])] [7, 8, 9, 10, 11, 12, 15, 83] w168.heap.size hf318 g355.size (by kernel_rfl) (bund_cons h356 (bund_cons h357 bund_nil)) ?_
          refine ch rfl (ob_assign (arg_free 0 rfl rfl)) ?_
          refine ch rfl (ob_assign (arg_free 1 rfl rfl)) ?_
          refine ch_nil ?_
          intro a364 w365 hf366 hg367 hk368 hn369
          have h370 : Holds _ (a364.eval (.tmp 13)) w365 := hn369.at 0 1 rfl rfl rfl
          have h371 : Holds _ (a364.eval (.tmp 14)) w365 := hn369.at 1 0 rfl rfl rfl
          have h372 : Holds _ (a364.eval (.tmp 83)) w365 := hk368.holds rfl (h358.up hg367)
          have h373 : Holds _ (a364.eval (.tmp 11)) w168 := hk368.holds rfl h328
          have h374 : Holds _ (a364.eval (.tmp 9)) w132 := hk368.holds rfl h329
          have h375 : Holds _ (a364.eval (.tmp 10)) w132 := hk368.holds rfl h330
          have h376 : Holds _ (a364.eval (.tmp 7)) w64 := hk368.holds rfl h331
          have h377 : Holds _ (a364.eval (.tmp 8)) w64 := hk368.holds rfl h332
          have hv378 : Holds (Is (PtrV bk217)) (a364.eval (.tmp 12)) w365 := is_any (hk368.holds rfl hv361)
          have hb379 : Blk bk217 _ w365 := hb348.up hg367
          have hv380 : Holds (Is (PtrV bk221)) (a364.eval (.tmp 15)) w365 := is_any (hk368.holds rfl hv362)
          have hb381 : Blk bk221 _ w365 := hb363.up hg367
          have g382 : Grow w0 w365 := g349.trans hg367
          have g383 : Grow w2 w365 := g350.trans hg367
          have g384 : Grow w19 w365 := g351.trans hg367
          have g385 : Grow w39 w365 := g352.trans hg367
          have g386 : Grow w64 w365 := g353.trans hg367
          have g387 : Grow w132 w365 := g354.trans hg367
          have g388 : Grow w168 w365 := g355.trans hg367
          have kk389 : Keep _ a131 a364 := kk345.trans hk368 rfl
          clear h358 h328 h329 h330 h331 h332 hv361 hb348 hv362 hb363 g349 g350 g351 g352 g353 g354 g355 kk345 hf318 hk368 hn369 hg367
          refine wl_store_nm hv380 hb381 rfl h372 ?_
          intro w390 ho391 hb392
          have g393 : Grow w0 w390 := g382.only ho391 (by omega)
          have g394 : Grow w2 w390 := g383.only ho391 (by omega)
          have g395 : Grow w19 w390 := g384.only ho391 (by omega)
          have g396 : Grow w39 w390 := g385.only ho391 (by omega)
          have g397 : Grow w64 w390 := g386.only ho391 (by omega)
          have g398 : Grow w132 w390 := g387.only ho391 (by omega)
          have g399 : Grow w168 w390 := g388.only ho391 (by omega)
          have h400 : Holds _ (a364.eval (.tmp 13)) w390 := is_any h370
          have h401 : Holds _ (a364.eval (.tmp 14)) w390 := is_any h371
          have hv402 : Holds (Is (PtrV bk217)) (a364.eval (.tmp 12)) w390 := is_any hv378
          have hb403 : Blk bk217 _ w390 := hb379.only ho391 (by omega)
          have hv404 : Holds (Is (PtrV bk221)) (a364.eval (.tmp 15)) w390 := is_any hv380
          refine wpList_nil ?_
          refine then_ ?_
          refine wp_seq ?_
          refine wp_seq ?_
          have h405 : Holds (Is (intV (dgN b c : Int))) (a364.eval (.tmp 13)) w390 := is_cast h400 (congrArg intV (dgD b (by omega)).1)
          have h406 : Holds (Is (intV (dgN a c : Int))) (a364.eval (.tmp 14)) w390 := is_cast h401 (congrArg intV (dgD a (by omega)).1)
          have hb407 : Blk bk217 (nmCells (sigF s b c)) w390 := (congrArg (fun x => Blk bk217 (nmCells x) w390) (vals_get (sigF s b) (n := 18) (by omega))).mp hb403
          have hb408 : Blk bk221 (nmCells (sigF s a c)) w390 := (congrArg (fun x => Blk bk221 (nmCells x) w390) (vals_get (sigF s a) (n := 18) (by omega))).mp hb392
          refine wp_region_lit ?_
          refine wp_all [([13], []), ([], [0])] [7, 8, 9, 10, 11, 12, 14, 15] w168.heap.size hf366 g399.size (by kernel_rfl) (bund_cons h405 bund_nil) ?_
          refine ch rfl (ob_move (arg_free 0 rfl rfl)) ?_
          refine ch rfl (ob_assign (arg_op 0 0 rfl rfl rfl rfl)) ?_
          refine ch_nil ?_
          intro a409 w410 hf411 hg412 hk413 hn414
          have h415 : Holds _ (a409.eval (.tmp 16)) w410 := hn414.at 1 0 rfl rfl rfl
          have h416 : Holds _ (a409.eval (.tmp 14)) w410 := hk413.holds rfl (h406.up hg412)
          have h417 : Holds _ (a409.eval (.tmp 11)) w168 := hk413.holds rfl h373
          have h418 : Holds _ (a409.eval (.tmp 9)) w132 := hk413.holds rfl h374
          have h419 : Holds _ (a409.eval (.tmp 10)) w132 := hk413.holds rfl h375
          have h420 : Holds _ (a409.eval (.tmp 7)) w64 := hk413.holds rfl h376
          have h421 : Holds _ (a409.eval (.tmp 8)) w64 := hk413.holds rfl h377
          have hv422 : Holds (Is (PtrV bk217)) (a409.eval (.tmp 12)) w410 := is_any (hk413.holds rfl hv402)
          have hb423 : Blk bk217 _ w410 := hb407.up hg412
          have hv424 : Holds (Is (PtrV bk221)) (a409.eval (.tmp 15)) w410 := is_any (hk413.holds rfl hv404)
          have hb425 : Blk bk221 _ w410 := hb408.up hg412
          have g426 : Grow w0 w410 := g393.trans hg412
          have g427 : Grow w2 w410 := g394.trans hg412
          have g428 : Grow w19 w410 := g395.trans hg412
          have g429 : Grow w39 w410 := g396.trans hg412
          have g430 : Grow w64 w410 := g397.trans hg412
          have g431 : Grow w132 w410 := g398.trans hg412
          have g432 : Grow w168 w410 := g399.trans hg412
          have kk433 : Keep _ a131 a409 := kk389.trans hk413 rfl
          clear h406 h373 h374 h375 h376 h377 hv402 hb407 hv404 hb408 g393 g394 g395 g396 g397 g398 g399 kk389 hf366 hk413 hn414 hg412
          refine then_ ?_
          refine wp_block ?_
          refine wp_loopL (α := Nat) (fun j a' w' => Fr 104 a' ∧ (j ≤ dgN a c - dgN b c) ∧ Grow w0 w' ∧ Grow w2 w' ∧ Grow w19 w' ∧ Grow w39 w' ∧ Grow w64 w' ∧ Grow w132 w' ∧ Grow w168 w' ∧ Keep [7, 8, 9, 10, 11, 12, 14, 15] a409 a' ∧ Holds (Is (intV (((dgN b c + j : Nat)) : Int))) (a'.eval (.tmp 16)) w' ∧ Blk bk217 (nmCells (walkN c (dgN b c) (sigF s b c) j)) w' ∧ Blk bk221 (nmCells (sigF s a c)) w') (fun j => dgN a c - dgN b c - j) (0) ⟨hf411, (by ((try dsimp only); omega)), g426, g427, g428, g429, g430, g431, g432, Keep.refl _ _, (is_cast h415 (by first | rfl | (refine congrArg intV ?_; (try dsimp only); omega))), hb423, hb425⟩ ?_
          intro j a434 w435 ⟨hf436, hi438, g439, g440, g441, g442, g443, g444, g445, kk437, h446, hb447, hb448⟩
          have h449 : Holds _ (a434.eval (.tmp 14)) w435 := is_any (kk437.holds rfl h416)
          have h450 : Holds _ (a434.eval (.tmp 11)) w168 := kk437.holds rfl h417
          have h451 : Holds _ (a434.eval (.tmp 9)) w132 := kk437.holds rfl h418
          have h452 : Holds _ (a434.eval (.tmp 10)) w132 := kk437.holds rfl h419
          have h453 : Holds _ (a434.eval (.tmp 7)) w64 := kk437.holds rfl h420
          have h454 : Holds _ (a434.eval (.tmp 8)) w64 := kk437.holds rfl h421
          have hv455 : Holds (Is (PtrV bk217)) (a434.eval (.tmp 12)) w435 := is_any (kk437.holds rfl hv422)
          have hv456 : Holds (Is (PtrV bk221)) (a434.eval (.tmp 15)) w435 := is_any (kk437.holds rfl hv424)
          have kk457 : Keep _ a131 a434 := kk433.trans kk437 rfl
          refine wp_seq ?_
          refine wp_seq ?_
          refine wp_region_lit ?_
          refine wp_all [([16], []), ([14], []), ([], [0, 1])] [7, 8, 9, 10, 11, 12, 14, 15, 16] w168.heap.size hf436 g445.size (by kernel_rfl) (bund_cons h446 (bund_cons h449 bund_nil)) ?_
          refine ch rfl (ob_move (arg_free 0 rfl rfl)) ?_
          refine ch rfl (ob_move (arg_free 1 rfl rfl)) ?_
          refine ch rfl (ob_lss (arg_op 0 1 rfl rfl rfl rfl) (arg_op 1 0 rfl rfl rfl rfl)) ?_
          refine ch_nil ?_
          intro a458 w459 hf460 hg461 hk462 hn463
          have h464 : Holds _ (a458.eval (.tmp 87)) w459 := hn463.at 2 0 rfl rfl rfl
          have h465 : Holds _ (a458.eval (.tmp 16)) w459 := hk462.holds rfl (h446.up hg461)
          have h466 : Holds _ (a458.eval (.tmp 14)) w459 := hk462.holds rfl (h449.up hg461)
          have h467 : Holds _ (a458.eval (.tmp 11)) w168 := hk462.holds rfl h450
          have h468 : Holds _ (a458.eval (.tmp 9)) w132 := hk462.holds rfl h451
          have h469 : Holds _ (a458.eval (.tmp 10)) w132 := hk462.holds rfl h452
          have h470 : Holds _ (a458.eval (.tmp 7)) w64 := hk462.holds rfl h453
          have h471 : Holds _ (a458.eval (.tmp 8)) w64 := hk462.holds rfl h454
          have hv472 : Holds (Is (PtrV bk217)) (a458.eval (.tmp 12)) w459 := is_any (hk462.holds rfl hv455)
          have hb473 : Blk bk217 _ w459 := hb447.up hg461
          have hv474 : Holds (Is (PtrV bk221)) (a458.eval (.tmp 15)) w459 := is_any (hk462.holds rfl hv456)
          have hb475 : Blk bk221 _ w459 := hb448.up hg461
          have g476 : Grow w0 w459 := g439.trans hg461
          have g477 : Grow w2 w459 := g440.trans hg461
          have g478 : Grow w19 w459 := g441.trans hg461
          have g479 : Grow w39 w459 := g442.trans hg461
          have g480 : Grow w64 w459 := g443.trans hg461
          have g481 : Grow w132 w459 := g444.trans hg461
          have g482 : Grow w168 w459 := g445.trans hg461
          have kk483 : Keep _ a131 a458 := kk457.trans hk462 rfl
          have kk484 : Keep _ a409 a458 := kk437.trans hk462 rfl
          clear h446 h449 h450 h451 h452 h453 h454 hv455 hb447 hv456 hb448 g439 g440 g441 g442 g443 g444 g445 kk457 kk437 hf436 hk462 hn463 hg461
          refine then_ ?_
          refine wp_if h464 ?_ ?_
          · intro hc485
            try simp only [digits_len, vals_len, cond_norm] at hc485
            refine wp_skip ?_
            refine then_ ?_
            refine wp_seq ?_
            refine wp_block ?_
            have g486 : Grow w459 w459 := Grow.refl _
            have hl487 : bk217 < w459.heap.size := hb473.lt
            have hl488 : bk221 < w459.heap.size := hb475.lt
            have hz489 : w168.heap.size ≤ w459.heap.size := g482.size
            refine wp_region_lit ?_
            refine wp_seg (l1 := [_, _, _, _, _, _, _, _]) [([], []), ([12], []), ([], [0, 1]), ([11], []), ([], [3]), ([16], []), ([], [5]), ([], [4, 6])] [7, 8, 9, 10, 11, 12, 14, 15, 16] w459.heap.size hf460 g486.size (by kernel_rfl) (bund_cons (hb473.ownp hv472) (bund_cons (is_any h467) (bund_cons h465 bund_nil))) ?_
            refine ch rfl (ob_bs0_byte ) ?_
            refine ch rfl (ob_slice_nmF (ArgOK.ownp (arg_free 0 rfl rfl))) ?_
            refine ch rfl (ob_append_fresh elByteP Try.underlying34 (arg_op 0 1 rfl rfl rfl rfl) (ArgOK.fsl (arg_op 1 0 rfl rfl rfl rfl)) ?_) ?_
            · (refine ⟨?_, ?_⟩ <;> ((try simp only [List.length_append, List.length_cons, List.length_nil, nmBytes_len, elByte, elNm, elInt, maxLen]); omega))
            refine ch rfl (ob_move (arg_free 1 rfl rfl)) ?_
            refine ch rfl (ob_intbyte (m := UInt8.ofNat c) (arg_op 3 0 rfl rfl rfl rfl) Try.underlying3 Try.underlying5 ?_) ?_
            · exact byte_nat c
            refine ch rfl (ob_move (arg_free 2 rfl rfl)) ?_
            refine ch rfl (ob_intbyte (m := UInt8.ofNat (dgN b c + j)) (arg_op 5 0 rfl rfl rfl rfl) Try.underlying3 Try.underlying5 ?_) ?_
            · exact byte_nat _
            refine ch rfl (ob_bs2_byte (arg_op 4 2 rfl rfl rfl rfl) (arg_op 6 0 rfl rfl rfl rfl)) ?_
            refine ch_nil ?_
            intro a490 w491 hf492 hg493 hk494 hn495
            have h496 : Holds (OwnS w459.heap.size _ _) (a490.eval (.tmp 92)) w491 := hn495.at 2 5 rfl rfl rfl
            have h497 : Holds (OwnF w459.heap.size _ _) (a490.eval (.tmp 97)) w491 := hn495.at 7 0 rfl rfl rfl
            have h498 : Holds _ (a490.eval (.tmp 16)) w459 := hk494.holds rfl h465
            have h499 : Holds _ (a490.eval (.tmp 14)) w459 := hk494.holds rfl h466
            have h500 : Holds _ (a490.eval (.tmp 11)) w168 := hk494.holds rfl h467
            have h501 : Holds _ (a490.eval (.tmp 9)) w132 := hk494.holds rfl h468
            have h502 : Holds _ (a490.eval (.tmp 10)) w132 := hk494.holds rfl h469
            have h503 : Holds _ (a490.eval (.tmp 7)) w64 := hk494.holds rfl h470
            have h504 : Holds _ (a490.eval (.tmp 8)) w64 := hk494.holds rfl h471
            have hv505 : Holds (Is (PtrV bk217)) (a490.eval (.tmp 12)) w491 := is_any (hk494.holds rfl hv472)
            have hb506 : Blk bk217 _ w491 := hb473.up hg493
            have hv507 : Holds (Is (PtrV bk221)) (a490.eval (.tmp 15)) w491 := is_any (hk494.holds rfl hv474)
            have hb508 : Blk bk221 _ w491 := hb475.up hg493
            have g509 : Grow w0 w491 := g476.trans hg493
            have g510 : Grow w2 w491 := g477.trans hg493
            have g511 : Grow w19 w491 := g478.trans hg493
            have g512 : Grow w39 w491 := g479.trans hg493
            have g513 : Grow w64 w491 := g480.trans hg493
            have g514 : Grow w132 w491 := g481.trans hg493
            have g515 : Grow w168 w491 := g482.trans hg493
            have g516 : Grow w459 w491 := g486.trans hg493
            have kk517 : Keep _ a131 a490 := kk483.trans hk494 rfl
            have kk518 : Keep _ a409 a490 := kk484.trans hk494 rfl
            clear h465 h466 h467 h468 h469 h470 h471 hv472 hb473 hv474 hb475 g476 g477 g478 g479 g480 g481 g482 g486 kk483 kk484 hf460 hk494 hn495
            obtain ⟨V519, h520, hV521⟩ := nameV h496
            clear h496
            obtain ⟨V522, h523, hV524⟩ := nameV h497
            clear h497
            refine wl_appendW elByteP [7, 8, 9, 10, 11, 12, 14, 15, 16] hf492 (by kernel_rfl) rfl Try.underlying34 (unV h520 hV521) (OwnS.sl (OwnF.own (unV h523 hV524))) ?_ ?_ g516.size ?_
            · ((try simp only [List.length_append, List.length_cons, List.length_nil, nmBytes_len, elByte, elNm, elInt, maxLen]); omega)
            · ((try simp only [List.length_append, List.length_cons, List.length_nil, nmBytes_len, elByte, elNm, elInt, maxLen]); omega)
            intro a525 w526 hf527 hw528 hk529 h530
            have g531 : Grow w0 w526 := g509.wr hw528 (by omega)
            have g532 : Grow w2 w526 := g510.wr hw528 (by omega)
            have g533 : Grow w19 w526 := g511.wr hw528 (by omega)
            have g534 : Grow w39 w526 := g512.wr hw528 (by omega)
            have g535 : Grow w64 w526 := g513.wr hw528 (by omega)
            have g536 : Grow w132 w526 := g514.wr hw528 (by omega)
            have g537 : Grow w168 w526 := g515.wr hw528 (by omega)
            have g538 : Grow w459 w526 := g516.wr hw528 (by omega)
            have h539 : Holds _ (a525.eval (.tmp 16)) w526 := is_any (hk529.holds rfl h498)
            have h540 : Holds _ (a525.eval (.tmp 14)) w526 := is_any (hk529.holds rfl h499)
            have h541 : Holds _ (a525.eval (.tmp 11)) w526 := is_any (hk529.holds rfl h500)
            have h542 : Holds _ (a525.eval (.tmp 9)) w526 := is_any (hk529.holds rfl h501)
            have h543 : Holds _ (a525.eval (.tmp 10)) w526 := is_any (hk529.holds rfl h502)
            have h544 : Holds _ (a525.eval (.tmp 7)) w526 := is_any (hk529.holds rfl h503)
            have h545 : Holds _ (a525.eval (.tmp 8)) w526 := is_any (hk529.holds rfl h504)
            have hv546 : Holds (Is (PtrV bk217)) (a525.eval (.tmp 12)) w526 := is_any (hk529.holds rfl hv505)
            have hb547 : Blk bk217 _ w526 := hb506.wr hw528 (by omega)
            have hv548 : Holds (Is (PtrV bk221)) (a525.eval (.tmp 15)) w526 := is_any (hk529.holds rfl hv507)
            have hb549 : Blk bk221 _ w526 := hb508.wr hw528 (by omega)
            have kk550 : Keep _ a131 a525 := kk517.trans hk529 rfl
            have kk551 : Keep _ a409 a525 := kk518.trans hk529 rfl
            obtain ⟨V552, h553, hV554⟩ := nameV h530
            clear h530
            refine wp_seg (l1 := [_]) [([98], [])] [7, 8, 9, 10, 11, 12, 14, 15, 16] w459.heap.size hf527 g538.size (by kernel_rfl) (bund_cons h553 bund_nil) ?_
            refine ch rfl (ob_call2 (by kernel_rfl) (c_Tagged ?_) (arg_cb 33 rfl) (ArgOK.sl (ArgOK.val (arg_free 0 rfl rfl) hV554))) ?_
            · ((try simp only [List.length_append, List.length_cons, List.length_nil, nmBytes_len, List.length_take, List.length_drop, flat_len]); omega)
            refine ch_nil ?_
            intro a555 w556 hf557 hg558 hk559 hn560
            have h561 : Holds _ (a555.eval (.tmp 99)) w556 := hn560.at 0 0 rfl rfl rfl
            have h562 : Holds _ (a555.eval (.tmp 16)) w556 := hk559.holds rfl (h539.up hg558)
            have h563 : Holds _ (a555.eval (.tmp 14)) w556 := hk559.holds rfl (h540.up hg558)
            have h564 : Holds _ (a555.eval (.tmp 11)) w556 := hk559.holds rfl (h541.up hg558)
            have h565 : Holds _ (a555.eval (.tmp 9)) w556 := hk559.holds rfl (h542.up hg558)
            have h566 : Holds _ (a555.eval (.tmp 10)) w556 := hk559.holds rfl (h543.up hg558)
            have h567 : Holds _ (a555.eval (.tmp 7)) w556 := hk559.holds rfl (h544.up hg558)
            have h568 : Holds _ (a555.eval (.tmp 8)) w556 := hk559.holds rfl (h545.up hg558)
            have hv569 : Holds (Is (PtrV bk217)) (a555.eval (.tmp 12)) w556 := is_any (hk559.holds rfl hv546)
            have hb570 : Blk bk217 _ w556 := hb547.up hg558
            have hv571 : Holds (Is (PtrV bk221)) (a555.eval (.tmp 15)) w556 := is_any (hk559.holds rfl hv548)
            have hb572 : Blk bk221 _ w556 := hb549.up hg558
            have g573 : Grow w0 w556 := g531.trans hg558
            have g574 : Grow w2 w556 := g532.trans hg558
            have g575 : Grow w19 w556 := g533.trans hg558
            have g576 : Grow w39 w556 := g534.trans hg558
            have g577 : Grow w64 w556 := g535.trans hg558
            have g578 : Grow w132 w556 := g536.trans hg558
            have g579 : Grow w168 w556 := g537.trans hg558
            have g580 : Grow w459 w556 := g538.trans hg558
            have kk581 : Keep _ a131 a555 := kk550.trans hk559 rfl
            have kk582 : Keep _ a409 a555 := kk551.trans hk559 rfl
            clear h539 h540 h541 h542 h543 h544 h545 hv546 hb547 hv548 hb549 g531 g532 g533 g534 g535 g536 g537 g538 kk550 kk551 hf527 hk559 hn560 hg558
            refine wl_store_nm hv569 hb570 rfl h561 ?_
            intro w583 ho584 hb585
            have g586 : Grow w0 w583 := g573.only ho584 (by omega)
            have g587 : Grow w2 w583 := g574.only ho584 (by omega)
            have g588 : Grow w19 w583 := g575.only ho584 (by omega)
            have g589 : Grow w39 w583 := g576.only ho584 (by omega)
            have g590 : Grow w64 w583 := g577.only ho584 (by omega)
            have g591 : Grow w132 w583 := g578.only ho584 (by omega)
            have g592 : Grow w168 w583 := g579.only ho584 (by omega)
            have h593 : Holds _ (a555.eval (.tmp 16)) w583 := is_any h562
            have h594 : Holds _ (a555.eval (.tmp 14)) w583 := is_any h563
            have h595 : Holds _ (a555.eval (.tmp 11)) w583 := is_any h564
            have h596 : Holds _ (a555.eval (.tmp 9)) w583 := is_any h565
            have h597 : Holds _ (a555.eval (.tmp 10)) w583 := is_any h566
            have h598 : Holds _ (a555.eval (.tmp 7)) w583 := is_any h567
            have h599 : Holds _ (a555.eval (.tmp 8)) w583 := is_any h568
            have hv600 : Holds (Is (PtrV bk217)) (a555.eval (.tmp 12)) w583 := is_any hv569
            have hv601 : Holds (Is (PtrV bk221)) (a555.eval (.tmp 15)) w583 := is_any hv571
            have hb602 : Blk bk221 _ w583 := hb572.only ho584 (by omega)
            refine wpList_nil ?_
            refine blockN ?_
            refine then_ ?_
            refine wp_region_lit ?_
            refine wp_all [([16], []), ([], [0]), ([], [1])] [7, 8, 9, 10, 11, 12, 14, 15] w168.heap.size hf557 g592.size (by kernel_rfl) (bund_cons h593 bund_nil) ?_
            refine ch rfl (ob_move (arg_free 0 rfl rfl)) ?_
            first
              | (refine ch rfl (ob_add' (arg_op 0 0 rfl rfl rfl rfl) arg_c ?_) ?_; · omega)
              | refine ch rfl (ob_add (arg_op 0 0 rfl rfl rfl rfl) arg_c) ?_
            refine ch rfl (ob_assign (arg_op 1 0 rfl rfl rfl rfl)) ?_
            refine ch_nil ?_
            intro a603 w604 hf605 hg606 hk607 hn608
            have h609 : Holds _ (a603.eval (.tmp 16)) w604 := hn608.at 2 0 rfl rfl rfl
            have h610 : Holds _ (a603.eval (.tmp 14)) w604 := hk607.holds rfl (h594.up hg606)
            have h611 : Holds _ (a603.eval (.tmp 11)) w604 := hk607.holds rfl (h595.up hg606)
            have h612 : Holds _ (a603.eval (.tmp 9)) w604 := hk607.holds rfl (h596.up hg606)
            have h613 : Holds _ (a603.eval (.tmp 10)) w604 := hk607.holds rfl (h597.up hg606)
            have h614 : Holds _ (a603.eval (.tmp 7)) w604 := hk607.holds rfl (h598.up hg606)
            have h615 : Holds _ (a603.eval (.tmp 8)) w604 := hk607.holds rfl (h599.up hg606)
            have hv616 : Holds (Is (PtrV bk217)) (a603.eval (.tmp 12)) w604 := is_any (hk607.holds rfl hv600)
            have hb617 : Blk bk217 _ w604 := hb585.up hg606
            have hv618 : Holds (Is (PtrV bk221)) (a603.eval (.tmp 15)) w604 := is_any (hk607.holds rfl hv601)
            have hb619 : Blk bk221 _ w604 := hb602.up hg606
            have g620 : Grow w0 w604 := g586.trans hg606
            have g621 : Grow w2 w604 := g587.trans hg606
            have g622 : Grow w19 w604 := g588.trans hg606
            have g623 : Grow w39 w604 := g589.trans hg606
            have g624 : Grow w64 w604 := g590.trans hg606
            have g625 : Grow w132 w604 := g591.trans hg606
            have g626 : Grow w168 w604 := g592.trans hg606
            have kk627 : Keep _ a131 a603 := kk581.trans hk607 rfl
            have kk628 : Keep _ a409 a603 := kk582.trans hk607 rfl
            clear h594 h595 h596 h597 h598 h599 hv600 hb585 hv601 hb602 g586 g587 g588 g589 g590 g591 g592 kk581 kk582 hf557 hk607 hn608 hg606
            refine then_ ?_
            exact ⟨(j + 1), (by ((try dsimp only); omega)), hf605, (by ((try dsimp only); omega)), g620, g621, g622, g623, g624, g625, g626, kk628, (is_cast h609 (by first | rfl | (refine congrArg intV ?_; (try dsimp only); omega))), hb617, hb619⟩
          · intro hc485
            try simp only [digits_len, vals_len, cond_norm] at hc485
            refine wp_exit ?_
            refine thenX ?_
            refine thenX ?_
            refine blockX ?_
            refine then_ ?_
            refine wp_seq ?_
            refine wp_region_lit ?_
            refine wp_all [([12], []), ([15], []), ([], [0, 1])] [7, 8, 9, 10, 11] w168.heap.size hf460 g482.size (by kernel_rfl) (bund_cons (hb473.ownp hv472) (bund_cons (hb475.ownp hv474) bund_nil)) ?_
            refine ch rfl (ob_load_nm (ArgOK.ownp (arg_free 0 rfl rfl))) ?_
            refine ch rfl (ob_load_nm (ArgOK.ownp (arg_free 1 rfl rfl))) ?_
            refine ch rfl (ob_neqnm (arg_op 0 1 rfl rfl rfl rfl) (arg_op 1 0 rfl rfl rfl rfl)) ?_
            refine ch_nil ?_
            intro a629 w630 hf631 hg632 hk633 hn634
            have h635 : Holds _ (a629.eval (.tmp 102)) w630 := hn634.at 2 0 rfl rfl rfl
            have h636 : Holds _ (a629.eval (.tmp 11)) w168 := hk633.holds rfl h467
            have h637 : Holds _ (a629.eval (.tmp 9)) w132 := hk633.holds rfl h468
            have h638 : Holds _ (a629.eval (.tmp 10)) w132 := hk633.holds rfl h469
            have h639 : Holds _ (a629.eval (.tmp 7)) w64 := hk633.holds rfl h470
            have h640 : Holds _ (a629.eval (.tmp 8)) w64 := hk633.holds rfl h471
            have g641 : Grow w0 w630 := g476.trans hg632
            have g642 : Grow w2 w630 := g477.trans hg632
            have g643 : Grow w19 w630 := g478.trans hg632
            have g644 : Grow w39 w630 := g479.trans hg632
            have g645 : Grow w64 w630 := g480.trans hg632
            have g646 : Grow w132 w630 := g481.trans hg632
            have g647 : Grow w168 w630 := g482.trans hg632
            have kk648 : Keep _ a131 a629 := kk483.trans hk633 rfl
            clear h467 h468 h469 h470 h471 g476 g477 g478 g479 g480 g481 g482 kk483 hf460 hk633 hn634 hg632
            refine then_ ?_
            refine wp_if h635 ?_ ?_
            · intro hc649
              try simp only [digits_len, vals_len, cond_norm] at hc649
              exact absurd (by first | (rw [show j = dgN b c - dgN a c by omega]; exact chain_on s a b (by omega)) | (rw [show j = dgN a c - dgN b c by omega]; exact chain_on s b a (by omega))) hc649
            · intro hc649
              try simp only [digits_len, vals_len, cond_norm] at hc649
              refine wp_skip ?_
              refine blockN ?_
              refine then_ ?_
              refine wp_region_lit ?_
              refine wp_all [([11], []), ([], [0]), ([], [1])] [7, 8, 9, 10] w168.heap.size hf631 g647.size (by kernel_rfl) (bund_cons (is_any h636) bund_nil) ?_
              refine ch rfl (ob_move (arg_free 0 rfl rfl)) ?_
              first
                | (refine ch rfl (ob_add' (arg_op 0 0 rfl rfl rfl rfl) arg_c ?_) ?_; · omega)
                | refine ch rfl (ob_add (arg_op 0 0 rfl rfl rfl rfl) arg_c) ?_
              refine ch rfl (ob_assign (arg_op 1 0 rfl rfl rfl rfl)) ?_
              refine ch_nil ?_
              intro a650 w651 hf652 hg653 hk654 hn655
              have h656 : Holds _ (a650.eval (.tmp 11)) w651 := hn655.at 2 0 rfl rfl rfl
              have h657 : Holds _ (a650.eval (.tmp 9)) w132 := hk654.holds rfl h637
              have h658 : Holds _ (a650.eval (.tmp 10)) w132 := hk654.holds rfl h638
              have h659 : Holds _ (a650.eval (.tmp 7)) w64 := hk654.holds rfl h639
              have h660 : Holds _ (a650.eval (.tmp 8)) w64 := hk654.holds rfl h640
              have g661 : Grow w0 w651 := g641.trans hg653
              have g662 : Grow w2 w651 := g642.trans hg653
              have g663 : Grow w19 w651 := g643.trans hg653
              have g664 : Grow w39 w651 := g644.trans hg653
              have g665 : Grow w64 w651 := g645.trans hg653
              have g666 : Grow w132 w651 := g646.trans hg653
              have g667 : Grow w168 w651 := g647.trans hg653
              have kk668 : Keep _ a131 a650 := kk648.trans hk654 rfl
              clear h637 h638 h639 h640 g641 g642 g643 g644 g645 g646 g647 kk648 hf631 hk654 hn655 hg653
              refine then_ ?_
              exact ⟨(c + 1), (by ((try dsimp only); omega)), hf652, (by ((try dsimp only); omega)), g661, g662, g663, g664, g665, g666, kk668, (is_cast h656 (by first | rfl | (refine congrArg intV ?_; (try dsimp only); omega)))⟩
        · intro hc309
          try simp only [digits_len, vals_len, cond_norm] at hc309
          refine wp_skip ?_
          refine then_ ?_
          refine wp_seq ?_
          refine wp_seq ?_
          have h669 : Holds (Is (intV (dgN a c : Int))) (a283.eval (.tmp 13)) w284 := is_cast h290 (congrArg intV (dgD a (by omega)).1)
          have h670 : Holds (Is (intV (dgN b c : Int))) (a283.eval (.tmp 14)) w284 := is_cast h291 (congrArg intV (dgD b (by omega)).1)
          have hb671 : Blk bk217 (nmCells (sigF s a c)) w284 := (congrArg (fun x => Blk bk217 (nmCells x) w284) (vals_get (sigF s a) (n := 18) (by omega))).mp hb298
          have hb672 : Blk bk221 (nmCells (sigF s b c)) w284 := (congrArg (fun x => Blk bk221 (nmCells x) w284) (vals_get (sigF s b) (n := 18) (by omega))).mp hb300
          refine wp_region_lit ?_
          refine wp_all [([13], []), ([], [0])] [7, 8, 9, 10, 11, 12, 14, 15] w168.heap.size hf285 g307.size (by kernel_rfl) (bund_cons h669 bund_nil) ?_
          refine ch rfl (ob_move (arg_free 0 rfl rfl)) ?_
          refine ch rfl (ob_assign (arg_op 0 0 rfl rfl rfl rfl)) ?_
          refine ch_nil ?_
          intro a673 w674 hf675 hg676 hk677 hn678
          have h679 : Holds _ (a673.eval (.tmp 16)) w674 := hn678.at 1 0 rfl rfl rfl
          have h680 : Holds _ (a673.eval (.tmp 14)) w674 := hk677.holds rfl (h670.up hg676)
          have h681 : Holds _ (a673.eval (.tmp 11)) w168 := hk677.holds rfl h292
          have h682 : Holds _ (a673.eval (.tmp 9)) w132 := hk677.holds rfl h293
          have h683 : Holds _ (a673.eval (.tmp 10)) w132 := hk677.holds rfl h294
          have h684 : Holds _ (a673.eval (.tmp 7)) w64 := hk677.holds rfl h295
          have h685 : Holds _ (a673.eval (.tmp 8)) w64 := hk677.holds rfl h296
          have hv686 : Holds (Is (PtrV bk217)) (a673.eval (.tmp 12)) w674 := is_any (hk677.holds rfl hv297)
          have hb687 : Blk bk217 _ w674 := hb671.up hg676
          have hv688 : Holds (Is (PtrV bk221)) (a673.eval (.tmp 15)) w674 := is_any (hk677.holds rfl hv299)
          have hb689 : Blk bk221 _ w674 := hb672.up hg676
          have g690 : Grow w0 w674 := g301.trans hg676
          have g691 : Grow w2 w674 := g302.trans hg676
          have g692 : Grow w19 w674 := g303.trans hg676
          have g693 : Grow w39 w674 := g304.trans hg676
          have g694 : Grow w64 w674 := g305.trans hg676
          have g695 : Grow w132 w674 := g306.trans hg676
          have g696 : Grow w168 w674 := g307.trans hg676
          have kk697 : Keep _ a131 a673 := kk308.trans hk677 rfl
          clear h670 h292 h293 h294 h295 h296 hv297 hb671 hv299 hb672 g301 g302 g303 g304 g305 g306 g307 kk308 hf285 hk677 hn678 hg676
          refine then_ ?_
          refine wp_block ?_
          refine wp_loopL (α := Nat) (fun j a' w' => Fr 104 a' ∧ (j ≤ dgN b c - dgN a c) ∧ Grow w0 w' ∧ Grow w2 w' ∧ Grow w19 w' ∧ Grow w39 w' ∧ Grow w64 w' ∧ Grow w132 w' ∧ Grow w168 w' ∧ Keep [7, 8, 9, 10, 11, 12, 14, 15] a673 a' ∧ Holds (Is (intV (((dgN a c + j : Nat)) : Int))) (a'.eval (.tmp 16)) w' ∧ Blk bk217 (nmCells (walkN c (dgN a c) (sigF s a c) j)) w' ∧ Blk bk221 (nmCells (sigF s b c)) w') (fun j => dgN b c - dgN a c - j) (0) ⟨hf675, (by ((try dsimp only); omega)), g690, g691, g692, g693, g694, g695, g696, Keep.refl _ _, (is_cast h679 (by first | rfl | (refine congrArg intV ?_; (try dsimp only); omega))), hb687, hb689⟩ ?_
          intro j a698 w699 ⟨hf700, hi702, g703, g704, g705, g706, g707, g708, g709, kk701, h710, hb711, hb712⟩
          have h713 : Holds _ (a698.eval (.tmp 14)) w699 := is_any (kk701.holds rfl h680)
          have h714 : Holds _ (a698.eval (.tmp 11)) w168 := kk701.holds rfl h681
          have h715 : Holds _ (a698.eval (.tmp 9)) w132 := kk701.holds rfl h682
          have h716 : Holds _ (a698.eval (.tmp 10)) w132 := kk701.holds rfl h683
          have h717 : Holds _ (a698.eval (.tmp 7)) w64 := kk701.holds rfl h684
          have h718 : Holds _ (a698.eval (.tmp 8)) w64 := kk701.holds rfl h685
          have hv719 : Holds (Is (PtrV bk217)) (a698.eval (.tmp 12)) w699 := is_any (kk701.holds rfl hv686)
          have hv720 : Holds (Is (PtrV bk221)) (a698.eval (.tmp 15)) w699 := is_any (kk701.holds rfl hv688)
          have kk721 : Keep _ a131 a698 := kk697.trans kk701 rfl
          refine wp_seq ?_
          refine wp_seq ?_
          refine wp_region_lit ?_
          refine wp_all [([16], []), ([14], []), ([], [0, 1])] [7, 8, 9, 10, 11, 12, 14, 15, 16] w168.heap.size hf700 g709.size (by kernel_rfl) (bund_cons h710 (bund_cons h713 bund_nil)) ?_
          refine ch rfl (ob_move (arg_free 0 rfl rfl)) ?_
          refine ch rfl (ob_move (arg_free 1 rfl rfl)) ?_
          refine ch rfl (ob_lss (arg_op 0 1 rfl rfl rfl rfl) (arg_op 1 0 rfl rfl rfl rfl)) ?_
          refine ch_nil ?_
          intro a722 w723 hf724 hg725 hk726 hn727
          have h728 : Holds _ (a722.eval (.tmp 87)) w723 := hn727.at 2 0 rfl rfl rfl
          have h729 : Holds _ (a722.eval (.tmp 16)) w723 := hk726.holds rfl (h710.up hg725)
          have h730 : Holds _ (a722.eval (.tmp 14)) w723 := hk726.holds rfl (h713.up hg725)
          have h731 : Holds _ (a722.eval (.tmp 11)) w168 := hk726.holds rfl h714
          have h732 : Holds _ (a722.eval (.tmp 9)) w132 := hk726.holds rfl h715
          have h733 : Holds _ (a722.eval (.tmp 10)) w132 := hk726.holds rfl h716
          have h734 : Holds _ (a722.eval (.tmp 7)) w64 := hk726.holds rfl h717
          have h735 : Holds _ (a722.eval (.tmp 8)) w64 := hk726.holds rfl h718
          have hv736 : Holds (Is (PtrV bk217)) (a722.eval (.tmp 12)) w723 := is_any (hk726.holds rfl hv719)
          have hb737 : Blk bk217 _ w723 := hb711.up hg725
          have hv738 : Holds (Is (PtrV bk221)) (a722.eval (.tmp 15)) w723 := is_any (hk726.holds rfl hv720)
          have hb739 : Blk bk221 _ w723 := hb712.up hg725
          have g740 : Grow w0 w723 := g703.trans hg725
          have g741 : Grow w2 w723 := g704.trans hg725
          have g742 : Grow w19 w723 := g705.trans hg725
          have g743 : Grow w39 w723 := g706.trans hg725
          have g744 : Grow w64 w723 := g707.trans hg725
          have g745 : Grow w132 w723 := g708.trans hg725
          have g746 : Grow w168 w723 := g709.trans hg725
          have kk747 : Keep _ a131 a722 := kk721.trans hk726 rfl
          have kk748 : Keep _ a673 a722 := kk701.trans hk726 rfl
          clear h710 h713 h714 h715 h716 h717 h718 hv719 hb711 hv720 hb712 g703 g704 g705 g706 g707 g708 g709 kk721 kk701 hf700 hk726 hn727 hg725
          refine then_ ?_
          refine wp_if h728 ?_ ?_
          · intro hc749
            try simp only [digits_len, vals_len, cond_norm] at hc749
            refine wp_skip ?_
            refine then_ ?_
            refine wp_seq ?_
            refine wp_block ?_
            have g750 : Grow w723 w723 := Grow.refl _
            have hl751 : bk217 < w723.heap.size := hb737.lt
            have hl752 : bk221 < w723.heap.size := hb739.lt
            have hz753 : w168.heap.size ≤ w723.heap.size := g746.size
            refine wp_region_lit ?_
            refine wp_seg (l1 := [_, _, _, _, _, _, _, _]) [([], []), ([12], []), ([], [0, 1]), ([11], []), ([], [3]), ([16], []), ([], [5]), ([], [4, 6])] [7, 8, 9, 10, 11, 12, 14, 15, 16] w723.heap.size hf724 g750.size (by kernel_rfl) (bund_cons (hb737.ownp hv736) (bund_cons (is_any h731) (bund_cons h729 bund_nil))) ?_
            refine ch rfl (ob_bs0_byte ) ?_
            refine ch rfl (ob_slice_nmF (ArgOK.ownp (arg_free 0 rfl rfl))) ?_
            refine ch rfl (ob_append_fresh elByteP Try.underlying34 (arg_op 0 1 rfl rfl rfl rfl) (ArgOK.fsl (arg_op 1 0 rfl rfl rfl rfl)) ?_) ?_
            · (refine ⟨?_, ?_⟩ <;> ((try simp only [List.length_append, List.length_cons, List.length_nil, nmBytes_len, elByte, elNm, elInt, maxLen]); omega))
            refine ch rfl (ob_move (arg_free 1 rfl rfl)) ?_
            refine ch rfl (ob_intbyte (m := UInt8.ofNat c) (arg_op 3 0 rfl rfl rfl rfl) Try.underlying3 Try.underlying5 ?_) ?_
            · exact byte_nat c
            refine ch rfl (ob_move (arg_free 2 rfl rfl)) ?_
            refine ch rfl (ob_intbyte (m := UInt8.ofNat (dgN a c + j)) (arg_op 5 0 rfl rfl rfl rfl) Try.underlying3 Try.underlying5 ?_) ?_
            · exact byte_nat _
            refine ch rfl (ob_bs2_byte (arg_op 4 2 rfl rfl rfl rfl) (arg_op 6 0 rfl rfl rfl rfl)) ?_
            refine ch_nil ?_
            intro a754 w755 hf756 hg757 hk758 hn759
            have h760 : Holds (OwnS w723.heap.size _ _) (a754.eval (.tmp 92)) w755 := hn759.at 2 5 rfl rfl rfl
            have h761 : Holds (OwnF w723.heap.size _ _) (a754.eval (.tmp 97)) w755 := hn759.at 7 0 rfl rfl rfl
            have h762 : Holds _ (a754.eval (.tmp 16)) w723 := hk758.holds rfl h729
            have h763 : Holds _ (a754.eval (.tmp 14)) w723 := hk758.holds rfl h730
            have h764 : Holds _ (a754.eval (.tmp 11)) w168 := hk758.holds rfl h731
            have h765 : Holds _ (a754.eval (.tmp 9)) w132 := hk758.holds rfl h732
            have h766 : Holds _ (a754.eval (.tmp 10)) w132 := hk758.holds rfl h733
            have h767 : Holds _ (a754.eval (.tmp 7)) w64 := hk758.holds rfl h734
            have h768 : Holds _ (a754.eval (.tmp 8)) w64 := hk758.holds rfl h735
            have hv769 : Holds (Is (PtrV bk217)) (a754.eval (.tmp 12)) w755 := is_any (hk758.holds rfl hv736)
            have hb770 : Blk bk217 _ w755 := hb737.up hg757
            have hv771 : Holds (Is (PtrV bk221)) (a754.eval (.tmp 15)) w755 := is_any (hk758.holds rfl hv738)
            have hb772 : Blk bk221 _ w755 := hb739.up hg757
            have g773 : Grow w0 w755 := g740.trans hg757
            have g774 : Grow w2 w755 := g741.trans hg757
            have g775 : Grow w19 w755 := g742.trans hg757
            have g776 : Grow w39 w755 := g743.trans hg757
            have g777 : Grow w64 w755 := g744.trans hg757
            have g778 : Grow w132 w755 := g745.trans hg757
            have g779 : Grow w168 w755 := g746.trans hg757
            have g780 : Grow w723 w755 := g750.trans hg757
            have kk781 : Keep _ a131 a754 := kk747.trans hk758 rfl
            have kk782 : Keep _ a673 a754 := kk748.trans hk758 rfl
            clear h729 h730 h731 h732 h733 h734 h735 hv736 hb737 hv738 hb739 g740 g741 g742 g743 g744 g745 g746 g750 kk747 kk748 hf724 hk758 hn759
            obtain ⟨V783, h784, hV785⟩ := nameV h760
            clear h760
            obtain ⟨V786, h787, hV788⟩ := nameV h761
            clear h761
            refine wl_appendW elByteP [7, 8, 9, 10, 11, 12, 14, 15, 16] hf756 (by kernel_rfl) rfl Try.underlying34 (unV h784 hV785) (OwnS.sl (OwnF.own (unV h787 hV788))) ?_ ?_ g780.size ?_
            · ((try simp only [List.length_append, List.length_cons, List.length_nil, nmBytes_len, elByte, elNm, elInt, maxLen]); omega)
            · ((try simp only [List.length_append, List.length_cons, List.length_nil, nmBytes_len, elByte, elNm, elInt, maxLen]); omega)
            intro a789 w790 hf791 hw792 hk793 h794
            have g795 : Grow w0 w790 := g773.wr hw792 (by omega)
            have g796 : Grow w2 w790 := g774.wr hw792 (by omega)
            have g797 : Grow w19 w790 := g775.wr hw792 (by omega)
            have g798 : Grow w39 w790 := g776.wr hw792 (by omega)
            have g799 : Grow w64 w790 := g777.wr hw792 (by omega)
            have g800 : Grow w132 w790 := g778.wr hw792 (by omega)
            have g801 : Grow w168 w790 := g779.wr hw792 (by omega)
            have g802 : Grow w723 w790 := g780.wr hw792 (by omega)
            have h803 : Holds _ (a789.eval (.tmp 16)) w790 := is_any (hk793.holds rfl h762)
            have h804 : Holds _ (a789.eval (.tmp 14)) w790 := is_any (hk793.holds rfl h763)
            have h805 : Holds _ (a789.eval (.tmp 11)) w790 := is_any (hk793.holds rfl h764)
            have h806 : Holds _ (a789.eval (.tmp 9)) w790 := is_any (hk793.holds rfl h765)
            have h807 : Holds _ (a789.eval (.tmp 10)) w790 := is_any (hk793.holds rfl h766)
            have h808 : Holds _ (a789.eval (.tmp 7)) w790 := is_any (hk793.holds rfl h767)
            have h809 : Holds _ (a789.eval (.tmp 8)) w790 := is_any (hk793.holds rfl h768)
            have hv810 : Holds (Is (PtrV bk217)) (a789.eval (.tmp 12)) w790 := is_any (hk793.holds rfl hv769)
            have hb811 : Blk bk217 _ w790 := hb770.wr hw792 (by omega)
            have hv812 : Holds (Is (PtrV bk221)) (a789.eval (.tmp 15)) w790 := is_any (hk793.holds rfl hv771)
            have hb813 : Blk bk221 _ w790 := hb772.wr hw792 (by omega)
            have kk814 : Keep _ a131 a789 := kk781.trans hk793 rfl
            have kk815 : Keep _ a673 a789 := kk782.trans hk793 rfl
            obtain ⟨V816, h817, hV818⟩ := nameV h794
            clear h794
            refine wp_seg (l1 := [_]) [([98], [])] [7, 8, 9, 10, 11, 12, 14, 15, 16] w723.heap.size hf791 g802.size (by kernel_rfl) (bund_cons h817 bund_nil) ?_
            refine ch rfl (ob_call2 (by kernel_rfl) (c_Tagged ?_) (arg_cb 33 rfl) (ArgOK.sl (ArgOK.val (arg_free 0 rfl rfl) hV818))) ?_
            · ((try simp only [List.length_append, List.length_cons, List.length_nil, nmBytes_len, List.length_take, List.length_drop, flat_len]); omega)
            refine ch_nil ?_
            intro a819 w820 hf821 hg822 hk823 hn824
            have h825 : Holds _ (a819.eval (.tmp 99)) w820 := hn824.at 0 0 rfl rfl rfl
            have h826 : Holds _ (a819.eval (.tmp 16)) w820 := hk823.holds rfl (h803.up hg822)
            have h827 : Holds _ (a819.eval (.tmp 14)) w820 := hk823.holds rfl (h804.up hg822)
            have h828 : Holds _ (a819.eval (.tmp 11)) w820 := hk823.holds rfl (h805.up hg822)
            have h829 : Holds _ (a819.eval (.tmp 9)) w820 := hk823.holds rfl (h806.up hg822)
            have h830 : Holds _ (a819.eval (.tmp 10)) w820 := hk823.holds rfl (h807.up hg822)
            have h831 : Holds _ (a819.eval (.tmp 7)) w820 := hk823.holds rfl (h808.up hg822)
            have h832 : Holds _ (a819.eval (.tmp 8)) w820 := hk823.holds rfl (h809.up hg822)
            have hv833 : Holds (Is (PtrV bk217)) (a819.eval (.tmp 12)) w820 := is_any (hk823.holds rfl hv810)
            have hb834 : Blk bk217 _ w820 := hb811.up hg822
            have hv835 : Holds (Is (PtrV bk221)) (a819.eval (.tmp 15)) w820 := is_any (hk823.holds rfl hv812)
            have hb836 : Blk bk221 _ w820 := hb813.up hg822
            have g837 : Grow w0 w820 := g795.trans hg822
            have g838 : Grow w2 w820 := g796.trans hg822
            have g839 : Grow w19 w820 := g797.trans hg822
            have g840 : Grow w39 w820 := g798.trans hg822
            have g841 : Grow w64 w820 := g799.trans hg822
            have g842 : Grow w132 w820 := g800.trans hg822
            have g843 : Grow w168 w820 := g801.trans hg822
            have g844 : Grow w723 w820 := g802.trans hg822
            have kk845 : Keep _ a131 a819 := kk814.trans hk823 rfl
            have kk846 : Keep _ a673 a819 := kk815.trans hk823 rfl
            clear h803 h804 h805 h806 h807 h808 h809 hv810 hb811 hv812 hb813 g795 g796 g797 g798 g799 g800 g801 g802 kk814 kk815 hf791 hk823 hn824 hg822
            refine wl_store_nm hv833 hb834 rfl h825 ?_
            intro w847 ho848 hb849
            have g850 : Grow w0 w847 := g837.only ho848 (by omega)
            have g851 : Grow w2 w847 := g838.only ho848 (by omega)
            have g852 : Grow w19 w847 := g839.only ho848 (by omega)
            have g853 : Grow w39 w847 := g840.only ho848 (by omega)
            have g854 : Grow w64 w847 := g841.only ho848 (by omega)
            have g855 : Grow w132 w847 := g842.only ho848 (by omega)
            have g856 : Grow w168 w847 := g843.only ho848 (by omega)
            have h857 : Holds _ (a819.eval (.tmp 16)) w847 := is_any h826
            have h858 : Holds _ (a819.eval (.tmp 14)) w847 := is_any h827
            have h859 : Holds _ (a819.eval (.tmp 11)) w847 := is_any h828
            have h860 : Holds _ (a819.eval (.tmp 9)) w847 := is_any h829
            have h861 : Holds _ (a819.eval (.tmp 10)) w847 := is_any h830
            have h862 : Holds _ (a819.eval (.tmp 7)) w847 := is_any h831
            have h863 : Holds _ (a819.eval (.tmp 8)) w847 := is_any h832
            have hv864 : Holds (Is (PtrV bk217)) (a819.eval (.tmp 12)) w847 := is_any hv833
            have hv865 : Holds (Is (PtrV bk221)) (a819.eval (.tmp 15)) w847 := is_any hv835
            have hb866 : Blk bk221 _ w847 := hb836.only ho848 (by omega)
            refine wpList_nil ?_
            refine blockN ?_
            refine then_ ?_
            refine wp_region_lit ?_
            refine wp_all [([16], []), ([], [0]), ([], [1])] [7, 8, 9, 10, 11, 12, 14, 15] w168.heap.size hf821 g856.size (by kernel_rfl) (bund_cons h857 bund_nil) ?_
            refine ch rfl (ob_move (arg_free 0 rfl rfl)) ?_
            first
              | (refine ch rfl (ob_add' (arg_op 0 0 rfl rfl rfl rfl) arg_c ?_) ?_; · omega)
              | refine ch rfl (ob_add (arg_op 0 0 rfl rfl rfl rfl) arg_c) ?_
            refine ch rfl (ob_assign (arg_op 1 0 rfl rfl rfl rfl)) ?_
            refine ch_nil ?_
            intro a867 w868 hf869 hg870 hk871 hn872
            have h873 : Holds _ (a867.eval (.tmp 16)) w868 := hn872.at 2 0 rfl rfl rfl
            have h874 : Holds _ (a867.eval (.tmp 14)) w868 := hk871.holds rfl (h858.up hg870)
            have h875 : Holds _ (a867.eval (.tmp 11)) w868 := hk871.holds rfl (h859.up hg870)
            have h876 : Holds _ (a867.eval (.tmp 9)) w868 := hk871.holds rfl (h860.up hg870)
            have h877 : Holds _ (a867.eval (.tmp 10)) w868 := hk871.holds rfl (h861.up hg870)
            have h878 : Holds _ (a867.eval (.tmp 7)) w868 := hk871.holds rfl (h862.up hg870)
            have h879 : Holds _ (a867.eval (.tmp 8)) w868 := hk871.holds rfl (h863.up hg870)
            have hv880 : Holds (Is (PtrV bk217)) (a867.eval (.tmp 12)) w868 := is_any (hk871.holds rfl hv864)
            have hb881 : Blk bk217 _ w868 := hb849.up hg870
            have hv882 : Holds (Is (PtrV bk221)) (a867.eval (.tmp 15)) w868 := is_any (hk871.holds rfl hv865)
            have hb883 : Blk bk221 _ w868 := hb866.up hg870
            have g884 : Grow w0 w868 := g850.trans hg870
            have g885 : Grow w2 w868 := g851.trans hg870
            have g886 : Grow w19 w868 := g852.trans hg870
            have g887 : Grow w39 w868 := g853.trans hg870
            have g888 : Grow w64 w868 := g854.trans hg870
            have g889 : Grow w132 w868 := g855.trans hg870
            have g890 : Grow w168 w868 := g856.trans hg870
            have kk891 : Keep _ a131 a867 := kk845.trans hk871 rfl
            have kk892 : Keep _ a673 a867 := kk846.trans hk871 rfl
            clear h858 h859 h860 h861 h862 h863 hv864 hb849 hv865 hb866 g850 g851 g852 g853 g854 g855 g856 kk845 kk846 hf821 hk871 hn872 hg870
            refine then_ ?_
            exact ⟨(j + 1), (by ((try dsimp only); omega)), hf869, (by ((try dsimp only); omega)), g884, g885, g886, g887, g888, g889, g890, kk892, (is_cast h873 (by first | rfl | (refine congrArg intV ?_; (try dsimp only); omega))), hb881, hb883⟩
          · intro hc749
            try simp only [digits_len, vals_len, cond_norm] at hc749
            refine wp_exit ?_
            refine thenX ?_
            refine thenX ?_
            refine blockX ?_
            refine then_ ?_
            refine wp_seq ?_
            refine wp_region_lit ?_
            refine wp_all [([12], []), ([15], []), ([], [0, 1])] [7, 8, 9, 10, 11] w168.heap.size hf724 g746.size (by kernel_rfl) (bund_cons (hb737.ownp hv736) (bund_cons (hb739.ownp hv738) bund_nil)) ?_
            refine ch rfl (ob_load_nm (ArgOK.ownp (arg_free 0 rfl rfl))) ?_
            refine ch rfl (ob_load_nm (ArgOK.ownp (arg_free 1 rfl rfl))) ?_
            refine ch rfl (ob_neqnm (arg_op 0 1 rfl rfl rfl rfl) (arg_op 1 0 rfl rfl rfl rfl)) ?_
            refine ch_nil ?_
            intro a893 w894 hf895 hg896 hk897 hn898
            have h899 : Holds _ (a893.eval (.tmp 102)) w894 := hn898.at 2 0 rfl rfl rfl
            have h900 : Holds _ (a893.eval (.tmp 11)) w168 := hk897.holds rfl h731
            have h901 : Holds _ (a893.eval (.tmp 9)) w132 := hk897.holds rfl h732
            have h902 : Holds _ (a893.eval (.tmp 10)) w132 := hk897.holds rfl h733
            have h903 : Holds _ (a893.eval (.tmp 7)) w64 := hk897.holds rfl h734
            have h904 : Holds _ (a893.eval (.tmp 8)) w64 := hk897.holds rfl h735
            have g905 : Grow w0 w894 := g740.trans hg896
            have g906 : Grow w2 w894 := g741.trans hg896
            have g907 : Grow w19 w894 := g742.trans hg896
            have g908 : Grow w39 w894 := g743.trans hg896
            have g909 : Grow w64 w894 := g744.trans hg896
            have g910 : Grow w132 w894 := g745.trans hg896
            have g911 : Grow w168 w894 := g746.trans hg896
            have kk912 : Keep _ a131 a893 := kk747.trans hk897 rfl
            clear h731 h732 h733 h734 h735 g740 g741 g742 g743 g744 g745 g746 kk747 hf724 hk897 hn898 hg896
            refine then_ ?_
            refine wp_if h899 ?_ ?_
            · intro hc913
              try simp only [digits_len, vals_len, cond_norm] at hc913
              exact absurd (by first | (rw [show j = dgN b c - dgN a c by omega]; exact chain_on s a b (by omega)) | (rw [show j = dgN a c - dgN b c by omega]; exact chain_on s b a (by omega))) hc913
            · intro hc913
              try simp only [digits_len, vals_len, cond_norm] at hc913
              refine wp_skip ?_
              refine blockN ?_
              refine then_ ?_
              refine wp_region_lit ?_
              refine wp_all [([11], []), ([], [0]), ([], [1])] [7, 8, 9, 10] w168.heap.size hf895 g911.size (by kernel_rfl) (bund_cons (is_any h900) bund_nil) ?_
              refine ch rfl (ob_move (arg_free 0 rfl rfl)) ?_
              first
                | (refine ch rfl (ob_add' (arg_op 0 0 rfl rfl rfl rfl) arg_c ?_) ?_; · omega)
                | refine ch rfl (ob_add (arg_op 0 0 rfl rfl rfl rfl) arg_c) ?_
              refine ch rfl (ob_assign (arg_op 1 0 rfl rfl rfl rfl)) ?_
              refine ch_nil ?_
              intro a914 w915 hf916 hg917 hk918 hn919
              have h920 : Holds _ (a914.eval (.tmp 11)) w915 := hn919.at 2 0 rfl rfl rfl
              have h921 : Holds _ (a914.eval (.tmp 9)) w132 := hk918.holds rfl h901
              have h922 : Holds _ (a914.eval (.tmp 10)) w132 := hk918.holds rfl h902
              have h923 : Holds _ (a914.eval (.tmp 7)) w64 := hk918.holds rfl h903
              have h924 : Holds _ (a914.eval (.tmp 8)) w64 := hk918.holds rfl h904
              have g925 : Grow w0 w915 := g905.trans hg917
              have g926 : Grow w2 w915 := g906.trans hg917
              have g927 : Grow w19 w915 := g907.trans hg917
              have g928 : Grow w39 w915 := g908.trans hg917
              have g929 : Grow w64 w915 := g909.trans hg917
              have g930 : Grow w132 w915 := g910.trans hg917
              have g931 : Grow w168 w915 := g911.trans hg917
              have kk932 : Keep _ a131 a914 := kk912.trans hk918 rfl
              clear h901 h902 h903 h904 g905 g906 g907 g908 g909 g910 g911 kk912 hf895 hk918 hn919 hg917
              refine then_ ?_
              exact ⟨(c + 1), (by ((try dsimp only); omega)), hf916, (by ((try dsimp only); omega)), g925, g926, g927, g928, g929, g930, kk932, (is_cast h920 (by first | rfl | (refine congrArg intV ?_; (try dsimp only); omega)))⟩
      · intro dd hdd
        cases hdd
    · intro hc186
      try simp only [digits_len, vals_len, cond_norm] at hc186
      obtain rfl : c = 18 := by omega
      refine wp_exit ?_
      refine thenX ?_
      refine thenX ?_
      refine blockX ?_
      refine then_ ?_
      refine wp_seq ?_
      have g933 : Grow w168 w168 := Grow.refl _
      have hz934 : w132.heap.size ≤ w168.heap.size := g184.size
      refine wp_region_lit ?_
      refine wp_all [([], []), ([], [0])] [] w168.heap.size hf169 g933.size (by kernel_rfl) bund_nil ?_
      refine ch rfl (ob_call0 (by kernel_rfl) (c_awake4) ) ?_
      refine ch rfl (ob_assign (arg_op 0 0 rfl rfl rfl rfl)) ?_
      refine ch_nil ?_
      intro a935 w936 hf937 hg938 hk939 hn940
      have h941 : Holds _ (a935.eval (.tmp 6)) w936 := hn940.at 1 0 rfl rfl rfl
      have g942 : Grow w0 w936 := g179.trans hg938
      have g943 : Grow w2 w936 := g180.trans hg938
      have g944 : Grow w19 w936 := g181.trans hg938
      have g945 : Grow w39 w936 := g182.trans hg938
      have g946 : Grow w64 w936 := g183.trans hg938
      have g947 : Grow w132 w936 := g184.trans hg938
      have g948 : Grow w168 w936 := g933.trans hg938
      clear g179 g180 g181 g182 g183 g184 g933 hf169 hk939 hn940
      refine then_ ?_
      refine wp_ret ?_
      exact ret_tmp rfl hf937 g942 h941


end Ex
end Go.Proofs.Ytnmfiiejhoafnaa
