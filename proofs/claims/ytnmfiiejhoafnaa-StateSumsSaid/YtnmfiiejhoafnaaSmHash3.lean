/- Tags: Tagged and Pair of the program and of the reference; the hash leaves its argument alone. -/
import Derived.Test.YtnmfiiejhoafnaaSmHash2
import Derived.Test.YtnmfiiejhoafnaaSmTwo
import Derived.Test.YtnmfiiejhoafnaaSmApp
set_option linter.unusedSimpArgs false
set_option linter.unusedVariables false
namespace Go.Proofs.Ytnmfiiejhoafnaa
namespace Ex
open Go Calm Go.RowKit
def tagged (t : UInt8) (b : List UInt8) : UInt64 := sum (t :: b)
def pairN (t : UInt8) (x y : UInt64) : UInt64 := tagged t (nmBytes x ++ nmBytes y)
set_option maxRecDepth 100000 in
theorem c_Tagged {t : UInt8} {l : List UInt8} (hl : l.length ≤ 140737488355327) : Con2 46 (Is (byteV t)) (Sl elByte l) (fun _ => Is (nmV (tagged t l))) := by
  intro lo v0 v1 w0 hlo hv0 hv1
  refine enter Try.func46 rfl Try.ntmps46 (by simp) ?_
  intro a0 hf0 ha
  have h00 : Holds _ (a0.eval (.tmp 0)) w0 := arg_holds ha rfl hv0
  have h01 : Holds (Is v1) (a0.eval (.tmp 1)) w0 := arg_holds ha rfl rfl
  clear ha
  have g0 : Grow w0 w0 := Grow.refl _
  refine wp_seq ?_
  refine wp_region_lit ?_
  refine wp_all [([], [])] [0, 1] w0.heap.size hf0 g0.size (by kernel_rfl) bund_nil ?_
  refine ch rfl (ob_alloc_nm) ?_
  refine ch_nil ?_
  intro a1 w2 hf3 hg4 hk5 hn6
  have h7 : Holds _ (a1.eval (.tmp 4)) w2 := hn6.at 0 0 rfl rfl rfl
  have h8 := hk5.holds rfl h00
  have h9 := hk5.holds rfl h01
  have g10 := g0.trans hg4
  obtain ⟨bk11, hl12, hv13, hb14⟩ := OwnB.blk (lo := w0.heap.size) h7
  clear h00 h01 g0 hf0 hk5 hn6
  refine then_ ?_
  refine wp_seq ?_
  have g15 : Grow w2 w2 := Grow.refl _
  have hl16 : bk11 < w2.heap.size := hb14.lt
  have hz17 : w0.heap.size ≤ w2.heap.size := g10.size
  refine wp_region_lit ?_
  refine wp_all [([], []), ([], [0])] [0, 1, 4] w2.heap.size hf3 g15.size (by kernel_rfl) bund_nil ?_
  refine ch rfl (ob_make0 elByteP (c := 160) Try.underlying34 arg_c arg_c ?_) ?_
  · decide
  refine ch rfl (ob_assign (arg_op 0 0 rfl rfl rfl rfl)) ?_
  refine ch_nil ?_
  intro a18 w19 hf20 hg21 hk22 hn23
  have h24 : Holds (OwnS w2.heap.size _ _) (a18.eval (.tmp 5)) w19 := hn23.at 1 0 rfl rfl rfl
  have h25 := hk22.holds rfl h8
  have h26 := hk22.holds rfl h9
  have hv27 : Holds (Is (PtrV bk11)) (a18.eval (.tmp 4)) w19 := is_any (hk22.holds rfl hv13)
  have hb28 := hb14.up hg21
  have g29 := g10.trans hg21
  have g30 := g15.trans hg21
  clear h8 h9 hv13 hb14 g10 g15 hf3 hk22 hn23
  obtain ⟨V31, h32, hV33⟩ := nameV h24
  clear h24
  refine then_ ?_
  refine wp_seq ?_
  have g34 : Grow w19 w19 := Grow.refl _
  have hl35 : bk11 < w19.heap.size := hb28.lt
  have hz36 : w2.heap.size ≤ w19.heap.size := g30.size
  refine wp_region_lit ?_
  refine wp_seg (l1 := [_, _, _]) [([5], []), ([0], []), ([], [1])] [1, 4] w19.heap.size hf20 g34.size (by kernel_rfl) (bund_cons h32 (bund_cons (is_any h25) bund_nil)) ?_
  refine ch rfl (ob_move (arg_free 0 rfl rfl)) ?_
  refine ch rfl (ob_move (arg_free 1 rfl rfl)) ?_
  refine ch rfl (ob_bs1_byte (arg_op 1 0 rfl rfl rfl rfl)) ?_
  refine ch_nil ?_
  intro a37 w38 hf39 hg40 hk41 hn42
  have h43 : Holds _ (a37.eval (.tmp 7)) w38 := hn42.at 0 2 rfl rfl rfl
  have h44 : Holds (OwnF w19.heap.size _ _) (a37.eval (.tmp 9)) w38 := hn42.at 2 0 rfl rfl rfl
  have h45 := hk41.holds rfl h26
  have hv46 : Holds (Is (PtrV bk11)) (a37.eval (.tmp 4)) w38 := is_any (hk41.holds rfl hv27)
  have hb47 := hb28.up hg40
  have g48 := g29.trans hg40
  have g49 := g30.trans hg40
  have g50 := g34.trans hg40
  clear h26 hv27 hb28 g29 g30 g34 hf20 hk41 hn42
  obtain ⟨V51, h52, hV53⟩ := nameV h44
  clear h44
  refine wl_appendW elByteP [1, 4] hf39 (by kernel_rfl) rfl Try.underlying34 (unV h43 (hV33.up g50)) (OwnS.sl (OwnF.own (unV h52 hV53))) ?_ ?_ g49.size ?_
  · ((try simp only [List.length_append, List.length_cons, List.length_nil, nmBytes_len, elByte, elNm, elInt, maxLen]); omega)
  · ((try simp only [List.length_append, List.length_cons, List.length_nil, nmBytes_len, elByte, elNm, elInt, maxLen]); omega)
  intro a54 w55 hf56 hw57 hk58 h59
  have g60 : Grow w0 w55 := g48.wr hw57 (by omega)
  have g61 : Grow w2 w55 := g49.wr hw57 (by omega)
  have h62 : Holds _ (a54.eval (.tmp 1)) w55 := is_any (hk58.holds rfl h45)
  have hv63 : Holds (Is (PtrV bk11)) (a54.eval (.tmp 4)) w55 := is_any (hk58.holds rfl hv46)
  have hb64 : Blk bk11 _ w55 := hb47.wr hw57 (by omega)
  obtain ⟨V65, h66, hV67⟩ := nameV h59
  clear h59
  refine wp_seg (l1 := [_]) [([1], [])] [4, 10] w2.heap.size hf56 g61.size (by kernel_rfl) (bund_cons h62 bund_nil) ?_
  refine ch rfl (ob_move (arg_free 0 rfl rfl)) ?_
  refine ch_nil ?_
  intro a68 w69 hf70 hg71 hk72 hn73
  have h74 : Holds _ (a68.eval (.tmp 11)) w69 := hn73.at 0 0 rfl rfl rfl
  have h75 := hk72.holds rfl (h66.up hg71)
  have hv76 : Holds (Is (PtrV bk11)) (a68.eval (.tmp 4)) w69 := is_any (hk72.holds rfl hv63)
  have hb77 := hb64.up hg71
  have g78 := g60.trans hg71
  have g79 := g61.trans hg71
  have hV80 := hV67.up hg71
  clear h66 hv63 hb64 g60 g61 hf56 hk72 hn73 hg71 hV67
  refine wl_appendW elByteP [4] hf70 (by kernel_rfl) rfl Try.underlying34 (unV h75 hV80) (unV h74 (hv1.up g78)) ?_ ?_ g79.size ?_
  · ((try simp only [List.length_append, List.length_cons, List.length_nil, nmBytes_len, elByte, elNm, elInt, maxLen]); omega)
  · ((try simp only [List.length_append, List.length_cons, List.length_nil, nmBytes_len, elByte, elNm, elInt, maxLen]); omega)
  intro a81 w82 hf83 hw84 hk85 h86
  have g87 : Grow w0 w82 := g78.wr hw84 (by omega)
  have g88 : Grow w2 w82 := g79.wr hw84 (by omega)
  have hv89 : Holds (Is (PtrV bk11)) (a81.eval (.tmp 4)) w82 := is_any (hk85.holds rfl hv76)
  have hb90 : Blk bk11 _ w82 := hb77.wr hw84 (by omega)
  obtain ⟨V91, h92, hV93⟩ := nameV h86
  clear h86
  refine wp_seg (l1 := [_]) [([12], [])] [4] w2.heap.size hf83 g88.size (by kernel_rfl) (bund_cons h92 bund_nil) ?_
  refine ch rfl (ob_call1 (by kernel_rfl) (c_Sum ?_) (ArgOK.sl (ArgOK.val (arg_free 0 rfl rfl) hV93))) ?_
  · ((try simp only [List.length_append, List.length_cons, List.length_nil, List.length_take, nmBytes_len]); omega)
  refine ch_nil ?_
  intro a94 w95 hf96 hg97 hk98 hn99
  have h100 : Holds _ (a94.eval (.tmp 13)) w95 := hn99.at 0 0 rfl rfl rfl
  have hv101 : Holds (Is (PtrV bk11)) (a94.eval (.tmp 4)) w95 := is_any (hk98.holds rfl hv89)
  have hb102 := hb90.up hg97
  have g103 := g87.trans hg97
  have g104 := g88.trans hg97
  clear hv89 hb90 g87 g88 hf83 hk98 hn99 hg97
  refine wl_store_nm hv101 hb102 rfl h100 ?_
  intro w105 ho106 hb107
  have g108 : Grow w0 w105 := g103.only ho106 (by omega)
  have hv110 : Holds (Is (PtrV bk11)) (a94.eval (.tmp 4)) w105 := is_any hv101
  refine wpList_nil ?_
  refine then_ ?_
  refine wp_ret ?_
  refine ret_cell rfl Try.underlying23 rfl (by kernel_rfl) hf96 g108 (hb107.ptr hv110) ?_
  exact rfl
set_option maxRecDepth 100000 in
theorem c_Pair {t : UInt8} {x y : UInt64} : Con3 47 (Is (byteV t)) (Is (nmV x)) (Is (nmV y)) (fun _ => Is (nmV (pairN t x y))) := by
  intro lo v0 v1 v2 w0 hlo hv0 hv1 hv2
  refine enter Try.func47 rfl Try.ntmps47 (by simp) ?_
  intro a0 hf0 ha
  have h00 : Holds _ (a0.eval (.tmp 0)) w0 := arg_holds ha rfl hv0
  have h01 : Holds _ (a0.eval (.tmp 1)) w0 := arg_holds ha rfl hv1
  have h02 : Holds _ (a0.eval (.tmp 2)) w0 := arg_holds ha rfl hv2
  clear ha
  have g0 : Grow w0 w0 := Grow.refl _
  refine wp_seq ?_
  refine wp_region_lit ?_
  refine wp_seg (l1 := [_]) [([1], [])] [0, 2] w0.heap.size hf0 g0.size (by kernel_rfl) (bund_cons h01 bund_nil) ?_
  refine ch rfl (ob_box_nm (arg_free 0 rfl rfl)) ?_
  refine ch_nil ?_
  intro a1 w2 hf3 hg4 hk5 hn6
  have h7 : Holds _ (a1.eval (.tmp 4)) w2 := hn6.at 0 0 rfl rfl rfl
  have h8 := hk5.holds rfl h00
  have h9 := hk5.holds rfl h02
  have g10 := g0.trans hg4
  obtain ⟨bk11, hl12, hv13, hb14⟩ := OwnB.blk (lo := w0.heap.size) h7
  clear h00 h02 g0 hf0 hk5 hn6
  have g15 : Grow w2 w2 := Grow.refl _
  have hl16 : bk11 < w2.heap.size := hb14.lt
  have hz17 : w0.heap.size ≤ w2.heap.size := g10.size
  refine wp_seg (l1 := [_]) [([2], [])] [0, 4] w2.heap.size hf3 g15.size (by kernel_rfl) (bund_cons (is_any h9) bund_nil) ?_
  refine ch rfl (ob_box_nm (arg_free 0 rfl rfl)) ?_
  refine ch_nil ?_
  intro a18 w19 hf20 hg21 hk22 hn23
  have h24 : Holds _ (a18.eval (.tmp 5)) w19 := hn23.at 0 0 rfl rfl rfl
  have h25 := hk22.holds rfl h8
  have hv26 : Holds (Is (PtrV bk11)) (a18.eval (.tmp 4)) w19 := is_any (hk22.holds rfl hv13)
  have hb27 := hb14.up hg21
  have g28 := g10.trans hg21
  have g29 := g15.trans hg21
  obtain ⟨bk30, hl31, hv32, hb33⟩ := OwnB.blk (lo := w2.heap.size) h24
  clear h8 hv13 hb14 g10 g15 hf3 hk22 hn23
  have g34 : Grow w19 w19 := Grow.refl _
  have hl35 : bk11 < w19.heap.size := hb27.lt
  have hl36 : bk30 < w19.heap.size := hb33.lt
  have hz37 : w2.heap.size ≤ w19.heap.size := g29.size
  refine wp_all [([], [])] [0, 4, 5] w19.heap.size hf20 g34.size (by kernel_rfl) bund_nil ?_
  refine ch rfl (ob_alloc_nm) ?_
  refine ch_nil ?_
  intro a38 w39 hf40 hg41 hk42 hn43
  have h44 : Holds _ (a38.eval (.tmp 6)) w39 := hn43.at 0 0 rfl rfl rfl
  have h45 := hk42.holds rfl h25
  have hv46 : Holds (Is (PtrV bk11)) (a38.eval (.tmp 4)) w39 := is_any (hk42.holds rfl hv26)
  have hb47 := hb27.up hg41
  have hv48 : Holds (Is (PtrV bk30)) (a38.eval (.tmp 5)) w39 := is_any (hk42.holds rfl hv32)
  have hb49 := hb33.up hg41
  have g50 := g28.trans hg41
  have g51 := g29.trans hg41
  have g52 := g34.trans hg41
  obtain ⟨bk53, hl54, hv55, hb56⟩ := OwnB.blk (lo := w19.heap.size) h44
  clear h25 hv26 hb27 hv32 hb33 g28 g29 g34 hf20 hk42 hn43
  refine then_ ?_
  refine wp_seq ?_
  refine wp_region_lit ?_
  have g57 : Grow w39 w39 := Grow.refl _
  have hl58 : bk11 < w39.heap.size := hb47.lt
  have hl59 : bk30 < w39.heap.size := hb49.lt
  have hl60 : bk53 < w39.heap.size := hb56.lt
  have hz61 : w19.heap.size ≤ w39.heap.size := g52.size
  refine wp_all [([], [])] [0, 4, 5, 6] w39.heap.size hf40 g57.size (by kernel_rfl) bund_nil ?_
  refine ch rfl (ob_alloc_b16) ?_
  refine ch_nil ?_
  intro a62 w63 hf64 hg65 hk66 hn67
  have h68 : Holds _ (a62.eval (.tmp 7)) w63 := hn67.at 0 0 rfl rfl rfl
  have h69 := hk66.holds rfl h45
  have hv70 : Holds (Is (PtrV bk11)) (a62.eval (.tmp 4)) w63 := is_any (hk66.holds rfl hv46)
  have hb71 := hb47.up hg65
  have hv72 : Holds (Is (PtrV bk30)) (a62.eval (.tmp 5)) w63 := is_any (hk66.holds rfl hv48)
  have hb73 := hb49.up hg65
  have hv74 : Holds (Is (PtrV bk53)) (a62.eval (.tmp 6)) w63 := is_any (hk66.holds rfl hv55)
  have hb75 := hb56.up hg65
  have g76 := g50.trans hg65
  have g77 := g51.trans hg65
  have g78 := g52.trans hg65
  have g79 := g57.trans hg65
  obtain ⟨bk80, hl81, hv82, hb83⟩ := OwnB.blk (lo := w39.heap.size) h68
  clear h45 hv46 hb47 hv48 hb49 hv55 hb56 g50 g51 g52 g57 hf40 hk66 hn67
  refine then_ ?_
  refine wp_seq ?_
  have g84 : Grow w63 w63 := Grow.refl _
  have hl85 : bk11 < w63.heap.size := hb71.lt
  have hl86 : bk30 < w63.heap.size := hb73.lt
  have hl87 : bk53 < w63.heap.size := hb75.lt
  have hl88 : bk80 < w63.heap.size := hb83.lt
  have hz89 : w39.heap.size ≤ w63.heap.size := g79.size
  refine wp_calm_tail (l1 := [_, _]) [0, 0, 3] [([7], []), ([4], [])] [0, 5, 6, 7] w63.heap.size hf64 g84.size (by kernel_rfl) (bund_cons (hb83.ownp hv82) (bund_cons (hb71.ownp hv70) bund_nil)) ?_
  intro ws90 hs91
  refine ch rfl (ob_slice16_own (arg_free 0 rfl rfl)) ?_
  refine ch rfl (ob_slice_nmF (ArgOK.ownp (arg_free 1 rfl rfl))) ?_
  refine ch_nil ?_
  intro a92 w93 hf94 hg95 hk96 hn97
  have h98 : Holds _ (a92.eval (.tmp 8)) w93 := hn97.at 0 1 rfl rfl rfl
  have h99 : Holds _ (a92.eval (.tmp 9)) w93 := hn97.at 1 0 rfl rfl rfl
  have h100 := hk96.holds rfl h69
  have hv101 : Holds (Is (PtrV bk30)) (a92.eval (.tmp 5)) w93 := is_any (hk96.holds rfl hv72)
  have hb102 := hb73.up hg95
  have hv103 : Holds (Is (PtrV bk53)) (a92.eval (.tmp 6)) w93 := is_any (hk96.holds rfl hv74)
  have hb104 := hb75.up hg95
  have hv105 : Holds (Is (PtrV bk80)) (a92.eval (.tmp 7)) w93 := is_any (hk96.holds rfl hv82)
  have hb106 := hb83.up hg95
  have g107 := g76.trans hg95
  have g108 := g77.trans hg95
  have g109 := g78.trans hg95
  have g110 := g79.trans hg95
  have g111 := g84.trans hg95
  clear h69 hv72 hb73 hv74 hb75 hv82 hb83 g76 g77 g78 g79 g84 hf64 hk96 hn97
  obtain ⟨V112, h113, hV114⟩ := nameV h99
  clear h99
  refine wl_copy [0, 5, 6, 7] hf94 (by kernel_rfl) rfl Try.underlying34 h98 hb106 (SlF.sl (unV h113 hV114)) ?_ ?_
  · (show (8 : Nat) ≤ 16; decide)
  intro a115 w116 hf117 ho118 hk119 hb120 h121
  have g122 : Grow w0 w116 := g107.only ho118 (by omega)
  have g123 : Grow w2 w116 := g108.only ho118 (by omega)
  have g124 : Grow w19 w116 := g109.only ho118 (by omega)
  have g125 : Grow w39 w116 := g110.only ho118 (by omega)
  have h127 : Holds _ (a115.eval (.tmp 0)) w0 := (hk119.holds rfl h100)
  have hv128 : Holds (Is (PtrV bk30)) (a115.eval (.tmp 5)) w116 := is_any (hk119.holds rfl hv101)
  have hb129 : Blk bk30 _ w116 := hb102.only ho118 (by omega)
  have hv130 : Holds (Is (PtrV bk53)) (a115.eval (.tmp 6)) w116 := is_any (hk119.holds rfl hv103)
  have hb131 : Blk bk53 _ w116 := hb104.only ho118 (by omega)
  have hv132 : Holds (Is (PtrV bk80)) (a115.eval (.tmp 7)) w116 := is_any (hk119.holds rfl hv105)
  refine wpList_nil ?_
  refine then_ ?_
  refine wp_seq ?_
  have hb133 : Blk bk80 ((nmBytes x ++ List.replicate 8 (0 : UInt8)).map byteV) w116 := hb120
  have g134 : Grow w116 w116 := Grow.refl _
  have hl135 : bk30 < w116.heap.size := hb129.lt
  have hl136 : bk53 < w116.heap.size := hb131.lt
  have hl137 : bk80 < w116.heap.size := hb133.lt
  have hz138 : w39.heap.size ≤ w116.heap.size := g125.size
  refine wp_calm_tail (l1 := [_, _]) [0, 0, 3] [([7], []), ([5], [])] [0, 6, 7] w116.heap.size hf117 g134.size (by kernel_rfl) (bund_cons (hb133.ownp hv132) (bund_cons (hb129.ownp hv128) bund_nil)) ?_
  intro ws139 hs140
  refine ch rfl (ob_slice16_own8 (arg_free 0 rfl rfl) arg_c) ?_
  refine ch rfl (ob_slice_nmF (ArgOK.ownp (arg_free 1 rfl rfl))) ?_
  refine ch_nil ?_
  intro a141 w142 hf143 hg144 hk145 hn146
  have h147 : Holds _ (a141.eval (.tmp 11)) w142 := hn146.at 0 1 rfl rfl rfl
  have h148 : Holds _ (a141.eval (.tmp 12)) w142 := hn146.at 1 0 rfl rfl rfl
  have h149 := hk145.holds rfl h127
  have hv150 : Holds (Is (PtrV bk53)) (a141.eval (.tmp 6)) w142 := is_any (hk145.holds rfl hv130)
  have hb151 := hb131.up hg144
  have hv152 : Holds (Is (PtrV bk80)) (a141.eval (.tmp 7)) w142 := is_any (hk145.holds rfl hv132)
  have hb153 := hb133.up hg144
  have g154 := g122.trans hg144
  have g155 := g123.trans hg144
  have g156 := g124.trans hg144
  have g157 := g125.trans hg144
  have g158 := g134.trans hg144
  clear h127 hv130 hb131 hv132 hb133 g122 g123 g124 g125 g134 hf117 hk145 hn146
  obtain ⟨V159, h160, hV161⟩ := nameV h148
  clear h148
  refine wl_copy [0, 6, 7] hf143 (by kernel_rfl) rfl Try.underlying34 h147 hb153 (SlF.sl (unV h160 hV161)) ?_ ?_
  · (show (16 : Nat) ≤ 16; decide)
  intro a162 w163 hf164 ho165 hk166 hb167 h168
  have g169 : Grow w0 w163 := g154.only ho165 (by omega)
  have g170 : Grow w2 w163 := g155.only ho165 (by omega)
  have g171 : Grow w19 w163 := g156.only ho165 (by omega)
  have g172 : Grow w39 w163 := g157.only ho165 (by omega)
  have h174 : Holds _ (a162.eval (.tmp 0)) w0 := (hk166.holds rfl h149)
  have hv175 : Holds (Is (PtrV bk53)) (a162.eval (.tmp 6)) w163 := is_any (hk166.holds rfl hv150)
  have hb176 : Blk bk53 _ w163 := hb151.only ho165 (by omega)
  have hv177 : Holds (Is (PtrV bk80)) (a162.eval (.tmp 7)) w163 := is_any (hk166.holds rfl hv152)
  refine wpList_nil ?_
  refine then_ ?_
  refine wp_seq ?_
  have hb178 : Blk bk80 ((nmBytes x ++ nmBytes y).map byteV) w163 := hb167
  have g179 : Grow w163 w163 := Grow.refl _
  have hl180 : bk53 < w163.heap.size := hb176.lt
  have hl181 : bk80 < w163.heap.size := hb178.lt
  have hz182 : w39.heap.size ≤ w163.heap.size := g172.size
  refine wp_region_lit ?_
  refine wp_seg (l1 := [_, _, _]) [([0], []), ([7], []), ([], [0, 1])] [6] w163.heap.size hf164 g179.size (by kernel_rfl) (bund_cons (is_any h174) (bund_cons (hb178.ownp hv177) bund_nil)) ?_
  refine ch rfl (ob_move (arg_free 0 rfl rfl)) ?_
  refine ch rfl (ob_slice16 (arg_free 1 rfl rfl) ?_) ?_
  · rfl
  refine ch rfl (ob_call2 (by kernel_rfl) (c_Tagged ?_) (arg_op 0 1 rfl rfl rfl rfl) (ArgOK.fsl (arg_op 1 0 rfl rfl rfl rfl))) ?_
  · ((try simp only [List.length_append, List.length_cons, List.length_nil, nmBytes_len, List.length_take, List.length_drop]); omega)
  refine ch_nil ?_
  intro a183 w184 hf185 hg186 hk187 hn188
  have h189 : Holds _ (a183.eval (.tmp 16)) w184 := hn188.at 2 0 rfl rfl rfl
  have hv190 : Holds (Is (PtrV bk53)) (a183.eval (.tmp 6)) w184 := is_any (hk187.holds rfl hv175)
  have hb191 := hb176.up hg186
  have g192 := g169.trans hg186
  have g193 := g170.trans hg186
  have g194 := g171.trans hg186
  have g195 := g172.trans hg186
  have g196 := g179.trans hg186
  clear hv175 hb176 g169 g170 g171 g172 g179 hf164 hk187 hn188
  refine wl_store_nm hv190 hb191 rfl h189 ?_
  intro w197 ho198 hb199
  have g200 : Grow w0 w197 := g192.only ho198 (by omega)
  have g201 : Grow w2 w197 := g193.only ho198 (by omega)
  have g202 : Grow w19 w197 := g194.only ho198 (by omega)
  have hv205 : Holds (Is (PtrV bk53)) (a183.eval (.tmp 6)) w197 := is_any hv190
  refine wpList_nil ?_
  refine then_ ?_
  refine wp_ret ?_
  refine ret_cell rfl Try.underlying23 rfl (by kernel_rfl) hf185 g200 (hb199.ptr hv205) ?_
  exact rfl
end Ex
end Go.Proofs.Ytnmfiiejhoafnaa
