/- Tags: Tagged and Pair of the program and of the reference; the hash leaves its argument alone. -/
import Derived.Test.YtnmfiiejhoafnaaGreatPvHash2
import Derived.Test.YtnmfiiejhoafnaaGreatPvTwo
import Derived.Test.YtnmfiiejhoafnaaGreatPvApp
set_option linter.unusedSimpArgs false
set_option linter.unusedVariables false
namespace Go.Proofs.YtnmfiiejhoafnaaGreat
namespace Ex
open Go Calm Go.RowKit
def tagged (t : UInt8) (b : List UInt8) : UInt64 := sum (t :: b)
def pairN (t : UInt8) (x y : UInt64) : UInt64 := tagged t (nmBytes x ++ nmBytes y)
set_option maxRecDepth 100000 in
theorem c_Tagged {t : UInt8} {l : List UInt8} (hl : l.length ≤ 140737488355327) : Con2 69 (Is (byteV t)) (Sl elByte l) (fun _ => Is (nmV (tagged t l))) := by
  intro lo v0 v1 w0 hlo hv0 hv1
  refine enter Tryz.func69 rfl Tryz.ntmps69 (by simp) ?_
  intro a0 hf0 ha
  have h00 : Holds _ (a0.eval (.tmp 0)) w0 := arg_holds ha rfl hv0
  have h01 : Holds (Is v1) (a0.eval (.tmp 1)) w0 := arg_holds ha rfl rfl
  clear ha
  have g0 : Grow w0 w0 := Grow.refl _
  refine wp_seq ?_
  refine wp_region_lit ?_
  refine wp_all [([], [])] [0, 1] w0.heap.size hf0 g0.size (by kernel_rfl) bund_nil ?_
  refine ch rfl (ob_alloc_nm) ?_
  refine ch_nil ?_
  intro a1 w2 hf3 hg4 hk5 hn6
  have h7 : Holds _ (a1.eval (.tmp 4)) w2 := hn6.at 0 0 rfl rfl rfl
  have h8 := hk5.holds rfl h00
  have h9 := hk5.holds rfl h01
  have g10 := g0.trans hg4
  obtain ⟨bk11, hl12, hv13, hb14⟩ := OwnB.blk (lo := w0.heap.size) h7
  clear h00 h01 g0 hf0 hk5 hn6
  refine then_ ?_
  refine wp_seq ?_
  have g15 : Grow w2 w2 := Grow.refl _
  have hl16 : bk11 < w2.heap.size := hb14.lt
  have hz17 : w0.heap.size ≤ w2.heap.size := g10.size
  refine wp_region_lit ?_
  refine wp_all [([], []), ([], [0])] [0, 1, 4] w2.heap.size hf3 g15.size (by kernel_rfl) bund_nil ?_
  refine ch rfl (ob_make0 elByteP (c := 160) Tryz.underlying99 arg_c arg_c ?_) ?_
  · decide
  refine ch rfl (ob_assign (arg_op 0 0 rfl rfl rfl rfl)) ?_
  refine ch_nil ?_
  intro a18 w19 hf20 hg21 hk22 hn23
  have h24 : Holds (OwnS w2.heap.size _ _) (a18.eval (.tmp 5)) w19 := hn23.at 1 0 rfl rfl rfl
  have h25 := hk22.holds rfl h8
  have h26 := hk22.holds rfl h9
  have hv27 : Holds (Is (PtrV bk11)) (a18.eval (.tmp 4)) w19 := is_any (hk22.holds rfl hv13)
  have hb28 := hb14.up hg21
  have g29 := g10.trans hg21
  have g30 := g15.trans hg21
  clear h8 h9 hv13 hb14 g10 g15 hf3 hk22 hn23
  obtain ⟨V31, h32, hV33⟩ := nameV h24
  clear h24
  refine then_ ?_
  refine wp_seq ?_
  have g34 : Grow w19 w19 := Grow.refl _
  have hl35 : bk11 < w19.heap.size := hb28.lt
  have hz36 : w2.heap.size ≤ w19.heap.size := g30.size
  refine wp_region_lit ?_
  refine wp_seg (l1 := [_, _, _]) [([5], []), ([0], []), ([], [1])] [1, 4] w19.heap.size hf20 g34.size (by kernel_rfl) (bund_cons h32 (bund_cons (is_any h25) bund_nil)) ?_
  refine ch rfl (ob_move (arg_free 0 rfl rfl)) ?_
  refine ch rfl (ob_move (arg_free 1 rfl rfl)) ?_
  refine ch rfl (ob_bs1_byte (arg_op 1 0 rfl rfl rfl rfl)) ?_
  refine ch_nil ?_
  intro a37 w38 hf39 hg40 hk41 hn42
  have h43 : Holds _ (a37.eval (.tmp 7)) w38 := hn42.at 0 2 rfl rfl rfl
  have h44 : Holds (OwnF w19.heap.size _ _) (a37.eval (.tmp 9)) w38 := hn42.at 2 0 rfl rfl rfl
  have h45 := hk41.holds rfl h26
  have hv46 : Holds (Is (PtrV bk11)) (a37.eval (.tmp 4)) w38 := is_any (hk41.holds rfl hv27)
  have hb47 := hb28.up hg40
  have g48 := g29.trans hg40
  have g49 := g30.trans hg40
  have g50 := g34.trans hg40
  clear h26 hv27 hb28 g29 g30 g34 hf20 hk41 hn42
  obtain ⟨V51, h52, hV53⟩ := nameV h44
  clear h44
  refine wl_appendW elByteP [1, 4] hf39 (by kernel_rfl) rfl Tryz.underlying99 (unV h43 (hV33.up g50)) (OwnS.sl (OwnF.own (unV h52 hV53))) ?_ ?_ g49.size ?_
  · ((try simp only [List.length_append, List.length_cons, List.length_nil, nmBytes_len, elByte, elNm, elInt, maxLen]); omega)
  · ((try simp only [List.length_append, List.length_cons, List.length_nil, nmBytes_len, elByte, elNm, elInt, maxLen]); omega)
  intro a54 w55 hf56 hw57 hk58 h59
  have g60 : Grow w0 w55 := g48.wr hw57 (by omega)
  have g61 : Grow w2 w55 := g49.wr hw57 (by omega)
  have h62 : Holds _ (a54.eval (.tmp 1)) w55 := is_any (hk58.holds rfl h45)
  have hv63 : Holds (Is (PtrV bk11)) (a54.eval (.tmp 4)) w55 := is_any (hk58.holds rfl hv46)
  have hb64 : Blk bk11 _ w55 := hb47.wr hw57 (by omega)
  obtain ⟨V65, h66, hV67⟩ := nameV h59
  clear h59
  refine wp_seg (l1 := [_]) [([1], [])] [4, 10] w2.heap.size hf56 g61.size (by kernel_rfl) (bund_cons h62 bund_nil) ?_
  refine ch rfl (ob_move (arg_free 0 rfl rfl)) ?_
  refine ch_nil ?_
  intro a68 w69 hf70 hg71 hk72 hn73
  have h74 : Holds _ (a68.eval (.tmp 11)) w69 := hn73.at 0 0 rfl rfl rfl
  have h75 := hk72.holds rfl (h66.up hg71)
  have hv76 : Holds (Is (PtrV bk11)) (a68.eval (.tmp 4)) w69 := is_any (hk72.holds rfl hv63)
  have hb77 := hb64.up hg71
  have g78 := g60.trans hg71
  have g79 := g61.trans hg71
  have hV80 := hV67.up hg71
  clear h66 hv63 hb64 g60 g61 hf56 hk72 hn73 hg71 hV67
  refine wl_appendW elByteP [4] hf70 (by kernel_rfl) rfl Tryz.underlying99 (unV h75 hV80) (unV h74 (hv1.up g78)) ?_ ?_ g79.size ?_
  · ((try simp only [List.length_append, List.length_cons, List.length_nil, nmBytes_len, elByte, elNm, elInt, maxLen]); omega)
  · ((try simp only [List.length_append, List.length_cons, List.length_nil, nmBytes_len, elByte, elNm, elInt, maxLen]); omega)
  intro a81 w82 hf83 hw84 hk85 h86
  have g87 : Grow w0 w82 := g78.wr hw84 (by omega)
  have g88 : Grow w2 w82 := g79.wr hw84 (by omega)
  have hv89 : Holds (Is (PtrV bk11)) (a81.eval (.tmp 4)) w82 := is_any (hk85.holds rfl hv76)
  have hb90 : Blk bk11 _ w82 := hb77.wr hw84 (by omega)
  obtain ⟨V91, h92, hV93⟩ := nameV h86
  clear h86
  refine wp_seg (l1 := [_]) [([12], [])] [4] w2.heap.size hf83 g88.size (by kernel_rfl) (bund_cons h92 bund_nil) ?_
  refine ch rfl (ob_call1 (by kernel_rfl) (c_Sum ?_) (ArgOK.sl (ArgOK.val (arg_free 0 rfl rfl) hV93))) ?_
  · ((try simp only [List.length_append, List.length_cons, List.length_nil, List.length_take, nmBytes_len]); omega)
  refine ch_nil ?_
  intro a94 w95 hf96 hg97 hk98 hn99
  have h100 : Holds _ (a94.eval (.tmp 13)) w95 := hn99.at 0 0 rfl rfl rfl
  have hv101 : Holds (Is (PtrV bk11)) (a94.eval (.tmp 4)) w95 := is_any (hk98.holds rfl hv89)
  have hb102 := hb90.up hg97
  have g103 := g87.trans hg97
  have g104 := g88.trans hg97
  clear hv89 hb90 g87 g88 hf83 hk98 hn99 hg97
  refine wl_store_nm hv101 hb102 rfl h100 ?_
  intro w105 ho106 hb107
  have g108 : Grow w0 w105 := g103.only ho106 (by omega)
  have hv110 : Holds (Is (PtrV bk11)) (a94.eval (.tmp 4)) w105 := is_any hv101
  refine wpList_nil ?_
  refine then_ ?_
  refine wp_ret ?_
  refine ret_cell rfl Tryz.underlying30 rfl (by kernel_rfl) hf96 g108 (hb107.ptr hv110) ?_
  exact rfl
set_option maxRecDepth 100000 in
theorem c_rTagged {t : UInt8} {l : List UInt8} (hl : l.length ≤ 140737488355327) : Con2 88 (Is (byteV t)) (Sl elByte l) (fun _ => Is (nmV (tagged t l))) := by
  intro lo v0 v1 w0 hlo hv0 hv1
  refine enter Tryz.func88 rfl Tryz.ntmps88 (by simp) ?_
  intro a0 hf0 ha
  have h00 : Holds _ (a0.eval (.tmp 0)) w0 := arg_holds ha rfl hv0
  have h01 : Holds (Is v1) (a0.eval (.tmp 1)) w0 := arg_holds ha rfl rfl
  clear ha
  have g0 : Grow w0 w0 := Grow.refl _
  refine wp_seq ?_
  refine wp_region_lit ?_
  refine wp_all [([], [])] [0, 1] w0.heap.size hf0 g0.size (by kernel_rfl) bund_nil ?_
  refine ch rfl (ob_alloc_nm) ?_
  refine ch_nil ?_
  intro a1 w2 hf3 hg4 hk5 hn6
  have h7 : Holds _ (a1.eval (.tmp 4)) w2 := hn6.at 0 0 rfl rfl rfl
  have h8 := hk5.holds rfl h00
  have h9 := hk5.holds rfl h01
  have g10 := g0.trans hg4
  obtain ⟨bk11, hl12, hv13, hb14⟩ := OwnB.blk (lo := w0.heap.size) h7
  clear h00 h01 g0 hf0 hk5 hn6
  refine then_ ?_
  refine wp_seq ?_
  have g15 : Grow w2 w2 := Grow.refl _
  have hl16 : bk11 < w2.heap.size := hb14.lt
  have hz17 : w0.heap.size ≤ w2.heap.size := g10.size
  refine wp_region_lit ?_
  refine wp_seg (l1 := [_, _, _]) [([], []), ([0], []), ([], [1])] [1, 4] w2.heap.size hf3 g15.size (by kernel_rfl) (bund_cons (is_any h8) bund_nil) ?_
  refine ch rfl (ob_make0 elByteP (c := 160) Tryz.underlying99 arg_c arg_c ?_) ?_
  · decide
  refine ch rfl (ob_move (arg_free 0 rfl rfl)) ?_
  refine ch rfl (ob_bs1_byte (arg_op 1 0 rfl rfl rfl rfl)) ?_
  refine ch_nil ?_
  intro a18 w19 hf20 hg21 hk22 hn23
  have h24 : Holds (OwnS w2.heap.size _ _) (a18.eval (.tmp 5)) w19 := hn23.at 0 2 rfl rfl rfl
  have h25 : Holds (OwnF w2.heap.size _ _) (a18.eval (.tmp 7)) w19 := hn23.at 2 0 rfl rfl rfl
  have h26 := hk22.holds rfl h9
  have hv27 : Holds (Is (PtrV bk11)) (a18.eval (.tmp 4)) w19 := is_any (hk22.holds rfl hv13)
  have hb28 := hb14.up hg21
  have g29 := g10.trans hg21
  have g30 := g15.trans hg21
  clear h9 hv13 hb14 g10 g15 hf3 hk22 hn23
  obtain ⟨V31, h32, hV33⟩ := nameV h24
  clear h24
  obtain ⟨V34, h35, hV36⟩ := nameV h25
  clear h25
  refine wl_appendW elByteP [1, 4] hf20 (by kernel_rfl) rfl Tryz.underlying99 (unV h32 hV33) (OwnS.sl (OwnF.own (unV h35 hV36))) ?_ ?_ g30.size ?_
  · ((try simp only [List.length_append, List.length_cons, List.length_nil, nmBytes_len, elByte, elNm, elInt, maxLen]); omega)
  · ((try simp only [List.length_append, List.length_cons, List.length_nil, nmBytes_len, elByte, elNm, elInt, maxLen]); omega)
  intro a37 w38 hf39 hw40 hk41 h42
  have g43 : Grow w0 w38 := g29.wr hw40 (by omega)
  have g44 : Grow w2 w38 := g30.wr hw40 (by omega)
  have h45 : Holds _ (a37.eval (.tmp 1)) w38 := is_any (hk41.holds rfl h26)
  have hv46 : Holds (Is (PtrV bk11)) (a37.eval (.tmp 4)) w38 := is_any (hk41.holds rfl hv27)
  have hb47 : Blk bk11 _ w38 := hb28.wr hw40 (by omega)
  obtain ⟨V48, h49, hV50⟩ := nameV h42
  clear h42
  refine wp_seg (l1 := [_]) [([1], [])] [4, 8] w2.heap.size hf39 g44.size (by kernel_rfl) (bund_cons h45 bund_nil) ?_
  refine ch rfl (ob_move (arg_free 0 rfl rfl)) ?_
  refine ch_nil ?_
  intro a51 w52 hf53 hg54 hk55 hn56
  have h57 : Holds _ (a51.eval (.tmp 9)) w52 := hn56.at 0 0 rfl rfl rfl
  have h58 := hk55.holds rfl (h49.up hg54)
  have hv59 : Holds (Is (PtrV bk11)) (a51.eval (.tmp 4)) w52 := is_any (hk55.holds rfl hv46)
  have hb60 := hb47.up hg54
  have g61 := g43.trans hg54
  have g62 := g44.trans hg54
  have hV63 := hV50.up hg54
  clear h49 hv46 hb47 g43 g44 hf39 hk55 hn56 hg54 hV50
  refine wl_appendW elByteP [4] hf53 (by kernel_rfl) rfl Tryz.underlying99 (unV h58 hV63) (unV h57 (hv1.up g61)) ?_ ?_ g62.size ?_
  · ((try simp only [List.length_append, List.length_cons, List.length_nil, nmBytes_len, elByte, elNm, elInt, maxLen]); omega)
  · ((try simp only [List.length_append, List.length_cons, List.length_nil, nmBytes_len, elByte, elNm, elInt, maxLen]); omega)
  intro a64 w65 hf66 hw67 hk68 h69
  have g70 : Grow w0 w65 := g61.wr hw67 (by omega)
  have g71 : Grow w2 w65 := g62.wr hw67 (by omega)
  have hv72 : Holds (Is (PtrV bk11)) (a64.eval (.tmp 4)) w65 := is_any (hk68.holds rfl hv59)
  have hb73 : Blk bk11 _ w65 := hb60.wr hw67 (by omega)
  obtain ⟨V74, h75, hV76⟩ := nameV h69
  clear h69
  refine wp_seg (l1 := [_]) [([10], [])] [4] w2.heap.size hf66 g71.size (by kernel_rfl) (bund_cons h75 bund_nil) ?_
  refine ch rfl (ob_call1 (by kernel_rfl) (c_rSum ?_) (ArgOK.sl (ArgOK.val (arg_free 0 rfl rfl) hV76))) ?_
  · ((try simp only [List.length_append, List.length_cons, List.length_nil, List.length_take, nmBytes_len]); omega)
  refine ch_nil ?_
  intro a77 w78 hf79 hg80 hk81 hn82
  have h83 : Holds _ (a77.eval (.tmp 11)) w78 := hn82.at 0 0 rfl rfl rfl
  have hv84 : Holds (Is (PtrV bk11)) (a77.eval (.tmp 4)) w78 := is_any (hk81.holds rfl hv72)
  have hb85 := hb73.up hg80
  have g86 := g70.trans hg80
  have g87 := g71.trans hg80
  clear hv72 hb73 g70 g71 hf66 hk81 hn82 hg80
  refine wl_store_nm hv84 hb85 rfl h83 ?_
  intro w88 ho89 hb90
  have g91 : Grow w0 w88 := g86.only ho89 (by omega)
  have hv93 : Holds (Is (PtrV bk11)) (a77.eval (.tmp 4)) w88 := is_any hv84
  refine wpList_nil ?_
  refine then_ ?_
  refine wp_ret ?_
  refine ret_cell rfl Tryz.underlying30 rfl (by kernel_rfl) hf79 g91 (hb90.ptr hv93) ?_
  exact rfl
set_option maxRecDepth 100000 in
theorem c_Pair {t : UInt8} {x y : UInt64} : Con3 105 (Is (byteV t)) (Is (nmV x)) (Is (nmV y)) (fun _ => Is (nmV (pairN t x y))) := by
  intro lo v0 v1 v2 w0 hlo hv0 hv1 hv2
  refine enter Tryz.func105 rfl Tryz.ntmps105 (by simp) ?_
  intro a0 hf0 ha
  have h00 : Holds _ (a0.eval (.tmp 0)) w0 := arg_holds ha rfl hv0
  have h01 : Holds _ (a0.eval (.tmp 1)) w0 := arg_holds ha rfl hv1
  have h02 : Holds _ (a0.eval (.tmp 2)) w0 := arg_holds ha rfl hv2
  clear ha
  have g0 : Grow w0 w0 := Grow.refl _
  refine wp_seq ?_
  refine wp_region_lit ?_
  refine wp_seg (l1 := [_]) [([1], [])] [0, 2] w0.heap.size hf0 g0.size (by kernel_rfl) (bund_cons h01 bund_nil) ?_
  refine ch rfl (ob_box_nm (arg_free 0 rfl rfl)) ?_
  refine ch_nil ?_
  intro a1 w2 hf3 hg4 hk5 hn6
  have h7 : Holds _ (a1.eval (.tmp 4)) w2 := hn6.at 0 0 rfl rfl rfl
  have h8 := hk5.holds rfl h00
  have h9 := hk5.holds rfl h02
  have g10 := g0.trans hg4
  obtain ⟨bk11, hl12, hv13, hb14⟩ := OwnB.blk (lo := w0.heap.size) h7
  clear h00 h02 g0 hf0 hk5 hn6
  have g15 : Grow w2 w2 := Grow.refl _
  have hl16 : bk11 < w2.heap.size := hb14.lt
  have hz17 : w0.heap.size ≤ w2.heap.size := g10.size
  refine wp_seg (l1 := [_]) [([2], [])] [0, 4] w2.heap.size hf3 g15.size (by kernel_rfl) (bund_cons (is_any h9) bund_nil) ?_
  refine ch rfl (ob_box_nm (arg_free 0 rfl rfl)) ?_
  refine ch_nil ?_
  intro a18 w19 hf20 hg21 hk22 hn23
  have h24 : Holds _ (a18.eval (.tmp 5)) w19 := hn23.at 0 0 rfl rfl rfl
  have h25 := hk22.holds rfl h8
  have hv26 : Holds (Is (PtrV bk11)) (a18.eval (.tmp 4)) w19 := is_any (hk22.holds rfl hv13)
  have hb27 := hb14.up hg21
  have g28 := g10.trans hg21
  have g29 := g15.trans hg21
  obtain ⟨bk30, hl31, hv32, hb33⟩ := OwnB.blk (lo := w2.heap.size) h24
  clear h8 hv13 hb14 g10 g15 hf3 hk22 hn23
  have g34 : Grow w19 w19 := Grow.refl _
  have hl35 : bk11 < w19.heap.size := hb27.lt
  have hl36 : bk30 < w19.heap.size := hb33.lt
  have hz37 : w2.heap.size ≤ w19.heap.size := g29.size
  refine wp_all [([], [])] [0, 4, 5] w19.heap.size hf20 g34.size (by kernel_rfl) bund_nil ?_
  refine ch rfl (ob_alloc_nm) ?_
  refine ch_nil ?_
  intro a38 w39 hf40 hg41 hk42 hn43
  have h44 : Holds _ (a38.eval (.tmp 6)) w39 := hn43.at 0 0 rfl rfl rfl
  have h45 := hk42.holds rfl h25
  have hv46 : Holds (Is (PtrV bk11)) (a38.eval (.tmp 4)) w39 := is_any (hk42.holds rfl hv26)
  have hb47 := hb27.up hg41
  have hv48 : Holds (Is (PtrV bk30)) (a38.eval (.tmp 5)) w39 := is_any (hk42.holds rfl hv32)
  have hb49 := hb33.up hg41
  have g50 := g28.trans hg41
  have g51 := g29.trans hg41
  have g52 := g34.trans hg41
  obtain ⟨bk53, hl54, hv55, hb56⟩ := OwnB.blk (lo := w19.heap.size) h44
  clear h25 hv26 hb27 hv32 hb33 g28 g29 g34 hf20 hk42 hn43
  refine then_ ?_
  refine wp_seq ?_
  refine wp_region_lit ?_
  have g57 : Grow w39 w39 := Grow.refl _
  have hl58 : bk11 < w39.heap.size := hb47.lt
  have hl59 : bk30 < w39.heap.size := hb49.lt
  have hl60 : bk53 < w39.heap.size := hb56.lt
  have hz61 : w19.heap.size ≤ w39.heap.size := g52.size
  refine wp_all [([], [])] [0, 4, 5, 6] w39.heap.size hf40 g57.size (by kernel_rfl) bund_nil ?_
  refine ch rfl (ob_alloc_b16) ?_
  refine ch_nil ?_
  intro a62 w63 hf64 hg65 hk66 hn67
  have h68 : Holds _ (a62.eval (.tmp 7)) w63 := hn67.at 0 0 rfl rfl rfl
  have h69 := hk66.holds rfl h45
  have hv70 : Holds (Is (PtrV bk11)) (a62.eval (.tmp 4)) w63 := is_any (hk66.holds rfl hv46)
  have hb71 := hb47.up hg65
  have hv72 : Holds (Is (PtrV bk30)) (a62.eval (.tmp 5)) w63 := is_any (hk66.holds rfl hv48)
  have hb73 := hb49.up hg65
  have hv74 : Holds (Is (PtrV bk53)) (a62.eval (.tmp 6)) w63 := is_any (hk66.holds rfl hv55)
  have hb75 := hb56.up hg65
  have g76 := g50.trans hg65
  have g77 := g51.trans hg65
  have g78 := g52.trans hg65
  have g79 := g57.trans hg65
  obtain ⟨bk80, hl81, hv82, hb83⟩ := OwnB.blk (lo := w39.heap.size) h68
  clear h45 hv46 hb47 hv48 hb49 hv55 hb56 g50 g51 g52 g57 hf40 hk66 hn67
  refine then_ ?_
  refine wp_seq ?_
  have g84 : Grow w63 w63 := Grow.refl _
  have hl85 : bk11 < w63.heap.size := hb71.lt
  have hl86 : bk30 < w63.heap.size := hb73.lt
  have hl87 : bk53 < w63.heap.size := hb75.lt
  have hl88 : bk80 < w63.heap.size := hb83.lt
  have hz89 : w39.heap.size ≤ w63.heap.size := g79.size
  refine wp_calm_tail (l1 := [_, _]) [0, 0, 3] [([7], []), ([4], [])] [0, 5, 6, 7] w63.heap.size hf64 g84.size (by kernel_rfl) (bund_cons (hb83.ownp hv82) (bund_cons (hb71.ownp hv70) bund_nil)) ?_
  intro ws90 hs91
  refine ch rfl (ob_slice16_own (arg_free 0 rfl rfl)) ?_
  refine ch rfl (ob_slice_nmF (ArgOK.ownp (arg_free 1 rfl rfl))) ?_
  refine ch_nil ?_
  intro a92 w93 hf94 hg95 hk96 hn97
  have h98 : Holds _ (a92.eval (.tmp 8)) w93 := hn97.at 0 1 rfl rfl rfl
  have h99 : Holds _ (a92.eval (.tmp 9)) w93 := hn97.at 1 0 rfl rfl rfl
  have h100 := hk96.holds rfl h69
  have hv101 : Holds (Is (PtrV bk30)) (a92.eval (.tmp 5)) w93 := is_any (hk96.holds rfl hv72)
  have hb102 := hb73.up hg95
  have hv103 : Holds (Is (PtrV bk53)) (a92.eval (.tmp 6)) w93 := is_any (hk96.holds rfl hv74)
  have hb104 := hb75.up hg95
  have hv105 : Holds (Is (PtrV bk80)) (a92.eval (.tmp 7)) w93 := is_any (hk96.holds rfl hv82)
  have hb106 := hb83.up hg95
  have g107 := g76.trans hg95
  have g108 := g77.trans hg95
  have g109 := g78.trans hg95
  have g110 := g79.trans hg95
  have g111 := g84.trans hg95
  clear h69 hv72 hb73 hv74 hb75 hv82 hb83 g76 g77 g78 g79 g84 hf64 hk96 hn97
  obtain ⟨V112, h113, hV114⟩ := nameV h99
  clear h99
  refine wl_copy [0, 5, 6, 7] hf94 (by kernel_rfl) rfl Tryz.underlying99 h98 hb106 (SlF.sl (unV h113 hV114)) ?_ ?_
  · (show (8 : Nat) ≤ 16; decide)
  intro a115 w116 hf117 ho118 hk119 hb120 h121
  have g122 : Grow w0 w116 := g107.only ho118 (by omega)
  have g123 : Grow w2 w116 := g108.only ho118 (by omega)
  have g124 : Grow w19 w116 := g109.only ho118 (by omega)
  have g125 : Grow w39 w116 := g110.only ho118 (by omega)
  have h127 : Holds _ (a115.eval (.tmp 0)) w0 := (hk119.holds rfl h100)
  have hv128 : Holds (Is (PtrV bk30)) (a115.eval (.tmp 5)) w116 := is_any (hk119.holds rfl hv101)
  have hb129 : Blk bk30 _ w116 := hb102.only ho118 (by omega)
  have hv130 : Holds (Is (PtrV bk53)) (a115.eval (.tmp 6)) w116 := is_any (hk119.holds rfl hv103)
  have hb131 : Blk bk53 _ w116 := hb104.only ho118 (by omega)
  have hv132 : Holds (Is (PtrV bk80)) (a115.eval (.tmp 7)) w116 := is_any (hk119.holds rfl hv105)
  refine wpList_nil ?_
  refine then_ ?_
  refine wp_seq ?_
  have hb133 : Blk bk80 ((nmBytes x ++ List.replicate 8 (0 : UInt8)).map byteV) w116 := hb120
  have g134 : Grow w116 w116 := Grow.refl _
  have hl135 : bk30 < w116.heap.size := hb129.lt
  have hl136 : bk53 < w116.heap.size := hb131.lt
  have hl137 : bk80 < w116.heap.size := hb133.lt
  have hz138 : w39.heap.size ≤ w116.heap.size := g125.size
  refine wp_calm_tail (l1 := [_, _]) [0, 0, 3] [([7], []), ([5], [])] [0, 6, 7] w116.heap.size hf117 g134.size (by kernel_rfl) (bund_cons (hb133.ownp hv132) (bund_cons (hb129.ownp hv128) bund_nil)) ?_
  intro ws139 hs140
  refine ch rfl (ob_slice16_own8 (arg_free 0 rfl rfl) arg_c) ?_
  refine ch rfl (ob_slice_nmF (ArgOK.ownp (arg_free 1 rfl rfl))) ?_
  refine ch_nil ?_
  intro a141 w142 hf143 hg144 hk145 hn146
  have h147 : Holds _ (a141.eval (.tmp 11)) w142 := hn146.at 0 1 rfl rfl rfl
  have h148 : Holds _ (a141.eval (.tmp 12)) w142 := hn146.at 1 0 rfl rfl rfl
  have h149 := hk145.holds rfl h127
  have hv150 : Holds (Is (PtrV bk53)) (a141.eval (.tmp 6)) w142 := is_any (hk145.holds rfl hv130)
  have hb151 := hb131.up hg144
  have hv152 : Holds (Is (PtrV bk80)) (a141.eval (.tmp 7)) w142 := is_any (hk145.holds rfl hv132)
  have hb153 := hb133.up hg144
  have g154 := g122.trans hg144
  have g155 := g123.trans hg144
  have g156 := g124.trans hg144
  have g157 := g125.trans hg144
  have g158 := g134.trans hg144
  clear h127 hv130 hb131 hv132 hb133 g122 g123 g124 g125 g134 hf117 hk145 hn146
  obtain ⟨V159, h160, hV161⟩ := nameV h148
  clear h148
  refine wl_copy [0, 6, 7] hf143 (by kernel_rfl) rfl Tryz.underlying99 h147 hb153 (SlF.sl (unV h160 hV161)) ?_ ?_
  · (show (16 : Nat) ≤ 16; decide)
  intro a162 w163 hf164 ho165 hk166 hb167 h168
  have g169 : Grow w0 w163 := g154.only ho165 (by omega)
  have g170 : Grow w2 w163 := g155.only ho165 (by omega)
  have g171 : Grow w19 w163 := g156.only ho165 (by omega)
  have g172 : Grow w39 w163 := g157.only ho165 (by omega)
  have h174 : Holds _ (a162.eval (.tmp 0)) w0 := (hk166.holds rfl h149)
  have hv175 : Holds (Is (PtrV bk53)) (a162.eval (.tmp 6)) w163 := is_any (hk166.holds rfl hv150)
  have hb176 : Blk bk53 _ w163 := hb151.only ho165 (by omega)
  have hv177 : Holds (Is (PtrV bk80)) (a162.eval (.tmp 7)) w163 := is_any (hk166.holds rfl hv152)
  refine wpList_nil ?_
  refine then_ ?_
  refine wp_seq ?_
  have hb178 : Blk bk80 ((nmBytes x ++ nmBytes y).map byteV) w163 := hb167
  have g179 : Grow w163 w163 := Grow.refl _
  have hl180 : bk53 < w163.heap.size := hb176.lt
  have hl181 : bk80 < w163.heap.size := hb178.lt
  have hz182 : w39.heap.size ≤ w163.heap.size := g172.size
  refine wp_region_lit ?_
  refine wp_seg (l1 := [_, _, _]) [([0], []), ([7], []), ([], [0, 1])] [6] w163.heap.size hf164 g179.size (by kernel_rfl) (bund_cons (is_any h174) (bund_cons (hb178.ownp hv177) bund_nil)) ?_
  refine ch rfl (ob_move (arg_free 0 rfl rfl)) ?_
  refine ch rfl (ob_slice16 (arg_free 1 rfl rfl) ?_) ?_
  · rfl
  refine ch rfl (ob_call2 (by kernel_rfl) (c_Tagged ?_) (arg_op 0 1 rfl rfl rfl rfl) (ArgOK.fsl (arg_op 1 0 rfl rfl rfl rfl))) ?_
  · ((try simp only [List.length_append, List.length_cons, List.length_nil, nmBytes_len, List.length_take, List.length_drop]); omega)
  refine ch_nil ?_
  intro a183 w184 hf185 hg186 hk187 hn188
  have h189 : Holds _ (a183.eval (.tmp 16)) w184 := hn188.at 2 0 rfl rfl rfl
  have hv190 : Holds (Is (PtrV bk53)) (a183.eval (.tmp 6)) w184 := is_any (hk187.holds rfl hv175)
  have hb191 := hb176.up hg186
  have g192 := g169.trans hg186
  have g193 := g170.trans hg186
  have g194 := g171.trans hg186
  have g195 := g172.trans hg186
  have g196 := g179.trans hg186
  clear hv175 hb176 g169 g170 g171 g172 g179 hf164 hk187 hn188
  refine wl_store_nm hv190 hb191 rfl h189 ?_
  intro w197 ho198 hb199
  have g200 : Grow w0 w197 := g192.only ho198 (by omega)
  have g201 : Grow w2 w197 := g193.only ho198 (by omega)
  have g202 : Grow w19 w197 := g194.only ho198 (by omega)
  have hv205 : Holds (Is (PtrV bk53)) (a183.eval (.tmp 6)) w197 := is_any hv190
  refine wpList_nil ?_
  refine then_ ?_
  refine wp_ret ?_
  refine ret_cell rfl Tryz.underlying30 rfl (by kernel_rfl) hf185 g200 (hb199.ptr hv205) ?_
  exact rfl
set_option maxRecDepth 100000 in
theorem c_rPair {t : UInt8} {x y : UInt64} : Con3 90 (Is (byteV t)) (Is (nmV x)) (Is (nmV y)) (fun _ => Is (nmV (pairN t x y))) := by
  intro lo v0 v1 v2 w0 hlo hv0 hv1 hv2
  refine enter Tryz.func90 rfl Tryz.ntmps90 (by simp) ?_
  intro a0 hf0 ha
  have h00 : Holds _ (a0.eval (.tmp 0)) w0 := arg_holds ha rfl hv0
  have h01 : Holds _ (a0.eval (.tmp 1)) w0 := arg_holds ha rfl hv1
  have h02 : Holds _ (a0.eval (.tmp 2)) w0 := arg_holds ha rfl hv2
  clear ha
  have g0 : Grow w0 w0 := Grow.refl _
  refine wp_seq ?_
  refine wp_region_lit ?_
  refine wp_seg (l1 := [_]) [([1], [])] [0, 2] w0.heap.size hf0 g0.size (by kernel_rfl) (bund_cons h01 bund_nil) ?_
  refine ch rfl (ob_box_nm (arg_free 0 rfl rfl)) ?_
  refine ch_nil ?_
  intro a1 w2 hf3 hg4 hk5 hn6
  have h7 : Holds _ (a1.eval (.tmp 4)) w2 := hn6.at 0 0 rfl rfl rfl
  have h8 := hk5.holds rfl h00
  have h9 := hk5.holds rfl h02
  have g10 := g0.trans hg4
  obtain ⟨bk11, hl12, hv13, hb14⟩ := OwnB.blk (lo := w0.heap.size) h7
  clear h00 h02 g0 hf0 hk5 hn6
  have g15 : Grow w2 w2 := Grow.refl _
  have hl16 : bk11 < w2.heap.size := hb14.lt
  have hz17 : w0.heap.size ≤ w2.heap.size := g10.size
  refine wp_seg (l1 := [_]) [([2], [])] [0, 4] w2.heap.size hf3 g15.size (by kernel_rfl) (bund_cons (is_any h9) bund_nil) ?_
  refine ch rfl (ob_box_nm (arg_free 0 rfl rfl)) ?_
  refine ch_nil ?_
  intro a18 w19 hf20 hg21 hk22 hn23
  have h24 : Holds _ (a18.eval (.tmp 5)) w19 := hn23.at 0 0 rfl rfl rfl
  have h25 := hk22.holds rfl h8
  have hv26 : Holds (Is (PtrV bk11)) (a18.eval (.tmp 4)) w19 := is_any (hk22.holds rfl hv13)
  have hb27 := hb14.up hg21
  have g28 := g10.trans hg21
  have g29 := g15.trans hg21
  obtain ⟨bk30, hl31, hv32, hb33⟩ := OwnB.blk (lo := w2.heap.size) h24
  clear h8 hv13 hb14 g10 g15 hf3 hk22 hn23
  have g34 : Grow w19 w19 := Grow.refl _
  have hl35 : bk11 < w19.heap.size := hb27.lt
  have hl36 : bk30 < w19.heap.size := hb33.lt
  have hz37 : w2.heap.size ≤ w19.heap.size := g29.size
  refine wp_all [([], [])] [0, 4, 5] w19.heap.size hf20 g34.size (by kernel_rfl) bund_nil ?_
  refine ch rfl (ob_alloc_nm) ?_
  refine ch_nil ?_
  intro a38 w39 hf40 hg41 hk42 hn43
  have h44 : Holds _ (a38.eval (.tmp 6)) w39 := hn43.at 0 0 rfl rfl rfl
  have h45 := hk42.holds rfl h25
  have hv46 : Holds (Is (PtrV bk11)) (a38.eval (.tmp 4)) w39 := is_any (hk42.holds rfl hv26)
  have hb47 := hb27.up hg41
  have hv48 : Holds (Is (PtrV bk30)) (a38.eval (.tmp 5)) w39 := is_any (hk42.holds rfl hv32)
  have hb49 := hb33.up hg41
  have g50 := g28.trans hg41
  have g51 := g29.trans hg41
  have g52 := g34.trans hg41
  obtain ⟨bk53, hl54, hv55, hb56⟩ := OwnB.blk (lo := w19.heap.size) h44
  clear h25 hv26 hb27 hv32 hb33 g28 g29 g34 hf20 hk42 hn43
  refine then_ ?_
  refine wp_seq ?_
  have g57 : Grow w39 w39 := Grow.refl _
  have hl58 : bk11 < w39.heap.size := hb47.lt
  have hl59 : bk30 < w39.heap.size := hb49.lt
  have hl60 : bk53 < w39.heap.size := hb56.lt
  have hz61 : w19.heap.size ≤ w39.heap.size := g52.size
  refine wp_calm2 (l1 := [_, _, _, _, _]) (l2 := [_, _, _]) [] (some 0) [0, 0, 0, 6, 0, 30, 63, 127] [([0], []), ([], []), ([4], []), ([], [1, 2]), ([5], [])] [0, 6] w39.heap.size hf40 g57.size (by kernel_rfl) (bund_cons (is_any h45) (bund_cons (hb47.ownp hv46) (bund_cons (hb49.ownp hv48) bund_nil))) ?_
  intro ws62 hs63
  refine ch rfl (ob_move (arg_free 0 rfl rfl)) ?_
  refine ch rfl (ob_bs0_byte ) ?_
  refine ch rfl (ob_slice_nmF (ArgOK.ownp (arg_free 1 rfl rfl))) ?_
  refine ch rfl (ob_append_fresh elByteP Tryz.underlying99 (arg_op 1 1 rfl rfl rfl rfl) (ArgOK.fsl (arg_op 2 0 rfl rfl rfl rfl)) ?_) ?_
  · (refine ⟨?_, ?_⟩ <;> ((try simp only [List.length_append, List.length_cons, List.length_nil, nmBytes_len, elByte, elNm, elInt, maxLen]); omega))
  refine ch rfl (ob_slice_nmF (ArgOK.ownp (arg_free 2 rfl rfl))) ?_
  refine ch_nil ?_
  refine ⟨ptrok0, ?_, ?_⟩
  · intro a65 w66 hf67 hg68 hk69 hn70 hap64
    have h71 : Holds _ (a65.eval (.tmp 7)) w66 := hn70.at 0 4 rfl rfl rfl
    have h72 : Holds (OwnS w39.heap.size _ _) (a65.eval (.tmp 10)) w66 := hn70.at 3 1 rfl rfl rfl
    have h73 : Holds _ (a65.eval (.tmp 11)) w66 := hn70.at 4 0 rfl rfl rfl
    have h74 := hk69.holds rfl h45
    have hv75 : Holds (Is (PtrV bk53)) (a65.eval (.tmp 6)) w66 := is_any (hk69.holds rfl hv55)
    have hb76 := hb56.up hg68
    have g77 := g50.trans hg68
    have g78 := g51.trans hg68
    have g79 := g52.trans hg68
    have g80 := g57.trans hg68
    clear h45 hv55 hb56 g50 g51 g52 g57 hf40 hk69 hn70
    obtain ⟨V81, h82, hV83⟩ := nameV h72
    clear h72
    obtain ⟨V84, h85, hV86⟩ := nameV h73
    clear h73
    refine wl_appendW elByteP [6, 7] hf67 (by kernel_rfl) rfl Tryz.underlying99 (unV h82 hV83) (SlF.sl (unV h85 hV86)) ?_ ?_ g80.size ?_
    · ((try simp only [List.length_append, List.length_cons, List.length_nil, nmBytes_len, elByte, elNm, elInt, maxLen]); omega)
    · ((try simp only [List.length_append, List.length_cons, List.length_nil, nmBytes_len, elByte, elNm, elInt, maxLen]); omega)
    intro a87 w88 hf89 hw90 hk91 h92
    have g93 : Grow w0 w88 := g77.wr hw90 (by omega)
    have g94 : Grow w2 w88 := g78.wr hw90 (by omega)
    have g95 : Grow w19 w88 := g79.wr hw90 (by omega)
    have g96 : Grow w39 w88 := g80.wr hw90 (by omega)
    have h97 : Holds _ (a87.eval (.tmp 7)) w88 := is_any (hk91.holds rfl h71)
    have hv98 : Holds (Is (PtrV bk53)) (a87.eval (.tmp 6)) w88 := is_any (hk91.holds rfl hv75)
    have hb99 : Blk bk53 _ w88 := hb76.wr hw90 (by omega)
    obtain ⟨V100, h101, hV102⟩ := nameV h92
    clear h92
    refine wp_seg (l1 := [_]) [([7, 12], [])] [6] w39.heap.size hf89 g96.size (by kernel_rfl) (bund_cons h97 (bund_cons h101 bund_nil)) ?_
    refine ch rfl (ob_call2 (by kernel_rfl) (c_rTagged ?_) (arg_free 0 rfl rfl) (ArgOK.sl (ArgOK.val (arg_free 1 rfl rfl) hV102))) ?_
    · ((try simp only [List.length_append, List.length_cons, List.length_nil, nmBytes_len, List.length_take, List.length_drop]); omega)
    refine ch_nil ?_
    intro a103 w104 hf105 hg106 hk107 hn108
    have h109 : Holds _ (a103.eval (.tmp 13)) w104 := hn108.at 0 0 rfl rfl rfl
    have hv110 : Holds (Is (PtrV bk53)) (a103.eval (.tmp 6)) w104 := is_any (hk107.holds rfl hv98)
    have hb111 := hb99.up hg106
    have g112 := g93.trans hg106
    have g113 := g94.trans hg106
    have g114 := g95.trans hg106
    have g115 := g96.trans hg106
    clear hv98 hb99 g93 g94 g95 g96 hf89 hk107 hn108 hg106
    refine wl_store_nm hv110 hb111 rfl h109 ?_
    intro w116 ho117 hb118
    have g119 : Grow w0 w116 := g112.only ho117 (by omega)
    have g120 : Grow w2 w116 := g113.only ho117 (by omega)
    have g121 : Grow w19 w116 := g114.only ho117 (by omega)
    have hv123 : Holds (Is (PtrV bk53)) (a103.eval (.tmp 6)) w116 := is_any hv110
    refine wpList_nil ?_
    refine then_ ?_
    refine wp_ret ?_
    refine ret_cell rfl Tryz.underlying30 rfl (by kernel_rfl) hf105 g119 (hb118.ptr hv123) ?_
    exact rfl
  · intro dd hdd
    obtain rfl := Option.some.inj hdd
    intro a125 w126 hf127 hg128 hk129 hn130 hap124
    have h131 : Holds (OwnS w39.heap.size _ _) (a125.eval (.tmp 10)) w126 := hn130.at 3 1 rfl rfl rfl
    have h132 : Holds _ (a125.eval (.tmp 11)) w126 := hn130.at 4 0 rfl rfl rfl
    have h133 := hk129.holds rfl h45
    have hv134 : Holds (Is (PtrV bk53)) (a125.eval (.tmp 6)) w126 := is_any (hk129.holds rfl hv55)
    have hb135 := hb56.up hg128
    have g136 := g50.trans hg128
    have g137 := g51.trans hg128
    have g138 := g52.trans hg128
    have g139 := g57.trans hg128
    clear h45 hv55 hb56 g50 g51 g52 g57 hf40 hk129 hn130
    obtain ⟨V140, h141, hV142⟩ := nameV h131
    clear h131
    obtain ⟨V143, h144, hV145⟩ := nameV h132
    clear h132
    refine wl_appendW elByteP [0, 6] hf127 (by kernel_rfl) rfl Tryz.underlying99 (unV h141 hV142) (SlF.sl (unV h144 hV145)) ?_ ?_ g139.size ?_
    · ((try simp only [List.length_append, List.length_cons, List.length_nil, nmBytes_len, elByte, elNm, elInt, maxLen]); omega)
    · ((try simp only [List.length_append, List.length_cons, List.length_nil, nmBytes_len, elByte, elNm, elInt, maxLen]); omega)
    intro a146 w147 hf148 hw149 hk150 h151
    have g152 : Grow w0 w147 := g136.wr hw149 (by omega)
    have g153 : Grow w2 w147 := g137.wr hw149 (by omega)
    have g154 : Grow w19 w147 := g138.wr hw149 (by omega)
    have g155 : Grow w39 w147 := g139.wr hw149 (by omega)
    have h156 : Holds _ (a146.eval (.tmp 0)) w147 := is_any (hk150.holds rfl h133)
    have hv157 : Holds (Is (PtrV bk53)) (a146.eval (.tmp 6)) w147 := is_any (hk150.holds rfl hv134)
    have hb158 : Blk bk53 _ w147 := hb135.wr hw149 (by omega)
    obtain ⟨V159, h160, hV161⟩ := nameV h151
    clear h151
    refine wp_seg (l1 := [_, _]) [([0], []), ([12], [0])] [6] w39.heap.size hf148 g155.size (by kernel_rfl) (bund_cons h156 (bund_cons h160 bund_nil)) ?_
    refine ch rfl (ob_move (arg_free 0 rfl rfl)) ?_
    refine ch rfl (ob_call2 (by kernel_rfl) (c_rTagged ?_) (arg_op 0 0 rfl rfl rfl rfl) (ArgOK.sl (ArgOK.val (arg_free 1 rfl rfl) hV161))) ?_
    · ((try simp only [List.length_append, List.length_cons, List.length_nil, nmBytes_len, List.length_take, List.length_drop]); omega)
    refine ch_nil ?_
    intro a162 w163 hf164 hg165 hk166 hn167
    have h168 : Holds _ (a162.eval (.tmp 13)) w163 := hn167.at 1 0 rfl rfl rfl
    have hv169 : Holds (Is (PtrV bk53)) (a162.eval (.tmp 6)) w163 := is_any (hk166.holds rfl hv157)
    have hb170 := hb158.up hg165
    have g171 := g152.trans hg165
    have g172 := g153.trans hg165
    have g173 := g154.trans hg165
    have g174 := g155.trans hg165
    clear hv157 hb158 g152 g153 g154 g155 hf148 hk166 hn167 hg165
    refine wl_store_nm hv169 hb170 rfl h168 ?_
    intro w175 ho176 hb177
    have g178 : Grow w0 w175 := g171.only ho176 (by omega)
    have g179 : Grow w2 w175 := g172.only ho176 (by omega)
    have g180 : Grow w19 w175 := g173.only ho176 (by omega)
    have hv182 : Holds (Is (PtrV bk53)) (a162.eval (.tmp 6)) w175 := is_any hv169
    refine wpList_nil ?_
    refine then_ ?_
    refine wp_ret ?_
    refine ret_cell rfl Tryz.underlying30 rfl (by kernel_rfl) hf164 g178 (hb177.ptr hv182) ?_
    exact rfl
end Ex
end Go.Proofs.YtnmfiiejhoafnaaGreat
