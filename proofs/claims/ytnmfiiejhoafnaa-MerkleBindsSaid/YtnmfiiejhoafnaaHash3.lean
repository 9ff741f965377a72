/- Tags: Tagged and Pair of the program and of the reference; the hash leaves its argument alone. -/
import Derived.Test.YtnmfiiejhoafnaaHash2
import Derived.Test.YtnmfiiejhoafnaaApp
namespace Go.Proofs.Ytnmfiiejhoafnaa
namespace Ex
open Go Calm Go.RowKit

def tagged (t : UInt8) (b : List UInt8) : UInt64 := sum (t :: b)
def pairN (t : UInt8) (x y : UInt64) : UInt64 := tagged t (nmBytes x ++ nmBytes y)

set_option maxRecDepth 100000 in
theorem c_Tagged {t : UInt8} {l : List UInt8} (hl : l.length ≤ 140737488355327) : Con2 46 (Is (byteV t)) (Sl elByte l) (fun _ => Is (nmV (tagged t l))) := by
  intro lo v0 v1 w0 hlo hv0 hv1
  refine enter Try.func46 rfl Try.ntmps46 (by simp) ?_
  intro a0 hf0 ha
  have h00 : Holds _ (a0.eval (.tmp 0)) w0 := arg_holds ha rfl hv0
  have h01 : Holds (Is v1) (a0.eval (.tmp 1)) w0 := arg_holds ha rfl rfl
  clear ha
  have g0 : Grow w0 w0 := Grow.refl _
  refine wp_seq ?_
  refine wp_region_lit ?_
  refine wp_all [([], [])] [0, 1] w0.heap.size hf0 g0.size (by kernel_rfl) bund_nil ?_
  refine ch rfl (ob_alloc_nm) ?_
  refine ch_nil ?_
  intro a1 w2 hf3 hg4 hk5 hn6
  have h7 : Holds _ (a1.eval (.tmp 4)) w2 := hn6.at 0 0 rfl rfl rfl
  have h8 : Holds _ (a1.eval (.tmp 0)) w0 := hk5.holds rfl h00
  have h9 : Holds _ (a1.eval (.tmp 1)) w0 := hk5.holds rfl h01
  have g10 : Grow w0 w2 := g0.trans hg4
  obtain ⟨bk11, hl12, hv13, hb14⟩ := OwnB.blk (lo := w0.heap.size) h7
  clear h00 h01 g0 hf0 hk5 hn6
  refine then_ ?_
  refine wp_seq ?_
  have g15 : Grow w2 w2 := Grow.refl _
  have hl16 : bk11 < w2.heap.size := hb14.lt
  have hz17 : w0.heap.size ≤ w2.heap.size := g10.size
  refine wp_region_lit ?_
  refine wp_all [([], []), ([], [0])] [0, 1, 4] w2.heap.size hf3 g15.size (by kernel_rfl) bund_nil ?_
  refine ch rfl (ob_make0 elByteP (c := 160) Try.underlying34 arg_c arg_c ?_) ?_
  · decide
  refine ch rfl (ob_assign (arg_op 0 0 rfl rfl rfl rfl)) ?_
  refine ch_nil ?_
  intro a18 w19 hf20 hg21 hk22 hn23
  have h24 : Holds (OwnS w2.heap.size _ _) (a18.eval (.tmp 5)) w19 := hn23.at 1 0 rfl rfl rfl
  have h25 : Holds _ (a18.eval (.tmp 0)) w0 := hk22.holds rfl h8
  have h26 : Holds _ (a18.eval (.tmp 1)) w0 := hk22.holds rfl h9
  have hv27 : Holds (Is (PtrV bk11)) (a18.eval (.tmp 4)) w19 := is_any (hk22.holds rfl hv13)
  have hb28 : Blk bk11 _ w19 := hb14.up hg21
  have g29 : Grow w0 w19 := g10.trans hg21
  have g30 : Grow w2 w19 := g15.trans hg21
  clear h8 h9 hv13 hb14 g10 g15 hf3 hk22 hn23
  obtain ⟨V31, h32, hV33⟩ := nameV h24
  clear h24
  refine then_ ?_
  refine wp_seq ?_
  have g34 : Grow w19 w19 := Grow.refl _
  have hl35 : bk11 < w19.heap.size := hb28.lt
  have hz36 : w2.heap.size ≤ w19.heap.size := g30.size
  refine wp_region_lit ?_
  refine wp_seg (l1 := [_, _, _]) [([5], []), ([0], []), ([], [1])] [1, 4] w19.heap.size hf20 g34.size (by kernel_rfl) (bund_cons h32 (bund_cons (is_any h25) bund_nil)) ?_
  refine ch rfl (ob_move (arg_free 0 rfl rfl)) ?_
  refine ch rfl (ob_move (arg_free 1 rfl rfl)) ?_
  refine ch rfl (ob_bs1_byte (arg_op 1 0 rfl rfl rfl rfl)) ?_
  refine ch_nil ?_
  intro a37 w38 hf39 hg40 hk41 hn42
  have h43 : Holds _ (a37.eval (.tmp 7)) w38 := hn42.at 0 2 rfl rfl rfl
  have h44 : Holds (OwnF w19.heap.size _ _) (a37.eval (.tmp 9)) w38 := hn42.at 2 0 rfl rfl rfl
  have h45 : Holds _ (a37.eval (.tmp 1)) w0 := hk41.holds rfl h26
  have hv46 : Holds (Is (PtrV bk11)) (a37.eval (.tmp 4)) w38 := is_any (hk41.holds rfl hv27)
  have hb47 : Blk bk11 _ w38 := hb28.up hg40
  have g48 : Grow w0 w38 := g29.trans hg40
  have g49 : Grow w2 w38 := g30.trans hg40
  have g50 : Grow w19 w38 := g34.trans hg40
  clear h26 hv27 hb28 g29 g30 g34 hf20 hk41 hn42
  obtain ⟨V51, h52, hV53⟩ := nameV h44
  clear h44
  refine wl_appendW elByteP [1, 4] hf39 (by kernel_rfl) rfl Try.underlying34 (unV h43 (hV33.up g50)) (OwnS.sl (OwnF.own (unV h52 hV53))) ?_ ?_ g49.size ?_
  · ((try simp only [List.length_append, List.length_cons, List.length_nil, nmBytes_len, elByte, elNm, elInt, maxLen]); omega)
  · ((try simp only [List.length_append, List.length_cons, List.length_nil, nmBytes_len, elByte, elNm, elInt, maxLen]); omega)
  intro a54 w55 hf56 hw57 hk58 h59
  have g60 : Grow w0 w55 := g48.wr hw57 (by omega)
  have g61 : Grow w2 w55 := g49.wr hw57 (by omega)
  have h62 : Holds _ (a54.eval (.tmp 1)) w55 := is_any (hk58.holds rfl h45)
  have hv63 : Holds (Is (PtrV bk11)) (a54.eval (.tmp 4)) w55 := is_any (hk58.holds rfl hv46)
  have hb64 : Blk bk11 _ w55 := hb47.wr hw57 (by omega)
  obtain ⟨V65, h66, hV67⟩ := nameV h59
  clear h59
  refine wp_seg (l1 := [_]) [([1], [])] [4, 10] w2.heap.size hf56 g61.size (by kernel_rfl) (bund_cons h62 bund_nil) ?_
  refine ch rfl (ob_move (arg_free 0 rfl rfl)) ?_
  refine ch_nil ?_
  intro a68 w69 hf70 hg71 hk72 hn73
  have h74 : Holds _ (a68.eval (.tmp 11)) w69 := hn73.at 0 0 rfl rfl rfl
  have h75 : Holds _ (a68.eval (.tmp 10)) w69 := hk72.holds rfl (h66.up hg71)
  have hv76 : Holds (Is (PtrV bk11)) (a68.eval (.tmp 4)) w69 := is_any (hk72.holds rfl hv63)
  have hb77 : Blk bk11 _ w69 := hb64.up hg71
  have g78 : Grow w0 w69 := g60.trans hg71
  have g79 : Grow w2 w69 := g61.trans hg71
  have hV80 : Holds _ V65 w69 := hV67.up hg71
  clear h66 hv63 hb64 g60 g61 hf56 hk72 hn73 hg71 hV67
  refine wl_appendW elByteP [4] hf70 (by kernel_rfl) rfl Try.underlying34 (unV h75 hV80) (unV h74 (hv1.up g78)) ?_ ?_ g79.size ?_
  · ((try simp only [List.length_append, List.length_cons, List.length_nil, nmBytes_len, elByte, elNm, elInt, maxLen]); omega)
  · ((try simp only [List.length_append, List.length_cons, List.length_nil, nmBytes_len, elByte, elNm, elInt, maxLen]); omega)
  intro a81 w82 hf83 hw84 hk85 h86
  have g87 : Grow w0 w82 := g78.wr hw84 (by omega)
  have g88 : Grow w2 w82 := g79.wr hw84 (by omega)
  have hv89 : Holds (Is (PtrV bk11)) (a81.eval (.tmp 4)) w82 := is_any (hk85.holds rfl hv76)
  have hb90 : Blk bk11 _ w82 := hb77.wr hw84 (by omega)
  obtain ⟨V91, h92, hV93⟩ := nameV h86
  clear h86
  refine wp_seg (l1 := [_]) [([12], [])] [4] w2.heap.size hf83 g88.size (by kernel_rfl) (bund_cons h92 bund_nil) ?_
  refine ch rfl (ob_call1 (by kernel_rfl) (c_Sum ?_) (ArgOK.sl (ArgOK.val (arg_free 0 rfl rfl) hV93))) ?_
  · ((try simp only [List.length_append, List.length_cons, List.length_nil, List.length_take, nmBytes_len]); omega)
  refine ch_nil ?_
  intro a94 w95 hf96 hg97 hk98 hn99
  have h100 : Holds _ (a94.eval (.tmp 13)) w95 := hn99.at 0 0 rfl rfl rfl
  have hv101 : Holds (Is (PtrV bk11)) (a94.eval (.tmp 4)) w95 := is_any (hk98.holds rfl hv89)
  have hb102 : Blk bk11 _ w95 := hb90.up hg97
  have g103 : Grow w0 w95 := g87.trans hg97
  have g104 : Grow w2 w95 := g88.trans hg97
  clear hv89 hb90 g87 g88 hf83 hk98 hn99 hg97
  refine wl_store_nm hv101 hb102 rfl h100 ?_
  intro w105 ho106 hb107
  have g108 : Grow w0 w105 := g103.only ho106 (by omega)
  have hv109 : Holds (Is (PtrV bk11)) (a94.eval (.tmp 4)) w105 := is_any hv101
  refine wpList_nil ?_
  refine then_ ?_
  refine wp_ret ?_
  refine ret_cell rfl Try.underlying23 rfl (by kernel_rfl) hf96 g108 (hb107.ptr hv109) ?_
  exact rfl

set_option maxRecDepth 100000 in
theorem c_rTagged {t : UInt8} {l : List UInt8} (hl : l.length ≤ 140737488355327) : Con2 48 (Is (byteV t)) (Sl elByte l) (fun _ => Is (nmV (tagged t l))) := by
  intro lo v0 v1 w0 hlo hv0 hv1
  refine enter Try.func48 rfl Try.ntmps48 (by simp) ?_
  intro a0 hf0 ha
  have h00 : Holds _ (a0.eval (.tmp 0)) w0 := arg_holds ha rfl hv0
  have h01 : Holds (Is v1) (a0.eval (.tmp 1)) w0 := arg_holds ha rfl rfl
  clear ha
  have g0 : Grow w0 w0 := Grow.refl _
  refine wp_seq ?_
  refine wp_region_lit ?_
  refine wp_all [([], [])] [0, 1] w0.heap.size hf0 g0.size (by kernel_rfl) bund_nil ?_
  refine ch rfl (ob_alloc_nm) ?_
  refine ch_nil ?_
  intro a1 w2 hf3 hg4 hk5 hn6
  have h7 : Holds _ (a1.eval (.tmp 4)) w2 := hn6.at 0 0 rfl rfl rfl
  have h8 : Holds _ (a1.eval (.tmp 0)) w0 := hk5.holds rfl h00
  have h9 : Holds _ (a1.eval (.tmp 1)) w0 := hk5.holds rfl h01
  have g10 : Grow w0 w2 := g0.trans hg4
  obtain ⟨bk11, hl12, hv13, hb14⟩ := OwnB.blk (lo := w0.heap.size) h7
  clear h00 h01 g0 hf0 hk5 hn6
  refine then_ ?_
  refine wp_seq ?_
  have g15 : Grow w2 w2 := Grow.refl _
  have hl16 : bk11 < w2.heap.size := hb14.lt
  have hz17 : w0.heap.size ≤ w2.heap.size := g10.size
  refine wp_region_lit ?_
  refine wp_seg (l1 := [_, _, _]) [([], []), ([0], []), ([], [1])] [1, 4] w2.heap.size hf3 g15.size (by kernel_rfl) (bund_cons (is_any h8) bund_nil) ?_
  refine ch rfl (ob_make0 elByteP (c := 160) Try.underlying34 arg_c arg_c ?_) ?_
  · decide
  refine ch rfl (ob_move (arg_free 0 rfl rfl)) ?_
  refine ch rfl (ob_bs1_byte (arg_op 1 0 rfl rfl rfl rfl)) ?_
  refine ch_nil ?_
  intro a18 w19 hf20 hg21 hk22 hn23
  have h24 : Holds (OwnS w2.heap.size _ _) (a18.eval (.tmp 5)) w19 := hn23.at 0 2 rfl rfl rfl
  have h25 : Holds (OwnF w2.heap.size _ _) (a18.eval (.tmp 7)) w19 := hn23.at 2 0 rfl rfl rfl
  have h26 : Holds _ (a18.eval (.tmp 1)) w0 := hk22.holds rfl h9
  have hv27 : Holds (Is (PtrV bk11)) (a18.eval (.tmp 4)) w19 := is_any (hk22.holds rfl hv13)
  have hb28 : Blk bk11 _ w19 := hb14.up hg21
  have g29 : Grow w0 w19 := g10.trans hg21
  have g30 : Grow w2 w19 := g15.trans hg21
  clear h9 hv13 hb14 g10 g15 hf3 hk22 hn23
  obtain ⟨V31, h32, hV33⟩ := nameV h24
  clear h24
  obtain ⟨V34, h35, hV36⟩ := nameV h25
  clear h25
  refine wl_appendW elByteP [1, 4] hf20 (by kernel_rfl) rfl Try.underlying34 (unV h32 hV33) (OwnS.sl (OwnF.own (unV h35 hV36))) ?_ ?_ g30.size ?_
  · ((try simp only [List.length_append, List.length_cons, List.length_nil, nmBytes_len, elByte, elNm, elInt, maxLen]); omega)
  · ((try simp only [List.length_append, List.length_cons, List.length_nil, nmBytes_len, elByte, elNm, elInt, maxLen]); omega)
  intro a37 w38 hf39 hw40 hk41 h42
  have g43 : Grow w0 w38 := g29.wr hw40 (by omega)
  have g44 : Grow w2 w38 := g30.wr hw40 (by omega)
  have h45 : Holds _ (a37.eval (.tmp 1)) w38 := is_any (hk41.holds rfl h26)
  have hv46 : Holds (Is (PtrV bk11)) (a37.eval (.tmp 4)) w38 := is_any (hk41.holds rfl hv27)
  have hb47 : Blk bk11 _ w38 := hb28.wr hw40 (by omega)
  obtain ⟨V48, h49, hV50⟩ := nameV h42
  clear h42
  refine wp_seg (l1 := [_]) [([1], [])] [4, 8] w2.heap.size hf39 g44.size (by kernel_rfl) (bund_cons h45 bund_nil) ?_
  refine ch rfl (ob_move (arg_free 0 rfl rfl)) ?_
  refine ch_nil ?_
  intro a51 w52 hf53 hg54 hk55 hn56
  have h57 : Holds _ (a51.eval (.tmp 9)) w52 := hn56.at 0 0 rfl rfl rfl
  have h58 : Holds _ (a51.eval (.tmp 8)) w52 := hk55.holds rfl (h49.up hg54)
  have hv59 : Holds (Is (PtrV bk11)) (a51.eval (.tmp 4)) w52 := is_any (hk55.holds rfl hv46)
  have hb60 : Blk bk11 _ w52 := hb47.up hg54
  have g61 : Grow w0 w52 := g43.trans hg54
  have g62 : Grow w2 w52 := g44.trans hg54
  have hV63 : Holds _ V48 w52 := hV50.up hg54
  clear h49 hv46 hb47 g43 g44 hf39 hk55 hn56 hg54 hV50
  refine wl_appendW elByteP [4] hf53 (by kernel_rfl) rfl Try.underlying34 (unV h58 hV63) (unV h57 (hv1.up g61)) ?_ ?_ g62.size ?_
  · ((try simp only [List.length_append, List.length_cons, List.length_nil, nmBytes_len, elByte, elNm, elInt, maxLen]); omega)
  · ((try simp only [List.length_append, List.length_cons, List.length_nil, nmBytes_len, elByte, elNm, elInt, maxLen]); omega)
  intro a64 w65 hf66 hw67 hk68 h69
  have g70 : Grow w0 w65 := g61.wr hw67 (by omega)
  have g71 : Grow w2 w65 := g62.wr hw67 (by omega)
  have hv72 : Holds (Is (PtrV bk11)) (a64.eval (.tmp 4)) w65 := is_any (hk68.holds rfl hv59)
  have hb73 : Blk bk11 _ w65 := hb60.wr hw67 (by omega)
  obtain ⟨V74, h75, hV76⟩ := nameV h69
  clear h69
  refine wp_seg (l1 := [_]) [([10], [])] [4] w2.heap.size hf66 g71.size (by kernel_rfl) (bund_cons h75 bund_nil) ?_
  refine ch rfl (ob_call1 (by kernel_rfl) (c_rSum ?_) (ArgOK.sl (ArgOK.val (arg_free 0 rfl rfl) hV76))) ?_
  · ((try simp only [List.length_append, List.length_cons, List.length_nil, List.length_take, nmBytes_len]); omega)
  refine ch_nil ?_
  intro a77 w78 hf79 hg80 hk81 hn82
  have h83 : Holds _ (a77.eval (.tmp 11)) w78 := hn82.at 0 0 rfl rfl rfl
  have hv84 : Holds (Is (PtrV bk11)) (a77.eval (.tmp 4)) w78 := is_any (hk81.holds rfl hv72)
  have hb85 : Blk bk11 _ w78 := hb73.up hg80
  have g86 : Grow w0 w78 := g70.trans hg80
  have g87 : Grow w2 w78 := g71.trans hg80
  clear hv72 hb73 g70 g71 hf66 hk81 hn82 hg80
  refine wl_store_nm hv84 hb85 rfl h83 ?_
  intro w88 ho89 hb90
  have g91 : Grow w0 w88 := g86.only ho89 (by omega)
  have hv92 : Holds (Is (PtrV bk11)) (a77.eval (.tmp 4)) w88 := is_any hv84
  refine wpList_nil ?_
  refine then_ ?_
  refine wp_ret ?_
  refine ret_cell rfl Try.underlying23 rfl (by kernel_rfl) hf79 g91 (hb90.ptr hv92) ?_
  exact rfl

set_option maxRecDepth 100000 in
theorem c_Pair {t : UInt8} {x y : UInt64} : Con3 47 (Is (byteV t)) (Is (nmV x)) (Is (nmV y)) (fun _ => Is (nmV (pairN t x y))) := by
  intro lo v0 v1 v2 w0 hlo hv0 hv1 hv2
  refine enter Try.func47 rfl Try.ntmps47 (by simp) ?_
  intro a0 hf0 ha
  have h00 : Holds _ (a0.eval (.tmp 0)) w0 := arg_holds ha rfl hv0
  have h01 : Holds _ (a0.eval (.tmp 1)) w0 := arg_holds ha rfl hv1
  have h02 : Holds _ (a0.eval (.tmp 2)) w0 := arg_holds ha rfl hv2
  clear ha
  have g0 : Grow w0 w0 := Grow.refl _
  refine wp_seq ?_
  refine wp_region_lit ?_
  refine wp_seg (l1 := [_]) [([1], [])] [0, 2] w0.heap.size hf0 g0.size (by kernel_rfl) (bund_cons h01 bund_nil) ?_
  refine ch rfl (ob_box_nm (arg_free 0 rfl rfl)) ?_
  refine ch_nil ?_
  intro a1 w2 hf3 hg4 hk5 hn6
  have h7 : Holds _ (a1.eval (.tmp 4)) w2 := hn6.at 0 0 rfl rfl rfl
  have h8 : Holds _ (a1.eval (.tmp 0)) w0 := hk5.holds rfl h00
  have h9 : Holds _ (a1.eval (.tmp 2)) w0 := hk5.holds rfl h02
  have g10 : Grow w0 w2 := g0.trans hg4
  obtain ⟨bk11, hl12, hv13, hb14⟩ := OwnB.blk (lo := w0.heap.size) h7
  clear h00 h02 g0 hf0 hk5 hn6
  have g15 : Grow w2 w2 := Grow.refl _
  have hl16 : bk11 < w2.heap.size := hb14.lt
  have hz17 : w0.heap.size ≤ w2.heap.size := g10.size
  refine wp_seg (l1 := [_]) [([2], [])] [0, 4] w2.heap.size hf3 g15.size (by kernel_rfl) (bund_cons (is_any h9) bund_nil) ?_
  refine ch rfl (ob_box_nm (arg_free 0 rfl rfl)) ?_
  refine ch_nil ?_
  intro a18 w19 hf20 hg21 hk22 hn23
  have h24 : Holds _ (a18.eval (.tmp 5)) w19 := hn23.at 0 0 rfl rfl rfl
  have h25 : Holds _ (a18.eval (.tmp 0)) w0 := hk22.holds rfl h8
  have hv26 : Holds (Is (PtrV bk11)) (a18.eval (.tmp 4)) w19 := is_any (hk22.holds rfl hv13)
  have hb27 : Blk bk11 _ w19 := hb14.up hg21
  have g28 : Grow w0 w19 := g10.trans hg21
  have g29 : Grow w2 w19 := g15.trans hg21
  obtain ⟨bk30, hl31, hv32, hb33⟩ := OwnB.blk (lo := w2.heap.size) h24
  clear h8 hv13 hb14 g10 g15 hf3 hk22 hn23
  have g34 : Grow w19 w19 := Grow.refl _
  have hl35 : bk11 < w19.heap.size := hb27.lt
  have hl36 : bk30 < w19.heap.size := hb33.lt
  have hz37 : w2.heap.size ≤ w19.heap.size := g29.size
  refine wp_all [([], [])] [0, 4, 5] w19.heap.size hf20 g34.size (by kernel_rfl) bund_nil ?_
  refine ch rfl (ob_alloc_nm) ?_
  refine ch_nil ?_
  intro a38 w39 hf40 hg41 hk42 hn43
  have h44 : Holds _ (a38.eval (.tmp 6)) w39 := hn43.at 0 0 rfl rfl rfl
  have h45 : Holds _ (a38.eval (.tmp 0)) w0 := hk42.holds rfl h25
  have hv46 : Holds (Is (PtrV bk11)) (a38.eval (.tmp 4)) w39 := is_any (hk42.holds rfl hv26)
  have hb47 : Blk bk11 _ w39 := hb27.up hg41
  have hv48 : Holds (Is (PtrV bk30)) (a38.eval (.tmp 5)) w39 := is_any (hk42.holds rfl hv32)
  have hb49 : Blk bk30 _ w39 := hb33.up hg41
  have g50 : Grow w0 w39 := g28.trans hg41
  have g51 : Grow w2 w39 := g29.trans hg41
  have g52 : Grow w19 w39 := g34.trans hg41
  obtain ⟨bk53, hl54, hv55, hb56⟩ := OwnB.blk (lo := w19.heap.size) h44
  clear h25 hv26 hb27 hv32 hb33 g28 g29 g34 hf20 hk42 hn43
  refine then_ ?_
  refine wp_seq ?_
  refine wp_region_lit ?_
  have g57 : Grow w39 w39 := Grow.refl _
  have hl58 : bk11 < w39.heap.size := hb47.lt
  have hl59 : bk30 < w39.heap.size := hb49.lt
  have hl60 : bk53 < w39.heap.size := hb56.lt
  have hz61 : w19.heap.size ≤ w39.heap.size := g52.size
  refine wp_all [([], [])] [0, 4, 5, 6] w39.heap.size hf40 g57.size (by kernel_rfl) bund_nil ?_
  refine ch rfl (ob_alloc_b16) ?_
  refine ch_nil ?_
  intro a62 w63 hf64 hg65 hk66 hn67
  have h68 : Holds _ (a62.eval (.tmp 7)) w63 := hn67.at 0 0 rfl rfl rfl
  have h69 : Holds _ (a62.eval (.tmp 0)) w0 := hk66.holds rfl h45
  have hv70 : Holds (Is (PtrV bk11)) (a62.eval (.tmp 4)) w63 := is_any (hk66.holds rfl hv46)
  have hb71 : Blk bk11 _ w63 := hb47.up hg65
  have hv72 : Holds (Is (PtrV bk30)) (a62.eval (.tmp 5)) w63 := is_any (hk66.holds rfl hv48)
  have hb73 : Blk bk30 _ w63 := hb49.up hg65
  have hv74 : Holds (Is (PtrV bk53)) (a62.eval (.tmp 6)) w63 := is_any (hk66.holds rfl hv55)
  have hb75 : Blk bk53 _ w63 := hb56.up hg65
  have g76 : Grow w0 w63 := g50.trans hg65
  have g77 : Grow w2 w63 := g51.trans hg65
  have g78 : Grow w19 w63 := g52.trans hg65
  have g79 : Grow w39 w63 := g57.trans hg65
  obtain ⟨bk80, hl81, hv82, hb83⟩ := OwnB.blk (lo := w39.heap.size) h68
  clear h45 hv46 hb47 hv48 hb49 hv55 hb56 g50 g51 g52 g57 hf40 hk66 hn67
  refine then_ ?_
  refine wp_seq ?_
  have g84 : Grow w63 w63 := Grow.refl _
  have hl85 : bk11 < w63.heap.size := hb71.lt
  have hl86 : bk30 < w63.heap.size := hb73.lt
  have hl87 : bk53 < w63.heap.size := hb75.lt
  have hl88 : bk80 < w63.heap.size := hb83.lt
  have hz89 : w39.heap.size ≤ w63.heap.size := g79.size
  refine wp_calm_tail (l1 := [_, _]) [0, 0, 3] [([7], []), ([4], [])] [0, 5, 6, 7] w63.heap.size hf64 g84.size (by kernel_rfl) (bund_cons (hb83.ownp hv82) (bund_cons (hb71.ownp hv70) bund_nil)) ?_
  intro ws90 hs91
  refine ch rfl (ob_slice16_own (arg_free 0 rfl rfl)) ?_
  refine ch rfl (ob_slice_nmF (ArgOK.ownp (arg_free 1 rfl rfl))) ?_
  refine ch_nil ?_
  intro a92 w93 hf94 hg95 hk96 hn97
  have h98 : Holds _ (a92.eval (.tmp 8)) w93 := hn97.at 0 1 rfl rfl rfl
  have h99 : Holds _ (a92.eval (.tmp 9)) w93 := hn97.at 1 0 rfl rfl rfl
  have h100 : Holds _ (a92.eval (.tmp 0)) w0 := hk96.holds rfl h69
  have hv101 : Holds (Is (PtrV bk30)) (a92.eval (.tmp 5)) w93 := is_any (hk96.holds rfl hv72)
  have hb102 : Blk bk30 _ w93 := hb73.up hg95
  have hv103 : Holds (Is (PtrV bk53)) (a92.eval (.tmp 6)) w93 := is_any (hk96.holds rfl hv74)
  have hb104 : Blk bk53 _ w93 := hb75.up hg95
  have hv105 : Holds (Is (PtrV bk80)) (a92.eval (.tmp 7)) w93 := is_any (hk96.holds rfl hv82)
  have hb106 : Blk bk80 _ w93 := hb83.up hg95
  have g107 : Grow w0 w93 := g76.trans hg95
  have g108 : Grow w2 w93 := g77.trans hg95
  have g109 : Grow w19 w93 := g78.trans hg95
  have g110 : Grow w39 w93 := g79.trans hg95
  have g111 : Grow w63 w93 := g84.trans hg95
  clear h69 hv72 hb73 hv74 hb75 hv82 hb83 g76 g77 g78 g79 g84 hf64 hk96 hn97
  obtain ⟨V112, h113, hV114⟩ := nameV h99
  clear h99
  refine wl_copy [0, 5, 6, 7] hf94 (by kernel_rfl) rfl Try.underlying34 h98 hb106 (SlF.sl (unV h113 hV114)) ?_ ?_
  · (show (8 : Nat) ≤ 16; decide)
  intro a115 w116 hf117 ho118 hk119 hb120 h121
  have g122 : Grow w0 w116 := g107.only ho118 (by omega)
  have g123 : Grow w2 w116 := g108.only ho118 (by omega)
  have g124 : Grow w19 w116 := g109.only ho118 (by omega)
  have g125 : Grow w39 w116 := g110.only ho118 (by omega)
  have h126 : Holds _ (a115.eval (.tmp 0)) w0 := (hk119.holds rfl h100)
  have hv127 : Holds (Is (PtrV bk30)) (a115.eval (.tmp 5)) w116 := is_any (hk119.holds rfl hv101)
  have hb128 : Blk bk30 _ w116 := hb102.only ho118 (by omega)
  have hv129 : Holds (Is (PtrV bk53)) (a115.eval (.tmp 6)) w116 := is_any (hk119.holds rfl hv103)
  have hb130 : Blk bk53 _ w116 := hb104.only ho118 (by omega)
  have hv131 : Holds (Is (PtrV bk80)) (a115.eval (.tmp 7)) w116 := is_any (hk119.holds rfl hv105)
  refine wpList_nil ?_
  refine then_ ?_
  refine wp_seq ?_
  have hb132 : Blk bk80 ((nmBytes x ++ List.replicate 8 (0 : UInt8)).map byteV) w116 := hb120
  have g133 : Grow w116 w116 := Grow.refl _
  have hl134 : bk30 < w116.heap.size := hb128.lt
  have hl135 : bk53 < w116.heap.size := hb130.lt
  have hl136 : bk80 < w116.heap.size := hb132.lt
  have hz137 : w39.heap.size ≤ w116.heap.size := g125.size
  refine wp_calm_tail (l1 := [_, _]) [0, 0, 3] [([7], []), ([5], [])] [0, 6, 7] w116.heap.size hf117 g133.size (by kernel_rfl) (bund_cons (hb132.ownp hv131) (bund_cons (hb128.ownp hv127) bund_nil)) ?_
  intro ws138 hs139
  refine ch rfl (ob_slice16_own8 (arg_free 0 rfl rfl) arg_c) ?_
  refine ch rfl (ob_slice_nmF (ArgOK.ownp (arg_free 1 rfl rfl))) ?_
  refine ch_nil ?_
  intro a140 w141 hf142 hg143 hk144 hn145
  have h146 : Holds _ (a140.eval (.tmp 11)) w141 := hn145.at 0 1 rfl rfl rfl
  have h147 : Holds _ (a140.eval (.tmp 12)) w141 := hn145.at 1 0 rfl rfl rfl
  have h148 : Holds _ (a140.eval (.tmp 0)) w0 := hk144.holds rfl h126
  have hv149 : Holds (Is (PtrV bk53)) (a140.eval (.tmp 6)) w141 := is_any (hk144.holds rfl hv129)
  have hb150 : Blk bk53 _ w141 := hb130.up hg143
  have hv151 : Holds (Is (PtrV bk80)) (a140.eval (.tmp 7)) w141 := is_any (hk144.holds rfl hv131)
  have hb152 : Blk bk80 _ w141 := hb132.up hg143
  have g153 : Grow w0 w141 := g122.trans hg143
  have g154 : Grow w2 w141 := g123.trans hg143
  have g155 : Grow w19 w141 := g124.trans hg143
  have g156 : Grow w39 w141 := g125.trans hg143
  have g157 : Grow w116 w141 := g133.trans hg143
  clear h126 hv129 hb130 hv131 hb132 g122 g123 g124 g125 g133 hf117 hk144 hn145
  obtain ⟨V158, h159, hV160⟩ := nameV h147
  clear h147
  refine wl_copy [0, 6, 7] hf142 (by kernel_rfl) rfl Try.underlying34 h146 hb152 (SlF.sl (unV h159 hV160)) ?_ ?_
  · (show (16 : Nat) ≤ 16; decide)
  intro a161 w162 hf163 ho164 hk165 hb166 h167
  have g168 : Grow w0 w162 := g153.only ho164 (by omega)
  have g169 : Grow w2 w162 := g154.only ho164 (by omega)
  have g170 : Grow w19 w162 := g155.only ho164 (by omega)
  have g171 : Grow w39 w162 := g156.only ho164 (by omega)
  have h172 : Holds _ (a161.eval (.tmp 0)) w0 := (hk165.holds rfl h148)
  have hv173 : Holds (Is (PtrV bk53)) (a161.eval (.tmp 6)) w162 := is_any (hk165.holds rfl hv149)
  have hb174 : Blk bk53 _ w162 := hb150.only ho164 (by omega)
  have hv175 : Holds (Is (PtrV bk80)) (a161.eval (.tmp 7)) w162 := is_any (hk165.holds rfl hv151)
  refine wpList_nil ?_
  refine then_ ?_
  refine wp_seq ?_
  have hb176 : Blk bk80 ((nmBytes x ++ nmBytes y).map byteV) w162 := hb166
  have g177 : Grow w162 w162 := Grow.refl _
  have hl178 : bk53 < w162.heap.size := hb174.lt
  have hl179 : bk80 < w162.heap.size := hb176.lt
  have hz180 : w39.heap.size ≤ w162.heap.size := g171.size
  refine wp_region_lit ?_
  refine wp_seg (l1 := [_, _, _]) [([0], []), ([7], []), ([], [0, 1])] [6] w162.heap.size hf163 g177.size (by kernel_rfl) (bund_cons (is_any h172) (bund_cons (hb176.ownp hv175) bund_nil)) ?_
  refine ch rfl (ob_move (arg_free 0 rfl rfl)) ?_
  refine ch rfl (ob_slice16 (arg_free 1 rfl rfl) ?_) ?_
  · rfl
  refine ch rfl (ob_call2 (by kernel_rfl) (c_Tagged ?_) (arg_op 0 1 rfl rfl rfl rfl) (ArgOK.fsl (arg_op 1 0 rfl rfl rfl rfl))) ?_
  · ((try simp only [List.length_append, List.length_cons, List.length_nil, nmBytes_len, List.length_take, List.length_drop]); omega)
  refine ch_nil ?_
  intro a181 w182 hf183 hg184 hk185 hn186
  have h187 : Holds _ (a181.eval (.tmp 16)) w182 := hn186.at 2 0 rfl rfl rfl
  have hv188 : Holds (Is (PtrV bk53)) (a181.eval (.tmp 6)) w182 := is_any (hk185.holds rfl hv173)
  have hb189 : Blk bk53 _ w182 := hb174.up hg184
  have g190 : Grow w0 w182 := g168.trans hg184
  have g191 : Grow w2 w182 := g169.trans hg184
  have g192 : Grow w19 w182 := g170.trans hg184
  have g193 : Grow w39 w182 := g171.trans hg184
  have g194 : Grow w162 w182 := g177.trans hg184
  clear hv173 hb174 g168 g169 g170 g171 g177 hf163 hk185 hn186
  refine wl_store_nm hv188 hb189 rfl h187 ?_
  intro w195 ho196 hb197
  have g198 : Grow w0 w195 := g190.only ho196 (by omega)
  have g199 : Grow w2 w195 := g191.only ho196 (by omega)
  have g200 : Grow w19 w195 := g192.only ho196 (by omega)
  have hv201 : Holds (Is (PtrV bk53)) (a181.eval (.tmp 6)) w195 := is_any hv188
  refine wpList_nil ?_
  refine then_ ?_
  refine wp_ret ?_
  refine ret_cell rfl Try.underlying23 rfl (by kernel_rfl) hf183 g198 (hb197.ptr hv201) ?_
  exact rfl

set_option maxRecDepth 100000 in
theorem c_rPair {t : UInt8} {x y : UInt64} : Con3 117 (Is (byteV t)) (Is (nmV x)) (Is (nmV y)) (fun _ => Is (nmV (pairN t x y))) := by
  intro lo v0 v1 v2 w0 hlo hv0 hv1 hv2
  refine enter Try.func117 rfl Try.ntmps117 (by simp) ?_
  intro a0 hf0 ha
  have h00 : Holds _ (a0.eval (.tmp 0)) w0 := arg_holds ha rfl hv0
  have h01 : Holds _ (a0.eval (.tmp 1)) w0 := arg_holds ha rfl hv1
  have h02 : Holds _ (a0.eval (.tmp 2)) w0 := arg_holds ha rfl hv2
  clear ha
  have g0 : Grow w0 w0 := Grow.refl _
  refine wp_seq ?_
  refine wp_region_lit ?_
  refine wp_seg (l1 := [_]) [([1], [])] [0, 2] w0.heap.size hf0 g0.size (by kernel_rfl) (bund_cons h01 bund_nil) ?_
  refine ch rfl (ob_box_nm (arg_free 0 rfl rfl)) ?_
  refine ch_nil ?_
  intro a1 w2 hf3 hg4 hk5 hn6
  have h7 : Holds _ (a1.eval (.tmp 4)) w2 := hn6.at 0 0 rfl rfl rfl
  have h8 : Holds _ (a1.eval (.tmp 0)) w0 := hk5.holds rfl h00
  have h9 : Holds _ (a1.eval (.tmp 2)) w0 := hk5.holds rfl h02
  have g10 : Grow w0 w2 := g0.trans hg4
  obtain ⟨bk11, hl12, hv13, hb14⟩ := OwnB.blk (lo := w0.heap.size) h7
  clear h00 h02 g0 hf0 hk5 hn6
  have g15 : Grow w2 w2 := Grow.refl _
  have hl16 : bk11 < w2.heap.size := hb14.lt
  have hz17 : w0.heap.size ≤ w2.heap.size := g10.size
  refine wp_seg (l1 := [_]) [([2], [])] [0, 4] w2.heap.size hf3 g15.size (by kernel_rfl) (bund_cons (is_any h9) bund_nil) ?_
  refine ch rfl (ob_box_nm (arg_free 0 rfl rfl)) ?_
  refine ch_nil ?_
  intro a18 w19 hf20 hg21 hk22 hn23
  have h24 : Holds _ (a18.eval (.tmp 5)) w19 := hn23.at 0 0 rfl rfl rfl
  have h25 : Holds _ (a18.eval (.tmp 0)) w0 := hk22.holds rfl h8
  have hv26 : Holds (Is (PtrV bk11)) (a18.eval (.tmp 4)) w19 := is_any (hk22.holds rfl hv13)
  have hb27 : Blk bk11 _ w19 := hb14.up hg21
  have g28 : Grow w0 w19 := g10.trans hg21
  have g29 : Grow w2 w19 := g15.trans hg21
  obtain ⟨bk30, hl31, hv32, hb33⟩ := OwnB.blk (lo := w2.heap.size) h24
  clear h8 hv13 hb14 g10 g15 hf3 hk22 hn23
  have g34 : Grow w19 w19 := Grow.refl _
  have hl35 : bk11 < w19.heap.size := hb27.lt
  have hl36 : bk30 < w19.heap.size := hb33.lt
  have hz37 : w2.heap.size ≤ w19.heap.size := g29.size
  refine wp_all [([], [])] [0, 4, 5] w19.heap.size hf20 g34.size (by kernel_rfl) bund_nil ?_
  refine ch rfl (ob_alloc_nm) ?_
  refine ch_nil ?_
  intro a38 w39 hf40 hg41 hk42 hn43
  have h44 : Holds _ (a38.eval (.tmp 6)) w39 := hn43.at 0 0 rfl rfl rfl
  have h45 : Holds _ (a38.eval (.tmp 0)) w0 := hk42.holds rfl h25
  have hv46 : Holds (Is (PtrV bk11)) (a38.eval (.tmp 4)) w39 := is_any (hk42.holds rfl hv26)
  have hb47 : Blk bk11 _ w39 := hb27.up hg41
  have hv48 : Holds (Is (PtrV bk30)) (a38.eval (.tmp 5)) w39 := is_any (hk42.holds rfl hv32)
  have hb49 : Blk bk30 _ w39 := hb33.up hg41
  have g50 : Grow w0 w39 := g28.trans hg41
  have g51 : Grow w2 w39 := g29.trans hg41
  have g52 : Grow w19 w39 := g34.trans hg41
  obtain ⟨bk53, hl54, hv55, hb56⟩ := OwnB.blk (lo := w19.heap.size) h44
  clear h25 hv26 hb27 hv32 hb33 g28 g29 g34 hf20 hk42 hn43
  refine then_ ?_
  refine wp_seq ?_
  have g57 : Grow w39 w39 := Grow.refl _
  have hl58 : bk11 < w39.heap.size := hb47.lt
  have hl59 : bk30 < w39.heap.size := hb49.lt
  have hl60 : bk53 < w39.heap.size := hb56.lt
  have hz61 : w19.heap.size ≤ w39.heap.size := g52.size
  refine wp_calmx (l1 := [_, _, _, _, _, _, _]) (l2 := [_]) { chain := [5], frail := [1, 3, 5], dead := [[], [], [], [], [], [1, 3], []] } [0, 0, 0, 6, 0, 30, 63, 127] [([0], []), ([], []), ([4], []), ([], [1, 2]), ([5], []), ([], [3, 4]), ([], [0, 5])] [6] w39.heap.size hf40 g57.size (by kernel_rfl) (bund_cons (is_any h45) (bund_cons (hb47.ownp hv46) (bund_cons (hb49.ownp hv48) bund_nil))) ?_
  intro ws62 hs63 hq64
  refine chx rfl rfl (ob_move (arg_free 0 rfl rfl)) ?_
  refine chxf rfl rfl rfl (ob_bs0_byte ) ?_
  refine chx rfl rfl (ob_slice_own (arg_free 1 rfl rfl)) ?_
  refine chxf rfl rfl rfl (ob_append_fresh elByteP Try.underlying34 (arg_op 1 1 rfl rfl rfl rfl) (ArgOK.val (arg_op 2 0 rfl rfl rfl rfl) (arr_sl (hb47.up hs63))) ?_) ?_
  · (refine ⟨?_, ?_⟩ <;> ((try simp only [List.length_append, List.length_cons, List.length_nil, nmBytes_len, elByte, elNm, elInt, maxLen]); omega))
  refine chx rfl rfl (ob_slice_own (arg_free 2 rfl rfl)) ?_
  refine chxc rfl rfl rfl (ob_appendC elByteP (hlo_of hq64) Try.underlying34 (arg_op 3 1 rfl rfl rfl rfl) (ArgOK.val (arg_op 4 0 rfl rfl rfl rfl) (arr_sl (hb49.up hs63))) ?_) ?_
  · (refine ⟨?_, ?_⟩ <;> ((try simp only [List.length_append, List.length_cons, List.length_nil, nmBytes_len, elByte, elNm, elInt, maxLen]); omega))
  refine chx rfl rfl (ob_call2 (by kernel_rfl) (c_rTagged ?_) (arg_op 0 5 rfl rfl rfl rfl) (ArgOK.sl (arg_op 5 0 rfl rfl rfl rfl))) ?_
  · ((try simp only [List.length_append, List.length_cons, List.length_nil, nmBytes_len, List.length_take, List.length_drop]); omega)
  refine ch_nil ?_
  intro a65 w66 hf67 hg68 hk69 hn70
  have h71 : Holds _ (a65.eval (.tmp 13)) w66 := hn70.at 6 0 rfl rfl rfl
  have hv72 : Holds (Is (PtrV bk53)) (a65.eval (.tmp 6)) w66 := is_any (hk69.holds rfl hv55)
  have hb73 : Blk bk53 _ w66 := hb56.up hg68
  have g74 : Grow w0 w66 := g50.trans hg68
  have g75 : Grow w2 w66 := g51.trans hg68
  have g76 : Grow w19 w66 := g52.trans hg68
  have g77 : Grow w39 w66 := g57.trans hg68
  clear hv55 hb56 g50 g51 g52 g57 hf40 hk69 hn70
  refine wl_store_nm hv72 hb73 rfl h71 ?_
  intro w78 ho79 hb80
  have g81 : Grow w0 w78 := g74.only ho79 (by omega)
  have g82 : Grow w2 w78 := g75.only ho79 (by omega)
  have g83 : Grow w19 w78 := g76.only ho79 (by omega)
  have hv84 : Holds (Is (PtrV bk53)) (a65.eval (.tmp 6)) w78 := is_any hv72
  refine wpList_nil ?_
  refine then_ ?_
  refine wp_ret ?_
  refine ret_cell rfl Try.underlying23 rfl (by kernel_rfl) hf67 g81 (hb80.ptr hv84) ?_
  exact rfl

set_option maxRecDepth 100000 in
theorem c_HashPure {b m : List UInt8} (hb : b.length ≤ 140737488351232) (hm : m.length ≤ 140737488351232) : Con2 10 (Sl elByte b) (Sl elByte m) (fun _ => Is (.bool true)) := by
  intro lo v0 v1 w0 hlo hv0 hv1
  refine enter Try.func10 rfl Try.ntmps10 (by simp) ?_
  intro a0 hf0 ha
  have h00 : Holds (Is v0) (a0.eval (.tmp 0)) w0 := arg_holds ha rfl rfl
  have h01 : Holds (Is v1) (a0.eval (.tmp 1)) w0 := arg_holds ha rfl rfl
  clear ha
  have g0 : Grow w0 w0 := Grow.refl _
  refine wp_seq ?_
  refine wp_region_lit ?_
  refine wp_all [([], [])] [0, 1] w0.heap.size hf0 g0.size (by kernel_rfl) bund_nil ?_
  refine ch rfl (ob_assign arg_c) ?_
  refine ch_nil ?_
  intro a1 w2 hf3 hg4 hk5 hn6
  have h7 : Holds _ (a1.eval (.tmp 0)) w0 := hk5.holds rfl h00
  have h8 : Holds _ (a1.eval (.tmp 1)) w0 := hk5.holds rfl h01
  have g9 : Grow w0 w2 := g0.trans hg4
  clear h00 h01 g0 hf0 hk5 hn6
  refine then_ ?_
  refine wp_seq ?_
  have g10 : Grow w2 w2 := Grow.refl _
  have hz11 : w0.heap.size ≤ w2.heap.size := g9.size
  refine wp_region_lit ?_
  refine wp_seg (l1 := [_, _, _, _, _, _, _, _]) [([0], []), ([], [0]), ([1], []), ([], [2]), ([], [1, 3]), ([], [4]), ([], [5]), ([0], [])] [0, 1] w2.heap.size hf3 g10.size (by kernel_rfl) (bund_cons (is_any h7) (bund_cons (is_any h8) bund_nil)) ?_
  refine ch rfl (ob_move (arg_free 0 rfl rfl)) ?_
  refine ch rfl (ob_len (ArgOK.val (arg_op 0 0 rfl rfl rfl rfl) (hv0.up g9)) Try.underlying34) ?_
  refine ch rfl (ob_move (arg_free 1 rfl rfl)) ?_
  refine ch rfl (ob_len (ArgOK.val (arg_op 2 0 rfl rfl rfl rfl) (hv1.up g9)) Try.underlying34) ?_
  first
    | (refine ch rfl (ob_add' (arg_op 1 2 rfl rfl rfl rfl) (arg_op 3 0 rfl rfl rfl rfl) ?_) ?_; · omega)
    | refine ch rfl (ob_add (arg_op 1 2 rfl rfl rfl rfl) (arg_op 3 0 rfl rfl rfl rfl)) ?_
  first
    | (refine ch rfl (ob_add' (arg_op 4 0 rfl rfl rfl rfl) arg_c ?_) ?_; · omega)
    | refine ch rfl (ob_add (arg_op 4 0 rfl rfl rfl rfl) arg_c) ?_
  refine ch rfl (ob_make0C elByteP (c := b.length + m.length + 8) Try.underlying34 arg_c (arg_op 5 0 rfl rfl rfl rfl) ?_) ?_
  · (simp only [elByte]; omega)
  refine ch rfl (ob_move (arg_free 0 rfl rfl)) ?_
  refine ch_nil ?_
  intro a12 w13 hf14 hg15 hk16 hn17
  have h18 : Holds (OwnC w2.heap.size _ _ _) (a12.eval (.tmp 13)) w13 := hn17.at 6 1 rfl rfl rfl
  have h19 : Holds _ (a12.eval (.tmp 14)) w13 := hn17.at 7 0 rfl rfl rfl
  have h20 : Holds _ (a12.eval (.tmp 0)) w0 := hk16.holds rfl h7
  have h21 : Holds _ (a12.eval (.tmp 1)) w0 := hk16.holds rfl h8
  have g22 : Grow w0 w13 := g9.trans hg15
  have g23 : Grow w2 w13 := g10.trans hg15
  clear h7 h8 g9 g10 hf3 hk16 hn17
  obtain ⟨V24, h25, hV26⟩ := nameV h18
  clear h18
  refine wl_appendC elByteP [0, 1] hf14 (by kernel_rfl) rfl Try.underlying34 (unV h25 hV26) (unV h19 (hv0.up g22)) ?_ g23.size ?_
  · ((try simp only [List.length_append, List.length_cons, List.length_nil, nmBytes_len, elByte, elNm, elInt, maxLen]); omega)
  intro a27 w28 hf29 hw30 hk31 h32
  have g33 : Grow w0 w28 := g22.wr hw30 (by omega)
  have g34 : Grow w2 w28 := g23.wr hw30 (by omega)
  have h35 : Holds _ (a27.eval (.tmp 0)) w28 := is_any (hk31.holds rfl h20)
  have h36 : Holds _ (a27.eval (.tmp 1)) w28 := is_any (hk31.holds rfl h21)
  obtain ⟨V37, h38, hV39⟩ := nameV h32
  clear h32
  refine wp_seg (l1 := [_]) [([1], [])] [0, 1, 15] w2.heap.size hf29 g34.size (by kernel_rfl) (bund_cons h36 bund_nil) ?_
  refine ch rfl (ob_move (arg_free 0 rfl rfl)) ?_
  refine ch_nil ?_
  intro a40 w41 hf42 hg43 hk44 hn45
  have h46 : Holds _ (a40.eval (.tmp 16)) w41 := hn45.at 0 0 rfl rfl rfl
  have h47 : Holds _ (a40.eval (.tmp 0)) w41 := hk44.holds rfl (h35.up hg43)
  have h48 : Holds _ (a40.eval (.tmp 1)) w41 := hk44.holds rfl (h36.up hg43)
  have h49 : Holds _ (a40.eval (.tmp 15)) w41 := hk44.holds rfl (h38.up hg43)
  have g50 : Grow w0 w41 := g33.trans hg43
  have g51 : Grow w2 w41 := g34.trans hg43
  have hV52 : Holds _ V37 w41 := hV39.up hg43
  clear h35 h36 h38 g33 g34 hf29 hk44 hn45 hg43 hV39
  refine wl_appendC elByteP [0, 1] hf42 (by kernel_rfl) rfl Try.underlying34 (unV h49 hV52) (unV h46 (hv1.up g50)) ?_ g51.size ?_
  · ((try simp only [List.length_append, List.length_cons, List.length_nil, nmBytes_len, elByte, elNm, elInt, maxLen]); omega)
  intro a53 w54 hf55 hw56 hk57 h58
  have g59 : Grow w0 w54 := g50.wr hw56 (by omega)
  have g60 : Grow w2 w54 := g51.wr hw56 (by omega)
  have h61 : Holds _ (a53.eval (.tmp 0)) w54 := is_any (hk57.holds rfl h47)
  have h62 : Holds _ (a53.eval (.tmp 1)) w54 := is_any (hk57.holds rfl h48)
  obtain ⟨V63, h64, hV65⟩ := nameV h58
  clear h58
  refine wp_all [([17], [])] [0, 1] w2.heap.size hf55 g60.size (by kernel_rfl) (bund_cons h64 bund_nil) ?_
  refine ch rfl (ob_assign (arg_free 0 rfl rfl)) ?_
  refine ch_nil ?_
  intro a66 w67 hf68 hg69 hk70 hn71
  have h72 : Holds _ (a66.eval (.tmp 5)) w67 := hn71.at 0 0 rfl rfl rfl
  have h73 : Holds _ (a66.eval (.tmp 0)) w67 := hk70.holds rfl (h61.up hg69)
  have h74 : Holds _ (a66.eval (.tmp 1)) w67 := hk70.holds rfl (h62.up hg69)
  have g75 : Grow w0 w67 := g59.trans hg69
  have g76 : Grow w2 w67 := g60.trans hg69
  have hV77 : Holds _ V63 w67 := hV65.up hg69
  clear h61 h62 g59 g60 hf55 hk70 hn71 hg69 hV65
  refine then_ ?_
  refine wp_seq ?_
  have g78 : Grow w67 w67 := Grow.refl _
  have hz79 : w2.heap.size ≤ w67.heap.size := g76.size
  refine wp_region_lit ?_
  refine wp_seg (l1 := [_, _, _, _, _, _]) [([5], []), ([0], []), ([], [1]), ([], [0, 2]), ([], [3]), ([], [])] [0, 1, 5] w67.heap.size hf68 g78.size (by kernel_rfl) (bund_cons h72 (bund_cons h73 bund_nil)) ?_
  refine ch rfl (ob_move (arg_free 0 rfl rfl)) ?_
  refine ch rfl (ob_move (arg_free 1 rfl rfl)) ?_
  refine ch rfl (ob_len (ArgOK.val (arg_op 1 0 rfl rfl rfl rfl) (hv0.up g75)) Try.underlying34) ?_
  refine ch rfl (ob_slice_to (ArgOK.sl (ArgOK.ownc (ArgOK.val (arg_op 0 2 rfl rfl rfl rfl) hV77))) (arg_op 2 0 rfl rfl rfl rfl) (rfl) ?_ Try.underlying34 szByte) ?_
  · (simp only [List.length_append, List.length_nil]; omega)
  refine ch rfl (ob_call1 (by kernel_rfl) (c_Sum ?_) (arg_op 3 0 rfl rfl rfl rfl)) ?_
  · ((try simp only [List.length_append, List.length_cons, List.length_nil, List.length_take, nmBytes_len]); omega)
  refine ch rfl (ob_alloc_nm) ?_
  refine ch_nil ?_
  intro a80 w81 hf82 hg83 hk84 hn85
  have h86 : Holds _ (a80.eval (.tmp 22)) w81 := hn85.at 4 1 rfl rfl rfl
  have h87 : Holds _ (a80.eval (.tmp 6)) w81 := hn85.at 5 0 rfl rfl rfl
  have h88 : Holds _ (a80.eval (.tmp 5)) w67 := hk84.holds rfl h72
  have h89 : Holds _ (a80.eval (.tmp 0)) w67 := hk84.holds rfl h73
  have h90 : Holds _ (a80.eval (.tmp 1)) w67 := hk84.holds rfl h74
  have g91 : Grow w0 w81 := g75.trans hg83
  have g92 : Grow w2 w81 := g76.trans hg83
  have g93 : Grow w67 w81 := g78.trans hg83
  obtain ⟨bk94, hl95, hv96, hb97⟩ := OwnB.blk (lo := w67.heap.size) h87
  clear h72 h73 h74 g75 g76 g78 hf68 hk84 hn85
  refine wl_store_nm hv96 hb97 rfl h86 ?_
  intro w98 ho99 hb100
  have g101 : Grow w0 w98 := g91.only ho99 (by omega)
  have g102 : Grow w2 w98 := g92.only ho99 (by omega)
  have g103 : Grow w67 w98 := g93.only ho99 (by omega)
  have hv104 : Holds (Is (PtrV bk94)) (a80.eval (.tmp 6)) w98 := is_any hv96
  refine wpList_nil ?_
  refine then_ ?_
  refine wp_seq ?_
  have g105 : Grow w98 w98 := Grow.refl _
  have hl106 : bk94 < w98.heap.size := hb100.lt
  have hz107 : w67.heap.size ≤ w98.heap.size := g103.size
  refine wp_calm [0, 0, 0, 6, 14, 31, 63, 127, 255, 127, 639, 127, 2175, 7807, 16383, 32767, 65535, 131071, 131071, 393215, 1048575, 2097151, 4194303, 8388607, 16777215, 33554431] [([6], []), ([], []), ([0], []), ([], [1, 2]), ([], [3]), ([], [0, 4]), ([], [5]), ([5], [6]), ([], [7, 6]), ([0], [6]), ([], [9, 6]), ([1], [6]), ([], [11, 6]), ([], [10, 12, 6]), ([], [8, 13, 6]), ([], [6, 14]), ([], [15]), ([6], [16]), ([0], [16]), ([], [18, 16]), ([], [17, 19, 16]), ([], [16, 20]), ([], [21]), ([], [22]), ([], [22, 23]), ([], [24])] [] w98.heap.size hf82 g105.size (by kernel_rfl) (bund_cons (hb100.ownp hv104) (bund_cons (is_any h89) (bund_cons (is_any h88) (bund_cons (is_any h90) bund_nil)))) ?_
  intro ws108 hs109
  refine ch rfl (ob_load_nm (ArgOK.ownp (arg_free 0 rfl rfl))) ?_
  refine ch rfl (ob_bs0_byte ) ?_
  refine ch rfl (ob_move (arg_free 1 rfl rfl)) ?_
  refine ch rfl (ob_append_fresh elByteP Try.underlying34 (arg_op 1 1 rfl rfl rfl rfl) (ArgOK.val (arg_op 2 0 rfl rfl rfl rfl) ((hv0.up g101).up hs109)) ?_) ?_
  · (refine ⟨?_, ?_⟩ <;> ((try simp only [List.length_append, List.length_cons, List.length_nil, nmBytes_len, elByte, elNm, elInt, maxLen]); omega))
  refine ch rfl (ob_call1 (by kernel_rfl) (c_Sum ?_) (ArgOK.sl (arg_op 3 0 rfl rfl rfl rfl))) ?_
  · ((try simp only [List.length_append, List.length_cons, List.length_nil, List.length_take, nmBytes_len]); omega)
  refine ch rfl (ob_eqnm (arg_op 0 4 rfl rfl rfl rfl) (arg_op 4 0 rfl rfl rfl rfl)) ?_
  refine ch rfl (ob_move (arg_op 5 0 rfl rfl rfl rfl)) ?_
  refine chg (b := _) rfl rfl (arg_op 6 0 rfl rfl rfl rfl) (fun hb6 => ob_move (arg_free 2 rfl rfl)) ?_
  refine chg (b := _) rfl rfl (arg_op 6 1 rfl rfl rfl rfl) (fun hb6 => ob_b2s (ArgOK.sl (ArgOK.ownc (ArgOK.val (ArgOK.when (arg_op 7 0 rfl rfl rfl rfl) hb6) ((hV77.up g103).up hs109)))) Try.underlying34 Try.underlying9) ?_
  refine chg (b := _) rfl rfl (arg_op 6 2 rfl rfl rfl rfl) (fun hb6 => ob_move (arg_free 1 rfl rfl)) ?_
  refine chg (b := _) rfl rfl (arg_op 6 3 rfl rfl rfl rfl) (fun hb6 => ob_b2s (ArgOK.val (ArgOK.when (arg_op 9 0 rfl rfl rfl rfl) hb6) ((hv0.up g101).up hs109)) Try.underlying34 Try.underlying9) ?_
  refine chg (b := _) rfl rfl (arg_op 6 4 rfl rfl rfl rfl) (fun hb6 => ob_move (arg_free 3 rfl rfl)) ?_
  refine chg (b := _) rfl rfl (arg_op 6 5 rfl rfl rfl rfl) (fun hb6 => ob_b2s (ArgOK.val (ArgOK.when (arg_op 11 0 rfl rfl rfl rfl) hb6) ((hv1.up g101).up hs109)) Try.underlying34 Try.underlying9) ?_
  refine chg (b := _) rfl rfl (arg_op 6 6 rfl rfl rfl rfl) (fun hb6 => ob_add_str (ArgOK.when (arg_op 10 2 rfl rfl rfl rfl) hb6) (ArgOK.when (arg_op 12 0 rfl rfl rfl rfl) hb6) ?_) ?_
  · ((try simp only [List.length_append, List.length_cons, List.length_nil, nmBytes_len, elByte, elNm, elInt, maxLen]); omega)
  refine chg (b := _) rfl rfl (arg_op 6 7 rfl rfl rfl rfl) (fun hb6 => ob_eql_str (ArgOK.when (arg_op 8 5 rfl rfl rfl rfl) hb6) (ArgOK.when (arg_op 13 0 rfl rfl rfl rfl) hb6)) ?_
  refine ch rfl (ob_and (arg_op 6 8 rfl rfl rfl rfl) (arg_op 14 0 rfl rfl rfl rfl)) ?_
  refine ch rfl (ob_move (arg_op 15 0 rfl rfl rfl rfl)) ?_
  refine chg (b := _) rfl rfl (arg_op 16 0 rfl rfl rfl rfl) (fun hb16 => ob_load_nm (ArgOK.ownp (arg_free 0 rfl rfl))) ?_
  refine chg (b := _) rfl rfl (arg_op 16 1 rfl rfl rfl rfl) (fun hb16 => ob_move (arg_free 1 rfl rfl)) ?_
  refine chg (b := _) rfl rfl (arg_op 16 2 rfl rfl rfl rfl) (fun hb16 => ob_call1 (by kernel_rfl) (c_rSum ?_) (ArgOK.val (ArgOK.when (arg_op 18 0 rfl rfl rfl rfl) hb16) ((hv0.up g101).up hs109))) ?_
  · ((try simp only [List.length_append, List.length_cons, List.length_nil, List.length_take, nmBytes_len]); omega)
  refine chg (b := _) rfl rfl (arg_op 16 3 rfl rfl rfl rfl) (fun hb16 => ob_eqnm (ArgOK.when (arg_op 17 2 rfl rfl rfl rfl) hb16) (ArgOK.when (arg_op 19 0 rfl rfl rfl rfl) hb16)) ?_
  refine ch rfl (ob_and (arg_op 16 4 rfl rfl rfl rfl) (arg_op 20 0 rfl rfl rfl rfl)) ?_
  refine ch rfl (ob_move (arg_op 21 0 rfl rfl rfl rfl)) ?_
  refine chg (b := _) rfl rfl (arg_op 22 0 rfl rfl rfl rfl) (fun hb22 => ob_call0 (by kernel_rfl) (c_awake1) ) ?_
  refine ch rfl (ob_and (arg_op 22 1 rfl rfl rfl rfl) (arg_op 23 0 rfl rfl rfl rfl)) ?_
  refine ch rfl (ob_assign (arg_op 24 0 rfl rfl rfl rfl)) ?_
  refine ch_nil ?_
  intro a110 w111 hf112 hg113 hk114 hn115
  have h116 : Holds _ (a110.eval (.tmp 4)) w111 := hn115.at 25 0 rfl rfl rfl
  have g117 : Grow w0 w111 := g101.trans hg113
  have g118 : Grow w2 w111 := g102.trans hg113
  have g119 : Grow w67 w111 := g103.trans hg113
  have g120 : Grow w98 w111 := g105.trans hg113
  clear g101 g102 g103 g105 hf82 hk114 hn115
  refine then_ ?_
  refine wp_ret ?_
  exact ret_tmp rfl hf112 g117 (is_cast h116 (by simp))

set_option maxRecDepth 100000 in
theorem c_HashTagged {t : UInt8} {b : List UInt8} {x y : UInt64} (hb : b.length ≤ 140737488351232) : Con4 11 (Is (byteV t)) (Sl elByte b) (Is (nmV x)) (Is (nmV y)) (fun _ => Is (.bool true)) := by
  intro lo v0 v1 v2 v3 w0 hlo hv0 hv1 hv2 hv3
  refine enter Try.func11 rfl Try.ntmps11 (by simp) ?_
  intro a0 hf0 ha
  have h00 : Holds _ (a0.eval (.tmp 0)) w0 := arg_holds ha rfl hv0
  have h01 : Holds (Is v1) (a0.eval (.tmp 1)) w0 := arg_holds ha rfl rfl
  have h02 : Holds _ (a0.eval (.tmp 2)) w0 := arg_holds ha rfl hv2
  have h03 : Holds _ (a0.eval (.tmp 3)) w0 := arg_holds ha rfl hv3
  clear ha
  have g0 : Grow w0 w0 := Grow.refl _
  refine wp_seq ?_
  refine wp_region_lit ?_
  refine wp_seg (l1 := [_]) [([2], [])] [0, 1, 3] w0.heap.size hf0 g0.size (by kernel_rfl) (bund_cons h02 bund_nil) ?_
  refine ch rfl (ob_box_nm (arg_free 0 rfl rfl)) ?_
  refine ch_nil ?_
  intro a1 w2 hf3 hg4 hk5 hn6
  have h7 : Holds _ (a1.eval (.tmp 6)) w2 := hn6.at 0 0 rfl rfl rfl
  have h8 : Holds _ (a1.eval (.tmp 0)) w0 := hk5.holds rfl h00
  have h9 : Holds _ (a1.eval (.tmp 1)) w0 := hk5.holds rfl h01
  have h10 : Holds _ (a1.eval (.tmp 3)) w0 := hk5.holds rfl h03
  have g11 : Grow w0 w2 := g0.trans hg4
  obtain ⟨bk12, hl13, hv14, hb15⟩ := OwnB.blk (lo := w0.heap.size) h7
  clear h00 h01 h03 g0 hf0 hk5 hn6
  have g16 : Grow w2 w2 := Grow.refl _
  have hl17 : bk12 < w2.heap.size := hb15.lt
  have hz18 : w0.heap.size ≤ w2.heap.size := g11.size
  refine wp_all [([3], []), ([], [])] [0, 1, 6] w2.heap.size hf3 g16.size (by kernel_rfl) (bund_cons (is_any h10) bund_nil) ?_
  refine ch rfl (ob_box_nm (arg_free 0 rfl rfl)) ?_
  refine ch rfl (ob_assign arg_c) ?_
  refine ch_nil ?_
  intro a19 w20 hf21 hg22 hk23 hn24
  have h25 : Holds _ (a19.eval (.tmp 7)) w20 := hn24.at 0 1 rfl rfl rfl
  have h26 : Holds _ (a19.eval (.tmp 0)) w0 := hk23.holds rfl h8
  have h27 : Holds _ (a19.eval (.tmp 1)) w0 := hk23.holds rfl h9
  have hv28 : Holds (Is (PtrV bk12)) (a19.eval (.tmp 6)) w20 := is_any (hk23.holds rfl hv14)
  have hb29 : Blk bk12 _ w20 := hb15.up hg22
  have g30 : Grow w0 w20 := g11.trans hg22
  have g31 : Grow w2 w20 := g16.trans hg22
  obtain ⟨bk32, hl33, hv34, hb35⟩ := OwnB.blk (lo := w2.heap.size) h25
  clear h8 h9 hv14 hb15 g11 g16 hf3 hk23 hn24
  refine then_ ?_
  refine wp_seq ?_
  have g36 : Grow w20 w20 := Grow.refl _
  have hl37 : bk12 < w20.heap.size := hb29.lt
  have hl38 : bk32 < w20.heap.size := hb35.lt
  have hz39 : w2.heap.size ≤ w20.heap.size := g31.size
  refine wp_region_lit ?_
  refine wp_all [([0], []), ([], [0]), ([1], []), ([], [1, 2]), ([], [3])] [0, 1, 6, 7] w20.heap.size hf21 g36.size (by kernel_rfl) (bund_cons (is_any h26) (bund_cons (is_any h27) bund_nil)) ?_
  refine ch rfl (ob_move (arg_free 0 rfl rfl)) ?_
  refine ch rfl (ob_bs1_byte (arg_op 0 0 rfl rfl rfl rfl)) ?_
  refine ch rfl (ob_move (arg_free 1 rfl rfl)) ?_
  refine ch rfl (ob_append_fresh elByteP Try.underlying34 (arg_op 1 1 rfl rfl rfl rfl) (ArgOK.val (arg_op 2 0 rfl rfl rfl rfl) (hv1.up g30)) ?_) ?_
  · (refine ⟨?_, ?_⟩ <;> ((try simp only [List.length_append, List.length_cons, List.length_nil, nmBytes_len, elByte, elNm, elInt, maxLen]); omega))
  refine ch rfl (ob_assign (arg_op 3 0 rfl rfl rfl rfl)) ?_
  refine ch_nil ?_
  intro a40 w41 hf42 hg43 hk44 hn45
  have h46 : Holds (OwnS w20.heap.size _ _) (a40.eval (.tmp 9)) w41 := hn45.at 4 0 rfl rfl rfl
  have h47 : Holds _ (a40.eval (.tmp 0)) w0 := hk44.holds rfl h26
  have h48 : Holds _ (a40.eval (.tmp 1)) w0 := hk44.holds rfl h27
  have hv49 : Holds (Is (PtrV bk12)) (a40.eval (.tmp 6)) w41 := is_any (hk44.holds rfl hv28)
  have hb50 : Blk bk12 _ w41 := hb29.up hg43
  have hv51 : Holds (Is (PtrV bk32)) (a40.eval (.tmp 7)) w41 := is_any (hk44.holds rfl hv34)
  have hb52 : Blk bk32 _ w41 := hb35.up hg43
  have g53 : Grow w0 w41 := g30.trans hg43
  have g54 : Grow w2 w41 := g31.trans hg43
  have g55 : Grow w20 w41 := g36.trans hg43
  clear h26 h27 hv28 hb29 hv34 hb35 g30 g31 g36 hf21 hk44 hn45
  obtain ⟨V56, h57, hV58⟩ := nameV h46
  clear h46
  refine then_ ?_
  refine wp_seq ?_
  have g59 : Grow w41 w41 := Grow.refl _
  have hl60 : bk12 < w41.heap.size := hb50.lt
  have hl61 : bk32 < w41.heap.size := hb52.lt
  have hz62 : w20.heap.size ≤ w41.heap.size := g55.size
  refine wp_calm_tail (l1 := [_, _, _, _, _]) [0, 1, 0, 7, 0, 31, 63] [([0], []), ([], [0]), ([6], []), ([], [1, 2]), ([7], [])] [0, 1, 6, 7, 9] w41.heap.size hf42 g59.size (by kernel_rfl) (bund_cons (is_any h47) (bund_cons (hb50.ownp hv49) (bund_cons (hb52.ownp hv51) bund_nil))) ?_
  intro ws63 hs64
  refine ch rfl (ob_move (arg_free 0 rfl rfl)) ?_
  refine ch rfl (ob_bs1_byte (arg_op 0 0 rfl rfl rfl rfl)) ?_
  refine ch rfl (ob_slice_nmF (ArgOK.ownp (arg_free 1 rfl rfl))) ?_
  refine ch rfl (ob_append_fresh elByteP Try.underlying34 (arg_op 1 1 rfl rfl rfl rfl) (ArgOK.fsl (arg_op 2 0 rfl rfl rfl rfl)) ?_) ?_
  · (refine ⟨?_, ?_⟩ <;> ((try simp only [List.length_append, List.length_cons, List.length_nil, nmBytes_len, elByte, elNm, elInt, maxLen]); omega))
  refine ch rfl (ob_slice_nmF (ArgOK.ownp (arg_free 2 rfl rfl))) ?_
  refine ch_nil ?_
  intro a65 w66 hf67 hg68 hk69 hn70
  have h71 : Holds (OwnS w41.heap.size _ _) (a65.eval (.tmp 18)) w66 := hn70.at 3 1 rfl rfl rfl
  have h72 : Holds _ (a65.eval (.tmp 19)) w66 := hn70.at 4 0 rfl rfl rfl
  have h73 : Holds _ (a65.eval (.tmp 9)) w41 := hk69.holds rfl h57
  have h74 : Holds _ (a65.eval (.tmp 0)) w0 := hk69.holds rfl h47
  have h75 : Holds _ (a65.eval (.tmp 1)) w0 := hk69.holds rfl h48
  have hv76 : Holds (Is (PtrV bk12)) (a65.eval (.tmp 6)) w66 := is_any (hk69.holds rfl hv49)
  have hb77 : Blk bk12 _ w66 := hb50.up hg68
  have hv78 : Holds (Is (PtrV bk32)) (a65.eval (.tmp 7)) w66 := is_any (hk69.holds rfl hv51)
  have hb79 : Blk bk32 _ w66 := hb52.up hg68
  have g80 : Grow w0 w66 := g53.trans hg68
  have g81 : Grow w2 w66 := g54.trans hg68
  have g82 : Grow w20 w66 := g55.trans hg68
  have g83 : Grow w41 w66 := g59.trans hg68
  clear h57 h47 h48 hv49 hb50 hv51 hb52 g53 g54 g55 g59 hf42 hk69 hn70
  obtain ⟨V84, h85, hV86⟩ := nameV h71
  clear h71
  obtain ⟨V87, h88, hV89⟩ := nameV h72
  clear h72
  refine wl_appendW elByteP [0, 1, 6, 7, 9] hf67 (by kernel_rfl) rfl Try.underlying34 (unV h85 hV86) (SlF.sl (unV h88 hV89)) ?_ ?_ g83.size ?_
  · ((try simp only [List.length_append, List.length_cons, List.length_nil, nmBytes_len, elByte, elNm, elInt, maxLen]); omega)
  · ((try simp only [List.length_append, List.length_cons, List.length_nil, nmBytes_len, elByte, elNm, elInt, maxLen]); omega)
  intro a90 w91 hf92 hw93 hk94 h95
  have g96 : Grow w0 w91 := g80.wr hw93 (by omega)
  have g97 : Grow w2 w91 := g81.wr hw93 (by omega)
  have g98 : Grow w20 w91 := g82.wr hw93 (by omega)
  have g99 : Grow w41 w91 := g83.wr hw93 (by omega)
  have h100 : Holds _ (a90.eval (.tmp 9)) w91 := is_any (hk94.holds rfl h73)
  have h101 : Holds _ (a90.eval (.tmp 0)) w91 := is_any (hk94.holds rfl h74)
  have h102 : Holds _ (a90.eval (.tmp 1)) w91 := is_any (hk94.holds rfl h75)
  have hv103 : Holds (Is (PtrV bk12)) (a90.eval (.tmp 6)) w91 := is_any (hk94.holds rfl hv76)
  have hb104 : Blk bk12 _ w91 := hb77.wr hw93 (by omega)
  have hv105 : Holds (Is (PtrV bk32)) (a90.eval (.tmp 7)) w91 := is_any (hk94.holds rfl hv78)
  have hb106 : Blk bk32 _ w91 := hb79.wr hw93 (by omega)
  obtain ⟨V107, h108, hV109⟩ := nameV h95
  clear h95
  refine wp_all [([20], [])] [0, 1, 6, 7, 9] w41.heap.size hf92 g99.size (by kernel_rfl) (bund_cons h108 bund_nil) ?_
  refine ch rfl (ob_assign (arg_free 0 rfl rfl)) ?_
  refine ch_nil ?_
  intro a110 w111 hf112 hg113 hk114 hn115
  have h116 : Holds _ (a110.eval (.tmp 10)) w111 := hn115.at 0 0 rfl rfl rfl
  have h117 : Holds _ (a110.eval (.tmp 9)) w111 := hk114.holds rfl (h100.up hg113)
  have h118 : Holds _ (a110.eval (.tmp 0)) w111 := hk114.holds rfl (h101.up hg113)
  have h119 : Holds _ (a110.eval (.tmp 1)) w111 := hk114.holds rfl (h102.up hg113)
  have hv120 : Holds (Is (PtrV bk12)) (a110.eval (.tmp 6)) w111 := is_any (hk114.holds rfl hv103)
  have hb121 : Blk bk12 _ w111 := hb104.up hg113
  have hv122 : Holds (Is (PtrV bk32)) (a110.eval (.tmp 7)) w111 := is_any (hk114.holds rfl hv105)
  have hb123 : Blk bk32 _ w111 := hb106.up hg113
  have g124 : Grow w0 w111 := g96.trans hg113
  have g125 : Grow w2 w111 := g97.trans hg113
  have g126 : Grow w20 w111 := g98.trans hg113
  have g127 : Grow w41 w111 := g99.trans hg113
  have hV128 : Holds _ V107 w111 := hV109.up hg113
  clear h100 h101 h102 hv103 hb104 hv105 hb106 g96 g97 g98 g99 hf92 hk114 hn115 hg113 hV109
  refine then_ ?_
  refine wp_seq ?_
  have g129 : Grow w111 w111 := Grow.refl _
  have hl130 : bk12 < w111.heap.size := hb121.lt
  have hl131 : bk32 < w111.heap.size := hb123.lt
  have hz132 : w41.heap.size ≤ w111.heap.size := g127.size
  refine wp_region_lit ?_
  refine wp_all [([0], []), ([1], []), ([], [0, 1]), ([9], []), ([], [3]), ([], [2, 4]), ([], [5]), ([0], [6]), ([6], [6]), ([7], [6]), ([], [7, 8, 9, 6]), ([10], [6]), ([], [11, 6]), ([], [10, 12, 6]), ([], [6, 13]), ([], [14]), ([0], [15]), ([1], [15]), ([], [16, 17, 15]), ([0], [15]), ([1], [15]), ([], [19, 20, 15]), ([], [18, 21, 15]), ([], [15, 22]), ([], [23]), ([], [24]), ([], [24, 25]), ([], [26])] [] w111.heap.size hf112 g129.size (by kernel_rfl) (bund_cons h118 (bund_cons h119 (bund_cons h117 (bund_cons (hb121.ownp hv120) (bund_cons (hb123.ownp hv122) (bund_cons h116 bund_nil)))))) ?_
  refine ch rfl (ob_move (arg_free 0 rfl rfl)) ?_
  refine ch rfl (ob_move (arg_free 1 rfl rfl)) ?_
  refine ch rfl (ob_call2 (by kernel_rfl) (c_Tagged ?_) (arg_op 0 1 rfl rfl rfl rfl) (ArgOK.val (arg_op 1 0 rfl rfl rfl rfl) (hv1.up g124))) ?_
  · ((try simp only [List.length_append, List.length_cons, List.length_nil, nmBytes_len, List.length_take, List.length_drop]); omega)
  refine ch rfl (ob_move (arg_free 2 rfl rfl)) ?_
  refine ch rfl (ob_call1 (by kernel_rfl) (c_Sum ?_) (ArgOK.sl (ArgOK.val (arg_op 3 0 rfl rfl rfl rfl) (hV58.up g127)))) ?_
  · ((try simp only [List.length_append, List.length_cons, List.length_nil, List.length_take, nmBytes_len]); omega)
  refine ch rfl (ob_eqnm (arg_op 2 2 rfl rfl rfl rfl) (arg_op 4 0 rfl rfl rfl rfl)) ?_
  refine ch rfl (ob_move (arg_op 5 0 rfl rfl rfl rfl)) ?_
  refine chg (b := _) rfl rfl (arg_op 6 0 rfl rfl rfl rfl) (fun hb6 => ob_move (arg_free 0 rfl rfl)) ?_
  refine chg (b := _) rfl rfl (arg_op 6 1 rfl rfl rfl rfl) (fun hb6 => ob_load_nm (ArgOK.ownp (arg_free 3 rfl rfl))) ?_
  refine chg (b := _) rfl rfl (arg_op 6 2 rfl rfl rfl rfl) (fun hb6 => ob_load_nm (ArgOK.ownp (arg_free 4 rfl rfl))) ?_
  refine chg (b := _) rfl rfl (arg_op 6 3 rfl rfl rfl rfl) (fun hb6 => ob_call3 (by kernel_rfl) (c_Pair) (ArgOK.when (arg_op 7 2 rfl rfl rfl rfl) hb6) (ArgOK.when (arg_op 8 1 rfl rfl rfl rfl) hb6) (ArgOK.when (arg_op 9 0 rfl rfl rfl rfl) hb6)) ?_
  refine chg (b := _) rfl rfl (arg_op 6 4 rfl rfl rfl rfl) (fun hb6 => ob_move (arg_free 5 rfl rfl)) ?_
  refine chg (b := _) rfl rfl (arg_op 6 5 rfl rfl rfl rfl) (fun hb6 => ob_call1 (by kernel_rfl) (c_Sum ?_) (ArgOK.sl (ArgOK.val (ArgOK.when (arg_op 11 0 rfl rfl rfl rfl) hb6) hV128))) ?_
  · ((try simp only [List.length_append, List.length_cons, List.length_nil, List.length_take, nmBytes_len]); omega)
  refine chg (b := _) rfl rfl (arg_op 6 6 rfl rfl rfl rfl) (fun hb6 => ob_eqnm (ArgOK.when (arg_op 10 2 rfl rfl rfl rfl) hb6) (ArgOK.when (arg_op 12 0 rfl rfl rfl rfl) hb6)) ?_
  refine ch rfl (ob_and (arg_op 6 7 rfl rfl rfl rfl) (arg_op 13 0 rfl rfl rfl rfl)) ?_
  refine ch rfl (ob_move (arg_op 14 0 rfl rfl rfl rfl)) ?_
  refine chg (b := _) rfl rfl (arg_op 15 0 rfl rfl rfl rfl) (fun hb15 => ob_move (arg_free 0 rfl rfl)) ?_
  refine chg (b := _) rfl rfl (arg_op 15 1 rfl rfl rfl rfl) (fun hb15 => ob_move (arg_free 1 rfl rfl)) ?_
  refine chg (b := _) rfl rfl (arg_op 15 2 rfl rfl rfl rfl) (fun hb15 => ob_call2 (by kernel_rfl) (c_Tagged ?_) (ArgOK.when (arg_op 16 1 rfl rfl rfl rfl) hb15) (ArgOK.val (ArgOK.when (arg_op 17 0 rfl rfl rfl rfl) hb15) (hv1.up g124))) ?_
  · ((try simp only [List.length_append, List.length_cons, List.length_nil, nmBytes_len, List.length_take, List.length_drop]); omega)
  refine chg (b := _) rfl rfl (arg_op 15 3 rfl rfl rfl rfl) (fun hb15 => ob_move (arg_free 0 rfl rfl)) ?_
  refine chg (b := _) rfl rfl (arg_op 15 4 rfl rfl rfl rfl) (fun hb15 => ob_move (arg_free 1 rfl rfl)) ?_
  refine chg (b := _) rfl rfl (arg_op 15 5 rfl rfl rfl rfl) (fun hb15 => ob_call2 (by kernel_rfl) (c_rTagged ?_) (ArgOK.when (arg_op 19 1 rfl rfl rfl rfl) hb15) (ArgOK.val (ArgOK.when (arg_op 20 0 rfl rfl rfl rfl) hb15) (hv1.up g124))) ?_
  · ((try simp only [List.length_append, List.length_cons, List.length_nil, nmBytes_len, List.length_take, List.length_drop]); omega)
  refine chg (b := _) rfl rfl (arg_op 15 6 rfl rfl rfl rfl) (fun hb15 => ob_eqnm (ArgOK.when (arg_op 18 3 rfl rfl rfl rfl) hb15) (ArgOK.when (arg_op 21 0 rfl rfl rfl rfl) hb15)) ?_
  refine ch rfl (ob_and (arg_op 15 7 rfl rfl rfl rfl) (arg_op 22 0 rfl rfl rfl rfl)) ?_
  refine ch rfl (ob_move (arg_op 23 0 rfl rfl rfl rfl)) ?_
  refine chg (b := _) rfl rfl (arg_op 24 0 rfl rfl rfl rfl) (fun hb24 => ob_call0 (by kernel_rfl) (c_awake1) ) ?_
  refine ch rfl (ob_and (arg_op 24 1 rfl rfl rfl rfl) (arg_op 25 0 rfl rfl rfl rfl)) ?_
  refine ch rfl (ob_assign (arg_op 26 0 rfl rfl rfl rfl)) ?_
  refine ch_nil ?_
  intro a133 w134 hf135 hg136 hk137 hn138
  have h139 : Holds _ (a133.eval (.tmp 8)) w134 := hn138.at 27 0 rfl rfl rfl
  have g140 : Grow w0 w134 := g124.trans hg136
  have g141 : Grow w2 w134 := g125.trans hg136
  have g142 : Grow w20 w134 := g126.trans hg136
  have g143 : Grow w41 w134 := g127.trans hg136
  have g144 : Grow w111 w134 := g129.trans hg136
  clear g124 g125 g126 g127 g129 hf112 hk137 hn138
  refine then_ ?_
  refine wp_ret ?_
  exact ret_tmp rfl hf135 g140 (is_cast h139 (by simp [tagged, pairN]))


end Ex
end Go.Proofs.Ytnmfiiejhoafnaa
