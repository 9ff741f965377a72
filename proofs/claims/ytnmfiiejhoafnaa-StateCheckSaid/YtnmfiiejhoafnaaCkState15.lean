/- The statements on marks, on the order of cells, on checks and on changes of amounts, walked. -/
import Derived.Test.YtnmfiiejhoafnaaCkState14
set_option linter.unusedSimpArgs false
set_option linter.unusedVariables false
namespace Go.Proofs.Ytnmfiiejhoafnaa
namespace Ex
open Go Calm Go.RowKit
theorem chk_all {a b : Bool} : ((a == a) && (b == b) && true) = true := by simp
set_option maxRecDepth 100000 in
theorem c_StateCheck {r n : UInt64} {d : GDelta} {i k : Int64} {p : List UInt64} : Con4 26 (Is (nmV r)) (Is (deltaV d)) (Is (nmV n)) (IncF ⟨i.toInt, k.toInt, p⟩) (fun _ => Is (.bool true)) := by
  intro lo v0 v1 v2 v3 w0 hlo hv0 hv1 hv2 hv3
  refine enter Try.func26 rfl Try.ntmps26 (by simp) ?_
  intro a0 hf0 ha
  have h00 : Holds _ (a0.eval (.tmp 0)) w0 := arg_holds ha rfl hv0
  have h01 : Holds _ (a0.eval (.tmp 1)) w0 := arg_holds ha rfl hv1
  have h02 : Holds _ (a0.eval (.tmp 2)) w0 := arg_holds ha rfl hv2
  obtain ⟨va3, he3, hva3⟩ := openIF hv3
  have h03 : Holds (Is _) (a0.eval (.tmp 3)) w0 := arg_holds ha rfl he3
  clear ha
  have g0 : Grow w0 w0 := Grow.refl _
  have hi1 : -9223372036854775808 ≤ i.toInt := (by have := i.le_toInt; omega)
  have hk1 : k.toInt ≤ 9223372036854775807 := (by have := k.toInt_lt; omega)
  refine wp_seq ?_
  refine wp_region_lit ?_
  refine wp_seg (l1 := [_]) [([0], [])] [1, 2, 3] w0.heap.size hf0 g0.size (by kernel_rfl) (bund_cons h00 bund_nil) ?_
  refine ch rfl (ob_box_nm (arg_free 0 rfl rfl)) ?_
  refine ch_nil ?_
  intro a1 w2 hf3 hg4 hk5 hn6
  have h7 : Holds _ (a1.eval (.tmp 4)) w2 := hn6.at 0 0 rfl rfl rfl
  have h8 := hk5.holds rfl h01
  have h9 := hk5.holds rfl h02
  have h10 := hk5.holds rfl h03
  have g11 := g0.trans hg4
  obtain ⟨bk12, hl13, hv14, hb15⟩ := OwnB.blk (lo := w0.heap.size) h7
  clear h01 h02 h03 g0 hf0 hk5 hn6
  have g16 : Grow w2 w2 := Grow.refl _
  have hl17 : bk12 < w2.heap.size := hb15.lt
  have hz18 : w0.heap.size ≤ w2.heap.size := g11.size
  refine wp_seg (l1 := [_]) [([1], [])] [2, 3, 4] w2.heap.size hf3 g16.size (by kernel_rfl) (bund_cons (is_any h8) bund_nil) ?_
  refine ch rfl (ob_box_delta (arg_free 0 rfl rfl)) ?_
  refine ch_nil ?_
  intro a19 w20 hf21 hg22 hk23 hn24
  have h25 : Holds _ (a19.eval (.tmp 5)) w20 := hn24.at 0 0 rfl rfl rfl
  have h26 := hk23.holds rfl h9
  have h27 := hk23.holds rfl h10
  have hv28 : Holds (Is (PtrV bk12)) (a19.eval (.tmp 4)) w20 := is_any (hk23.holds rfl hv14)
  have hb29 := hb15.up hg22
  have g30 := g11.trans hg22
  have g31 := g16.trans hg22
  obtain ⟨bk32, hl33, hv34, hb35⟩ := OwnB.blk (lo := w2.heap.size) h25
  clear h9 h10 hv14 hb15 g11 g16 hf3 hk23 hn24
  have g36 : Grow w20 w20 := Grow.refl _
  have hl37 : bk12 < w20.heap.size := hb29.lt
  have hl38 : bk32 < w20.heap.size := hb35.lt
  have hz39 : w2.heap.size ≤ w20.heap.size := g31.size
  refine wp_seg (l1 := [_]) [([2], [])] [3, 4, 5] w20.heap.size hf21 g36.size (by kernel_rfl) (bund_cons (is_any h26) bund_nil) ?_
  refine ch rfl (ob_box_nm (arg_free 0 rfl rfl)) ?_
  refine ch_nil ?_
  intro a40 w41 hf42 hg43 hk44 hn45
  have h46 : Holds _ (a40.eval (.tmp 6)) w41 := hn45.at 0 0 rfl rfl rfl
  have h47 := hk44.holds rfl h27
  have hv48 : Holds (Is (PtrV bk12)) (a40.eval (.tmp 4)) w41 := is_any (hk44.holds rfl hv28)
  have hb49 := hb29.up hg43
  have hv50 : Holds (Is (PtrV bk32)) (a40.eval (.tmp 5)) w41 := is_any (hk44.holds rfl hv34)
  have hb51 := hb35.up hg43
  have g52 := g30.trans hg43
  have g53 := g31.trans hg43
  have g54 := g36.trans hg43
  obtain ⟨bk55, hl56, hv57, hb58⟩ := OwnB.blk (lo := w20.heap.size) h46
  clear h27 hv28 hb29 hv34 hb35 g30 g31 g36 hf21 hk44 hn45
  have g59 : Grow w41 w41 := Grow.refl _
  have hl60 : bk12 < w41.heap.size := hb49.lt
  have hl61 : bk32 < w41.heap.size := hb51.lt
  have hl62 : bk55 < w41.heap.size := hb58.lt
  have hz63 : w20.heap.size ≤ w41.heap.size := g54.size
  refine wp_all [([3], []), ([], [])] [4, 5, 6] w41.heap.size hf42 g59.size (by kernel_rfl) (bund_cons (is_any h47) bund_nil) ?_
  refine ch rfl (ob_box_inc (arg_free 0 rfl rfl)) ?_
  refine ch rfl (ob_assign arg_c) ?_
  refine ch_nil ?_
  intro a64 w65 hf66 hg67 hk68 hn69
  have h70 : Holds _ (a64.eval (.tmp 7)) w65 := hn69.at 0 1 rfl rfl rfl
  have hv71 : Holds (Is (PtrV bk12)) (a64.eval (.tmp 4)) w65 := is_any (hk68.holds rfl hv48)
  have hb72 := hb49.up hg67
  have hv73 : Holds (Is (PtrV bk32)) (a64.eval (.tmp 5)) w65 := is_any (hk68.holds rfl hv50)
  have hb74 := hb51.up hg67
  have hv75 : Holds (Is (PtrV bk55)) (a64.eval (.tmp 6)) w65 := is_any (hk68.holds rfl hv57)
  have hb76 := hb58.up hg67
  have g77 := g52.trans hg67
  have g78 := g53.trans hg67
  have g79 := g54.trans hg67
  have g80 := g59.trans hg67
  obtain ⟨bk81, hl82, hv83, hb84⟩ := OwnB.blk (lo := w41.heap.size) h70
  clear hv48 hb49 hv50 hb51 hv57 hb58 g52 g53 g54 g59 hf42 hk68 hn69
  refine then_ ?_
  refine wp_seq ?_
  refine wp_seq ?_
  refine wp_region_lit ?_
  refine wp_all [([7], []), ([], [0]), ([], [1]), ([], [2])] [4, 5, 6, 7] w41.heap.size hf66 g80.size (by kernel_rfl) (bund_cons (hb84.ownp hv83) bund_nil) ?_
  refine ch rfl (ob_faP (n := 0) (arg_free 0 rfl rfl) Try.underlying90 rfl (by kernel_rfl)) ?_
  refine ch rfl (ob_loadP (arg_op 0 0 rfl rfl rfl rfl) Try.underlying39 rfl rfl) ?_
  refine ch rfl (ob_len (ArgOK.val (arg_op 1 0 rfl rfl rfl rfl) (hva3.up g77)) Try.underlying39) ?_
  refine ch rfl (ob_gtr (arg_op 2 0 rfl rfl rfl rfl) arg_c) ?_
  refine ch_nil ?_
  intro a85 w86 hf87 hg88 hk89 hn90
  have h91 : Holds _ (a85.eval (.tmp 12)) w86 := hn90.at 3 0 rfl rfl rfl
  have hv92 : Holds (Is (PtrV bk12)) (a85.eval (.tmp 4)) w86 := is_any (hk89.holds rfl hv71)
  have hb93 := hb72.up hg88
  have hv94 : Holds (Is (PtrV bk32)) (a85.eval (.tmp 5)) w86 := is_any (hk89.holds rfl hv73)
  have hb95 := hb74.up hg88
  have hv96 : Holds (Is (PtrV bk55)) (a85.eval (.tmp 6)) w86 := is_any (hk89.holds rfl hv75)
  have hb97 := hb76.up hg88
  have hv98 : Holds (Is (PtrV bk81)) (a85.eval (.tmp 7)) w86 := is_any (hk89.holds rfl hv83)
  have hb99 := hb84.up hg88
  have g100 := g77.trans hg88
  have g101 := g78.trans hg88
  have g102 := g79.trans hg88
  have g103 := g80.trans hg88
  clear hv71 hb72 hv73 hb74 hv75 hb76 hv83 hb84 g77 g78 g79 g80 hf66 hk89 hn90 hg88
  refine then_ ?_
  refine wp_if h91 ?_ ?_
  · intro hc104
    try simp only [cond_norm] at hc104
    refine wp_seq ?_
    have g105 : Grow w86 w86 := Grow.refl _
    have hl106 : bk12 < w86.heap.size := hb93.lt
    have hl107 : bk32 < w86.heap.size := hb95.lt
    have hl108 : bk55 < w86.heap.size := hb97.lt
    have hl109 : bk81 < w86.heap.size := hb99.lt
    have hz110 : w41.heap.size ≤ w86.heap.size := g103.size
    refine wp_region_lit ?_
    refine wp_all [([], []), ([], [0])] [] w86.heap.size hf87 g105.size (by kernel_rfl) bund_nil ?_
    refine ch rfl (ob_call0 (by kernel_rfl) (c_awake21) ) ?_
    refine ch rfl (ob_assign (arg_op 0 0 rfl rfl rfl rfl)) ?_
    refine ch_nil ?_
    intro a111 w112 hf113 hg114 hk115 hn116
    have h117 : Holds _ (a111.eval (.tmp 8)) w112 := hn116.at 1 0 rfl rfl rfl
    have g118 := g100.trans hg114
    have g119 := g101.trans hg114
    have g120 := g102.trans hg114
    have g121 := g103.trans hg114
    have g122 := g105.trans hg114
    clear g100 g101 g102 g103 g105 hf87 hk115 hn116
    refine then_ ?_
    refine wp_ret ?_
    refine thenR ?_
    exact ret_tmp rfl hf113 g118 (is_cast h117 (congrArg Value.bool (by first | rfl | exact chk_all)))
  · intro hc104
    try simp only [cond_norm] at hc104
    refine wp_skip ?_
    refine then_ ?_
    refine wp_seq ?_
    have g123 : Grow w86 w86 := Grow.refl _
    have hl124 : bk12 < w86.heap.size := hb93.lt
    have hl125 : bk32 < w86.heap.size := hb95.lt
    have hl126 : bk55 < w86.heap.size := hb97.lt
    have hl127 : bk81 < w86.heap.size := hb99.lt
    have hz128 : w41.heap.size ≤ w86.heap.size := g103.size
    refine wp_calm [0, 0, 0, 7, 0, 0, 0, 127, 255, 511, 1023, 1023, 1023, 8191, 1023, 1023, 1023, 131071, 262143, 524287, 1048575, 2097151, 4194303, 8388607] [([4], []), ([5], []), ([7], []), ([], [0, 1, 2]), ([4], []), ([5], []), ([7], []), ([], [4, 5, 6]), ([], [3, 7]), ([], [8]), ([4], [9]), ([6], [9]), ([7], [9]), ([], [10, 11, 12, 9]), ([4], [9]), ([6], [9]), ([7], [9]), ([], [14, 15, 16, 9]), ([], [13, 17, 9]), ([], [9, 18]), ([], [19]), ([], [20]), ([], [20, 21]), ([], [22])] [] w86.heap.size hf87 g123.size (by kernel_rfl) (bund_cons (hb93.ownp hv92) (bund_cons (hb95.ownp hv94) (bund_cons (hb99.ownp hv98) (bund_cons (hb97.ownp hv96) bund_nil)))) ?_
    intro ws129 hs130
    refine ch rfl (ob_load_nm (ArgOK.ownp (arg_free 0 rfl rfl))) ?_
    refine ch rfl (ob_load_delta (ArgOK.ownp (arg_free 1 rfl rfl))) ?_
    refine ch rfl (ob_load_inc (ArgOK.ownp (arg_free 2 rfl rfl))) ?_
    refine ch rfl (ob_call3 (by kernel_rfl) (c_CheckCell ?_ ?_) (arg_op 0 2 rfl rfl rfl rfl) (arg_op 1 1 rfl rfl rfl rfl) (ArgOK.val (arg_op 2 0 rfl rfl rfl rfl) (mkIFs (x := ⟨i.toInt, k.toInt, p⟩) ((hva3.up g100).up hs130)))) ?_
    · exact hi1
    · exact hk1
    refine ch rfl (ob_load_nm (ArgOK.ownp (arg_free 0 rfl rfl))) ?_
    refine ch rfl (ob_load_delta (ArgOK.ownp (arg_free 1 rfl rfl))) ?_
    refine ch rfl (ob_load_inc (ArgOK.ownp (arg_free 2 rfl rfl))) ?_
    refine ch rfl (ob_call3 (by kernel_rfl) (c_rCheckCell ?_ ?_) (arg_op 4 2 rfl rfl rfl rfl) (arg_op 5 1 rfl rfl rfl rfl) (ArgOK.val (arg_op 6 0 rfl rfl rfl rfl) (mkIFs (x := ⟨i.toInt, k.toInt, p⟩) ((hva3.up g100).up hs130)))) ?_
    · exact hi1
    · exact hk1
    refine ch rfl (ob_eqbool (arg_op 3 4 rfl rfl rfl rfl) (arg_op 7 0 rfl rfl rfl rfl) Try.underlying4) ?_
    refine ch rfl (ob_move (arg_op 8 0 rfl rfl rfl rfl)) ?_
    refine chg (b := _) rfl rfl (arg_op 9 0 rfl rfl rfl rfl) (fun hb9 => ob_load_nm (ArgOK.ownp (arg_free 0 rfl rfl))) ?_
    refine chg (b := _) rfl rfl (arg_op 9 1 rfl rfl rfl rfl) (fun hb9 => ob_load_nm (ArgOK.ownp (arg_free 3 rfl rfl))) ?_
    refine chg (b := _) rfl rfl (arg_op 9 2 rfl rfl rfl rfl) (fun hb9 => ob_load_inc (ArgOK.ownp (arg_free 2 rfl rfl))) ?_
    refine chg (b := _) rfl rfl (arg_op 9 3 rfl rfl rfl rfl) (fun hb9 => ob_call3 (by kernel_rfl) (c_CheckApplied ?_ ?_) (ArgOK.when (arg_op 10 2 rfl rfl rfl rfl) hb9) (ArgOK.when (arg_op 11 1 rfl rfl rfl rfl) hb9) (ArgOK.val (ArgOK.when (arg_op 12 0 rfl rfl rfl rfl) hb9) (mkIFs (x := ⟨i.toInt, k.toInt, p⟩) ((hva3.up g100).up hs130)))) ?_
    · exact hi1
    · exact hk1
    refine chg (b := _) rfl rfl (arg_op 9 4 rfl rfl rfl rfl) (fun hb9 => ob_load_nm (ArgOK.ownp (arg_free 0 rfl rfl))) ?_
    refine chg (b := _) rfl rfl (arg_op 9 5 rfl rfl rfl rfl) (fun hb9 => ob_load_nm (ArgOK.ownp (arg_free 3 rfl rfl))) ?_
    refine chg (b := _) rfl rfl (arg_op 9 6 rfl rfl rfl rfl) (fun hb9 => ob_load_inc (ArgOK.ownp (arg_free 2 rfl rfl))) ?_
    refine chg (b := _) rfl rfl (arg_op 9 7 rfl rfl rfl rfl) (fun hb9 => ob_call3 (by kernel_rfl) (c_rCheckApplied ?_ ?_) (ArgOK.when (arg_op 14 2 rfl rfl rfl rfl) hb9) (ArgOK.when (arg_op 15 1 rfl rfl rfl rfl) hb9) (ArgOK.val (ArgOK.when (arg_op 16 0 rfl rfl rfl rfl) hb9) (mkIFs (x := ⟨i.toInt, k.toInt, p⟩) ((hva3.up g100).up hs130)))) ?_
    · exact hi1
    · exact hk1
    refine chg (b := _) rfl rfl (arg_op 9 8 rfl rfl rfl rfl) (fun hb9 => ob_eqbool (ArgOK.when (arg_op 13 4 rfl rfl rfl rfl) hb9) (ArgOK.when (arg_op 17 0 rfl rfl rfl rfl) hb9) Try.underlying4) ?_
    refine ch rfl (ob_and (arg_op 9 9 rfl rfl rfl rfl) (arg_op 18 0 rfl rfl rfl rfl)) ?_
    refine ch rfl (ob_move (arg_op 19 0 rfl rfl rfl rfl)) ?_
    refine chg (b := _) rfl rfl (arg_op 20 0 rfl rfl rfl rfl) (fun hb20 => ob_call0 (by kernel_rfl) (c_awake21) ) ?_
    refine ch rfl (ob_and (arg_op 20 1 rfl rfl rfl rfl) (arg_op 21 0 rfl rfl rfl rfl)) ?_
    refine ch rfl (ob_assign (arg_op 22 0 rfl rfl rfl rfl)) ?_
    refine ch_nil ?_
    intro a131 w132 hf133 hg134 hk135 hn136
    have h137 : Holds _ (a131.eval (.tmp 8)) w132 := hn136.at 23 0 rfl rfl rfl
    have g138 := g100.trans hg134
    have g139 := g101.trans hg134
    have g140 := g102.trans hg134
    have g141 := g103.trans hg134
    have g142 := g123.trans hg134
    clear g100 g101 g102 g103 g123 hf87 hk135 hn136
    refine then_ ?_
    refine wp_ret ?_
    exact ret_tmp rfl hf133 g138 (is_cast h137 (congrArg Value.bool (by first | rfl | exact chk_all)))
end Ex
end Go.Proofs.Ytnmfiiejhoafnaa
