/- The statements on changes of amounts, walked. -/
import Derived.Test.YtnmfiiejhoafnaaAdState15
set_option linter.unusedSimpArgs false
set_option linter.unusedVariables false
namespace Go.Proofs.Ytnmfiiejhoafnaa
namespace Ex
open Go Calm Go.RowKit
theorem add_ok {s : GState} {l : List GDelta} (h : s.cells.length ≤ 100 ∧ s.seqs.length ≤ 100 ∧ s.locks.length ≤ 100 ∧ s.applied.length ≤ 100) (hl : l.length ≤ 100) : stOK (addS s l) := by
  have h1 := putAll_len l s.cells
  refine ⟨?_, by simp only [addS]; omega, by simp only [addS]; omega, by simp only [addS]; omega⟩
  simp only [addS]
  omega
theorem add_all {a : GState} {x y z : Int} : ((((decide (a = a) && decide (x = x)) && decide (y = y)) && decide (z = z)) && true) = true := by simp
set_option maxRecDepth 100000 in
theorem c_StateAdd {s : GState} {l : List GDelta} {c : GCell} : Con3 24 (StF s) (Sl elDelta l) (Is (cellV c)) (fun _ => Is (.bool true)) := by
  intro lo v0 v1 v2 w0 hlo hv0 hv1 hv2
  refine enter Try.func24 rfl Try.ntmps24 (by simp) ?_
  intro a0 hf0 ha
  obtain ⟨va0, vb0, vc0, vd0, he0, hva0, hvb0, hvc0, hvd0⟩ := openF hv0
  have h00 : Holds (Is _) (a0.eval (.tmp 0)) w0 := arg_holds ha rfl he0
  have h01 : Holds (Is v1) (a0.eval (.tmp 1)) w0 := arg_holds ha rfl rfl
  have h02 : Holds _ (a0.eval (.tmp 2)) w0 := arg_holds ha rfl hv2
  clear ha
  have g0 : Grow w0 w0 := Grow.refl _
  refine wp_seq ?_
  refine wp_region_lit ?_
  refine wp_seg (l1 := [_]) [([0], [])] [1, 2] w0.heap.size hf0 g0.size (by kernel_rfl) (bund_cons h00 bund_nil) ?_
  refine ch rfl (ob_box_state (arg_free 0 rfl rfl)) ?_
  refine ch_nil ?_
  intro a1 w2 hf3 hg4 hk5 hn6
  have h7 : Holds _ (a1.eval (.tmp 3)) w2 := hn6.at 0 0 rfl rfl rfl
  have h8 := hk5.holds rfl h01
  have h9 := hk5.holds rfl h02
  have g10 := g0.trans hg4
  obtain ⟨bk11, hl12, hv13, hb14⟩ := OwnB.blk (lo := w0.heap.size) h7
  clear h01 h02 g0 hf0 hk5 hn6
  have g15 : Grow w2 w2 := Grow.refl _
  have hl16 : bk11 < w2.heap.size := hb14.lt
  have hz17 : w0.heap.size ≤ w2.heap.size := g10.size
  refine wp_all [([2], []), ([], [])] [1, 3] w2.heap.size hf3 g15.size (by kernel_rfl) (bund_cons (is_any h9) bund_nil) ?_
  refine ch rfl (ob_box_cell (arg_free 0 rfl rfl)) ?_
  refine ch rfl (ob_assign arg_c) ?_
  refine ch_nil ?_
  intro a18 w19 hf20 hg21 hk22 hn23
  have h24 : Holds _ (a18.eval (.tmp 5)) w19 := hn23.at 0 1 rfl rfl rfl
  have h25 := hk22.holds rfl h8
  have hv26 : Holds (Is (PtrV bk11)) (a18.eval (.tmp 3)) w19 := is_any (hk22.holds rfl hv13)
  have hb27 := hb14.up hg21
  have g28 := g10.trans hg21
  have g29 := g15.trans hg21
  obtain ⟨bk30, hl31, hv32, hb33⟩ := OwnB.blk (lo := w2.heap.size) h24
  clear h8 hv13 hb14 g10 g15 hf3 hk22 hn23
  refine then_ ?_
  refine wp_seq ?_
  refine wp_seq ?_
  have g34 : Grow w19 w19 := Grow.refl _
  have hl35 : bk11 < w19.heap.size := hb27.lt
  have hl36 : bk30 < w19.heap.size := hb33.lt
  have hz37 : w2.heap.size ≤ w19.heap.size := g29.size
  refine wp_region_lit ?_
  refine wp_all [([3], []), ([], [0]), ([], [1]), ([1], [2]), ([], [3, 2]), ([], [4, 2]), ([], [2, 5])] [1, 3, 5] w19.heap.size hf20 g34.size (by kernel_rfl) (bund_cons (hb27.ownp hv26) (bund_cons (is_any h25) bund_nil)) ?_
  refine ch rfl (ob_load_state (ArgOK.ownp (arg_free 0 rfl rfl))) ?_
  refine ch rfl (ob_call1 (by kernel_rfl) (c_large) (ArgOK.val (arg_op 0 0 rfl rfl rfl rfl) (mkFs (s := s) (hva0.up g28) (hvb0.up g28) (hvc0.up g28) (hvd0.up g28)))) ?_
  refine ch rfl (ob_move (arg_op 1 0 rfl rfl rfl rfl)) ?_
  refine chg (b := _) rfl rfl (arg_op 2 0 rfl rfl rfl rfl) (fun hb2 => ob_move (arg_free 1 rfl rfl)) ?_
  refine chg (b := _) rfl rfl (arg_op 2 1 rfl rfl rfl rfl) (fun hb2 => ob_len (ArgOK.val (ArgOK.when (arg_op 3 0 rfl rfl rfl rfl) hb2) (hv1.up g28)) Try.underlying37) ?_
  refine chg (b := _) rfl rfl (arg_op 2 2 rfl rfl rfl rfl) (fun hb2 => ob_gtr (ArgOK.when (arg_op 4 0 rfl rfl rfl rfl) hb2) arg_c) ?_
  refine ch rfl (ob_or (arg_op 2 3 rfl rfl rfl rfl) (arg_op 5 0 rfl rfl rfl rfl)) ?_
  refine ch_nil ?_
  intro a38 w39 hf40 hg41 hk42 hn43
  have h44 : Holds _ (a38.eval (.tmp 14)) w39 := hn43.at 6 0 rfl rfl rfl
  have h45 := hk42.holds rfl h25
  have hv46 : Holds (Is (PtrV bk11)) (a38.eval (.tmp 3)) w39 := is_any (hk42.holds rfl hv26)
  have hb47 := hb27.up hg41
  have hv48 : Holds (Is (PtrV bk30)) (a38.eval (.tmp 5)) w39 := is_any (hk42.holds rfl hv32)
  have hb49 := hb33.up hg41
  have g50 := g28.trans hg41
  have g51 := g29.trans hg41
  have g52 := g34.trans hg41
  clear h25 hv26 hb27 hv32 hb33 g28 g29 g34 hf20 hk42 hn43
  refine then_ ?_
  refine wp_if h44 ?_ ?_
  · intro hc53
    refine wp_seq ?_
    have g54 : Grow w39 w39 := Grow.refl _
    have hl55 : bk11 < w39.heap.size := hb47.lt
    have hl56 : bk30 < w39.heap.size := hb49.lt
    have hz57 : w19.heap.size ≤ w39.heap.size := g52.size
    refine wp_region_lit ?_
    refine wp_all [([], []), ([], [0])] [] w39.heap.size hf40 g54.size (by kernel_rfl) bund_nil ?_
    refine ch rfl (ob_call0 (by kernel_rfl) (c_awake21) ) ?_
    refine ch rfl (ob_assign (arg_op 0 0 rfl rfl rfl rfl)) ?_
    refine ch_nil ?_
    intro a58 w59 hf60 hg61 hk62 hn63
    have h64 : Holds _ (a58.eval (.tmp 6)) w59 := hn63.at 1 0 rfl rfl rfl
    have g65 := g50.trans hg61
    have g66 := g51.trans hg61
    have g67 := g52.trans hg61
    have g68 := g54.trans hg61
    clear g50 g51 g52 g54 hf40 hk62 hn63
    refine then_ ?_
    refine wp_ret ?_
    refine thenR ?_
    exact ret_tmp rfl hf60 g65 (is_cast h64 (congrArg Value.bool (by first | rfl | exact add_all)))
  · intro hc53
    obtain ⟨hb1, hb2⟩ := Bool.or_eq_false_iff.1 hc53; have hlen : l.length ≤ 100 := (by rw [decide_eq_false_iff_not] at hb2; omega); have hb := big_no hb1; have hs := small_ok hb; have ht := add_ok (l := l) hb hlen; obtain ⟨hs1, hs2, hs3, hs4⟩ := id hs
    refine wp_skip ?_
    refine then_ ?_
    refine wp_seq ?_
    have g69 : Grow w39 w39 := Grow.refl _
    have hl70 : bk11 < w39.heap.size := hb47.lt
    have hl71 : bk30 < w39.heap.size := hb49.lt
    have hz72 : w19.heap.size ≤ w39.heap.size := g52.size
    refine wp_region_lit ?_
    refine wp_seg (l1 := [_, _, _]) [([3], []), ([1], []), ([], [0, 1])] [1, 3, 5] w39.heap.size hf40 g69.size (by kernel_rfl) (bund_cons (hb47.ownp hv46) (bund_cons (is_any h45) bund_nil)) ?_
    refine ch rfl (ob_load_state (ArgOK.ownp (arg_free 0 rfl rfl))) ?_
    refine ch rfl (ob_move (arg_free 1 rfl rfl)) ?_
    refine ch rfl (ob_call2 (by kernel_rfl) (c_Add ?_ ?_ ?_) (ArgOK.val (arg_op 0 1 rfl rfl rfl rfl) (mkFs (s := s) (hva0.up g50) (hvb0.up g50) (hvc0.up g50) (hvd0.up g50))) (ArgOK.val (arg_op 1 0 rfl rfl rfl rfl) (hv1.up g50))) ?_
    · assumption
    · (show s.cells.length ≤ _; omega)
    · omega
    refine ch_nil ?_
    intro a73 w74 hf75 hg76 hk77 hn78
    have h79 : Holds (StO w39.heap.size _) (a73.eval (.tmp 18)) w74 := hn78.at 2 0 rfl rfl rfl
    have h80 := hk77.holds rfl h45
    have hv81 : Holds (Is (PtrV bk11)) (a73.eval (.tmp 3)) w74 := is_any (hk77.holds rfl hv46)
    have hb82 := hb47.up hg76
    have hv83 : Holds (Is (PtrV bk30)) (a73.eval (.tmp 5)) w74 := is_any (hk77.holds rfl hv48)
    have hb84 := hb49.up hg76
    have g85 := g50.trans hg76
    have g86 := g51.trans hg76
    have g87 := g52.trans hg76
    have g88 := g69.trans hg76
    clear h45 hv46 hb47 hv48 hb49 g50 g51 g52 g69 hf40 hk77 hn78
    obtain ⟨V89, V90, V91, V92, h93, hV94, hV95, hV96, hV97⟩ := openO h79
    have g98 : Grow w74 w74 := Grow.refl _
    have hl99 : bk11 < w74.heap.size := hb82.lt
    have hl100 : bk30 < w74.heap.size := hb84.lt
    have hz101 : w39.heap.size ≤ w74.heap.size := g88.size
    refine wp_seg (l1 := [_]) [([], [])] [1, 3, 5, 18] w74.heap.size hf75 g98.size (by kernel_rfl) bund_nil ?_
    refine ch rfl (ob_alloc_state) ?_
    refine ch_nil ?_
    intro a102 w103 hf104 hg105 hk106 hn107
    have h108 : Holds _ (a102.eval (.tmp 7)) w103 := hn107.at 0 0 rfl rfl rfl
    have h109 := hk106.holds rfl h93
    have h110 := hk106.holds rfl h80
    have hv111 : Holds (Is (PtrV bk11)) (a102.eval (.tmp 3)) w103 := is_any (hk106.holds rfl hv81)
    have hb112 := hb82.up hg105
    have hv113 : Holds (Is (PtrV bk30)) (a102.eval (.tmp 5)) w103 := is_any (hk106.holds rfl hv83)
    have hb114 := hb84.up hg105
    have g115 := g85.trans hg105
    have g116 := g86.trans hg105
    have g117 := g87.trans hg105
    have g118 := g88.trans hg105
    have g119 := g98.trans hg105
    obtain ⟨bk120, hl121, hv122, hb123⟩ := OwnB.blk (lo := w74.heap.size) h108
    clear h93 h80 hv81 hb82 hv83 hb84 g85 g86 g87 g88 g98 hf75 hk106 hn107
    refine wl_store_state hv122 hb123 rfl (is_any h109) (st_oneS (OwnS.sl (hV94.up g119)) (OwnS.sl (hV95.up g119)) (OwnS.sl (hV96.up g119)) (OwnS.sl (hV97.up g119))) ?_
    intro w124 ho125 hb126
    have g127 : Grow w0 w124 := g115.only ho125 (by omega)
    have g128 : Grow w2 w124 := g116.only ho125 (by omega)
    have g129 : Grow w19 w124 := g117.only ho125 (by omega)
    have g130 : Grow w39 w124 := g118.only ho125 (by omega)
    have g131 : Grow w74 w124 := g119.only ho125 (by omega)
    have hv132 : Holds (Is (PtrV bk11)) (a102.eval (.tmp 3)) w124 := is_any hv111
    have hb133 : Blk bk11 _ w124 := hb112.only ho125 (by omega)
    have hv134 : Holds (Is (PtrV bk30)) (a102.eval (.tmp 5)) w124 := is_any hv113
    have hb135 : Blk bk30 _ w124 := hb114.only ho125 (by omega)
    have hv136 : Holds (Is (PtrV bk120)) (a102.eval (.tmp 7)) w124 := is_any hv122
    refine wpList_nil ?_
    refine then_ ?_
    refine wp_seq ?_
    have g137 : Grow w124 w124 := Grow.refl _
    have hl138 : bk11 < w124.heap.size := hb133.lt
    have hl139 : bk30 < w124.heap.size := hb135.lt
    have hl140 : bk120 < w124.heap.size := hb126.lt
    have hz141 : w74.heap.size ≤ w124.heap.size := g131.size
    refine wp_calm [0, 0, 0, 6, 15, 31, 63, 63, 255, 63, 63, 2047, 4095, 8191, 16383, 32767, 32767, 131071, 32767, 32767, 1048575, 2097151, 4194303, 8388607, 16777215, 33554431, 16777215, 134217727, 268435455, 536870911, 1073741823, 2147483647, 4294967295, 8589934591] [([7], []), ([3], []), ([1], []), ([], [1, 2]), ([], [0, 3]), ([], [4]), ([3], [5]), ([5], [5]), ([], [6, 7, 5]), ([3], [5]), ([5], [5]), ([], [9, 10, 5]), ([], [8, 11, 5]), ([], [5, 12]), ([], [13]), ([7], [14]), ([5], [14]), ([], [15, 16, 14]), ([7], [14]), ([5], [14]), ([], [18, 19, 14]), ([], [17, 20, 14]), ([], [14, 21]), ([], [22]), ([7], [23]), ([], [24, 23]), ([7], [23]), ([], [26, 23]), ([], [25, 27, 23]), ([], [23, 28]), ([], [29]), ([], [30]), ([], [30, 31]), ([], [32])] [] w124.heap.size hf104 g137.size (by kernel_rfl) (bund_cons (hb126.ownp hv136) (bund_cons (hb133.ownp hv132) (bund_cons (is_any h110) (bund_cons (hb135.ownp hv134) bund_nil)))) ?_
    intro ws142 hs143
    refine ch rfl (ob_load_state (ArgOK.ownp (arg_free 0 rfl rfl))) ?_
    refine ch rfl (ob_load_state (ArgOK.ownp (arg_free 1 rfl rfl))) ?_
    refine ch rfl (ob_move (arg_free 2 rfl rfl)) ?_
    refine ch rfl (ob_call2 (by kernel_rfl) (c_rAdd ?_ ?_ ?_) (ArgOK.val (arg_op 1 1 rfl rfl rfl rfl) (mkFs (s := s) ((hva0.up g127).up hs143) ((hvb0.up g127).up hs143) ((hvc0.up g127).up hs143) ((hvd0.up g127).up hs143))) (ArgOK.val (arg_op 2 0 rfl rfl rfl rfl) ((hv1.up g127).up hs143))) ?_
    · assumption
    · (show s.cells.length ≤ _; omega)
    · omega
    refine ch rfl (ob_call2 (by kernel_rfl) (c_sameS ?_) (ArgOK.val (arg_op 0 3 rfl rfl rfl rfl) (mkF ((OwnS.sl (hV94.up g131)).up hs143) ((OwnS.sl (hV95.up g131)).up hs143) ((OwnS.sl (hV96.up g131)).up hs143) ((OwnS.sl (hV97.up g131)).up hs143))) (ArgOK.ofstate (arg_op 3 0 rfl rfl rfl rfl))) ?_
    · assumption
    refine ch rfl (ob_move (arg_op 4 0 rfl rfl rfl rfl)) ?_
    refine chg (b := _) rfl rfl (arg_op 5 0 rfl rfl rfl rfl) (fun hb5 => ob_load_state (ArgOK.ownp (arg_free 1 rfl rfl))) ?_
    refine chg (b := _) rfl rfl (arg_op 5 1 rfl rfl rfl rfl) (fun hb5 => ob_load_cell (ArgOK.ownp (arg_free 3 rfl rfl))) ?_
    refine chg (b := _) rfl rfl (arg_op 5 2 rfl rfl rfl rfl) (fun hb5 => ob_call2 (by kernel_rfl) (c_Get ?_) (ArgOK.val (ArgOK.when (arg_op 6 1 rfl rfl rfl rfl) hb5) (mkFs (s := s) ((hva0.up g127).up hs143) ((hvb0.up g127).up hs143) ((hvc0.up g127).up hs143) ((hvd0.up g127).up hs143))) (ArgOK.when (arg_op 7 0 rfl rfl rfl rfl) hb5)) ?_
    · assumption
    refine chg (b := _) rfl rfl (arg_op 5 3 rfl rfl rfl rfl) (fun hb5 => ob_load_state (ArgOK.ownp (arg_free 1 rfl rfl))) ?_
    refine chg (b := _) rfl rfl (arg_op 5 4 rfl rfl rfl rfl) (fun hb5 => ob_load_cell (ArgOK.ownp (arg_free 3 rfl rfl))) ?_
    refine chg (b := _) rfl rfl (arg_op 5 5 rfl rfl rfl rfl) (fun hb5 => ob_call2 (by kernel_rfl) (c_rGet ?_) (ArgOK.val (ArgOK.when (arg_op 9 1 rfl rfl rfl rfl) hb5) (mkFs (s := s) ((hva0.up g127).up hs143) ((hvb0.up g127).up hs143) ((hvc0.up g127).up hs143) ((hvd0.up g127).up hs143))) (ArgOK.when (arg_op 10 0 rfl rfl rfl rfl) hb5)) ?_
    · assumption
    refine chg (b := _) rfl rfl (arg_op 5 6 rfl rfl rfl rfl) (fun hb5 => ob_eql (ArgOK.when (arg_op 8 3 rfl rfl rfl rfl) hb5) (ArgOK.when (arg_op 11 0 rfl rfl rfl rfl) hb5)) ?_
    refine ch rfl (ob_and (arg_op 5 7 rfl rfl rfl rfl) (arg_op 12 0 rfl rfl rfl rfl)) ?_
    refine ch rfl (ob_move (arg_op 13 0 rfl rfl rfl rfl)) ?_
    refine chg (b := _) rfl rfl (arg_op 14 0 rfl rfl rfl rfl) (fun hb14 => ob_load_state (ArgOK.ownp (arg_free 0 rfl rfl))) ?_
    refine chg (b := _) rfl rfl (arg_op 14 1 rfl rfl rfl rfl) (fun hb14 => ob_load_cell (ArgOK.ownp (arg_free 3 rfl rfl))) ?_
    refine chg (b := _) rfl rfl (arg_op 14 2 rfl rfl rfl rfl) (fun hb14 => ob_call2 (by kernel_rfl) (c_Get ?_) (ArgOK.val (ArgOK.when (arg_op 15 1 rfl rfl rfl rfl) hb14) (mkF ((OwnS.sl (hV94.up g131)).up hs143) ((OwnS.sl (hV95.up g131)).up hs143) ((OwnS.sl (hV96.up g131)).up hs143) ((OwnS.sl (hV97.up g131)).up hs143))) (ArgOK.when (arg_op 16 0 rfl rfl rfl rfl) hb14)) ?_
    · assumption
    refine chg (b := _) rfl rfl (arg_op 14 3 rfl rfl rfl rfl) (fun hb14 => ob_load_state (ArgOK.ownp (arg_free 0 rfl rfl))) ?_
    refine chg (b := _) rfl rfl (arg_op 14 4 rfl rfl rfl rfl) (fun hb14 => ob_load_cell (ArgOK.ownp (arg_free 3 rfl rfl))) ?_
    refine chg (b := _) rfl rfl (arg_op 14 5 rfl rfl rfl rfl) (fun hb14 => ob_call2 (by kernel_rfl) (c_rGet ?_) (ArgOK.val (ArgOK.when (arg_op 18 1 rfl rfl rfl rfl) hb14) (mkF ((OwnS.sl (hV94.up g131)).up hs143) ((OwnS.sl (hV95.up g131)).up hs143) ((OwnS.sl (hV96.up g131)).up hs143) ((OwnS.sl (hV97.up g131)).up hs143))) (ArgOK.when (arg_op 19 0 rfl rfl rfl rfl) hb14)) ?_
    · assumption
    refine chg (b := _) rfl rfl (arg_op 14 6 rfl rfl rfl rfl) (fun hb14 => ob_eql (ArgOK.when (arg_op 17 3 rfl rfl rfl rfl) hb14) (ArgOK.when (arg_op 20 0 rfl rfl rfl rfl) hb14)) ?_
    refine ch rfl (ob_and (arg_op 14 7 rfl rfl rfl rfl) (arg_op 21 0 rfl rfl rfl rfl)) ?_
    refine ch rfl (ob_move (arg_op 22 0 rfl rfl rfl rfl)) ?_
    refine chg (b := _) rfl rfl (arg_op 23 0 rfl rfl rfl rfl) (fun hb23 => ob_load_state (ArgOK.ownp (arg_free 0 rfl rfl))) ?_
    refine chg (b := _) rfl rfl (arg_op 23 1 rfl rfl rfl rfl) (fun hb23 => ob_call1 (by kernel_rfl) (c_Total ?_) (ArgOK.val (ArgOK.when (arg_op 24 0 rfl rfl rfl rfl) hb23) (mkF ((OwnS.sl (hV94.up g131)).up hs143) ((OwnS.sl (hV95.up g131)).up hs143) ((OwnS.sl (hV96.up g131)).up hs143) ((OwnS.sl (hV97.up g131)).up hs143)))) ?_
    · assumption
    refine chg (b := _) rfl rfl (arg_op 23 2 rfl rfl rfl rfl) (fun hb23 => ob_load_state (ArgOK.ownp (arg_free 0 rfl rfl))) ?_
    refine chg (b := _) rfl rfl (arg_op 23 3 rfl rfl rfl rfl) (fun hb23 => ob_call1 (by kernel_rfl) (c_rTotal ?_) (ArgOK.val (ArgOK.when (arg_op 26 0 rfl rfl rfl rfl) hb23) (mkF ((OwnS.sl (hV94.up g131)).up hs143) ((OwnS.sl (hV95.up g131)).up hs143) ((OwnS.sl (hV96.up g131)).up hs143) ((OwnS.sl (hV97.up g131)).up hs143)))) ?_
    · assumption
    refine chg (b := _) rfl rfl (arg_op 23 4 rfl rfl rfl rfl) (fun hb23 => ob_eql (ArgOK.when (arg_op 25 2 rfl rfl rfl rfl) hb23) (ArgOK.when (arg_op 27 0 rfl rfl rfl rfl) hb23)) ?_
    refine ch rfl (ob_and (arg_op 23 5 rfl rfl rfl rfl) (arg_op 28 0 rfl rfl rfl rfl)) ?_
    refine ch rfl (ob_move (arg_op 29 0 rfl rfl rfl rfl)) ?_
    refine chg (b := _) rfl rfl (arg_op 30 0 rfl rfl rfl rfl) (fun hb30 => ob_call0 (by kernel_rfl) (c_awake21) ) ?_
    refine ch rfl (ob_and (arg_op 30 1 rfl rfl rfl rfl) (arg_op 31 0 rfl rfl rfl rfl)) ?_
    refine ch rfl (ob_assign (arg_op 32 0 rfl rfl rfl rfl)) ?_
    refine ch_nil ?_
    intro a144 w145 hf146 hg147 hk148 hn149
    have h150 : Holds _ (a144.eval (.tmp 6)) w145 := hn149.at 33 0 rfl rfl rfl
    have g151 := g127.trans hg147
    have g152 := g128.trans hg147
    have g153 := g129.trans hg147
    have g154 := g130.trans hg147
    have g155 := g131.trans hg147
    have g156 := g137.trans hg147
    clear g127 g128 g129 g130 g131 g137 hf104 hk148 hn149
    refine then_ ?_
    refine wp_ret ?_
    exact ret_tmp rfl hf146 g151 (is_cast h150 (congrArg Value.bool (by first | rfl | exact add_all)))
end Ex
end Go.Proofs.Ytnmfiiejhoafnaa
