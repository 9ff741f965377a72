/- The statements on marks, on the order of cells, on checks and on changes of amounts, walked. -/
import Derived.Test.YtnmfiiejhoafnaaCpState14
set_option linter.unusedSimpArgs false
set_option linter.unusedVariables false
namespace Go.Proofs.Ytnmfiiejhoafnaa
namespace Ex
open Go Calm Go.RowKit
theorem cmpC_in (a b : GCell) : -9223372036854775808 ≤ 0 - cmpC a b ∧ 0 - cmpC a b ≤ 9223372036854775807 := by
  unfold cmpC or3 cmpN cmpI
  (repeat' split) <;> omega
theorem comp_no {a b c : GCell} : (decide (cmpC a b ≠ cmpC a b) || decide (cmpC b c ≠ cmpC b c) || decide (cmpC a c ≠ cmpC a c) || decide (cmpC b a ≠ IntKind.i64.wrap (0 - cmpC a b)) || !(decide (cmpC a b = 0) == decide (a = b))) = false := by
  rw [wrap_in (cmpC_in a b), cmpC_neg a b, show decide (cmpC a b = 0) = decide (a = b) from decide_eq_decide.2 cmpC_eq]
  simp
theorem comp_yes {a b c : GCell} : ((decide (0 < cmpC a b) || decide (0 < cmpC b c) || decide (cmpC a c ≤ 0)) && (decide (cmpC a b < 0) || decide (cmpC b c < 0) || decide (0 ≤ cmpC a c)) && true) = true := by
  rw [(compare_law a b c).1, (compare_law a b c).2]
  rfl
set_option maxRecDepth 100000 in
theorem c_StateCompare {a b c : GCell} : Con3 23 (Is (cellV a)) (Is (cellV b)) (Is (cellV c)) (fun _ => Is (.bool true)) := by
  intro lo v0 v1 v2 w0 hlo hv0 hv1 hv2
  refine enter Try.func23 rfl Try.ntmps23 (by simp) ?_
  intro a0 hf0 ha
  have h00 : Holds _ (a0.eval (.tmp 0)) w0 := arg_holds ha rfl hv0
  have h01 : Holds _ (a0.eval (.tmp 1)) w0 := arg_holds ha rfl hv1
  have h02 : Holds _ (a0.eval (.tmp 2)) w0 := arg_holds ha rfl hv2
  clear ha
  have g0 : Grow w0 w0 := Grow.refl _
  refine wp_seq ?_
  refine wp_region_lit ?_
  refine wp_seg (l1 := [_]) [([0], [])] [1, 2] w0.heap.size hf0 g0.size (by kernel_rfl) (bund_cons h00 bund_nil) ?_
  refine ch rfl (ob_box_cell (arg_free 0 rfl rfl)) ?_
  refine ch_nil ?_
  intro a1 w2 hf3 hg4 hk5 hn6
  have h7 : Holds _ (a1.eval (.tmp 3)) w2 := hn6.at 0 0 rfl rfl rfl
  have h8 := hk5.holds rfl h01
  have h9 := hk5.holds rfl h02
  have g10 := g0.trans hg4
  obtain ⟨bk11, hl12, hv13, hb14⟩ := OwnB.blk (lo := w0.heap.size) h7
  clear h01 h02 g0 hf0 hk5 hn6
  have g15 : Grow w2 w2 := Grow.refl _
  have hl16 : bk11 < w2.heap.size := hb14.lt
  have hz17 : w0.heap.size ≤ w2.heap.size := g10.size
  refine wp_seg (l1 := [_]) [([1], [])] [2, 3] w2.heap.size hf3 g15.size (by kernel_rfl) (bund_cons (is_any h8) bund_nil) ?_
  refine ch rfl (ob_box_cell (arg_free 0 rfl rfl)) ?_
  refine ch_nil ?_
  intro a18 w19 hf20 hg21 hk22 hn23
  have h24 : Holds _ (a18.eval (.tmp 4)) w19 := hn23.at 0 0 rfl rfl rfl
  have h25 := hk22.holds rfl h9
  have hv26 : Holds (Is (PtrV bk11)) (a18.eval (.tmp 3)) w19 := is_any (hk22.holds rfl hv13)
  have hb27 := hb14.up hg21
  have g28 := g10.trans hg21
  have g29 := g15.trans hg21
  obtain ⟨bk30, hl31, hv32, hb33⟩ := OwnB.blk (lo := w2.heap.size) h24
  clear h9 hv13 hb14 g10 g15 hf3 hk22 hn23
  have g34 : Grow w19 w19 := Grow.refl _
  have hl35 : bk11 < w19.heap.size := hb27.lt
  have hl36 : bk30 < w19.heap.size := hb33.lt
  have hz37 : w2.heap.size ≤ w19.heap.size := g29.size
  refine wp_all [([2], []), ([], [])] [3, 4] w19.heap.size hf20 g34.size (by kernel_rfl) (bund_cons (is_any h25) bund_nil) ?_
  refine ch rfl (ob_box_cell (arg_free 0 rfl rfl)) ?_
  refine ch rfl (ob_assign arg_c) ?_
  refine ch_nil ?_
  intro a38 w39 hf40 hg41 hk42 hn43
  have h44 : Holds _ (a38.eval (.tmp 5)) w39 := hn43.at 0 1 rfl rfl rfl
  have hv45 : Holds (Is (PtrV bk11)) (a38.eval (.tmp 3)) w39 := is_any (hk42.holds rfl hv26)
  have hb46 := hb27.up hg41
  have hv47 : Holds (Is (PtrV bk30)) (a38.eval (.tmp 4)) w39 := is_any (hk42.holds rfl hv32)
  have hb48 := hb33.up hg41
  have g49 := g28.trans hg41
  have g50 := g29.trans hg41
  have g51 := g34.trans hg41
  obtain ⟨bk52, hl53, hv54, hb55⟩ := OwnB.blk (lo := w19.heap.size) h44
  clear hv26 hb27 hv32 hb33 g28 g29 g34 hf20 hk42 hn43
  refine then_ ?_
  refine wp_seq ?_
  have g56 : Grow w39 w39 := Grow.refl _
  have hl57 : bk11 < w39.heap.size := hb46.lt
  have hl58 : bk30 < w39.heap.size := hb48.lt
  have hl59 : bk52 < w39.heap.size := hb55.lt
  have hz60 : w19.heap.size ≤ w39.heap.size := g51.size
  refine wp_calm [0, 0, 3, 0, 0, 31, 0, 0, 255, 511, 1023, 2047] [([3], []), ([4], []), ([], [0, 1]), ([4], []), ([5], []), ([], [3, 4]), ([3], []), ([5], []), ([], [6, 7]), ([], [2]), ([], [5]), ([], [8])] [3, 4, 5] w39.heap.size hf40 g56.size (by kernel_rfl) (bund_cons (hb46.ownp hv45) (bund_cons (hb48.ownp hv47) (bund_cons (hb55.ownp hv54) bund_nil))) ?_
  intro ws61 hs62
  refine ch rfl (ob_load_cell (ArgOK.ownp (arg_free 0 rfl rfl))) ?_
  refine ch rfl (ob_load_cell (ArgOK.ownp (arg_free 1 rfl rfl))) ?_
  refine ch rfl (ob_call2 (by kernel_rfl) (c_cmpC) (arg_op 0 1 rfl rfl rfl rfl) (arg_op 1 0 rfl rfl rfl rfl)) ?_
  refine ch rfl (ob_load_cell (ArgOK.ownp (arg_free 1 rfl rfl))) ?_
  refine ch rfl (ob_load_cell (ArgOK.ownp (arg_free 2 rfl rfl))) ?_
  refine ch rfl (ob_call2 (by kernel_rfl) (c_cmpC) (arg_op 3 1 rfl rfl rfl rfl) (arg_op 4 0 rfl rfl rfl rfl)) ?_
  refine ch rfl (ob_load_cell (ArgOK.ownp (arg_free 0 rfl rfl))) ?_
  refine ch rfl (ob_load_cell (ArgOK.ownp (arg_free 2 rfl rfl))) ?_
  refine ch rfl (ob_call2 (by kernel_rfl) (c_cmpC) (arg_op 6 1 rfl rfl rfl rfl) (arg_op 7 0 rfl rfl rfl rfl)) ?_
  refine ch rfl (ob_assign (arg_op 2 6 rfl rfl rfl rfl)) ?_
  refine ch rfl (ob_assign (arg_op 5 4 rfl rfl rfl rfl)) ?_
  refine ch rfl (ob_assign (arg_op 8 2 rfl rfl rfl rfl)) ?_
  refine ch_nil ?_
  intro a63 w64 hf65 hg66 hk67 hn68
  have h69 : Holds _ (a63.eval (.tmp 7)) w64 := hn68.at 9 2 rfl rfl rfl
  have h70 : Holds _ (a63.eval (.tmp 8)) w64 := hn68.at 10 1 rfl rfl rfl
  have h71 : Holds _ (a63.eval (.tmp 9)) w64 := hn68.at 11 0 rfl rfl rfl
  have hv72 : Holds (Is (PtrV bk11)) (a63.eval (.tmp 3)) w64 := is_any (hk67.holds rfl hv45)
  have hb73 := hb46.up hg66
  have hv74 : Holds (Is (PtrV bk30)) (a63.eval (.tmp 4)) w64 := is_any (hk67.holds rfl hv47)
  have hb75 := hb48.up hg66
  have hv76 : Holds (Is (PtrV bk52)) (a63.eval (.tmp 5)) w64 := is_any (hk67.holds rfl hv54)
  have hb77 := hb55.up hg66
  have g78 := g49.trans hg66
  have g79 := g50.trans hg66
  have g80 := g51.trans hg66
  have g81 := g56.trans hg66
  clear hv45 hb46 hv47 hb48 hv54 hb55 g49 g50 g51 g56 hf40 hk67 hn68
  refine then_ ?_
  refine wp_seq ?_
  refine wp_seq ?_
  have g82 : Grow w64 w64 := Grow.refl _
  have hl83 : bk11 < w64.heap.size := hb73.lt
  have hl84 : bk30 < w64.heap.size := hb75.lt
  have hl85 : bk52 < w64.heap.size := hb77.lt
  have hz86 : w39.heap.size ≤ w64.heap.size := g81.size
  refine wp_region_lit ?_
  refine wp_all [([7], []), ([3], []), ([4], []), ([], [1, 2]), ([], [0, 3]), ([], [4]), ([8], [5]), ([4], [5]), ([5], [5]), ([], [7, 8, 5]), ([], [6, 9, 5]), ([], [5, 10]), ([], [11]), ([9], [12]), ([3], [12]), ([5], [12]), ([], [14, 15, 12]), ([], [13, 16, 12]), ([], [12, 17]), ([], [18]), ([4], [19]), ([3], [19]), ([], [20, 21, 19]), ([7], [19]), ([], [23, 19]), ([], [22, 24, 19]), ([], [19, 25]), ([], [26]), ([7], [27]), ([], [28, 27]), ([3], [27]), ([4], [27]), ([], [30, 31, 27]), ([], [29, 32, 27]), ([], [27, 33])] [7, 8, 9] w64.heap.size hf65 g82.size (by kernel_rfl) (bund_cons h69 (bund_cons (hb73.ownp hv72) (bund_cons (hb75.ownp hv74) (bund_cons h70 (bund_cons (hb77.ownp hv76) (bund_cons h71 bund_nil)))))) ?_
  refine ch rfl (ob_move (arg_free 0 rfl rfl)) ?_
  refine ch rfl (ob_load_cell (ArgOK.ownp (arg_free 1 rfl rfl))) ?_
  refine ch rfl (ob_load_cell (ArgOK.ownp (arg_free 2 rfl rfl))) ?_
  refine ch rfl (ob_call2 (by kernel_rfl) (c_rcmpC) (arg_op 1 1 rfl rfl rfl rfl) (arg_op 2 0 rfl rfl rfl rfl)) ?_
  refine ch rfl (ob_neq (arg_op 0 3 rfl rfl rfl rfl) (arg_op 3 0 rfl rfl rfl rfl)) ?_
  refine ch rfl (ob_move (arg_op 4 0 rfl rfl rfl rfl)) ?_
  refine chg (b := _) rfl rfl (arg_op 5 0 rfl rfl rfl rfl) (fun hb5 => ob_move (arg_free 3 rfl rfl)) ?_
  refine chg (b := _) rfl rfl (arg_op 5 1 rfl rfl rfl rfl) (fun hb5 => ob_load_cell (ArgOK.ownp (arg_free 2 rfl rfl))) ?_
  refine chg (b := _) rfl rfl (arg_op 5 2 rfl rfl rfl rfl) (fun hb5 => ob_load_cell (ArgOK.ownp (arg_free 4 rfl rfl))) ?_
  refine chg (b := _) rfl rfl (arg_op 5 3 rfl rfl rfl rfl) (fun hb5 => ob_call2 (by kernel_rfl) (c_rcmpC) (ArgOK.when (arg_op 7 1 rfl rfl rfl rfl) hb5) (ArgOK.when (arg_op 8 0 rfl rfl rfl rfl) hb5)) ?_
  refine chg (b := _) rfl rfl (arg_op 5 4 rfl rfl rfl rfl) (fun hb5 => ob_neq (ArgOK.when (arg_op 6 3 rfl rfl rfl rfl) hb5) (ArgOK.when (arg_op 9 0 rfl rfl rfl rfl) hb5)) ?_
  refine ch rfl (ob_or (arg_op 5 5 rfl rfl rfl rfl) (arg_op 10 0 rfl rfl rfl rfl)) ?_
  refine ch rfl (ob_move (arg_op 11 0 rfl rfl rfl rfl)) ?_
  refine chg (b := _) rfl rfl (arg_op 12 0 rfl rfl rfl rfl) (fun hb12 => ob_move (arg_free 5 rfl rfl)) ?_
  refine chg (b := _) rfl rfl (arg_op 12 1 rfl rfl rfl rfl) (fun hb12 => ob_load_cell (ArgOK.ownp (arg_free 1 rfl rfl))) ?_
  refine chg (b := _) rfl rfl (arg_op 12 2 rfl rfl rfl rfl) (fun hb12 => ob_load_cell (ArgOK.ownp (arg_free 4 rfl rfl))) ?_
  refine chg (b := _) rfl rfl (arg_op 12 3 rfl rfl rfl rfl) (fun hb12 => ob_call2 (by kernel_rfl) (c_rcmpC) (ArgOK.when (arg_op 14 1 rfl rfl rfl rfl) hb12) (ArgOK.when (arg_op 15 0 rfl rfl rfl rfl) hb12)) ?_
  refine chg (b := _) rfl rfl (arg_op 12 4 rfl rfl rfl rfl) (fun hb12 => ob_neq (ArgOK.when (arg_op 13 3 rfl rfl rfl rfl) hb12) (ArgOK.when (arg_op 16 0 rfl rfl rfl rfl) hb12)) ?_
  refine ch rfl (ob_or (arg_op 12 5 rfl rfl rfl rfl) (arg_op 17 0 rfl rfl rfl rfl)) ?_
  refine ch rfl (ob_move (arg_op 18 0 rfl rfl rfl rfl)) ?_
  refine chg (b := _) rfl rfl (arg_op 19 0 rfl rfl rfl rfl) (fun hb19 => ob_load_cell (ArgOK.ownp (arg_free 2 rfl rfl))) ?_
  refine chg (b := _) rfl rfl (arg_op 19 1 rfl rfl rfl rfl) (fun hb19 => ob_load_cell (ArgOK.ownp (arg_free 1 rfl rfl))) ?_
  refine chg (b := _) rfl rfl (arg_op 19 2 rfl rfl rfl rfl) (fun hb19 => ob_call2 (by kernel_rfl) (c_cmpC) (ArgOK.when (arg_op 20 1 rfl rfl rfl rfl) hb19) (ArgOK.when (arg_op 21 0 rfl rfl rfl rfl) hb19)) ?_
  refine chg (b := _) rfl rfl (arg_op 19 3 rfl rfl rfl rfl) (fun hb19 => ob_move (arg_free 0 rfl rfl)) ?_
  refine chg (b := _) rfl rfl (arg_op 19 4 rfl rfl rfl rfl) (fun hb19 => ob_neg (ArgOK.when (arg_op 23 0 rfl rfl rfl rfl) hb19)) ?_
  refine chg (b := _) rfl rfl (arg_op 19 5 rfl rfl rfl rfl) (fun hb19 => ob_neq (ArgOK.when (arg_op 22 2 rfl rfl rfl rfl) hb19) (ArgOK.when (arg_op 24 0 rfl rfl rfl rfl) hb19)) ?_
  refine ch rfl (ob_or (arg_op 19 6 rfl rfl rfl rfl) (arg_op 25 0 rfl rfl rfl rfl)) ?_
  refine ch rfl (ob_move (arg_op 26 0 rfl rfl rfl rfl)) ?_
  refine chg (b := _) rfl rfl (arg_op 27 0 rfl rfl rfl rfl) (fun hb27 => ob_move (arg_free 0 rfl rfl)) ?_
  refine chg (b := _) rfl rfl (arg_op 27 1 rfl rfl rfl rfl) (fun hb27 => ob_eql (ArgOK.when (arg_op 28 0 rfl rfl rfl rfl) hb27) arg_c) ?_
  refine chg (b := _) rfl rfl (arg_op 27 2 rfl rfl rfl rfl) (fun hb27 => ob_load_cell (ArgOK.ownp (arg_free 1 rfl rfl))) ?_
  refine chg (b := _) rfl rfl (arg_op 27 3 rfl rfl rfl rfl) (fun hb27 => ob_load_cell (ArgOK.ownp (arg_free 2 rfl rfl))) ?_
  refine chg (b := _) rfl rfl (arg_op 27 4 rfl rfl rfl rfl) (fun hb27 => ob_eqcell (ArgOK.when (arg_op 30 1 rfl rfl rfl rfl) hb27) (ArgOK.when (arg_op 31 0 rfl rfl rfl rfl) hb27)) ?_
  refine chg (b := _) rfl rfl (arg_op 27 5 rfl rfl rfl rfl) (fun hb27 => ob_neqbool (ArgOK.when (arg_op 29 3 rfl rfl rfl rfl) hb27) (ArgOK.when (arg_op 32 0 rfl rfl rfl rfl) hb27) Try.underlying4) ?_
  refine ch rfl (ob_or (arg_op 27 6 rfl rfl rfl rfl) (arg_op 33 0 rfl rfl rfl rfl)) ?_
  refine ch_nil ?_
  intro a87 w88 hf89 hg90 hk91 hn92
  have h93 : Holds _ (a87.eval (.tmp 53)) w88 := hn92.at 34 0 rfl rfl rfl
  have h94 := hk91.holds rfl h69
  have h95 := hk91.holds rfl h70
  have h96 := hk91.holds rfl h71
  have g97 := g78.trans hg90
  have g98 := g79.trans hg90
  have g99 := g80.trans hg90
  have g100 := g81.trans hg90
  have g101 := g82.trans hg90
  clear h69 h70 h71 g78 g79 g80 g81 g82 hf65 hk91 hn92
  refine then_ ?_
  refine wp_if h93 ?_ ?_
  · intro hc102
    exact absurd (comp_no.symm.trans hc102) (by decide)
  · intro hc102
    refine wp_skip ?_
    refine then_ ?_
    refine wp_seq ?_
    have g103 : Grow w88 w88 := Grow.refl _
    have hz104 : w64.heap.size ≤ w88.heap.size := g101.size
    refine wp_region_lit ?_
    refine wp_all [([7], []), ([], [0]), ([], [1]), ([8], [2]), ([], [3, 2]), ([], [2, 4]), ([], [5]), ([9], [6]), ([], [7, 6]), ([], [6, 8]), ([], [9]), ([7], [10]), ([], [11, 10]), ([], [12, 10]), ([8], [13]), ([], [14, 13]), ([], [13, 15, 10]), ([], [16, 10]), ([9], [17]), ([], [18, 17]), ([], [17, 19, 10]), ([], [10, 20]), ([], [21]), ([], [22]), ([], [22, 23]), ([], [24])] [] w88.heap.size hf89 g103.size (by kernel_rfl) (bund_cons (is_any h94) (bund_cons (is_any h95) (bund_cons (is_any h96) bund_nil))) ?_
    refine ch rfl (ob_move (arg_free 0 rfl rfl)) ?_
    refine ch rfl (ob_gtr (arg_op 0 0 rfl rfl rfl rfl) arg_c) ?_
    refine ch rfl (ob_move (arg_op 1 0 rfl rfl rfl rfl)) ?_
    refine chg (b := _) rfl rfl (arg_op 2 0 rfl rfl rfl rfl) (fun hb2 => ob_move (arg_free 1 rfl rfl)) ?_
    refine chg (b := _) rfl rfl (arg_op 2 1 rfl rfl rfl rfl) (fun hb2 => ob_gtr (ArgOK.when (arg_op 3 0 rfl rfl rfl rfl) hb2) arg_c) ?_
    refine ch rfl (ob_or (arg_op 2 2 rfl rfl rfl rfl) (arg_op 4 0 rfl rfl rfl rfl)) ?_
    refine ch rfl (ob_move (arg_op 5 0 rfl rfl rfl rfl)) ?_
    refine chg (b := _) rfl rfl (arg_op 6 0 rfl rfl rfl rfl) (fun hb6 => ob_move (arg_free 2 rfl rfl)) ?_
    refine chg (b := _) rfl rfl (arg_op 6 1 rfl rfl rfl rfl) (fun hb6 => ob_leq (ArgOK.when (arg_op 7 0 rfl rfl rfl rfl) hb6) arg_c) ?_
    refine ch rfl (ob_or (arg_op 6 2 rfl rfl rfl rfl) (arg_op 8 0 rfl rfl rfl rfl)) ?_
    refine ch rfl (ob_move (arg_op 9 0 rfl rfl rfl rfl)) ?_
    refine chg (b := _) rfl rfl (arg_op 10 0 rfl rfl rfl rfl) (fun hb10 => ob_move (arg_free 0 rfl rfl)) ?_
    refine chg (b := _) rfl rfl (arg_op 10 1 rfl rfl rfl rfl) (fun hb10 => ob_lss (ArgOK.when (arg_op 11 0 rfl rfl rfl rfl) hb10) arg_c) ?_
    refine chg (b := _) rfl rfl (arg_op 10 2 rfl rfl rfl rfl) (fun hb10 => ob_move (ArgOK.when (arg_op 12 0 rfl rfl rfl rfl) hb10)) ?_
    refine chgn (b := _) rfl rfl (arg_op 13 0 rfl rfl rfl rfl) (fun ⟨hb10, hb13⟩ => ob_move (arg_free 1 rfl rfl)) ?_
    refine chgn (b := _) rfl rfl (arg_op 13 1 rfl rfl rfl rfl) (fun ⟨hb10, hb13⟩ => ob_lss (ArgOK.when (arg_op 14 0 rfl rfl rfl rfl) ⟨hb10, hb13⟩) arg_c) ?_
    refine chg (b := _) rfl rfl (arg_op 10 5 rfl rfl rfl rfl) (fun hb10 => ob_or (ArgOK.when (arg_op 13 2 rfl rfl rfl rfl) hb10) (ArgOK.whenAnd (arg_op 15 0 rfl rfl rfl rfl) hb10)) ?_
    refine chg (b := _) rfl rfl (arg_op 10 6 rfl rfl rfl rfl) (fun hb10 => ob_move (ArgOK.when (arg_op 16 0 rfl rfl rfl rfl) hb10)) ?_
    refine chgn (b := _) rfl rfl (arg_op 17 0 rfl rfl rfl rfl) (fun ⟨hb10, hb17⟩ => ob_move (arg_free 2 rfl rfl)) ?_
    refine chgn (b := _) rfl rfl (arg_op 17 1 rfl rfl rfl rfl) (fun ⟨hb10, hb17⟩ => ob_geq (ArgOK.when (arg_op 18 0 rfl rfl rfl rfl) ⟨hb10, hb17⟩) arg_c) ?_
    refine chg (b := _) rfl rfl (arg_op 10 9 rfl rfl rfl rfl) (fun hb10 => ob_or (ArgOK.when (arg_op 17 2 rfl rfl rfl rfl) hb10) (ArgOK.whenAnd (arg_op 19 0 rfl rfl rfl rfl) hb10)) ?_
    refine ch rfl (ob_and (arg_op 10 10 rfl rfl rfl rfl) (arg_op 20 0 rfl rfl rfl rfl)) ?_
    refine ch rfl (ob_move (arg_op 21 0 rfl rfl rfl rfl)) ?_
    refine chg (b := _) rfl rfl (arg_op 22 0 rfl rfl rfl rfl) (fun hb22 => ob_call0 (by kernel_rfl) (c_awake21) ) ?_
    refine ch rfl (ob_and (arg_op 22 1 rfl rfl rfl rfl) (arg_op 23 0 rfl rfl rfl rfl)) ?_
    refine ch rfl (ob_assign (arg_op 24 0 rfl rfl rfl rfl)) ?_
    refine ch_nil ?_
    intro a105 w106 hf107 hg108 hk109 hn110
    have h111 : Holds _ (a105.eval (.tmp 6)) w106 := hn110.at 25 0 rfl rfl rfl
    have g112 := g97.trans hg108
    have g113 := g98.trans hg108
    have g114 := g99.trans hg108
    have g115 := g100.trans hg108
    have g116 := g101.trans hg108
    have g117 := g103.trans hg108
    clear g97 g98 g99 g100 g101 g103 hf89 hk109 hn110
    refine then_ ?_
    refine wp_ret ?_
    exact ret_tmp rfl hf107 g112 (is_cast h111 (congrArg Value.bool (by first | rfl | exact comp_yes)))
end Ex
end Go.Proofs.Ytnmfiiejhoafnaa
