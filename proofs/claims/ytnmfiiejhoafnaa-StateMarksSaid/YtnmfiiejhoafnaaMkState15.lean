/- The statements on marks, on the order of cells, on checks and on changes of amounts, walked. -/
import Derived.Test.YtnmfiiejhoafnaaMkState14
set_option linter.unusedSimpArgs false
set_option linter.unusedVariables false
namespace Go.Proofs.Ytnmfiiejhoafnaa
namespace Ex
open Go Calm Go.RowKit
theorem big_no {s : GState} (h : bigS s = false) : s.cells.length ≤ 100 ∧ s.seqs.length ≤ 100 ∧ s.locks.length ≤ 100 ∧ s.applied.length ≤ 100 := by
  unfold bigS at h
  simp only [Bool.or_eq_false_iff, decide_eq_false_iff_not] at h
  omega
theorem small_ok {s : GState} (h : s.cells.length ≤ 100 ∧ s.seqs.length ≤ 100 ∧ s.locks.length ≤ 100 ∧ s.applied.length ≤ 100) : stOK s := ⟨by omega, by omega, by omega, by omega⟩
theorem mark_ok {s : GState} {n : UInt64} (h : s.cells.length ≤ 100 ∧ s.seqs.length ≤ 100 ∧ s.locks.length ≤ 100 ∧ s.applied.length ≤ 100) : stOK (markS s n) := by
  unfold markS
  split
  · exact small_ok h
  · refine ⟨by simp only; omega, by simp only; omega, by simp only; omega, ?_⟩
    unfold insL
    simp only [List.length_append, List.length_cons, List.length_take, List.length_drop]
    omega
theorem mark_all {s : GState} {n m : UInt64} : (((decide (markS s n = markS s n) && (s.applied.any fun y => decide (m = y)) == s.applied.any fun y => decide (y = m)) && ((markS s n).applied.any fun y => decide (n = y))) && (decide (m = n) || (((markS s n).applied.any fun y => decide (m = y)) == s.applied.any fun y => decide (m = y))) && true) = true := by
  rw [any_comm, markS_mem, markS_mem]
  by_cases h : m = n <;> simp [h]
set_option maxRecDepth 100000 in
theorem c_StateMarks {s : GState} {n m : UInt64} : Con3 9 (StF s) (Is (nmV n)) (Is (nmV m)) (fun _ => Is (.bool true)) := by
  intro lo v0 v1 v2 w0 hlo hv0 hv1 hv2
  refine enter Try.func9 rfl Try.ntmps9 (by simp) ?_
  intro a0 hf0 ha
  obtain ⟨va0, vb0, vc0, vd0, he0, hva0, hvb0, hvc0, hvd0⟩ := openF hv0
  have h00 : Holds (Is _) (a0.eval (.tmp 0)) w0 := arg_holds ha rfl he0
  have h01 : Holds _ (a0.eval (.tmp 1)) w0 := arg_holds ha rfl hv1
  have h02 : Holds _ (a0.eval (.tmp 2)) w0 := arg_holds ha rfl hv2
  clear ha
  have g0 : Grow w0 w0 := Grow.refl _
  refine wp_seq ?_
  refine wp_region_lit ?_
  refine wp_seg (l1 := [_]) [([0], [])] [1, 2] w0.heap.size hf0 g0.size (by kernel_rfl) (bund_cons h00 bund_nil) ?_
  refine ch rfl (ob_box_state (arg_free 0 rfl rfl)) ?_
  refine ch_nil ?_
  intro a1 w2 hf3 hg4 hk5 hn6
  have h7 : Holds _ (a1.eval (.tmp 3)) w2 := hn6.at 0 0 rfl rfl rfl
  have h8 := hk5.holds rfl h01
  have h9 := hk5.holds rfl h02
  have g10 := g0.trans hg4
  obtain ⟨bk11, hl12, hv13, hb14⟩ := OwnB.blk (lo := w0.heap.size) h7
  clear h01 h02 g0 hf0 hk5 hn6
  have g15 : Grow w2 w2 := Grow.refl _
  have hl16 : bk11 < w2.heap.size := hb14.lt
  have hz17 : w0.heap.size ≤ w2.heap.size := g10.size
  refine wp_seg (l1 := [_]) [([1], [])] [2, 3] w2.heap.size hf3 g15.size (by kernel_rfl) (bund_cons (is_any h8) bund_nil) ?_
  refine ch rfl (ob_box_nm (arg_free 0 rfl rfl)) ?_
  refine ch_nil ?_
  intro a18 w19 hf20 hg21 hk22 hn23
  have h24 : Holds _ (a18.eval (.tmp 4)) w19 := hn23.at 0 0 rfl rfl rfl
  have h25 := hk22.holds rfl h9
  have hv26 : Holds (Is (PtrV bk11)) (a18.eval (.tmp 3)) w19 := is_any (hk22.holds rfl hv13)
  have hb27 := hb14.up hg21
  have g28 := g10.trans hg21
  have g29 := g15.trans hg21
  obtain ⟨bk30, hl31, hv32, hb33⟩ := OwnB.blk (lo := w2.heap.size) h24
  clear h9 hv13 hb14 g10 g15 hf3 hk22 hn23
  have g34 : Grow w19 w19 := Grow.refl _
  have hl35 : bk11 < w19.heap.size := hb27.lt
  have hl36 : bk30 < w19.heap.size := hb33.lt
  have hz37 : w2.heap.size ≤ w19.heap.size := g29.size
  refine wp_all [([2], []), ([], [])] [3, 4] w19.heap.size hf20 g34.size (by kernel_rfl) (bund_cons (is_any h25) bund_nil) ?_
  refine ch rfl (ob_box_nm (arg_free 0 rfl rfl)) ?_
  refine ch rfl (ob_assign arg_c) ?_
  refine ch_nil ?_
  intro a38 w39 hf40 hg41 hk42 hn43
  have h44 : Holds _ (a38.eval (.tmp 5)) w39 := hn43.at 0 1 rfl rfl rfl
  have hv45 : Holds (Is (PtrV bk11)) (a38.eval (.tmp 3)) w39 := is_any (hk42.holds rfl hv26)
  have hb46 := hb27.up hg41
  have hv47 : Holds (Is (PtrV bk30)) (a38.eval (.tmp 4)) w39 := is_any (hk42.holds rfl hv32)
  have hb48 := hb33.up hg41
  have g49 := g28.trans hg41
  have g50 := g29.trans hg41
  have g51 := g34.trans hg41
  obtain ⟨bk52, hl53, hv54, hb55⟩ := OwnB.blk (lo := w19.heap.size) h44
  clear hv26 hb27 hv32 hb33 g28 g29 g34 hf20 hk42 hn43
  refine then_ ?_
  refine wp_seq ?_
  refine wp_seq ?_
  have g56 : Grow w39 w39 := Grow.refl _
  have hl57 : bk11 < w39.heap.size := hb46.lt
  have hl58 : bk30 < w39.heap.size := hb48.lt
  have hl59 : bk52 < w39.heap.size := hb55.lt
  have hz60 : w19.heap.size ≤ w39.heap.size := g51.size
  refine wp_region_lit ?_
  refine wp_all [([3], []), ([], [0])] [3, 4, 5] w39.heap.size hf40 g56.size (by kernel_rfl) (bund_cons (hb46.ownp hv45) bund_nil) ?_
  refine ch rfl (ob_load_state (ArgOK.ownp (arg_free 0 rfl rfl))) ?_
  refine ch rfl (ob_call1 (by kernel_rfl) (c_large) (ArgOK.val (arg_op 0 0 rfl rfl rfl rfl) (mkFs (s := s) (hva0.up g49) (hvb0.up g49) (hvc0.up g49) (hvd0.up g49)))) ?_
  refine ch_nil ?_
  intro a61 w62 hf63 hg64 hk65 hn66
  have h67 : Holds _ (a61.eval (.tmp 9)) w62 := hn66.at 1 0 rfl rfl rfl
  have hv68 : Holds (Is (PtrV bk11)) (a61.eval (.tmp 3)) w62 := is_any (hk65.holds rfl hv45)
  have hb69 := hb46.up hg64
  have hv70 : Holds (Is (PtrV bk30)) (a61.eval (.tmp 4)) w62 := is_any (hk65.holds rfl hv47)
  have hb71 := hb48.up hg64
  have hv72 : Holds (Is (PtrV bk52)) (a61.eval (.tmp 5)) w62 := is_any (hk65.holds rfl hv54)
  have hb73 := hb55.up hg64
  have g74 := g49.trans hg64
  have g75 := g50.trans hg64
  have g76 := g51.trans hg64
  have g77 := g56.trans hg64
  clear hv45 hb46 hv47 hb48 hv54 hb55 g49 g50 g51 g56 hf40 hk65 hn66
  refine then_ ?_
  refine wp_if h67 ?_ ?_
  · intro hc78
    refine wp_seq ?_
    have g79 : Grow w62 w62 := Grow.refl _
    have hl80 : bk11 < w62.heap.size := hb69.lt
    have hl81 : bk30 < w62.heap.size := hb71.lt
    have hl82 : bk52 < w62.heap.size := hb73.lt
    have hz83 : w39.heap.size ≤ w62.heap.size := g77.size
    refine wp_region_lit ?_
    refine wp_all [([], []), ([], [0])] [] w62.heap.size hf63 g79.size (by kernel_rfl) bund_nil ?_
    refine ch rfl (ob_call0 (by kernel_rfl) (c_awake21) ) ?_
    refine ch rfl (ob_assign (arg_op 0 0 rfl rfl rfl rfl)) ?_
    refine ch_nil ?_
    intro a84 w85 hf86 hg87 hk88 hn89
    have h90 : Holds _ (a84.eval (.tmp 6)) w85 := hn89.at 1 0 rfl rfl rfl
    have g91 := g74.trans hg87
    have g92 := g75.trans hg87
    have g93 := g76.trans hg87
    have g94 := g77.trans hg87
    have g95 := g79.trans hg87
    clear g74 g75 g76 g77 g79 hf63 hk88 hn89
    refine then_ ?_
    refine wp_ret ?_
    refine thenR ?_
    exact ret_tmp rfl hf86 g91 (is_cast h90 (congrArg Value.bool (by first | rfl | exact mark_all)))
  · intro hc78
    have hb := big_no hc78; have hs := small_ok hb; have hm := mark_ok (n := n) hb; obtain ⟨hs1, hs2, hs3, hs4⟩ := id hs; obtain ⟨hm1, hm2, hm3, hm4⟩ := id hm
    refine wp_skip ?_
    refine then_ ?_
    refine wp_seq ?_
    have g96 : Grow w62 w62 := Grow.refl _
    have hl97 : bk11 < w62.heap.size := hb69.lt
    have hl98 : bk30 < w62.heap.size := hb71.lt
    have hl99 : bk52 < w62.heap.size := hb73.lt
    have hz100 : w39.heap.size ≤ w62.heap.size := g77.size
    refine wp_region_lit ?_
    refine wp_seg (l1 := [_, _, _]) [([3], []), ([4], []), ([], [0, 1])] [3, 4, 5] w62.heap.size hf63 g96.size (by kernel_rfl) (bund_cons (hb69.ownp hv68) (bund_cons (hb71.ownp hv70) bund_nil)) ?_
    refine ch rfl (ob_load_state (ArgOK.ownp (arg_free 0 rfl rfl))) ?_
    refine ch rfl (ob_load_nm (ArgOK.ownp (arg_free 1 rfl rfl))) ?_
    refine ch rfl (ob_call2 (by kernel_rfl) (c_Mark ?_) (ArgOK.val (arg_op 0 1 rfl rfl rfl rfl) (mkFs (s := s) (hva0.up g74) (hvb0.up g74) (hvc0.up g74) (hvd0.up g74))) (arg_op 1 0 rfl rfl rfl rfl)) ?_
    · assumption
    refine ch_nil ?_
    intro a101 w102 hf103 hg104 hk105 hn106
    have h107 : Holds (StO w62.heap.size _) (a101.eval (.tmp 13)) w102 := hn106.at 2 0 rfl rfl rfl
    have hv108 : Holds (Is (PtrV bk11)) (a101.eval (.tmp 3)) w102 := is_any (hk105.holds rfl hv68)
    have hb109 := hb69.up hg104
    have hv110 : Holds (Is (PtrV bk30)) (a101.eval (.tmp 4)) w102 := is_any (hk105.holds rfl hv70)
    have hb111 := hb71.up hg104
    have hv112 : Holds (Is (PtrV bk52)) (a101.eval (.tmp 5)) w102 := is_any (hk105.holds rfl hv72)
    have hb113 := hb73.up hg104
    have g114 := g74.trans hg104
    have g115 := g75.trans hg104
    have g116 := g76.trans hg104
    have g117 := g77.trans hg104
    have g118 := g96.trans hg104
    clear hv68 hb69 hv70 hb71 hv72 hb73 g74 g75 g76 g77 g96 hf63 hk105 hn106
    obtain ⟨V119, V120, V121, V122, h123, hV124, hV125, hV126, hV127⟩ := openO h107
    have g128 : Grow w102 w102 := Grow.refl _
    have hl129 : bk11 < w102.heap.size := hb109.lt
    have hl130 : bk30 < w102.heap.size := hb111.lt
    have hl131 : bk52 < w102.heap.size := hb113.lt
    have hz132 : w62.heap.size ≤ w102.heap.size := g118.size
    refine wp_seg (l1 := [_]) [([], [])] [3, 4, 5, 13] w102.heap.size hf103 g128.size (by kernel_rfl) bund_nil ?_
    refine ch rfl (ob_alloc_state) ?_
    refine ch_nil ?_
    intro a133 w134 hf135 hg136 hk137 hn138
    have h139 : Holds _ (a133.eval (.tmp 7)) w134 := hn138.at 0 0 rfl rfl rfl
    have h140 := hk137.holds rfl h123
    have hv141 : Holds (Is (PtrV bk11)) (a133.eval (.tmp 3)) w134 := is_any (hk137.holds rfl hv108)
    have hb142 := hb109.up hg136
    have hv143 : Holds (Is (PtrV bk30)) (a133.eval (.tmp 4)) w134 := is_any (hk137.holds rfl hv110)
    have hb144 := hb111.up hg136
    have hv145 : Holds (Is (PtrV bk52)) (a133.eval (.tmp 5)) w134 := is_any (hk137.holds rfl hv112)
    have hb146 := hb113.up hg136
    have g147 := g114.trans hg136
    have g148 := g115.trans hg136
    have g149 := g116.trans hg136
    have g150 := g117.trans hg136
    have g151 := g118.trans hg136
    have g152 := g128.trans hg136
    obtain ⟨bk153, hl154, hv155, hb156⟩ := OwnB.blk (lo := w102.heap.size) h139
    clear h123 hv108 hb109 hv110 hb111 hv112 hb113 g114 g115 g116 g117 g118 g128 hf103 hk137 hn138
    refine wl_store_state hv155 hb156 rfl (is_any h140) (st_oneS (OwnS.sl (hV124.up g152)) (OwnS.sl (hV125.up g152)) (OwnS.sl (hV126.up g152)) (OwnS.sl (hV127.up g152))) ?_
    intro w157 ho158 hb159
    have g160 : Grow w0 w157 := g147.only ho158 (by omega)
    have g161 : Grow w2 w157 := g148.only ho158 (by omega)
    have g162 : Grow w19 w157 := g149.only ho158 (by omega)
    have g163 : Grow w39 w157 := g150.only ho158 (by omega)
    have g164 : Grow w62 w157 := g151.only ho158 (by omega)
    have g165 : Grow w102 w157 := g152.only ho158 (by omega)
    have hv166 : Holds (Is (PtrV bk11)) (a133.eval (.tmp 3)) w157 := is_any hv141
    have hb167 : Blk bk11 _ w157 := hb142.only ho158 (by omega)
    have hv168 : Holds (Is (PtrV bk30)) (a133.eval (.tmp 4)) w157 := is_any hv143
    have hb169 : Blk bk30 _ w157 := hb144.only ho158 (by omega)
    have hv170 : Holds (Is (PtrV bk52)) (a133.eval (.tmp 5)) w157 := is_any hv145
    have hb171 : Blk bk52 _ w157 := hb146.only ho158 (by omega)
    have hv172 : Holds (Is (PtrV bk153)) (a133.eval (.tmp 7)) w157 := is_any hv155
    refine wpList_nil ?_
    refine then_ ?_
    refine wp_seq ?_
    have g173 : Grow w157 w157 := Grow.refl _
    have hl174 : bk11 < w157.heap.size := hb167.lt
    have hl175 : bk30 < w157.heap.size := hb169.lt
    have hl176 : bk52 < w157.heap.size := hb171.lt
    have hl177 : bk153 < w157.heap.size := hb159.lt
    have hz178 : w102.heap.size ≤ w157.heap.size := g165.size
    refine wp_calm [0, 0, 0, 6, 15, 31, 63, 63, 255, 63, 575, 63, 4095, 8191, 16383, 32767, 65535, 65535, 262143, 524287, 1048575, 2097151, 2097151, 8388607, 16777215, 33554431, 33554431, 134217727, 33554431, 33554431, 1073741823, 2147483647, 4294967295, 8589934591, 17179869183, 34359738367, 68719476735, 137438953471] [([7], []), ([3], []), ([4], []), ([], [1, 2]), ([], [0, 3]), ([], [4]), ([3], [5]), ([5], [5]), ([], [6, 7, 5]), ([3], [5]), ([], [9, 5]), ([5], [5]), ([], [10, 11, 5]), ([], [8, 12, 5]), ([], [5, 13]), ([], [14]), ([7], [15]), ([4], [15]), ([], [16, 17, 15]), ([], [15, 18]), ([], [19]), ([5], [20]), ([4], [20]), ([], [21, 22, 20]), ([], [23, 20]), ([7], [24]), ([5], [24]), ([], [25, 26, 24]), ([3], [24]), ([5], [24]), ([], [28, 29, 24]), ([], [27, 30, 24]), ([], [24, 31, 20]), ([], [20, 32]), ([], [33]), ([], [34]), ([], [34, 35]), ([], [36])] [] w157.heap.size hf135 g173.size (by kernel_rfl) (bund_cons (hb159.ownp hv172) (bund_cons (hb167.ownp hv166) (bund_cons (hb169.ownp hv168) (bund_cons (hb171.ownp hv170) bund_nil)))) ?_
    intro ws179 hs180
    refine ch rfl (ob_load_state (ArgOK.ownp (arg_free 0 rfl rfl))) ?_
    refine ch rfl (ob_load_state (ArgOK.ownp (arg_free 1 rfl rfl))) ?_
    refine ch rfl (ob_load_nm (ArgOK.ownp (arg_free 2 rfl rfl))) ?_
    refine ch rfl (ob_call2 (by kernel_rfl) (c_rMark ?_) (ArgOK.val (arg_op 1 1 rfl rfl rfl rfl) (mkFs (s := s) ((hva0.up g160).up hs180) ((hvb0.up g160).up hs180) ((hvc0.up g160).up hs180) ((hvd0.up g160).up hs180))) (arg_op 2 0 rfl rfl rfl rfl)) ?_
    · assumption
    refine ch rfl (ob_call2 (by kernel_rfl) (c_sameS ?_) (ArgOK.val (arg_op 0 3 rfl rfl rfl rfl) (mkF ((OwnS.sl (hV124.up g165)).up hs180) ((OwnS.sl (hV125.up g165)).up hs180) ((OwnS.sl (hV126.up g165)).up hs180) ((OwnS.sl (hV127.up g165)).up hs180))) (ArgOK.ofstate (arg_op 3 0 rfl rfl rfl rfl))) ?_
    · assumption
    refine ch rfl (ob_move (arg_op 4 0 rfl rfl rfl rfl)) ?_
    refine chg (b := _) rfl rfl (arg_op 5 0 rfl rfl rfl rfl) (fun hb5 => ob_load_state (ArgOK.ownp (arg_free 1 rfl rfl))) ?_
    refine chg (b := _) rfl rfl (arg_op 5 1 rfl rfl rfl rfl) (fun hb5 => ob_load_nm (ArgOK.ownp (arg_free 3 rfl rfl))) ?_
    refine chg (b := _) rfl rfl (arg_op 5 2 rfl rfl rfl rfl) (fun hb5 => ob_call2 (by kernel_rfl) (c_applied ?_) (ArgOK.val (ArgOK.when (arg_op 6 1 rfl rfl rfl rfl) hb5) (mkFs (s := s) ((hva0.up g160).up hs180) ((hvb0.up g160).up hs180) ((hvc0.up g160).up hs180) ((hvd0.up g160).up hs180))) (ArgOK.when (arg_op 7 0 rfl rfl rfl rfl) hb5)) ?_
    · assumption
    refine chg (b := _) rfl rfl (arg_op 5 3 rfl rfl rfl rfl) (fun hb5 => ob_faP (n := 0) (arg_free 1 rfl rfl) Try.underlying42 rfl (by kernel_rfl)) ?_
    refine chg (b := _) rfl rfl (arg_op 5 4 rfl rfl rfl rfl) (fun hb5 => ob_loadP (ArgOK.when (arg_op 9 0 rfl rfl rfl rfl) hb5) Try.underlying39 rfl rfl) ?_
    refine chg (b := _) rfl rfl (arg_op 5 5 rfl rfl rfl rfl) (fun hb5 => ob_load_nm (ArgOK.ownp (arg_free 3 rfl rfl))) ?_
    refine chg (b := _) rfl rfl (arg_op 5 6 rfl rfl rfl rfl) (fun hb5 => ob_call2 (by kernel_rfl) (c_hasName ?_) (ArgOK.val (ArgOK.when (arg_op 10 1 rfl rfl rfl rfl) hb5) ((hvd0.up g160).up hs180)) (ArgOK.when (arg_op 11 0 rfl rfl rfl rfl) hb5)) ?_
    · omega
    refine chg (b := _) rfl rfl (arg_op 5 7 rfl rfl rfl rfl) (fun hb5 => ob_eqbool (ArgOK.when (arg_op 8 4 rfl rfl rfl rfl) hb5) (ArgOK.when (arg_op 12 0 rfl rfl rfl rfl) hb5) Try.underlying4) ?_
    refine ch rfl (ob_and (arg_op 5 8 rfl rfl rfl rfl) (arg_op 13 0 rfl rfl rfl rfl)) ?_
    refine ch rfl (ob_move (arg_op 14 0 rfl rfl rfl rfl)) ?_
    refine chg (b := _) rfl rfl (arg_op 15 0 rfl rfl rfl rfl) (fun hb15 => ob_load_state (ArgOK.ownp (arg_free 0 rfl rfl))) ?_
    refine chg (b := _) rfl rfl (arg_op 15 1 rfl rfl rfl rfl) (fun hb15 => ob_load_nm (ArgOK.ownp (arg_free 2 rfl rfl))) ?_
    refine chg (b := _) rfl rfl (arg_op 15 2 rfl rfl rfl rfl) (fun hb15 => ob_call2 (by kernel_rfl) (c_applied ?_) (ArgOK.val (ArgOK.when (arg_op 16 1 rfl rfl rfl rfl) hb15) (mkF ((OwnS.sl (hV124.up g165)).up hs180) ((OwnS.sl (hV125.up g165)).up hs180) ((OwnS.sl (hV126.up g165)).up hs180) ((OwnS.sl (hV127.up g165)).up hs180))) (ArgOK.when (arg_op 17 0 rfl rfl rfl rfl) hb15)) ?_
    · assumption
    refine ch rfl (ob_and (arg_op 15 3 rfl rfl rfl rfl) (arg_op 18 0 rfl rfl rfl rfl)) ?_
    refine ch rfl (ob_move (arg_op 19 0 rfl rfl rfl rfl)) ?_
    refine chg (b := _) rfl rfl (arg_op 20 0 rfl rfl rfl rfl) (fun hb20 => ob_load_nm (ArgOK.ownp (arg_free 3 rfl rfl))) ?_
    refine chg (b := _) rfl rfl (arg_op 20 1 rfl rfl rfl rfl) (fun hb20 => ob_load_nm (ArgOK.ownp (arg_free 2 rfl rfl))) ?_
    refine chg (b := _) rfl rfl (arg_op 20 2 rfl rfl rfl rfl) (fun hb20 => ob_eqnm (ArgOK.when (arg_op 21 1 rfl rfl rfl rfl) hb20) (ArgOK.when (arg_op 22 0 rfl rfl rfl rfl) hb20)) ?_
    refine chg (b := _) rfl rfl (arg_op 20 3 rfl rfl rfl rfl) (fun hb20 => ob_move (ArgOK.when (arg_op 23 0 rfl rfl rfl rfl) hb20)) ?_
    refine chgn (b := _) rfl rfl (arg_op 24 0 rfl rfl rfl rfl) (fun ⟨hb20, hb24⟩ => ob_load_state (ArgOK.ownp (arg_free 0 rfl rfl))) ?_
    refine chgn (b := _) rfl rfl (arg_op 24 1 rfl rfl rfl rfl) (fun ⟨hb20, hb24⟩ => ob_load_nm (ArgOK.ownp (arg_free 3 rfl rfl))) ?_
    refine chgn (b := _) rfl rfl (arg_op 24 2 rfl rfl rfl rfl) (fun ⟨hb20, hb24⟩ => ob_call2 (by kernel_rfl) (c_applied ?_) (ArgOK.val (ArgOK.when (arg_op 25 1 rfl rfl rfl rfl) ⟨hb20, hb24⟩) (mkF ((OwnS.sl (hV124.up g165)).up hs180) ((OwnS.sl (hV125.up g165)).up hs180) ((OwnS.sl (hV126.up g165)).up hs180) ((OwnS.sl (hV127.up g165)).up hs180))) (ArgOK.when (arg_op 26 0 rfl rfl rfl rfl) ⟨hb20, hb24⟩)) ?_
    · assumption
    refine chgn (b := _) rfl rfl (arg_op 24 3 rfl rfl rfl rfl) (fun ⟨hb20, hb24⟩ => ob_load_state (ArgOK.ownp (arg_free 1 rfl rfl))) ?_
    refine chgn (b := _) rfl rfl (arg_op 24 4 rfl rfl rfl rfl) (fun ⟨hb20, hb24⟩ => ob_load_nm (ArgOK.ownp (arg_free 3 rfl rfl))) ?_
    refine chgn (b := _) rfl rfl (arg_op 24 5 rfl rfl rfl rfl) (fun ⟨hb20, hb24⟩ => ob_call2 (by kernel_rfl) (c_applied ?_) (ArgOK.val (ArgOK.when (arg_op 28 1 rfl rfl rfl rfl) ⟨hb20, hb24⟩) (mkFs (s := s) ((hva0.up g160).up hs180) ((hvb0.up g160).up hs180) ((hvc0.up g160).up hs180) ((hvd0.up g160).up hs180))) (ArgOK.when (arg_op 29 0 rfl rfl rfl rfl) ⟨hb20, hb24⟩)) ?_
    · assumption
    refine chgn (b := _) rfl rfl (arg_op 24 6 rfl rfl rfl rfl) (fun ⟨hb20, hb24⟩ => ob_eqbool (ArgOK.when (arg_op 27 3 rfl rfl rfl rfl) ⟨hb20, hb24⟩) (ArgOK.when (arg_op 30 0 rfl rfl rfl rfl) ⟨hb20, hb24⟩) Try.underlying4) ?_
    refine chg (b := _) rfl rfl (arg_op 20 11 rfl rfl rfl rfl) (fun hb20 => ob_or (ArgOK.when (arg_op 24 7 rfl rfl rfl rfl) hb20) (ArgOK.whenAnd (arg_op 31 0 rfl rfl rfl rfl) hb20)) ?_
    refine ch rfl (ob_and (arg_op 20 12 rfl rfl rfl rfl) (arg_op 32 0 rfl rfl rfl rfl)) ?_
    refine ch rfl (ob_move (arg_op 33 0 rfl rfl rfl rfl)) ?_
    refine chg (b := _) rfl rfl (arg_op 34 0 rfl rfl rfl rfl) (fun hb34 => ob_call0 (by kernel_rfl) (c_awake21) ) ?_
    refine ch rfl (ob_and (arg_op 34 1 rfl rfl rfl rfl) (arg_op 35 0 rfl rfl rfl rfl)) ?_
    refine ch rfl (ob_assign (arg_op 36 0 rfl rfl rfl rfl)) ?_
    refine ch_nil ?_
    intro a181 w182 hf183 hg184 hk185 hn186
    have h187 : Holds _ (a181.eval (.tmp 6)) w182 := hn186.at 37 0 rfl rfl rfl
    have g188 := g160.trans hg184
    have g189 := g161.trans hg184
    have g190 := g162.trans hg184
    have g191 := g163.trans hg184
    have g192 := g164.trans hg184
    have g193 := g165.trans hg184
    have g194 := g173.trans hg184
    clear g160 g161 g162 g163 g164 g165 g173 hf135 hk185 hn186
    refine then_ ?_
    refine wp_ret ?_
    exact ret_tmp rfl hf183 g188 (is_cast h187 (congrArg Value.bool (by first | rfl | exact mark_all)))
end Ex
end Go.Proofs.Ytnmfiiejhoafnaa
