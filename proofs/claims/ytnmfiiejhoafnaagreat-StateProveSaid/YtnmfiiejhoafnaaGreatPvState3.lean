/- States: found, summed, compared, judged: of the program and of the reference. -/
import Derived.Test.YtnmfiiejhoafnaaGreatPvState2
set_option linter.unusedSimpArgs false
set_option linter.unusedVariables false
namespace Go.Proofs.YtnmfiiejhoafnaaGreat
namespace Ex
open Go Calm Go.RowKit
theorem fnd_lt {l : List GDelta} {c : GCell} (h : 0 ≤ fnd l c) : (fnd l c).toNat < l.length ∧ ((fnd l c).toNat : Int) = fnd l c := idx_lt h
theorem bef_yes {α : Type} {c : α → α → Int} {l : List α} {x : α} (h : 0 ≤ idx (fun y => decide (0 < c y x)) l) : idx (fun y => decide (0 < c y x)) l = bef c l x := by unfold bef; rw [if_pos h]
theorem bef_no {α : Type} {c : α → α → Int} {l : List α} {x : α} (h : ¬ 0 ≤ idx (fun y => decide (0 < c y x)) l) : (l.length : Int) = bef c l x := by unfold bef; rw [if_neg h]
set_option maxRecDepth 100000 in
theorem c_find1 {d : GDelta} {c : GCell} : Con2 85 (Is (deltaV d)) (PtrC (cellCells c)) (fun _ => Is (.bool (decide (d.cell = c)))) := by
  intro lo v0 v1 w0 hlo hv0 hv1
  refine enter Tryz.func85 rfl Tryz.ntmps85 (by simp) ?_
  intro a0 hf0 ha
  have h00 : Holds _ (a0.eval (.tmp 0)) w0 := arg_holds ha rfl hv0
  have h01 : Holds _ (a0.eval (.tmp 1)) w0 := arg_holds ha rfl hv1
  clear ha
  have g0 : Grow w0 w0 := Grow.refl _
  refine wp_seq ?_
  refine wp_region_lit ?_
  refine wp_all [([0], []), ([], [])] [1] w0.heap.size hf0 g0.size (by kernel_rfl) (bund_cons h00 bund_nil) ?_
  refine ch rfl (ob_box_delta (arg_free 0 rfl rfl)) ?_
  refine ch rfl (ob_assign arg_c) ?_
  refine ch_nil ?_
  intro a1 w2 hf3 hg4 hk5 hn6
  have h7 : Holds _ (a1.eval (.tmp 2)) w2 := hn6.at 0 1 rfl rfl rfl
  have h8 := hk5.holds rfl h01
  have g9 := g0.trans hg4
  obtain ⟨bk10, hl11, hv12, hb13⟩ := OwnB.blk (lo := w0.heap.size) h7
  clear h01 g0 hf0 hk5 hn6
  refine then_ ?_
  refine wp_seq ?_
  refine wp_region_lit ?_
  refine wp_all [([2], []), ([], [0]), ([1], []), ([], [1, 2]), ([], [3])] [] w0.heap.size hf3 g9.size (by kernel_rfl) (bund_cons (hb13.ownp hv12) (bund_cons (h8.up g9) bund_nil)) ?_
  refine ch rfl (ob_fa_delta0 (ArgOK.ownp (arg_free 0 rfl rfl))) ?_
  refine ch rfl (ob_load_cell (arg_op 0 0 rfl rfl rfl rfl)) ?_
  refine ch rfl (ob_load_cell (arg_free 1 rfl rfl)) ?_
  refine ch rfl (ob_eqcell (arg_op 1 1 rfl rfl rfl rfl) (arg_op 2 0 rfl rfl rfl rfl)) ?_
  refine ch rfl (ob_assign (arg_op 3 0 rfl rfl rfl rfl)) ?_
  refine ch_nil ?_
  intro a14 w15 hf16 hg17 hk18 hn19
  have h20 : Holds _ (a14.eval (.tmp 3)) w15 := hn19.at 4 0 rfl rfl rfl
  have g21 := g9.trans hg17
  clear g9 hf3 hk18 hn19 hg17
  refine then_ ?_
  refine wp_ret ?_
  exact ret_tmp rfl hf16 g21 h20
set_option maxRecDepth 100000 in
theorem c_find {s : GState} {c : GCell} (hs : stOK s) : Con2 44 (StF s) (Is (cellV c)) (fun _ => Is (intV (fnd s.cells c))) := by
  intro lo v0 v1 w0 hlo hv0 hv1
  refine enter Tryz.func44 rfl Tryz.ntmps44 (by simp) ?_
  intro a0 hf0 ha
  obtain ⟨va0, vb0, vc0, vd0, he0, hva0, hvb0, hvc0, hvd0⟩ := openF hv0
  have h00 : Holds (Is _) (a0.eval (.tmp 0)) w0 := arg_holds ha rfl he0
  have h01 : Holds _ (a0.eval (.tmp 1)) w0 := arg_holds ha rfl hv1
  clear ha
  have g0 : Grow w0 w0 := Grow.refl _
  obtain ⟨hs1, hs2, hs3, hs4⟩ := id hs
  refine wp_seq ?_
  refine wp_region_lit ?_
  refine wp_seg (l1 := [_]) [([0], [])] [1] w0.heap.size hf0 g0.size (by kernel_rfl) (bund_cons h00 bund_nil) ?_
  refine ch rfl (ob_box_state (arg_free 0 rfl rfl)) ?_
  refine ch_nil ?_
  intro a1 w2 hf3 hg4 hk5 hn6
  have h7 : Holds _ (a1.eval (.tmp 2)) w2 := hn6.at 0 0 rfl rfl rfl
  have h8 := hk5.holds rfl h01
  have g9 := g0.trans hg4
  obtain ⟨bk10, hl11, hv12, hb13⟩ := OwnB.blk (lo := w0.heap.size) h7
  clear h01 g0 hf0 hk5 hn6
  have g14 : Grow w2 w2 := Grow.refl _
  have hl15 : bk10 < w2.heap.size := hb13.lt
  have hz16 : w0.heap.size ≤ w2.heap.size := g9.size
  refine wp_all [([1], []), ([], [])] [2] w2.heap.size hf3 g14.size (by kernel_rfl) (bund_cons (is_any h8) bund_nil) ?_
  refine ch rfl (ob_box_cell (arg_free 0 rfl rfl)) ?_
  refine ch rfl (ob_assign arg_c) ?_
  refine ch_nil ?_
  intro a17 w18 hf19 hg20 hk21 hn22
  have h23 : Holds _ (a17.eval (.tmp 3)) w18 := hn22.at 0 1 rfl rfl rfl
  have hv24 : Holds (Is (PtrV bk10)) (a17.eval (.tmp 2)) w18 := is_any (hk21.holds rfl hv12)
  have hb25 := hb13.up hg20
  have g26 := g9.trans hg20
  have g27 := g14.trans hg20
  obtain ⟨bk28, hl29, hv30, hb31⟩ := OwnB.blk (lo := w2.heap.size) h23
  clear hv12 hb13 g9 g14 hf3 hk21 hn22
  refine then_ ?_
  refine wp_seq ?_
  have g32 : Grow w18 w18 := Grow.refl _
  have hl33 : bk10 < w18.heap.size := hb25.lt
  have hl34 : bk28 < w18.heap.size := hb31.lt
  have hz35 : w2.heap.size ≤ w18.heap.size := g27.size
  refine wp_region_lit ?_
  refine wp_all [([2], []), ([], [0]), ([3], []), ([], [1, 2]), ([], [3])] [] w18.heap.size hf19 g32.size (by kernel_rfl) (bund_cons (hb25.ownp hv24) (bund_cons (hb31.ownp hv30) bund_nil)) ?_
  refine ch rfl (ob_faP (n := 0) (arg_free 0 rfl rfl) Tryz.underlying28 rfl (by kernel_rfl)) ?_
  refine ch rfl (ob_loadP (arg_op 0 0 rfl rfl rfl rfl) Tryz.underlying22 rfl rfl) ?_
  refine ch rfl (ob_mf1 (V := deltaV) (by kernel_rfl) (fun d => c_find1 (d := d) (c := c)) (ArgOK.ownp (arg_free 1 rfl rfl))) ?_
  refine ch rfl (ob_call2 (by kernel_rfl) (c_ixfD ?_) (ArgOK.val (arg_op 1 1 rfl rfl rfl rfl) (hva0.up g26)) (arg_op 2 0 rfl rfl rfl rfl)) ?_
  · omega
  refine ch rfl (ob_assign (arg_op 3 0 rfl rfl rfl rfl)) ?_
  refine ch_nil ?_
  intro a36 w37 hf38 hg39 hk40 hn41
  have h42 : Holds _ (a36.eval (.tmp 4)) w37 := hn41.at 4 0 rfl rfl rfl
  have g43 := g26.trans hg39
  have g44 := g27.trans hg39
  have g45 := g32.trans hg39
  clear g26 g27 g32 hf19 hk40 hn41
  refine then_ ?_
  refine wp_ret ?_
  exact ret_tmp rfl hf38 g43 h42
set_option maxRecDepth 100000 in
theorem c_at {s : GState} {c : GCell} (hs : stOK s) : Con2 46 (StF s) (Is (cellV c)) (fun _ => Is (intV (fnd s.cells c))) := by
  intro lo v0 v1 w0 hlo hv0 hv1
  refine enter Tryz.func46 rfl Tryz.ntmps46 (by simp) ?_
  intro a0 hf0 ha
  obtain ⟨va0, vb0, vc0, vd0, he0, hva0, hvb0, hvc0, hvd0⟩ := openF hv0
  have h00 : Holds (Is _) (a0.eval (.tmp 0)) w0 := arg_holds ha rfl he0
  have h01 : Holds _ (a0.eval (.tmp 1)) w0 := arg_holds ha rfl hv1
  clear ha
  have g0 : Grow w0 w0 := Grow.refl _
  obtain ⟨hs1, hs2, hs3, hs4⟩ := id hs
  refine wp_seq ?_
  refine wp_region_lit ?_
  refine wp_seg (l1 := [_]) [([0], [])] [1] w0.heap.size hf0 g0.size (by kernel_rfl) (bund_cons h00 bund_nil) ?_
  refine ch rfl (ob_box_state (arg_free 0 rfl rfl)) ?_
  refine ch_nil ?_
  intro a1 w2 hf3 hg4 hk5 hn6
  have h7 : Holds _ (a1.eval (.tmp 2)) w2 := hn6.at 0 0 rfl rfl rfl
  have h8 := hk5.holds rfl h01
  have g9 := g0.trans hg4
  obtain ⟨bk10, hl11, hv12, hb13⟩ := OwnB.blk (lo := w0.heap.size) h7
  clear h01 g0 hf0 hk5 hn6
  have g14 : Grow w2 w2 := Grow.refl _
  have hl15 : bk10 < w2.heap.size := hb13.lt
  have hz16 : w0.heap.size ≤ w2.heap.size := g9.size
  refine wp_all [([1], []), ([], [])] [2] w2.heap.size hf3 g14.size (by kernel_rfl) (bund_cons (is_any h8) bund_nil) ?_
  refine ch rfl (ob_box_cell (arg_free 0 rfl rfl)) ?_
  refine ch rfl (ob_assign arg_c) ?_
  refine ch_nil ?_
  intro a17 w18 hf19 hg20 hk21 hn22
  have h23 : Holds _ (a17.eval (.tmp 3)) w18 := hn22.at 0 1 rfl rfl rfl
  have hv24 : Holds (Is (PtrV bk10)) (a17.eval (.tmp 2)) w18 := is_any (hk21.holds rfl hv12)
  have hb25 := hb13.up hg20
  have g26 := g9.trans hg20
  have g27 := g14.trans hg20
  obtain ⟨bk28, hl29, hv30, hb31⟩ := OwnB.blk (lo := w2.heap.size) h23
  clear hv12 hb13 g9 g14 hf3 hk21 hn22
  refine then_ ?_
  refine wp_seq ?_
  refine wp_seq ?_
  refine wp_region_lit ?_
  refine wp_all [([], [])] [2, 3] w2.heap.size hf19 g27.size (by kernel_rfl) bund_nil ?_
  refine ch rfl (ob_assign arg_c) ?_
  refine ch_nil ?_
  intro a32 w33 hf34 hg35 hk36 hn37
  have h38 : Holds _ (a32.eval (.tmp 5)) w33 := hn37.at 0 0 rfl rfl rfl
  have hv39 : Holds (Is (PtrV bk10)) (a32.eval (.tmp 2)) w33 := is_any (hk36.holds rfl hv24)
  have hb40 := hb25.up hg35
  have hv41 : Holds (Is (PtrV bk28)) (a32.eval (.tmp 3)) w33 := is_any (hk36.holds rfl hv30)
  have hb42 := hb31.up hg35
  have g43 := g26.trans hg35
  have g44 := g27.trans hg35
  clear hv24 hb25 hv30 hb31 g26 g27 hf19 hk36 hn37 hg35
  refine then_ ?_
  refine wp_block ?_
  have g45 : Grow w33 w33 := Grow.refl _
  have hl46 : bk10 < w33.heap.size := hb40.lt
  have hl47 : bk28 < w33.heap.size := hb42.lt
  have hz48 : w2.heap.size ≤ w33.heap.size := g44.size
  refine wp_loopL (α := Nat) (fun i a' w' => Fr 22 a' ∧ (i ≤ s.cells.length) ∧ (∀ j, j < i → (fun d : GDelta => decide (d.cell = c)) (s.cells.getD j default) = false) ∧ Grow w0 w' ∧ Grow w2 w' ∧ Grow w33 w' ∧ Keep [2, 3] a32 a' ∧ Holds (Is (intV (i : Int))) (a'.eval (.tmp 5)) w' ∧ Blk bk10 (_) w' ∧ Blk bk28 (_) w') (fun i => s.cells.length - i) (0) ⟨hf34, (by omega), (by exact fun j hj => absurd hj (Nat.not_lt_zero j)), g43, g44, g45, Keep.refl _ _, (is_cast h38 (by first | rfl | (refine congrArg intV ?_; (try dsimp only); omega))), hb40, hb42⟩ ?_
  intro i a49 w50 ⟨hf51, hi53, hi54, g55, g56, g57, kk52, h58, hb59, hb60⟩
  have hv61 : Holds (Is (PtrV bk10)) (a49.eval (.tmp 2)) w50 := is_any (kk52.holds rfl hv39)
  have hv62 : Holds (Is (PtrV bk28)) (a49.eval (.tmp 3)) w50 := is_any (kk52.holds rfl hv41)
  refine wp_seq ?_
  refine wp_seq ?_
  refine wp_region_lit ?_
  refine wp_all [([5], []), ([2], []), ([], [1]), ([], [2]), ([], [0, 3])] [2, 3, 5] w33.heap.size hf51 g57.size (by kernel_rfl) (bund_cons h58 (bund_cons (hb59.ownp hv61) bund_nil)) ?_
  refine ch rfl (ob_move (arg_free 0 rfl rfl)) ?_
  refine ch rfl (ob_faP (n := 0) (arg_free 1 rfl rfl) Tryz.underlying28 rfl (by kernel_rfl)) ?_
  refine ch rfl (ob_loadP (arg_op 1 0 rfl rfl rfl rfl) Tryz.underlying22 rfl rfl) ?_
  refine ch rfl (ob_len (ArgOK.val (arg_op 2 0 rfl rfl rfl rfl) (hva0.up g55)) Tryz.underlying22) ?_
  refine ch rfl (ob_lss (arg_op 0 3 rfl rfl rfl rfl) (arg_op 3 0 rfl rfl rfl rfl)) ?_
  refine ch_nil ?_
  intro a63 w64 hf65 hg66 hk67 hn68
  have h69 : Holds _ (a63.eval (.tmp 10)) w64 := hn68.at 4 0 rfl rfl rfl
  have h70 := hk67.holds rfl (h58.up hg66)
  have hv71 : Holds (Is (PtrV bk10)) (a63.eval (.tmp 2)) w64 := is_any (hk67.holds rfl hv61)
  have hb72 := hb59.up hg66
  have hv73 : Holds (Is (PtrV bk28)) (a63.eval (.tmp 3)) w64 := is_any (hk67.holds rfl hv62)
  have hb74 := hb60.up hg66
  have g75 := g55.trans hg66
  have g76 := g56.trans hg66
  have g77 := g57.trans hg66
  have kk78 : Keep _ a32 a63 := kk52.trans hk67 rfl
  clear h58 hv61 hb59 hv62 hb60 g55 g56 g57 kk52 hf51 hk67 hn68 hg66
  refine then_ ?_
  refine wp_if h69 ?_ ?_
  · intro hc79
    try simp only [cond_norm] at hc79
    refine wp_skip ?_
    refine then_ ?_
    refine wp_seq ?_
    refine wp_block ?_
    refine wp_seq ?_
    refine wp_calm [0, 1, 0, 7, 15, 31, 0, 127] [([2], []), ([], [0]), ([5], []), ([], [1, 2]), ([], [3]), ([], [4]), ([3], []), ([], [5, 6])] [2, 3, 5] w33.heap.size hf65 g77.size (by kernel_rfl) (bund_cons (hb72.ownp hv71) (bund_cons h70 (bund_cons (hb74.ownp hv73) bund_nil))) ?_
    intro ws80 hs81
    refine ch rfl (ob_faP (n := 0) (arg_free 0 rfl rfl) Tryz.underlying28 rfl (by kernel_rfl)) ?_
    refine ch rfl (ob_loadP (arg_op 0 0 rfl rfl rfl rfl) Tryz.underlying22 rfl rfl) ?_
    refine ch rfl (ob_move (arg_free 1 rfl rfl)) ?_
    refine ch rfl (ob_ix (ArgOK.val (arg_op 1 1 rfl rfl rfl rfl) ((hva0.up g75).up hs81)) (arg_op 2 0 rfl rfl rfl rfl) (rfl) ?_ Tryz.underlying22 szDelta) ?_
    · omega
    refine ch rfl (ob_fa_delta0 (arg_op 3 0 rfl rfl rfl rfl)) ?_
    refine ch rfl (ob_load_cell (arg_op 4 0 rfl rfl rfl rfl)) ?_
    refine ch rfl (ob_load_cell (ArgOK.ownp (arg_free 2 rfl rfl))) ?_
    refine ch rfl (ob_eqcell (arg_op 5 1 rfl rfl rfl rfl) (arg_op 6 0 rfl rfl rfl rfl)) ?_
    refine ch_nil ?_
    intro a82 w83 hf84 hg85 hk86 hn87
    have h88 : Holds _ (a82.eval (.tmp 20)) w83 := hn87.at 7 0 rfl rfl rfl
    have h89 := hk86.holds rfl (h70.up hg85)
    have hv90 : Holds (Is (PtrV bk10)) (a82.eval (.tmp 2)) w83 := is_any (hk86.holds rfl hv71)
    have hb91 := hb72.up hg85
    have hv92 : Holds (Is (PtrV bk28)) (a82.eval (.tmp 3)) w83 := is_any (hk86.holds rfl hv73)
    have hb93 := hb74.up hg85
    have g94 := g75.trans hg85
    have g95 := g76.trans hg85
    have g96 := g77.trans hg85
    have kk97 : Keep _ a32 a82 := kk78.trans hk86 rfl
    clear h70 hv71 hb72 hv73 hb74 g75 g76 g77 kk78 hf65 hk86 hn87 hg85
    refine then_ ?_
    refine wp_if h88 ?_ ?_
    · intro hc98
      try simp only [cond_norm] at hc98
      have hz := idx_hit (p := fun d : GDelta => decide (d.cell = c)) (l := s.cells) (i := i) (by assumption) (by omega) (decide_eq_true hc98)
      refine wp_seq ?_
      refine wp_region_lit ?_
      refine wp_all [([5], []), ([], [0])] [2, 3] w33.heap.size hf84 g96.size (by kernel_rfl) (bund_cons h89 bund_nil) ?_
      refine ch rfl (ob_move (arg_free 0 rfl rfl)) ?_
      refine ch rfl (ob_assign (arg_op 0 0 rfl rfl rfl rfl)) ?_
      refine ch_nil ?_
      intro a99 w100 hf101 hg102 hk103 hn104
      have h105 : Holds _ (a99.eval (.tmp 4)) w100 := hn104.at 1 0 rfl rfl rfl
      have hv106 : Holds (Is (PtrV bk10)) (a99.eval (.tmp 2)) w100 := is_any (hk103.holds rfl hv90)
      have hb107 := hb91.up hg102
      have hv108 : Holds (Is (PtrV bk28)) (a99.eval (.tmp 3)) w100 := is_any (hk103.holds rfl hv92)
      have hb109 := hb93.up hg102
      have g110 := g94.trans hg102
      have g111 := g95.trans hg102
      have g112 := g96.trans hg102
      have kk113 : Keep _ a32 a99 := kk97.trans hk103 rfl
      clear hv90 hb91 hv92 hb93 g94 g95 g96 kk97 hf84 hk103 hn104 hg102
      refine then_ ?_
      refine wp_ret ?_
      refine blockR ?_
      refine thenR ?_
      refine thenR ?_
      refine blockR ?_
      refine thenR ?_
      exact ret_tmp rfl hf101 g110 (is_cast h105 (congrArg intV hz))
    · intro hc98
      try simp only [cond_norm] at hc98
      have hst := none_step (p := fun d : GDelta => decide (d.cell = c)) (l := s.cells) (i := i) (by assumption) (decide_eq_false hc98)
      refine wp_skip ?_
      refine blockN ?_
      refine then_ ?_
      refine wp_region_lit ?_
      refine wp_all [([5], []), ([], [0]), ([], [1])] [2, 3] w33.heap.size hf84 g96.size (by kernel_rfl) (bund_cons h89 bund_nil) ?_
      refine ch rfl (ob_move (arg_free 0 rfl rfl)) ?_
      first
        | (refine ch rfl (ob_add' (arg_op 0 0 rfl rfl rfl rfl) arg_c ?_) ?_; · omega)
        | refine ch rfl (ob_add (arg_op 0 0 rfl rfl rfl rfl) arg_c) ?_
      refine ch rfl (ob_assign (arg_op 1 0 rfl rfl rfl rfl)) ?_
      refine ch_nil ?_
      intro a114 w115 hf116 hg117 hk118 hn119
      have h120 : Holds _ (a114.eval (.tmp 5)) w115 := hn119.at 2 0 rfl rfl rfl
      have hv121 : Holds (Is (PtrV bk10)) (a114.eval (.tmp 2)) w115 := is_any (hk118.holds rfl hv90)
      have hb122 := hb91.up hg117
      have hv123 : Holds (Is (PtrV bk28)) (a114.eval (.tmp 3)) w115 := is_any (hk118.holds rfl hv92)
      have hb124 := hb93.up hg117
      have g125 := g94.trans hg117
      have g126 := g95.trans hg117
      have g127 := g96.trans hg117
      have kk128 : Keep _ a32 a114 := kk97.trans hk118 rfl
      clear hv90 hb91 hv92 hb93 g94 g95 g96 kk97 hf84 hk118 hn119 hg117
      refine then_ ?_
      exact ⟨(i + 1), (by ((try dsimp only); omega)), hf116, (by omega), (by exact hst), g125, g126, g127, kk128, (is_cast h120 (by first | rfl | (refine congrArg intV ?_; (try dsimp only); omega))), hb122, hb124⟩
  · intro hc79
    try simp only [cond_norm] at hc79
    have hz := idx_none (p := fun d : GDelta => decide (d.cell = c)) (l := s.cells) (i := i) (by assumption) (by omega)
    refine wp_exit ?_
    refine thenX ?_
    refine thenX ?_
    refine blockX ?_
    refine then_ ?_
    refine wp_seq ?_
    refine wp_region_lit ?_
    refine wp_all [([], [])] [] w33.heap.size hf65 g77.size (by kernel_rfl) bund_nil ?_
    refine ch rfl (ob_assign arg_c) ?_
    refine ch_nil ?_
    intro a129 w130 hf131 hg132 hk133 hn134
    have h135 : Holds _ (a129.eval (.tmp 4)) w130 := hn134.at 0 0 rfl rfl rfl
    have g136 := g75.trans hg132
    have g137 := g76.trans hg132
    have g138 := g77.trans hg132
    clear g75 g76 g77 hf65 hk133 hn134 hg132
    refine then_ ?_
    refine wp_ret ?_
    exact ret_tmp rfl hf131 g136 (is_cast h135 (congrArg intV hz))
set_option maxRecDepth 100000 in
theorem c_Get {s : GState} {c : GCell} (hs : stOK s) : Con2 26 (StF s) (Is (cellV c)) (fun _ => Is (intV (getL s.cells c).toInt)) := by
  intro lo v0 v1 w0 hlo hv0 hv1
  refine enter Tryz.func26 rfl Tryz.ntmps26 (by simp) ?_
  intro a0 hf0 ha
  obtain ⟨va0, vb0, vc0, vd0, he0, hva0, hvb0, hvc0, hvd0⟩ := openF hv0
  have h00 : Holds (Is _) (a0.eval (.tmp 0)) w0 := arg_holds ha rfl he0
  have h01 : Holds _ (a0.eval (.tmp 1)) w0 := arg_holds ha rfl hv1
  clear ha
  have g0 : Grow w0 w0 := Grow.refl _
  obtain ⟨hs1, hs2, hs3, hs4⟩ := id hs
  refine wp_seq ?_
  refine wp_region_lit ?_
  refine wp_seg (l1 := [_]) [([0], [])] [1] w0.heap.size hf0 g0.size (by kernel_rfl) (bund_cons h00 bund_nil) ?_
  refine ch rfl (ob_box_state (arg_free 0 rfl rfl)) ?_
  refine ch_nil ?_
  intro a1 w2 hf3 hg4 hk5 hn6
  have h7 : Holds _ (a1.eval (.tmp 2)) w2 := hn6.at 0 0 rfl rfl rfl
  have h8 := hk5.holds rfl h01
  have g9 := g0.trans hg4
  obtain ⟨bk10, hl11, hv12, hb13⟩ := OwnB.blk (lo := w0.heap.size) h7
  clear h01 g0 hf0 hk5 hn6
  have g14 : Grow w2 w2 := Grow.refl _
  have hl15 : bk10 < w2.heap.size := hb13.lt
  have hz16 : w0.heap.size ≤ w2.heap.size := g9.size
  refine wp_all [([1], []), ([], [])] [2] w2.heap.size hf3 g14.size (by kernel_rfl) (bund_cons (is_any h8) bund_nil) ?_
  refine ch rfl (ob_box_cell (arg_free 0 rfl rfl)) ?_
  refine ch rfl (ob_assign arg_c) ?_
  refine ch_nil ?_
  intro a17 w18 hf19 hg20 hk21 hn22
  have h23 : Holds _ (a17.eval (.tmp 3)) w18 := hn22.at 0 1 rfl rfl rfl
  have hv24 : Holds (Is (PtrV bk10)) (a17.eval (.tmp 2)) w18 := is_any (hk21.holds rfl hv12)
  have hb25 := hb13.up hg20
  have g26 := g9.trans hg20
  have g27 := g14.trans hg20
  obtain ⟨bk28, hl29, hv30, hb31⟩ := OwnB.blk (lo := w2.heap.size) h23
  clear hv12 hb13 g9 g14 hf3 hk21 hn22
  refine then_ ?_
  refine wp_seq ?_
  refine wp_seq ?_
  have g32 : Grow w18 w18 := Grow.refl _
  have hl33 : bk10 < w18.heap.size := hb25.lt
  have hl34 : bk28 < w18.heap.size := hb31.lt
  have hz35 : w2.heap.size ≤ w18.heap.size := g27.size
  refine wp_region_lit ?_
  refine wp_all [([2], []), ([3], []), ([], [0, 1]), ([], [2])] [2] w18.heap.size hf19 g32.size (by kernel_rfl) (bund_cons (hb25.ownp hv24) (bund_cons (hb31.ownp hv30) bund_nil)) ?_
  refine ch rfl (ob_load_state (ArgOK.ownp (arg_free 0 rfl rfl))) ?_
  refine ch rfl (ob_load_cell (ArgOK.ownp (arg_free 1 rfl rfl))) ?_
  refine ch rfl (ob_call2 (by kernel_rfl) (c_find ?_) (ArgOK.val (arg_op 0 1 rfl rfl rfl rfl) (mkFs (s := s) (hva0.up g26) (hvb0.up g26) (hvc0.up g26) (hvd0.up g26))) (arg_op 1 0 rfl rfl rfl rfl)) ?_
  · assumption
  refine ch rfl (ob_assign (arg_op 2 0 rfl rfl rfl rfl)) ?_
  refine ch_nil ?_
  intro a36 w37 hf38 hg39 hk40 hn41
  have h42 : Holds _ (a36.eval (.tmp 5)) w37 := hn41.at 3 0 rfl rfl rfl
  have hv43 : Holds (Is (PtrV bk10)) (a36.eval (.tmp 2)) w37 := is_any (hk40.holds rfl hv24)
  have hb44 := hb25.up hg39
  have g45 := g26.trans hg39
  have g46 := g27.trans hg39
  have g47 := g32.trans hg39
  clear hv24 hb25 g26 g27 g32 hf19 hk40 hn41
  refine then_ ?_
  refine wp_seq ?_
  refine wp_region_lit ?_
  refine wp_all [([5], []), ([], [0])] [2, 5] w18.heap.size hf38 g47.size (by kernel_rfl) (bund_cons h42 bund_nil) ?_
  refine ch rfl (ob_move (arg_free 0 rfl rfl)) ?_
  refine ch rfl (ob_geq (arg_op 0 0 rfl rfl rfl rfl) arg_c) ?_
  refine ch_nil ?_
  intro a48 w49 hf50 hg51 hk52 hn53
  have h54 : Holds _ (a48.eval (.tmp 10)) w49 := hn53.at 1 0 rfl rfl rfl
  have h55 := hk52.holds rfl (h42.up hg51)
  have hv56 : Holds (Is (PtrV bk10)) (a48.eval (.tmp 2)) w49 := is_any (hk52.holds rfl hv43)
  have hb57 := hb44.up hg51
  have g58 := g45.trans hg51
  have g59 := g46.trans hg51
  have g60 := g47.trans hg51
  clear h42 hv43 hb44 g45 g46 g47 hf38 hk52 hn53 hg51
  refine then_ ?_
  refine wp_if h54 ?_ ?_
  · intro hc61
    try simp only [cond_norm] at hc61
    have hp := fnd_lt hc61
    refine wp_seq ?_
    refine wp_region_lit ?_
    refine wp_all [([2], []), ([], [0]), ([5], []), ([], [1, 2]), ([], [3]), ([], [4]), ([], [5])] [] w18.heap.size hf50 g60.size (by kernel_rfl) (bund_cons (hb57.ownp hv56) (bund_cons h55 bund_nil)) ?_
    refine ch rfl (ob_faP (n := 0) (arg_free 0 rfl rfl) Tryz.underlying28 rfl (by kernel_rfl)) ?_
    refine ch rfl (ob_loadP (arg_op 0 0 rfl rfl rfl rfl) Tryz.underlying22 rfl rfl) ?_
    refine ch rfl (ob_move (arg_free 1 rfl rfl)) ?_
    refine ch rfl (ob_ix (ArgOK.val (arg_op 1 1 rfl rfl rfl rfl) (hva0.up g58)) (arg_op 2 0 rfl rfl rfl rfl) (hp.2.symm) ?_ Tryz.underlying22 szDelta) ?_
    · exact hp.1
    refine ch rfl (ob_fa_delta1 (arg_op 3 0 rfl rfl rfl rfl)) ?_
    refine ch rfl (ob_load1 (arg_op 4 0 rfl rfl rfl rfl) Tryz.underlying3 rfl) ?_
    refine ch rfl (ob_assign (arg_op 5 0 rfl rfl rfl rfl)) ?_
    refine ch_nil ?_
    intro a62 w63 hf64 hg65 hk66 hn67
    have h68 : Holds _ (a62.eval (.tmp 4)) w63 := hn67.at 6 0 rfl rfl rfl
    have g69 := g58.trans hg65
    have g70 := g59.trans hg65
    have g71 := g60.trans hg65
    clear g58 g59 g60 hf50 hk66 hn67 hg65
    refine then_ ?_
    refine wp_ret ?_
    refine thenR ?_
    exact ret_tmp rfl hf64 g69 (is_cast h68 (congrArg intV (by first | exact getL_yes (by omega) | exact getL_no (by omega))))
  · intro hc61
    try simp only [cond_norm] at hc61
    refine wp_skip ?_
    refine then_ ?_
    refine wp_seq ?_
    refine wp_region_lit ?_
    refine wp_all [([], [])] [] w18.heap.size hf50 g60.size (by kernel_rfl) bund_nil ?_
    refine ch rfl (ob_assign arg_c) ?_
    refine ch_nil ?_
    intro a72 w73 hf74 hg75 hk76 hn77
    have h78 : Holds _ (a72.eval (.tmp 4)) w73 := hn77.at 0 0 rfl rfl rfl
    have g79 := g58.trans hg75
    have g80 := g59.trans hg75
    have g81 := g60.trans hg75
    clear g58 g59 g60 hf50 hk76 hn77 hg75
    refine then_ ?_
    refine wp_ret ?_
    exact ret_tmp rfl hf74 g79 (is_cast h78 (congrArg intV (by first | exact getL_yes (by omega) | exact getL_no (by omega))))
set_option maxRecDepth 100000 in
theorem c_rGet {s : GState} {c : GCell} (hs : stOK s) : Con2 21 (StF s) (Is (cellV c)) (fun _ => Is (intV (getL s.cells c).toInt)) := by
  intro lo v0 v1 w0 hlo hv0 hv1
  refine enter Tryz.func21 rfl Tryz.ntmps21 (by simp) ?_
  intro a0 hf0 ha
  obtain ⟨va0, vb0, vc0, vd0, he0, hva0, hvb0, hvc0, hvd0⟩ := openF hv0
  have h00 : Holds (Is _) (a0.eval (.tmp 0)) w0 := arg_holds ha rfl he0
  have h01 : Holds _ (a0.eval (.tmp 1)) w0 := arg_holds ha rfl hv1
  clear ha
  have g0 : Grow w0 w0 := Grow.refl _
  obtain ⟨hs1, hs2, hs3, hs4⟩ := id hs
  refine wp_seq ?_
  refine wp_region_lit ?_
  refine wp_seg (l1 := [_]) [([0], [])] [1] w0.heap.size hf0 g0.size (by kernel_rfl) (bund_cons h00 bund_nil) ?_
  refine ch rfl (ob_box_state (arg_free 0 rfl rfl)) ?_
  refine ch_nil ?_
  intro a1 w2 hf3 hg4 hk5 hn6
  have h7 : Holds _ (a1.eval (.tmp 2)) w2 := hn6.at 0 0 rfl rfl rfl
  have h8 := hk5.holds rfl h01
  have g9 := g0.trans hg4
  obtain ⟨bk10, hl11, hv12, hb13⟩ := OwnB.blk (lo := w0.heap.size) h7
  clear h01 g0 hf0 hk5 hn6
  have g14 : Grow w2 w2 := Grow.refl _
  have hl15 : bk10 < w2.heap.size := hb13.lt
  have hz16 : w0.heap.size ≤ w2.heap.size := g9.size
  refine wp_all [([1], []), ([], [])] [2] w2.heap.size hf3 g14.size (by kernel_rfl) (bund_cons (is_any h8) bund_nil) ?_
  refine ch rfl (ob_box_cell (arg_free 0 rfl rfl)) ?_
  refine ch rfl (ob_assign arg_c) ?_
  refine ch_nil ?_
  intro a17 w18 hf19 hg20 hk21 hn22
  have h23 : Holds _ (a17.eval (.tmp 3)) w18 := hn22.at 0 1 rfl rfl rfl
  have hv24 : Holds (Is (PtrV bk10)) (a17.eval (.tmp 2)) w18 := is_any (hk21.holds rfl hv12)
  have hb25 := hb13.up hg20
  have g26 := g9.trans hg20
  have g27 := g14.trans hg20
  obtain ⟨bk28, hl29, hv30, hb31⟩ := OwnB.blk (lo := w2.heap.size) h23
  clear hv12 hb13 g9 g14 hf3 hk21 hn22
  refine then_ ?_
  refine wp_seq ?_
  have g32 : Grow w18 w18 := Grow.refl _
  have hl33 : bk10 < w18.heap.size := hb25.lt
  have hl34 : bk28 < w18.heap.size := hb31.lt
  have hz35 : w2.heap.size ≤ w18.heap.size := g27.size
  refine wp_region_lit ?_
  refine wp_all [([2], []), ([3], []), ([], [0, 1]), ([], [2])] [2] w18.heap.size hf19 g32.size (by kernel_rfl) (bund_cons (hb25.ownp hv24) (bund_cons (hb31.ownp hv30) bund_nil)) ?_
  refine ch rfl (ob_load_state (ArgOK.ownp (arg_free 0 rfl rfl))) ?_
  refine ch rfl (ob_load_cell (ArgOK.ownp (arg_free 1 rfl rfl))) ?_
  refine ch rfl (ob_call2 (by kernel_rfl) (c_at ?_) (ArgOK.val (arg_op 0 1 rfl rfl rfl rfl) (mkFs (s := s) (hva0.up g26) (hvb0.up g26) (hvc0.up g26) (hvd0.up g26))) (arg_op 1 0 rfl rfl rfl rfl)) ?_
  · assumption
  refine ch rfl (ob_assign (arg_op 2 0 rfl rfl rfl rfl)) ?_
  refine ch_nil ?_
  intro a36 w37 hf38 hg39 hk40 hn41
  have h42 : Holds _ (a36.eval (.tmp 5)) w37 := hn41.at 3 0 rfl rfl rfl
  have hv43 : Holds (Is (PtrV bk10)) (a36.eval (.tmp 2)) w37 := is_any (hk40.holds rfl hv24)
  have hb44 := hb25.up hg39
  have g45 := g26.trans hg39
  have g46 := g27.trans hg39
  have g47 := g32.trans hg39
  clear hv24 hb25 g26 g27 g32 hf19 hk40 hn41
  refine then_ ?_
  refine wp_seq ?_
  refine wp_seq ?_
  refine wp_region_lit ?_
  refine wp_all [([5], []), ([], [0])] [2, 5] w18.heap.size hf38 g47.size (by kernel_rfl) (bund_cons h42 bund_nil) ?_
  refine ch rfl (ob_move (arg_free 0 rfl rfl)) ?_
  refine ch rfl (ob_lss (arg_op 0 0 rfl rfl rfl rfl) arg_c) ?_
  refine ch_nil ?_
  intro a48 w49 hf50 hg51 hk52 hn53
  have h54 : Holds _ (a48.eval (.tmp 10)) w49 := hn53.at 1 0 rfl rfl rfl
  have h55 := hk52.holds rfl (h42.up hg51)
  have hv56 : Holds (Is (PtrV bk10)) (a48.eval (.tmp 2)) w49 := is_any (hk52.holds rfl hv43)
  have hb57 := hb44.up hg51
  have g58 := g45.trans hg51
  have g59 := g46.trans hg51
  have g60 := g47.trans hg51
  clear h42 hv43 hb44 g45 g46 g47 hf38 hk52 hn53 hg51
  refine then_ ?_
  refine wp_if h54 ?_ ?_
  · intro hc61
    try simp only [cond_norm] at hc61
    refine wp_seq ?_
    refine wp_region_lit ?_
    refine wp_all [([], [])] [] w18.heap.size hf50 g60.size (by kernel_rfl) bund_nil ?_
    refine ch rfl (ob_assign arg_c) ?_
    refine ch_nil ?_
    intro a62 w63 hf64 hg65 hk66 hn67
    have h68 : Holds _ (a62.eval (.tmp 4)) w63 := hn67.at 0 0 rfl rfl rfl
    have g69 := g58.trans hg65
    have g70 := g59.trans hg65
    have g71 := g60.trans hg65
    clear g58 g59 g60 hf50 hk66 hn67 hg65
    refine then_ ?_
    refine wp_ret ?_
    refine thenR ?_
    exact ret_tmp rfl hf64 g69 (is_cast h68 (congrArg intV (by first | exact getL_yes (by omega) | exact getL_no (by omega))))
  · intro hc61
    try simp only [cond_norm] at hc61
    have hp := fnd_lt (l := s.cells) (c := c) (by omega)
    refine wp_skip ?_
    refine then_ ?_
    refine wp_seq ?_
    refine wp_region_lit ?_
    refine wp_all [([2], []), ([], [0]), ([5], []), ([], [1, 2]), ([], [3]), ([], [4]), ([], [5])] [] w18.heap.size hf50 g60.size (by kernel_rfl) (bund_cons (hb57.ownp hv56) (bund_cons h55 bund_nil)) ?_
    refine ch rfl (ob_faP (n := 0) (arg_free 0 rfl rfl) Tryz.underlying28 rfl (by kernel_rfl)) ?_
    refine ch rfl (ob_loadP (arg_op 0 0 rfl rfl rfl rfl) Tryz.underlying22 rfl rfl) ?_
    refine ch rfl (ob_move (arg_free 1 rfl rfl)) ?_
    refine ch rfl (ob_ix (ArgOK.val (arg_op 1 1 rfl rfl rfl rfl) (hva0.up g58)) (arg_op 2 0 rfl rfl rfl rfl) (hp.2.symm) ?_ Tryz.underlying22 szDelta) ?_
    · exact hp.1
    refine ch rfl (ob_fa_delta1 (arg_op 3 0 rfl rfl rfl rfl)) ?_
    refine ch rfl (ob_load1 (arg_op 4 0 rfl rfl rfl rfl) Tryz.underlying3 rfl) ?_
    refine ch rfl (ob_assign (arg_op 5 0 rfl rfl rfl rfl)) ?_
    refine ch_nil ?_
    intro a72 w73 hf74 hg75 hk76 hn77
    have h78 : Holds _ (a72.eval (.tmp 4)) w73 := hn77.at 6 0 rfl rfl rfl
    have g79 := g58.trans hg75
    have g80 := g59.trans hg75
    have g81 := g60.trans hg75
    clear g58 g59 g60 hf50 hk76 hn77 hg75
    refine then_ ?_
    refine wp_ret ?_
    exact ret_tmp rfl hf74 g79 (is_cast h78 (congrArg intV (by first | exact getL_yes (by omega) | exact getL_no (by omega))))
set_option maxRecDepth 100000 in
theorem c_Total {s : GState} (hs : stOK s) : Con1 28 (StF s) (fun _ => Is (intV (tot s.cells).toInt)) := by
  intro lo v0 w0 hlo hv0
  refine enter Tryz.func28 rfl Tryz.ntmps28 (by simp) ?_
  intro a0 hf0 ha
  obtain ⟨va0, vb0, vc0, vd0, he0, hva0, hvb0, hvc0, hvd0⟩ := openF hv0
  have h00 : Holds (Is _) (a0.eval (.tmp 0)) w0 := arg_holds ha rfl he0
  clear ha
  have g0 : Grow w0 w0 := Grow.refl _
  obtain ⟨hs1, hs2, hs3, hs4⟩ := id hs
  refine wp_seq ?_
  refine wp_region_lit ?_
  refine wp_all [([0], []), ([], [])] [] w0.heap.size hf0 g0.size (by kernel_rfl) (bund_cons h00 bund_nil) ?_
  refine ch rfl (ob_box_state (arg_free 0 rfl rfl)) ?_
  refine ch rfl (ob_assign arg_c) ?_
  refine ch_nil ?_
  intro a1 w2 hf3 hg4 hk5 hn6
  have h7 : Holds _ (a1.eval (.tmp 1)) w2 := hn6.at 0 1 rfl rfl rfl
  have g8 := g0.trans hg4
  obtain ⟨bk9, hl10, hv11, hb12⟩ := OwnB.blk (lo := w0.heap.size) h7
  clear g0 hf0 hk5 hn6
  refine then_ ?_
  refine wp_seq ?_
  refine wp_region_lit ?_
  refine wp_all [([], [])] [1] w0.heap.size hf3 g8.size (by kernel_rfl) bund_nil ?_
  refine ch rfl (ob_assign arg_c) ?_
  refine ch_nil ?_
  intro a13 w14 hf15 hg16 hk17 hn18
  have h19 : Holds _ (a13.eval (.tmp 3)) w14 := hn18.at 0 0 rfl rfl rfl
  have hv20 : Holds (Is (PtrV bk9)) (a13.eval (.tmp 1)) w14 := is_any (hk17.holds rfl hv11)
  have hb21 := hb12.up hg16
  have g22 := g8.trans hg16
  clear hv11 hb12 g8 hf3 hk17 hn18 hg16
  refine then_ ?_
  refine wp_seq ?_
  refine wp_seq ?_
  refine wp_region_lit ?_
  refine wp_all [([1], []), ([], [0]), ([], [1]), ([], [])] [3] w0.heap.size hf15 g22.size (by kernel_rfl) (bund_cons (hb21.ownp hv20) bund_nil) ?_
  refine ch rfl (ob_faP (n := 0) (arg_free 0 rfl rfl) Tryz.underlying28 rfl (by kernel_rfl)) ?_
  refine ch rfl (ob_loadP (arg_op 0 0 rfl rfl rfl rfl) Tryz.underlying22 rfl rfl) ?_
  refine ch rfl (ob_len (ArgOK.val (arg_op 1 0 rfl rfl rfl rfl) (hva0.up g22)) Tryz.underlying22) ?_
  refine ch rfl (ob_move arg_c) ?_
  refine ch_nil ?_
  intro a23 w24 hf25 hg26 hk27 hn28
  have h29 : Holds _ (a23.eval (.tmp 7)) w24 := hn28.at 1 2 rfl rfl rfl
  have h30 : Holds _ (a23.eval (.tmp 8)) w24 := hn28.at 2 1 rfl rfl rfl
  have h31 : Holds _ (a23.eval (.tmp 9)) w24 := hn28.at 3 0 rfl rfl rfl
  have h32 := hk27.holds rfl (h19.up hg26)
  have g33 := g22.trans hg26
  clear h19 g22 hf15 hk27 hn28 hg26
  refine then_ ?_
  refine wp_block ?_
  have g34 : Grow w24 w24 := Grow.refl _
  have hz35 : w0.heap.size ≤ w24.heap.size := g33.size
  refine wp_loopL (α := Nat) (fun i a' w' => Fr 19 a' ∧ (i ≤ s.cells.length) ∧ Grow w0 w' ∧ Grow w24 w' ∧ Keep [7, 8] a23 a' ∧ Holds (Is (intV (tot (s.cells.take i)).toInt)) (a'.eval (.tmp 3)) w' ∧ Holds (Is (intV (i : Int))) (a'.eval (.tmp 9)) w') (fun i => s.cells.length - i) (0) ⟨hf25, (by ((try dsimp only); omega)), g33, g34, Keep.refl _ _, (is_cast h32 (rfl)), (is_cast h31 (by first | rfl | (refine congrArg intV ?_; (try dsimp only); omega)))⟩ ?_
  intro i a36 w37 ⟨hf38, hi40, g41, g42, kk39, h43, h44⟩
  have h45 := kk39.holds rfl h29
  have h46 := kk39.holds rfl h30
  refine wp_seq ?_
  refine wp_region_lit ?_
  refine wp_all [([9, 8], [])] [3, 7, 8, 9] w24.heap.size hf38 g42.size (by kernel_rfl) (bund_cons h44 (bund_cons (is_any h46) bund_nil)) ?_
  refine ch rfl (ob_lss (arg_free 0 rfl rfl) (arg_free 1 rfl rfl)) ?_
  refine ch_nil ?_
  intro a47 w48 hf49 hg50 hk51 hn52
  have h53 : Holds _ (a47.eval (.tmp 10)) w48 := hn52.at 0 0 rfl rfl rfl
  have h54 := hk51.holds rfl (h43.up hg50)
  have h55 := hk51.holds rfl (h44.up hg50)
  have h56 := hk51.holds rfl h45
  have h57 := hk51.holds rfl h46
  have g58 := g41.trans hg50
  have g59 := g42.trans hg50
  have kk60 : Keep _ a23 a47 := kk39.trans hk51 rfl
  clear h43 h44 h45 h46 g41 g42 kk39 hf38 hk51 hn52 hg50
  refine then_ ?_
  refine wp_seq ?_
  refine wp_if h53 ?_ ?_
  · intro hc61
    try simp only [cond_norm] at hc61
    refine wp_skip ?_
    refine then_ ?_
    refine wp_seq ?_
    refine wp_block ?_
    refine wp_seq ?_
    have g62 : Grow w48 w48 := Grow.refl _
    have hz63 : w24.heap.size ≤ w48.heap.size := g59.size
    refine wp_region_lit ?_
    refine wp_seg (l1 := [_, _, _]) [([7, 9], []), ([], [0]), ([], [])] [3, 7, 8, 9] w48.heap.size hf49 g62.size (by kernel_rfl) (bund_cons (is_any h56) (bund_cons h55 bund_nil)) ?_
    refine ch rfl (ob_ix (ArgOK.val (arg_free 0 rfl rfl) (hva0.up g58)) (arg_free 1 rfl rfl) (rfl) ?_ Tryz.underlying22 szDelta) ?_
    · omega
    refine ch rfl (ob_load_delta (arg_op 0 0 rfl rfl rfl rfl)) ?_
    refine ch rfl (ob_alloc_delta) ?_
    refine ch_nil ?_
    intro a64 w65 hf66 hg67 hk68 hn69
    have h70 : Holds _ (a64.eval (.tmp 12)) w65 := hn69.at 1 1 rfl rfl rfl
    have h71 : Holds _ (a64.eval (.tmp 5)) w65 := hn69.at 2 0 rfl rfl rfl
    have h72 := hk68.holds rfl h54
    have h73 := hk68.holds rfl h55
    have h74 := hk68.holds rfl h56
    have h75 := hk68.holds rfl h57
    have g76 := g58.trans hg67
    have g77 := g59.trans hg67
    have g78 := g62.trans hg67
    have kk79 : Keep _ a23 a64 := kk60.trans hk68 rfl
    obtain ⟨bk80, hl81, hv82, hb83⟩ := OwnB.blk (lo := w48.heap.size) h71
    clear h54 h55 h56 h57 g58 g59 g62 kk60 hf49 hk68 hn69
    refine wl_store_delta hv82 hb83 rfl h70 ?_
    intro w84 ho85 hb86
    have g87 : Grow w0 w84 := g76.only ho85 (by omega)
    have g88 : Grow w24 w84 := g77.only ho85 (by omega)
    have g89 : Grow w48 w84 := g78.only ho85 (by omega)
    have hv90 : Holds (Is (PtrV bk80)) (a64.eval (.tmp 5)) w84 := is_any hv82
    refine wpList_nil ?_
    refine then_ ?_
    refine wp_region_lit ?_
    refine wp_all [([3], []), ([5], []), ([], [1]), ([], [0, 2]), ([], [3])] [7, 8, 9] w48.heap.size hf66 g89.size (by kernel_rfl) (bund_cons (is_any h72) (bund_cons (hb86.ownp hv90) bund_nil)) ?_
    refine ch rfl (ob_move (arg_free 0 rfl rfl)) ?_
    refine ch rfl (ob_fa_delta1 (ArgOK.ownp (arg_free 1 rfl rfl))) ?_
    refine ch rfl (ob_load1 (arg_op 1 0 rfl rfl rfl rfl) Tryz.underlying3 rfl) ?_
    first
      | (refine ch rfl (ob_add' (arg_op 0 2 rfl rfl rfl rfl) (arg_op 2 0 rfl rfl rfl rfl) ?_) ?_; · omega)
      | refine ch rfl (ob_add (arg_op 0 2 rfl rfl rfl rfl) (arg_op 2 0 rfl rfl rfl rfl)) ?_
    refine ch rfl (ob_assign (arg_op 3 0 rfl rfl rfl rfl)) ?_
    refine ch_nil ?_
    intro a91 w92 hf93 hg94 hk95 hn96
    have h97 : Holds _ (a91.eval (.tmp 3)) w92 := hn96.at 4 0 rfl rfl rfl
    have h98 := hk95.holds rfl h73
    have h99 := hk95.holds rfl h74
    have h100 := hk95.holds rfl h75
    have g101 := g87.trans hg94
    have g102 := g88.trans hg94
    have g103 := g89.trans hg94
    have kk104 : Keep _ a23 a91 := kk79.trans hk95 rfl
    clear h73 h74 h75 g87 g88 g89 kk79 hf66 hk95 hn96 hg94
    refine blockN ?_
    refine then_ ?_
    refine wp_region_lit ?_
    refine wp_all [([9], []), ([], [0])] [3, 7, 8] w48.heap.size hf93 g103.size (by kernel_rfl) (bund_cons (is_any h98) bund_nil) ?_
    first
      | (refine ch rfl (ob_add' (arg_free 0 rfl rfl) arg_c ?_) ?_; · omega)
      | refine ch rfl (ob_add (arg_free 0 rfl rfl) arg_c) ?_
    refine ch rfl (ob_move (arg_op 0 0 rfl rfl rfl rfl)) ?_
    refine ch_nil ?_
    intro a105 w106 hf107 hg108 hk109 hn110
    have h111 : Holds _ (a105.eval (.tmp 9)) w106 := hn110.at 1 0 rfl rfl rfl
    have h112 := hk109.holds rfl (h97.up hg108)
    have h113 := hk109.holds rfl h99
    have h114 := hk109.holds rfl h100
    have g115 := g101.trans hg108
    have g116 := g102.trans hg108
    have g117 := g103.trans hg108
    have kk118 : Keep _ a23 a105 := kk104.trans hk109 rfl
    clear h97 h99 h100 g101 g102 g103 kk104 hf93 hk109 hn110 hg108
    refine then_ ?_
    exact ⟨(i + 1), (by ((try dsimp only); omega)), hf107, (by ((try dsimp only); omega)), g115, g116, kk118, (is_cast h112 (congrArg intV (tot_cast (by omega)))), (is_cast h111 (by first | rfl | (refine congrArg intV ?_; (try dsimp only); omega)))⟩
  · intro hc61
    try simp only [cond_norm] at hc61
    obtain rfl : i = s.cells.length := by omega
    refine wp_exit ?_
    refine thenX ?_
    refine thenX ?_
    refine blockX ?_
    refine then_ ?_
    refine wp_seq ?_
    refine wp_region_lit ?_
    refine wp_all [([3], []), ([], [0])] [] w24.heap.size hf49 g59.size (by kernel_rfl) (bund_cons h54 bund_nil) ?_
    refine ch rfl (ob_move (arg_free 0 rfl rfl)) ?_
    refine ch rfl (ob_assign (arg_op 0 0 rfl rfl rfl rfl)) ?_
    refine ch_nil ?_
    intro a119 w120 hf121 hg122 hk123 hn124
    have h125 : Holds _ (a119.eval (.tmp 2)) w120 := hn124.at 1 0 rfl rfl rfl
    have g126 := g58.trans hg122
    have g127 := g59.trans hg122
    clear g58 g59 hf49 hk123 hn124 hg122
    refine then_ ?_
    refine wp_ret ?_
    exact ret_tmp rfl hf121 g126 (is_cast h125 (congrArg (fun l => intV (tot l).toInt) (List.take_length)))
set_option maxRecDepth 100000 in
theorem c_bef1D {x y : GDelta} {c : GDelta → GDelta → Int} : Con3 117 (Is (deltaV y)) (PtrFn2 deltaV c) (PtrC (deltaCells x)) (fun _ => Is (.bool (decide (0 < c y x)))) := by
  intro lo v0 v1 v2 w0 hlo hv0 hv1 hv2
  refine enter Tryz.func117 rfl Tryz.ntmps117 (by simp) ?_
  intro a0 hf0 ha
  have h00 : Holds _ (a0.eval (.tmp 0)) w0 := arg_holds ha rfl hv0
  have h01 : Holds _ (a0.eval (.tmp 1)) w0 := arg_holds ha rfl hv1
  have h02 : Holds _ (a0.eval (.tmp 2)) w0 := arg_holds ha rfl hv2
  clear ha
  have g0 : Grow w0 w0 := Grow.refl _
  refine wp_seq ?_
  refine wp_region_lit ?_
  refine wp_all [([0], []), ([], [])] [1, 2] w0.heap.size hf0 g0.size (by kernel_rfl) (bund_cons h00 bund_nil) ?_
  refine ch rfl (ob_box_delta (arg_free 0 rfl rfl)) ?_
  refine ch rfl (ob_assign arg_c) ?_
  refine ch_nil ?_
  intro a1 w2 hf3 hg4 hk5 hn6
  have h7 : Holds _ (a1.eval (.tmp 3)) w2 := hn6.at 0 1 rfl rfl rfl
  have h8 := hk5.holds rfl h01
  have h9 := hk5.holds rfl h02
  have g10 := g0.trans hg4
  obtain ⟨bk11, hl12, hv13, hb14⟩ := OwnB.blk (lo := w0.heap.size) h7
  clear h01 h02 g0 hf0 hk5 hn6
  refine then_ ?_
  refine wp_seq ?_
  have g15 : Grow w2 w2 := Grow.refl _
  have hl16 : bk11 < w2.heap.size := hb14.lt
  have hz17 : w0.heap.size ≤ w2.heap.size := g10.size
  refine wp_region_lit ?_
  refine wp_all [([1], []), ([3], []), ([2], []), ([], [0, 1, 2]), ([], [3]), ([], [4])] [] w2.heap.size hf3 g15.size (by kernel_rfl) (bund_cons (h8.up g10) (bund_cons (hb14.ownp hv13) (bund_cons (h9.up g10) bund_nil))) ?_
  refine ch rfl (ob_load_fn2 (arg_free 0 rfl rfl) Tryz.underlying92 rfl) ?_
  refine ch rfl (ob_load_delta (ArgOK.ownp (arg_free 1 rfl rfl))) ?_
  refine ch rfl (ob_load_delta (arg_free 2 rfl rfl)) ?_
  refine ch rfl (ob_callv2 (arg_op 0 2 rfl rfl rfl rfl) (arg_op 1 1 rfl rfl rfl rfl) (arg_op 2 0 rfl rfl rfl rfl)) ?_
  refine ch rfl (ob_gtr (arg_op 3 0 rfl rfl rfl rfl) arg_c) ?_
  refine ch rfl (ob_assign (arg_op 4 0 rfl rfl rfl rfl)) ?_
  refine ch_nil ?_
  intro a18 w19 hf20 hg21 hk22 hn23
  have h24 : Holds _ (a18.eval (.tmp 4)) w19 := hn23.at 5 0 rfl rfl rfl
  have g25 := g10.trans hg21
  have g26 := g15.trans hg21
  clear g10 g15 hf3 hk22 hn23
  refine then_ ?_
  refine wp_ret ?_
  exact ret_tmp rfl hf20 g25 h24
set_option maxRecDepth 100000 in
theorem c_befD {l : List GDelta} {x : GDelta} {c : GDelta → GDelta → Int} (hl : l.length ≤ 1000000) : Con3 99 (Sl elDelta l) (Is (deltaV x)) (Fn2 deltaV c) (fun _ => Is (intV (bef c l x))) := by
  intro lo v0 v1 v2 w0 hlo hv0 hv1 hv2
  refine enter Tryz.func99 rfl Tryz.ntmps99 (by simp) ?_
  intro a0 hf0 ha
  have h00 : Holds (Is v0) (a0.eval (.tmp 0)) w0 := arg_holds ha rfl rfl
  have h01 : Holds _ (a0.eval (.tmp 1)) w0 := arg_holds ha rfl hv1
  have h02 : Holds (Is v2) (a0.eval (.tmp 2)) w0 := arg_holds ha rfl rfl
  clear ha
  have g0 : Grow w0 w0 := Grow.refl _
  refine wp_seq ?_
  refine wp_region_lit ?_
  refine wp_seg (l1 := [_]) [([1], [])] [0, 2] w0.heap.size hf0 g0.size (by kernel_rfl) (bund_cons h01 bund_nil) ?_
  refine ch rfl (ob_box_delta (arg_free 0 rfl rfl)) ?_
  refine ch_nil ?_
  intro a1 w2 hf3 hg4 hk5 hn6
  have h7 : Holds _ (a1.eval (.tmp 4)) w2 := hn6.at 0 0 rfl rfl rfl
  have h8 := hk5.holds rfl h00
  have h9 := hk5.holds rfl h02
  have g10 := g0.trans hg4
  obtain ⟨bk11, hl12, hv13, hb14⟩ := OwnB.blk (lo := w0.heap.size) h7
  clear h00 h02 g0 hf0 hk5 hn6
  have g15 : Grow w2 w2 := Grow.refl _
  have hl16 : bk11 < w2.heap.size := hb14.lt
  have hz17 : w0.heap.size ≤ w2.heap.size := g10.size
  refine wp_all [([2], []), ([], [])] [0, 4] w2.heap.size hf3 g15.size (by kernel_rfl) (bund_cons (is_any h9) bund_nil) ?_
  refine ch rfl (ob_box_fn (arg_free 0 rfl rfl) (hv2.up g10)) ?_
  refine ch rfl (ob_assign arg_c) ?_
  refine ch_nil ?_
  intro a18 w19 hf20 hg21 hk22 hn23
  have h24 : Holds _ (a18.eval (.tmp 5)) w19 := hn23.at 0 1 rfl rfl rfl
  have h25 := hk22.holds rfl h8
  have hv26 : Holds (Is (PtrV bk11)) (a18.eval (.tmp 4)) w19 := is_any (hk22.holds rfl hv13)
  have hb27 := hb14.up hg21
  have g28 := g10.trans hg21
  have g29 := g15.trans hg21
  obtain ⟨bk30, hl31, hv32, hb33⟩ := OwnB.blk (lo := w2.heap.size) h24
  clear h8 hv13 hb14 g10 g15 hf3 hk22 hn23
  refine then_ ?_
  refine wp_seq ?_
  refine wp_seq ?_
  have g34 : Grow w19 w19 := Grow.refl _
  have hl35 : bk11 < w19.heap.size := hb27.lt
  have hl36 : bk30 < w19.heap.size := hb33.lt
  have hz37 : w2.heap.size ≤ w19.heap.size := g29.size
  refine wp_region_lit ?_
  refine wp_all [([0], []), ([5, 4], []), ([], [0, 1]), ([], [2])] [0] w19.heap.size hf20 g34.size (by kernel_rfl) (bund_cons (is_any h25) (bund_cons (hb33.ownp hv32) (bund_cons (hb27.ownp hv26) bund_nil))) ?_
  refine ch rfl (ob_move (arg_free 0 rfl rfl)) ?_
  refine ch rfl (ob_mf2 (V := deltaV) (by kernel_rfl) (fun y => c_bef1D (x := x) (y := y) (c := c)) (ArgOK.ptrfn (arg_free 1 rfl rfl) (hv2.up g28)) (ArgOK.ownp (arg_free 2 rfl rfl))) ?_
  refine ch rfl (ob_call2 (by kernel_rfl) (c_ixfD ?_) (ArgOK.val (arg_op 0 1 rfl rfl rfl rfl) (hv0.up g28)) (arg_op 1 0 rfl rfl rfl rfl)) ?_
  · omega
  refine ch rfl (ob_assign (arg_op 2 0 rfl rfl rfl rfl)) ?_
  refine ch_nil ?_
  intro a38 w39 hf40 hg41 hk42 hn43
  have h44 : Holds _ (a38.eval (.tmp 7)) w39 := hn43.at 3 0 rfl rfl rfl
  have h45 := hk42.holds rfl h25
  have g46 := g28.trans hg41
  have g47 := g29.trans hg41
  have g48 := g34.trans hg41
  clear h25 g28 g29 g34 hf20 hk42 hn43
  refine then_ ?_
  refine wp_seq ?_
  refine wp_region_lit ?_
  refine wp_all [([7], []), ([], [0])] [0, 7] w19.heap.size hf40 g48.size (by kernel_rfl) (bund_cons h44 bund_nil) ?_
  refine ch rfl (ob_move (arg_free 0 rfl rfl)) ?_
  refine ch rfl (ob_geq (arg_op 0 0 rfl rfl rfl rfl) arg_c) ?_
  refine ch_nil ?_
  intro a49 w50 hf51 hg52 hk53 hn54
  have h55 : Holds _ (a49.eval (.tmp 12)) w50 := hn54.at 1 0 rfl rfl rfl
  have h56 := hk53.holds rfl (h44.up hg52)
  have h57 := hk53.holds rfl h45
  have g58 := g46.trans hg52
  have g59 := g47.trans hg52
  have g60 := g48.trans hg52
  clear h44 h45 g46 g47 g48 hf40 hk53 hn54 hg52
  refine then_ ?_
  refine wp_if h55 ?_ ?_
  · intro hc61
    try simp only [cond_norm] at hc61
    refine wp_seq ?_
    refine wp_region_lit ?_
    refine wp_all [([7], []), ([], [0])] [] w19.heap.size hf51 g60.size (by kernel_rfl) (bund_cons h56 bund_nil) ?_
    refine ch rfl (ob_move (arg_free 0 rfl rfl)) ?_
    refine ch rfl (ob_assign (arg_op 0 0 rfl rfl rfl rfl)) ?_
    refine ch_nil ?_
    intro a62 w63 hf64 hg65 hk66 hn67
    have h68 : Holds _ (a62.eval (.tmp 6)) w63 := hn67.at 1 0 rfl rfl rfl
    have g69 := g58.trans hg65
    have g70 := g59.trans hg65
    have g71 := g60.trans hg65
    clear g58 g59 g60 hf51 hk66 hn67 hg65
    refine then_ ?_
    refine wp_ret ?_
    refine thenR ?_
    exact ret_tmp rfl hf64 g69 (is_cast h68 (congrArg intV (by first | exact bef_yes (by assumption) | exact bef_no (by assumption))))
  · intro hc61
    try simp only [cond_norm] at hc61
    refine wp_skip ?_
    refine then_ ?_
    refine wp_seq ?_
    refine wp_region_lit ?_
    refine wp_all [([0], []), ([], [0]), ([], [1])] [] w19.heap.size hf51 g60.size (by kernel_rfl) (bund_cons (is_any h57) bund_nil) ?_
    refine ch rfl (ob_move (arg_free 0 rfl rfl)) ?_
    refine ch rfl (ob_len (ArgOK.val (arg_op 0 0 rfl rfl rfl rfl) (hv0.up g58)) Tryz.underlying22) ?_
    refine ch rfl (ob_assign (arg_op 1 0 rfl rfl rfl rfl)) ?_
    refine ch_nil ?_
    intro a72 w73 hf74 hg75 hk76 hn77
    have h78 : Holds _ (a72.eval (.tmp 6)) w73 := hn77.at 2 0 rfl rfl rfl
    have g79 := g58.trans hg75
    have g80 := g59.trans hg75
    have g81 := g60.trans hg75
    clear g58 g59 g60 hf51 hk76 hn77 hg75
    refine then_ ?_
    refine wp_ret ?_
    exact ret_tmp rfl hf74 g79 (is_cast h78 (congrArg intV (by first | exact bef_yes (by assumption) | exact bef_no (by assumption))))
set_option maxRecDepth 100000 in
theorem c_Validate {s : GState} (hs : stOK s) : Con1 29 (StF s) (fun _ => Is (intV (if valS s then 0 else 1))) := by
  intro lo v0 w0 hlo hv0
  refine enter Tryz.func29 rfl Tryz.ntmps29 (by simp) ?_
  intro a0 hf0 ha
  obtain ⟨va0, vb0, vc0, vd0, he0, hva0, hvb0, hvc0, hvd0⟩ := openF hv0
  have h00 : Holds (Is _) (a0.eval (.tmp 0)) w0 := arg_holds ha rfl he0
  clear ha
  have g0 : Grow w0 w0 := Grow.refl _
  obtain ⟨hs1, hs2, hs3, hs4⟩ := id hs
  refine wp_seq ?_
  refine wp_region_lit ?_
  refine wp_all [([0], []), ([], [])] [] w0.heap.size hf0 g0.size (by kernel_rfl) (bund_cons h00 bund_nil) ?_
  refine ch rfl (ob_box_state (arg_free 0 rfl rfl)) ?_
  refine ch rfl (ob_assign arg_c) ?_
  refine ch_nil ?_
  intro a1 w2 hf3 hg4 hk5 hn6
  have h7 : Holds _ (a1.eval (.tmp 1)) w2 := hn6.at 0 1 rfl rfl rfl
  have g8 := g0.trans hg4
  obtain ⟨bk9, hl10, hv11, hb12⟩ := OwnB.blk (lo := w0.heap.size) h7
  clear g0 hf0 hk5 hn6
  refine then_ ?_
  refine wp_seq ?_
  refine wp_region_lit ?_
  refine wp_all [([], [])] [1] w0.heap.size hf3 g8.size (by kernel_rfl) bund_nil ?_
  refine ch rfl (ob_assign (arg_fn1 (V := deltaV) (by kernel_rfl) (fun _ => c_bad1))) ?_
  refine ch_nil ?_
  intro a13 w14 hf15 hg16 hk17 hn18
  have h19 : Holds _ (a13.eval (.tmp 3)) w14 := hn18.at 0 0 rfl rfl rfl
  have hv20 : Holds (Is (PtrV bk9)) (a13.eval (.tmp 1)) w14 := is_any (hk17.holds rfl hv11)
  have hb21 := hb12.up hg16
  have g22 := g8.trans hg16
  clear hv11 hb12 g8 hf3 hk17 hn18 hg16
  obtain ⟨V23, h24, hV25⟩ := nameV h19
  clear h19
  refine then_ ?_
  refine wp_seq ?_
  refine wp_region_lit ?_
  refine wp_all [([], [])] [1, 3] w0.heap.size hf15 g22.size (by kernel_rfl) bund_nil ?_
  refine ch rfl (ob_assign (arg_fn1 (V := intV) (by kernel_rfl) (fun _ => c_bad2))) ?_
  refine ch_nil ?_
  intro a26 w27 hf28 hg29 hk30 hn31
  have h32 : Holds _ (a26.eval (.tmp 4)) w27 := hn31.at 0 0 rfl rfl rfl
  have h33 := hk30.holds rfl (h24.up hg29)
  have hv34 : Holds (Is (PtrV bk9)) (a26.eval (.tmp 1)) w27 := is_any (hk30.holds rfl hv20)
  have hb35 := hb21.up hg29
  have g36 := g22.trans hg29
  have hV37 := hV25.up hg29
  clear h24 hv20 hb21 g22 hf15 hk30 hn31 hg29 hV25
  obtain ⟨V38, h39, hV40⟩ := nameV h32
  clear h32
  refine then_ ?_
  refine wp_seq ?_
  refine wp_region_lit ?_
  refine wp_all [([], [])] [1, 3, 4] w0.heap.size hf28 g36.size (by kernel_rfl) bund_nil ?_
  refine ch rfl (ob_assign (arg_fn1 (V := lockV) (by kernel_rfl) (fun _ => c_bad3))) ?_
  refine ch_nil ?_
  intro a41 w42 hf43 hg44 hk45 hn46
  have h47 : Holds _ (a41.eval (.tmp 5)) w42 := hn46.at 0 0 rfl rfl rfl
  have h48 := hk45.holds rfl (h39.up hg44)
  have h49 := hk45.holds rfl (h33.up hg44)
  have hv50 : Holds (Is (PtrV bk9)) (a41.eval (.tmp 1)) w42 := is_any (hk45.holds rfl hv34)
  have hb51 := hb35.up hg44
  have g52 := g36.trans hg44
  have hV53 := hV37.up hg44
  have hV54 := hV40.up hg44
  clear h39 h33 hv34 hb35 g36 hf28 hk45 hn46 hg44 hV37 hV40
  obtain ⟨V55, h56, hV57⟩ := nameV h47
  clear h47
  refine then_ ?_
  refine wp_seq ?_
  refine wp_seq ?_
  have g58 : Grow w42 w42 := Grow.refl _
  have hl59 : bk9 < w42.heap.size := hb51.lt
  have hz60 : w0.heap.size ≤ w42.heap.size := g52.size
  refine wp_region_lit ?_
  refine wp_all [([1], []), ([], [0]), ([3], []), ([], [1, 2]), ([], [3]), ([1], [4]), ([], [5, 4]), ([], [6, 4]), ([], [7, 4]), ([], [4, 8]), ([], [9]), ([1], [10]), ([], [11, 10]), ([], [12, 10]), ([], [13, 10]), ([], [10, 14]), ([], [15]), ([1], [16]), ([], [17, 16]), ([], [18, 16]), ([], [19, 16]), ([], [16, 20]), ([], [21]), ([1], [22]), ([], [23, 22]), ([4], [22]), ([], [24, 25, 22]), ([], [22, 26]), ([], [27]), ([1], [28]), ([], [29, 28]), ([5], [28]), ([], [30, 31, 28]), ([], [28, 32]), ([], [33]), ([1], [34]), ([], [35, 34]), ([], [36, 34]), ([], [37, 34]), ([], [34, 38]), ([], [39]), ([1], [40]), ([], [41, 40]), ([], [42, 40]), ([], [43, 40]), ([], [40, 44]), ([], [45]), ([1], [46]), ([], [47, 46]), ([], [48, 46]), ([], [46, 49]), ([], [50]), ([1], [51]), ([], [52, 51]), ([], [53, 51]), ([], [51, 54])] [] w42.heap.size hf43 g58.size (by kernel_rfl) (bund_cons (hb51.ownp hv50) (bund_cons h49 (bund_cons h48 (bund_cons h56 bund_nil)))) ?_
  refine ch rfl (ob_faP (n := 0) (arg_free 0 rfl rfl) Tryz.underlying28 rfl (by kernel_rfl)) ?_
  refine ch rfl (ob_loadP (arg_op 0 0 rfl rfl rfl rfl) Tryz.underlying22 rfl rfl) ?_
  refine ch rfl (ob_move (arg_free 1 rfl rfl)) ?_
  refine ch rfl (ob_call2 (by kernel_rfl) (c_conD ?_) (ArgOK.val (arg_op 1 1 rfl rfl rfl rfl) (hva0.up g52)) (ArgOK.val (arg_op 2 0 rfl rfl rfl rfl) hV53)) ?_
  · omega
  refine ch rfl (ob_move (arg_op 3 0 rfl rfl rfl rfl)) ?_
  refine chg (b := _) rfl rfl (arg_op 4 0 rfl rfl rfl rfl) (fun hb4 => ob_faP (n := 0) (arg_free 0 rfl rfl) Tryz.underlying28 rfl (by kernel_rfl)) ?_
  refine chg (b := _) rfl rfl (arg_op 4 1 rfl rfl rfl rfl) (fun hb4 => ob_loadP (ArgOK.when (arg_op 5 0 rfl rfl rfl rfl) hb4) Tryz.underlying22 rfl rfl) ?_
  refine chg (b := _) rfl rfl (arg_op 4 2 rfl rfl rfl rfl) (fun hb4 => ob_call2 (by kernel_rfl) (c_ascD ?_) (ArgOK.val (ArgOK.when (arg_op 6 0 rfl rfl rfl rfl) hb4) (hva0.up g52)) (arg_fn2 (by kernel_rfl) (fun _ _ => c_cmpD))) ?_
  · omega
  refine chg (b := _) rfl rfl (arg_op 4 3 rfl rfl rfl rfl) (fun hb4 => ob_not (ArgOK.when (arg_op 7 0 rfl rfl rfl rfl) hb4)) ?_
  refine ch rfl (ob_or (arg_op 4 4 rfl rfl rfl rfl) (arg_op 8 0 rfl rfl rfl rfl)) ?_
  refine ch rfl (ob_move (arg_op 9 0 rfl rfl rfl rfl)) ?_
  refine chg (b := _) rfl rfl (arg_op 10 0 rfl rfl rfl rfl) (fun hb10 => ob_faP (n := 0) (arg_free 0 rfl rfl) Tryz.underlying28 rfl (by kernel_rfl)) ?_
  refine chg (b := _) rfl rfl (arg_op 10 1 rfl rfl rfl rfl) (fun hb10 => ob_loadP (ArgOK.when (arg_op 11 0 rfl rfl rfl rfl) hb10) Tryz.underlying23 rfl rfl) ?_
  refine chg (b := _) rfl rfl (arg_op 10 2 rfl rfl rfl rfl) (fun hb10 => ob_len (ArgOK.val (ArgOK.when (arg_op 12 0 rfl rfl rfl rfl) hb10) (hvb0.up g52)) Tryz.underlying23) ?_
  refine chg (b := _) rfl rfl (arg_op 10 3 rfl rfl rfl rfl) (fun hb10 => ob_lss (ArgOK.when (arg_op 13 0 rfl rfl rfl rfl) hb10) arg_c) ?_
  refine ch rfl (ob_or (arg_op 10 4 rfl rfl rfl rfl) (arg_op 14 0 rfl rfl rfl rfl)) ?_
  refine ch rfl (ob_move (arg_op 15 0 rfl rfl rfl rfl)) ?_
  refine chg (b := _) rfl rfl (arg_op 16 0 rfl rfl rfl rfl) (fun hb16 => ob_faP (n := 0) (arg_free 0 rfl rfl) Tryz.underlying28 rfl (by kernel_rfl)) ?_
  refine chg (b := _) rfl rfl (arg_op 16 1 rfl rfl rfl rfl) (fun hb16 => ob_loadP (ArgOK.when (arg_op 17 0 rfl rfl rfl rfl) hb16) Tryz.underlying23 rfl rfl) ?_
  refine chg (b := _) rfl rfl (arg_op 16 2 rfl rfl rfl rfl) (fun hb16 => ob_len (ArgOK.val (ArgOK.when (arg_op 18 0 rfl rfl rfl rfl) hb16) (hvb0.up g52)) Tryz.underlying23) ?_
  refine chg (b := _) rfl rfl (arg_op 16 3 rfl rfl rfl rfl) (fun hb16 => ob_gtr (ArgOK.when (arg_op 19 0 rfl rfl rfl rfl) hb16) arg_c) ?_
  refine ch rfl (ob_or (arg_op 16 4 rfl rfl rfl rfl) (arg_op 20 0 rfl rfl rfl rfl)) ?_
  refine ch rfl (ob_move (arg_op 21 0 rfl rfl rfl rfl)) ?_
  refine chg (b := _) rfl rfl (arg_op 22 0 rfl rfl rfl rfl) (fun hb22 => ob_faP (n := 0) (arg_free 0 rfl rfl) Tryz.underlying28 rfl (by kernel_rfl)) ?_
  refine chg (b := _) rfl rfl (arg_op 22 1 rfl rfl rfl rfl) (fun hb22 => ob_loadP (ArgOK.when (arg_op 23 0 rfl rfl rfl rfl) hb22) Tryz.underlying23 rfl rfl) ?_
  refine chg (b := _) rfl rfl (arg_op 22 2 rfl rfl rfl rfl) (fun hb22 => ob_move (arg_free 2 rfl rfl)) ?_
  refine chg (b := _) rfl rfl (arg_op 22 3 rfl rfl rfl rfl) (fun hb22 => ob_call2 (by kernel_rfl) (c_conI ?_) (ArgOK.val (ArgOK.when (arg_op 24 1 rfl rfl rfl rfl) hb22) (hvb0.up g52)) (ArgOK.val (ArgOK.when (arg_op 25 0 rfl rfl rfl rfl) hb22) hV54)) ?_
  · omega
  refine ch rfl (ob_or (arg_op 22 4 rfl rfl rfl rfl) (arg_op 26 0 rfl rfl rfl rfl)) ?_
  refine ch rfl (ob_move (arg_op 27 0 rfl rfl rfl rfl)) ?_
  refine chg (b := _) rfl rfl (arg_op 28 0 rfl rfl rfl rfl) (fun hb28 => ob_faP (n := 0) (arg_free 0 rfl rfl) Tryz.underlying28 rfl (by kernel_rfl)) ?_
  refine chg (b := _) rfl rfl (arg_op 28 1 rfl rfl rfl rfl) (fun hb28 => ob_loadP (ArgOK.when (arg_op 29 0 rfl rfl rfl rfl) hb28) Tryz.underlying24 rfl rfl) ?_
  refine chg (b := _) rfl rfl (arg_op 28 2 rfl rfl rfl rfl) (fun hb28 => ob_move (arg_free 3 rfl rfl)) ?_
  refine chg (b := _) rfl rfl (arg_op 28 3 rfl rfl rfl rfl) (fun hb28 => ob_call2 (by kernel_rfl) (c_conK ?_) (ArgOK.val (ArgOK.when (arg_op 30 1 rfl rfl rfl rfl) hb28) (hvc0.up g52)) (ArgOK.val (ArgOK.when (arg_op 31 0 rfl rfl rfl rfl) hb28) hV57)) ?_
  · omega
  refine ch rfl (ob_or (arg_op 28 4 rfl rfl rfl rfl) (arg_op 32 0 rfl rfl rfl rfl)) ?_
  refine ch rfl (ob_move (arg_op 33 0 rfl rfl rfl rfl)) ?_
  refine chg (b := _) rfl rfl (arg_op 34 0 rfl rfl rfl rfl) (fun hb34 => ob_faP (n := 0) (arg_free 0 rfl rfl) Tryz.underlying28 rfl (by kernel_rfl)) ?_
  refine chg (b := _) rfl rfl (arg_op 34 1 rfl rfl rfl rfl) (fun hb34 => ob_loadP (ArgOK.when (arg_op 35 0 rfl rfl rfl rfl) hb34) Tryz.underlying24 rfl rfl) ?_
  refine chg (b := _) rfl rfl (arg_op 34 2 rfl rfl rfl rfl) (fun hb34 => ob_call2 (by kernel_rfl) (c_ascK ?_) (ArgOK.val (ArgOK.when (arg_op 36 0 rfl rfl rfl rfl) hb34) (hvc0.up g52)) (arg_fn2 (by kernel_rfl) (fun _ _ => c_cmpK))) ?_
  · omega
  refine chg (b := _) rfl rfl (arg_op 34 3 rfl rfl rfl rfl) (fun hb34 => ob_not (ArgOK.when (arg_op 37 0 rfl rfl rfl rfl) hb34)) ?_
  refine ch rfl (ob_or (arg_op 34 4 rfl rfl rfl rfl) (arg_op 38 0 rfl rfl rfl rfl)) ?_
  refine ch rfl (ob_move (arg_op 39 0 rfl rfl rfl rfl)) ?_
  refine chg (b := _) rfl rfl (arg_op 40 0 rfl rfl rfl rfl) (fun hb40 => ob_faP (n := 0) (arg_free 0 rfl rfl) Tryz.underlying28 rfl (by kernel_rfl)) ?_
  refine chg (b := _) rfl rfl (arg_op 40 1 rfl rfl rfl rfl) (fun hb40 => ob_loadP (ArgOK.when (arg_op 41 0 rfl rfl rfl rfl) hb40) Tryz.underlying25 rfl rfl) ?_
  refine chg (b := _) rfl rfl (arg_op 40 2 rfl rfl rfl rfl) (fun hb40 => ob_call2 (by kernel_rfl) (c_ascN ?_) (ArgOK.val (ArgOK.when (arg_op 42 0 rfl rfl rfl rfl) hb40) (hvd0.up g52)) (arg_fn2 (by kernel_rfl) (fun _ _ => c_cmpNm))) ?_
  · omega
  refine chg (b := _) rfl rfl (arg_op 40 3 rfl rfl rfl rfl) (fun hb40 => ob_not (ArgOK.when (arg_op 43 0 rfl rfl rfl rfl) hb40)) ?_
  refine ch rfl (ob_or (arg_op 40 4 rfl rfl rfl rfl) (arg_op 44 0 rfl rfl rfl rfl)) ?_
  refine ch rfl (ob_move (arg_op 45 0 rfl rfl rfl rfl)) ?_
  refine chg (b := _) rfl rfl (arg_op 46 0 rfl rfl rfl rfl) (fun hb46 => ob_faP (n := 0) (arg_free 0 rfl rfl) Tryz.underlying28 rfl (by kernel_rfl)) ?_
  refine chg (b := _) rfl rfl (arg_op 46 1 rfl rfl rfl rfl) (fun hb46 => ob_loadP (ArgOK.when (arg_op 47 0 rfl rfl rfl rfl) hb46) Tryz.underlying26 rfl rfl) ?_
  refine chg (b := _) rfl rfl (arg_op 46 2 rfl rfl rfl rfl) (fun hb46 => ob_lss (ArgOK.when (arg_op 48 0 rfl rfl rfl rfl) hb46) arg_c) ?_
  refine ch rfl (ob_or (arg_op 46 3 rfl rfl rfl rfl) (arg_op 49 0 rfl rfl rfl rfl)) ?_
  refine ch rfl (ob_move (arg_op 50 0 rfl rfl rfl rfl)) ?_
  refine chg (b := _) rfl rfl (arg_op 51 0 rfl rfl rfl rfl) (fun hb51 => ob_faP (n := 0) (arg_free 0 rfl rfl) Tryz.underlying28 rfl (by kernel_rfl)) ?_
  refine chg (b := _) rfl rfl (arg_op 51 1 rfl rfl rfl rfl) (fun hb51 => ob_loadP (ArgOK.when (arg_op 52 0 rfl rfl rfl rfl) hb51) Tryz.underlying26 rfl rfl) ?_
  refine chg (b := _) rfl rfl (arg_op 51 2 rfl rfl rfl rfl) (fun hb51 => ob_gtr (ArgOK.when (arg_op 53 0 rfl rfl rfl rfl) hb51) arg_c) ?_
  refine ch rfl (ob_or (arg_op 51 3 rfl rfl rfl rfl) (arg_op 54 0 rfl rfl rfl rfl)) ?_
  refine ch_nil ?_
  intro a61 w62 hf63 hg64 hk65 hn66
  have h67 : Holds _ (a61.eval (.tmp 61)) w62 := hn66.at 55 0 rfl rfl rfl
  have g68 := g52.trans hg64
  have g69 := g58.trans hg64
  clear g52 g58 hf43 hk65 hn66
  refine then_ ?_
  refine wp_if h67 ?_ ?_
  · intro hc70
    have hv : valS s = false := congrArg Bool.not hc70
    refine wp_seq ?_
    refine wp_region_lit ?_
    refine wp_all [([], [])] [] w42.heap.size hf63 g69.size (by kernel_rfl) bund_nil ?_
    refine ch rfl (ob_assign arg_c) ?_
    refine ch_nil ?_
    intro a71 w72 hf73 hg74 hk75 hn76
    have h77 : Holds _ (a71.eval (.tmp 2)) w72 := hn76.at 0 0 rfl rfl rfl
    have g78 := g68.trans hg74
    have g79 := g69.trans hg74
    clear g68 g69 hf63 hk75 hn76 hg74
    refine then_ ?_
    refine wp_ret ?_
    refine thenR ?_
    exact ret_tmp rfl hf73 g78 (is_cast h77 (congrArg intV (by first | exact valS_no hv | exact valS_yes hv)))
  · intro hc70
    have hv : valS s = true := congrArg Bool.not hc70
    refine wp_skip ?_
    refine then_ ?_
    refine wp_seq ?_
    refine wp_region_lit ?_
    refine wp_all [([], [])] [] w42.heap.size hf63 g69.size (by kernel_rfl) bund_nil ?_
    refine ch rfl (ob_assign arg_c) ?_
    refine ch_nil ?_
    intro a80 w81 hf82 hg83 hk84 hn85
    have h86 : Holds _ (a80.eval (.tmp 2)) w81 := hn85.at 0 0 rfl rfl rfl
    have g87 := g68.trans hg83
    have g88 := g69.trans hg83
    clear g68 g69 hf63 hk84 hn85 hg83
    refine then_ ?_
    refine wp_ret ?_
    exact ret_tmp rfl hf82 g87 (is_cast h86 (congrArg intV (by first | exact valS_no hv | exact valS_yes hv)))
end Ex
end Go.Proofs.YtnmfiiejhoafnaaGreat
