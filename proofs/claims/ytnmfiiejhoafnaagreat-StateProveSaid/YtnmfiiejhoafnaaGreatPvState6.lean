/- States, copied: of the program and of the reference. -/
import Derived.Test.YtnmfiiejhoafnaaGreatPvState5
import Derived.Test.YtnmfiiejhoafnaaGreatPvCpy
set_option linter.unusedSimpArgs false
set_option linter.unusedVariables false
namespace Go.Proofs.YtnmfiiejhoafnaaGreat
namespace Ex
open Go Calm Go.RowKit
set_option maxRecDepth 100000 in
theorem c_cloneN {l : List UInt64} (hl : l.length ≤ 1000000) : Con1 77 (Sl elNm l) (fun lo => OwnS lo elNm l) := by
  intro lo v0 w0 hlo hv0
  refine enter Tryz.func77 rfl Tryz.ntmps77 (by simp) ?_
  intro a0 hf0 ha
  have h00 : Holds (Is v0) (a0.eval (.tmp 0)) w0 := arg_holds ha rfl rfl
  clear ha
  have g0 : Grow w0 w0 := Grow.refl _
  refine wp_seq ?_
  refine wp_region_lit ?_
  refine wp_all [([], [])] [0] w0.heap.size hf0 g0.size (by kernel_rfl) bund_nil ?_
  refine ch rfl (ob_assign (arg_cg (G := Any) (fun w => trivial))) ?_
  refine ch_nil ?_
  intro a1 w2 hf3 hg4 hk5 hn6
  have h7 := hk5.holds rfl h00
  have g8 := g0.trans hg4
  clear h00 g0 hf0 hk5 hn6
  refine then_ ?_
  refine wp_seq ?_
  refine wp_seq ?_
  refine wp_region_lit ?_
  refine wp_all [([0], []), ([], [0])] [0] w0.heap.size hf3 g8.size (by kernel_rfl) (bund_cons (is_any h7) bund_nil) ?_
  refine ch rfl (ob_move (arg_free 0 rfl rfl)) ?_
  refine ch rfl (ob_eqnil (arg_op 0 0 rfl rfl rfl rfl) (hv0.up g8) Tryz.underlying25) ?_
  refine ch_nil ?_
  intro a9 w10 hf11 hg12 hk13 hn14
  have h15 : Holds _ (a9.eval (.tmp 4)) w10 := hn14.at 1 0 rfl rfl rfl
  have h16 := hk13.holds rfl h7
  have g17 := g8.trans hg12
  clear h7 g8 hf3 hk13 hn14 hg12
  refine then_ ?_
  refine wp_if h15 ?_ ?_
  · intro hc18
    obtain rfl := nil_of hv0 hc18
    refine wp_seq ?_
    have g19 : Grow w10 w10 := Grow.refl _
    have hz20 : w0.heap.size ≤ w10.heap.size := g17.size
    refine wp_region_lit ?_
    refine wp_all [([], [])] [] w10.heap.size hf11 g19.size (by kernel_rfl) bund_nil ?_
    refine ch rfl (ob_assign (arg_cg (G := OwnS w10.heap.size elNm []) (fun w => own_nil))) ?_
    refine ch_nil ?_
    intro a21 w22 hf23 hg24 hk25 hn26
    have h27 : Holds (OwnS w10.heap.size _ _) (a21.eval (.tmp 2)) w22 := hn26.at 0 0 rfl rfl rfl
    have g28 := g17.trans hg24
    have g29 := g19.trans hg24
    clear g17 g19 hf11 hk25 hn26
    obtain ⟨V30, h31, hV32⟩ := nameV h27
    clear h27
    refine then_ ?_
    refine wp_ret ?_
    refine thenR ?_
    exact ret_tmp rfl hf23 g28 (OwnS.mono (unV h31 hV32) (by omega))
  · intro hc18
    refine wp_skip ?_
    refine then_ ?_
    refine wp_seq ?_
    have g33 : Grow w10 w10 := Grow.refl _
    have hz34 : w0.heap.size ≤ w10.heap.size := g17.size
    refine wp_region_lit ?_
    refine wp_all [([], []), ([0], []), ([], [0, 1]), ([], [2])] [] w10.heap.size hf11 g33.size (by kernel_rfl) (bund_cons (is_any h16) bund_nil) ?_
    refine ch rfl (ob_bs0_nm ) ?_
    refine ch rfl (ob_move (arg_free 0 rfl rfl)) ?_
    refine ch rfl (ob_append_fresh elNmP Tryz.underlying25 (arg_op 0 1 rfl rfl rfl rfl) (ArgOK.val (arg_op 1 0 rfl rfl rfl rfl) (hv0.up g17)) ?_) ?_
    · (refine ⟨?_, ?_⟩ <;> (simp only [List.length_nil, elNm, elDelta, elLock, elInt]; omega))
    refine ch rfl (ob_assign (arg_op 2 0 rfl rfl rfl rfl)) ?_
    refine ch_nil ?_
    intro a35 w36 hf37 hg38 hk39 hn40
    have h41 : Holds (OwnS w10.heap.size _ _) (a35.eval (.tmp 2)) w36 := hn40.at 3 0 rfl rfl rfl
    have g42 := g17.trans hg38
    have g43 := g33.trans hg38
    clear g17 g33 hf11 hk39 hn40
    obtain ⟨V44, h45, hV46⟩ := nameV h41
    clear h41
    refine then_ ?_
    refine wp_ret ?_
    exact ret_tmp rfl hf37 g42 (OwnS.mono (unV h45 hV46) (by omega))
set_option maxRecDepth 100000 in
theorem c_cloneD {l : List GDelta} (hl : l.length ≤ 1000000) : Con1 74 (Sl elDelta l) (fun lo => OwnS lo elDelta l) := by
  intro lo v0 w0 hlo hv0
  refine enter Tryz.func74 rfl Tryz.ntmps74 (by simp) ?_
  intro a0 hf0 ha
  have h00 : Holds (Is v0) (a0.eval (.tmp 0)) w0 := arg_holds ha rfl rfl
  clear ha
  have g0 : Grow w0 w0 := Grow.refl _
  refine wp_seq ?_
  refine wp_region_lit ?_
  refine wp_all [([], [])] [0] w0.heap.size hf0 g0.size (by kernel_rfl) bund_nil ?_
  refine ch rfl (ob_assign (arg_cg (G := Any) (fun w => trivial))) ?_
  refine ch_nil ?_
  intro a1 w2 hf3 hg4 hk5 hn6
  have h7 := hk5.holds rfl h00
  have g8 := g0.trans hg4
  clear h00 g0 hf0 hk5 hn6
  refine then_ ?_
  refine wp_seq ?_
  refine wp_seq ?_
  refine wp_region_lit ?_
  refine wp_all [([0], []), ([], [0])] [0] w0.heap.size hf3 g8.size (by kernel_rfl) (bund_cons (is_any h7) bund_nil) ?_
  refine ch rfl (ob_move (arg_free 0 rfl rfl)) ?_
  refine ch rfl (ob_eqnil (arg_op 0 0 rfl rfl rfl rfl) (hv0.up g8) Tryz.underlying22) ?_
  refine ch_nil ?_
  intro a9 w10 hf11 hg12 hk13 hn14
  have h15 : Holds _ (a9.eval (.tmp 4)) w10 := hn14.at 1 0 rfl rfl rfl
  have h16 := hk13.holds rfl h7
  have g17 := g8.trans hg12
  clear h7 g8 hf3 hk13 hn14 hg12
  refine then_ ?_
  refine wp_if h15 ?_ ?_
  · intro hc18
    obtain rfl := nil_of hv0 hc18
    refine wp_seq ?_
    have g19 : Grow w10 w10 := Grow.refl _
    have hz20 : w0.heap.size ≤ w10.heap.size := g17.size
    refine wp_region_lit ?_
    refine wp_all [([], [])] [] w10.heap.size hf11 g19.size (by kernel_rfl) bund_nil ?_
    refine ch rfl (ob_assign (arg_cg (G := OwnS w10.heap.size elDelta []) (fun w => own_nil))) ?_
    refine ch_nil ?_
    intro a21 w22 hf23 hg24 hk25 hn26
    have h27 : Holds (OwnS w10.heap.size _ _) (a21.eval (.tmp 2)) w22 := hn26.at 0 0 rfl rfl rfl
    have g28 := g17.trans hg24
    have g29 := g19.trans hg24
    clear g17 g19 hf11 hk25 hn26
    obtain ⟨V30, h31, hV32⟩ := nameV h27
    clear h27
    refine then_ ?_
    refine wp_ret ?_
    refine thenR ?_
    exact ret_tmp rfl hf23 g28 (OwnS.mono (unV h31 hV32) (by omega))
  · intro hc18
    refine wp_skip ?_
    refine then_ ?_
    refine wp_seq ?_
    have g33 : Grow w10 w10 := Grow.refl _
    have hz34 : w0.heap.size ≤ w10.heap.size := g17.size
    refine wp_region_lit ?_
    refine wp_all [([], []), ([0], []), ([], [0, 1]), ([], [2])] [] w10.heap.size hf11 g33.size (by kernel_rfl) (bund_cons (is_any h16) bund_nil) ?_
    refine ch rfl (ob_bs0_delta ) ?_
    refine ch rfl (ob_move (arg_free 0 rfl rfl)) ?_
    refine ch rfl (ob_append_fresh elDeltaP Tryz.underlying22 (arg_op 0 1 rfl rfl rfl rfl) (ArgOK.val (arg_op 1 0 rfl rfl rfl rfl) (hv0.up g17)) ?_) ?_
    · (refine ⟨?_, ?_⟩ <;> (simp only [List.length_nil, elNm, elDelta, elLock, elInt]; omega))
    refine ch rfl (ob_assign (arg_op 2 0 rfl rfl rfl rfl)) ?_
    refine ch_nil ?_
    intro a35 w36 hf37 hg38 hk39 hn40
    have h41 : Holds (OwnS w10.heap.size _ _) (a35.eval (.tmp 2)) w36 := hn40.at 3 0 rfl rfl rfl
    have g42 := g17.trans hg38
    have g43 := g33.trans hg38
    clear g17 g33 hf11 hk39 hn40
    obtain ⟨V44, h45, hV46⟩ := nameV h41
    clear h41
    refine then_ ?_
    refine wp_ret ?_
    exact ret_tmp rfl hf37 g42 (OwnS.mono (unV h45 hV46) (by omega))
set_option maxRecDepth 100000 in
theorem c_cloneK {l : List GLock} (hl : l.length ≤ 1000000) : Con1 76 (Sl elLock l) (fun lo => OwnS lo elLock l) := by
  intro lo v0 w0 hlo hv0
  refine enter Tryz.func76 rfl Tryz.ntmps76 (by simp) ?_
  intro a0 hf0 ha
  have h00 : Holds (Is v0) (a0.eval (.tmp 0)) w0 := arg_holds ha rfl rfl
  clear ha
  have g0 : Grow w0 w0 := Grow.refl _
  refine wp_seq ?_
  refine wp_region_lit ?_
  refine wp_all [([], [])] [0] w0.heap.size hf0 g0.size (by kernel_rfl) bund_nil ?_
  refine ch rfl (ob_assign (arg_cg (G := Any) (fun w => trivial))) ?_
  refine ch_nil ?_
  intro a1 w2 hf3 hg4 hk5 hn6
  have h7 := hk5.holds rfl h00
  have g8 := g0.trans hg4
  clear h00 g0 hf0 hk5 hn6
  refine then_ ?_
  refine wp_seq ?_
  refine wp_seq ?_
  refine wp_region_lit ?_
  refine wp_all [([0], []), ([], [0])] [0] w0.heap.size hf3 g8.size (by kernel_rfl) (bund_cons (is_any h7) bund_nil) ?_
  refine ch rfl (ob_move (arg_free 0 rfl rfl)) ?_
  refine ch rfl (ob_eqnil (arg_op 0 0 rfl rfl rfl rfl) (hv0.up g8) Tryz.underlying24) ?_
  refine ch_nil ?_
  intro a9 w10 hf11 hg12 hk13 hn14
  have h15 : Holds _ (a9.eval (.tmp 4)) w10 := hn14.at 1 0 rfl rfl rfl
  have h16 := hk13.holds rfl h7
  have g17 := g8.trans hg12
  clear h7 g8 hf3 hk13 hn14 hg12
  refine then_ ?_
  refine wp_if h15 ?_ ?_
  · intro hc18
    obtain rfl := nil_of hv0 hc18
    refine wp_seq ?_
    have g19 : Grow w10 w10 := Grow.refl _
    have hz20 : w0.heap.size ≤ w10.heap.size := g17.size
    refine wp_region_lit ?_
    refine wp_all [([], [])] [] w10.heap.size hf11 g19.size (by kernel_rfl) bund_nil ?_
    refine ch rfl (ob_assign (arg_cg (G := OwnS w10.heap.size elLock []) (fun w => own_nil))) ?_
    refine ch_nil ?_
    intro a21 w22 hf23 hg24 hk25 hn26
    have h27 : Holds (OwnS w10.heap.size _ _) (a21.eval (.tmp 2)) w22 := hn26.at 0 0 rfl rfl rfl
    have g28 := g17.trans hg24
    have g29 := g19.trans hg24
    clear g17 g19 hf11 hk25 hn26
    obtain ⟨V30, h31, hV32⟩ := nameV h27
    clear h27
    refine then_ ?_
    refine wp_ret ?_
    refine thenR ?_
    exact ret_tmp rfl hf23 g28 (OwnS.mono (unV h31 hV32) (by omega))
  · intro hc18
    refine wp_skip ?_
    refine then_ ?_
    refine wp_seq ?_
    have g33 : Grow w10 w10 := Grow.refl _
    have hz34 : w0.heap.size ≤ w10.heap.size := g17.size
    refine wp_region_lit ?_
    refine wp_all [([], []), ([0], []), ([], [0, 1]), ([], [2])] [] w10.heap.size hf11 g33.size (by kernel_rfl) (bund_cons (is_any h16) bund_nil) ?_
    refine ch rfl (ob_bs0_lock ) ?_
    refine ch rfl (ob_move (arg_free 0 rfl rfl)) ?_
    refine ch rfl (ob_append_fresh elLockP Tryz.underlying24 (arg_op 0 1 rfl rfl rfl rfl) (ArgOK.val (arg_op 1 0 rfl rfl rfl rfl) (hv0.up g17)) ?_) ?_
    · (refine ⟨?_, ?_⟩ <;> (simp only [List.length_nil, elNm, elDelta, elLock, elInt]; omega))
    refine ch rfl (ob_assign (arg_op 2 0 rfl rfl rfl rfl)) ?_
    refine ch_nil ?_
    intro a35 w36 hf37 hg38 hk39 hn40
    have h41 : Holds (OwnS w10.heap.size _ _) (a35.eval (.tmp 2)) w36 := hn40.at 3 0 rfl rfl rfl
    have g42 := g17.trans hg38
    have g43 := g33.trans hg38
    clear g17 g33 hf11 hk39 hn40
    obtain ⟨V44, h45, hV46⟩ := nameV h41
    clear h41
    refine then_ ?_
    refine wp_ret ?_
    exact ret_tmp rfl hf37 g42 (OwnS.mono (unV h45 hV46) (by omega))
set_option maxRecDepth 100000 in
theorem c_cloneI {l : List Int} (hl : l.length ≤ 1000000) : Con1 75 (Sl elInt l) (fun lo => OwnS lo elInt l) := by
  intro lo v0 w0 hlo hv0
  refine enter Tryz.func75 rfl Tryz.ntmps75 (by simp) ?_
  intro a0 hf0 ha
  have h00 : Holds (Is v0) (a0.eval (.tmp 0)) w0 := arg_holds ha rfl rfl
  clear ha
  have g0 : Grow w0 w0 := Grow.refl _
  refine wp_seq ?_
  refine wp_region_lit ?_
  refine wp_all [([], [])] [0] w0.heap.size hf0 g0.size (by kernel_rfl) bund_nil ?_
  refine ch rfl (ob_assign (arg_cg (G := Any) (fun w => trivial))) ?_
  refine ch_nil ?_
  intro a1 w2 hf3 hg4 hk5 hn6
  have h7 := hk5.holds rfl h00
  have g8 := g0.trans hg4
  clear h00 g0 hf0 hk5 hn6
  refine then_ ?_
  refine wp_seq ?_
  refine wp_seq ?_
  refine wp_region_lit ?_
  refine wp_all [([0], []), ([], [0])] [0] w0.heap.size hf3 g8.size (by kernel_rfl) (bund_cons (is_any h7) bund_nil) ?_
  refine ch rfl (ob_move (arg_free 0 rfl rfl)) ?_
  refine ch rfl (ob_eqnil (arg_op 0 0 rfl rfl rfl rfl) (hv0.up g8) Tryz.underlying23) ?_
  refine ch_nil ?_
  intro a9 w10 hf11 hg12 hk13 hn14
  have h15 : Holds _ (a9.eval (.tmp 4)) w10 := hn14.at 1 0 rfl rfl rfl
  have h16 := hk13.holds rfl h7
  have g17 := g8.trans hg12
  clear h7 g8 hf3 hk13 hn14 hg12
  refine then_ ?_
  refine wp_if h15 ?_ ?_
  · intro hc18
    obtain rfl := nil_of hv0 hc18
    refine wp_seq ?_
    have g19 : Grow w10 w10 := Grow.refl _
    have hz20 : w0.heap.size ≤ w10.heap.size := g17.size
    refine wp_region_lit ?_
    refine wp_all [([], [])] [] w10.heap.size hf11 g19.size (by kernel_rfl) bund_nil ?_
    refine ch rfl (ob_assign (arg_cg (G := OwnS w10.heap.size elInt []) (fun w => own_nil))) ?_
    refine ch_nil ?_
    intro a21 w22 hf23 hg24 hk25 hn26
    have h27 : Holds (OwnS w10.heap.size _ _) (a21.eval (.tmp 2)) w22 := hn26.at 0 0 rfl rfl rfl
    have g28 := g17.trans hg24
    have g29 := g19.trans hg24
    clear g17 g19 hf11 hk25 hn26
    obtain ⟨V30, h31, hV32⟩ := nameV h27
    clear h27
    refine then_ ?_
    refine wp_ret ?_
    refine thenR ?_
    exact ret_tmp rfl hf23 g28 (OwnS.mono (unV h31 hV32) (by omega))
  · intro hc18
    refine wp_skip ?_
    refine then_ ?_
    refine wp_seq ?_
    have g33 : Grow w10 w10 := Grow.refl _
    have hz34 : w0.heap.size ≤ w10.heap.size := g17.size
    refine wp_region_lit ?_
    refine wp_all [([], []), ([0], []), ([], [0, 1]), ([], [2])] [] w10.heap.size hf11 g33.size (by kernel_rfl) (bund_cons (is_any h16) bund_nil) ?_
    refine ch rfl (ob_bs0_int ) ?_
    refine ch rfl (ob_move (arg_free 0 rfl rfl)) ?_
    refine ch rfl (ob_append_fresh elIntP Tryz.underlying23 (arg_op 0 1 rfl rfl rfl rfl) (ArgOK.val (arg_op 1 0 rfl rfl rfl rfl) (hv0.up g17)) ?_) ?_
    · (refine ⟨?_, ?_⟩ <;> (simp only [List.length_nil, elNm, elDelta, elLock, elInt]; omega))
    refine ch rfl (ob_assign (arg_op 2 0 rfl rfl rfl rfl)) ?_
    refine ch_nil ?_
    intro a35 w36 hf37 hg38 hk39 hn40
    have h41 : Holds (OwnS w10.heap.size _ _) (a35.eval (.tmp 2)) w36 := hn40.at 3 0 rfl rfl rfl
    have g42 := g17.trans hg38
    have g43 := g33.trans hg38
    clear g17 g33 hf11 hk39 hn40
    obtain ⟨V44, h45, hV46⟩ := nameV h41
    clear h41
    refine then_ ?_
    refine wp_ret ?_
    exact ret_tmp rfl hf37 g42 (OwnS.mono (unV h45 hV46) (by omega))
set_option maxRecDepth 100000 in
theorem c_Clone {s : GState} (hs : stOK s) : Con1 33 (StF s) (fun lo => StO lo s) := by
  intro lo v0 w0 hlo hv0
  refine enter Tryz.func33 rfl Tryz.ntmps33 (by simp) ?_
  intro a0 hf0 ha
  obtain ⟨va0, vb0, vc0, vd0, he0, hva0, hvb0, hvc0, hvd0⟩ := openF hv0
  have h00 : Holds (Is _) (a0.eval (.tmp 0)) w0 := arg_holds ha rfl he0
  clear ha
  have g0 : Grow w0 w0 := Grow.refl _
  obtain ⟨hs1, hs2, hs3, hs4⟩ := id hs
  refine wp_seq ?_
  refine wp_region_lit ?_
  refine wp_seg (l1 := [_]) [([0], [])] [] w0.heap.size hf0 g0.size (by kernel_rfl) (bund_cons h00 bund_nil) ?_
  refine ch rfl (ob_box_state (arg_free 0 rfl rfl)) ?_
  refine ch_nil ?_
  intro a1 w2 hf3 hg4 hk5 hn6
  have h7 : Holds _ (a1.eval (.tmp 1)) w2 := hn6.at 0 0 rfl rfl rfl
  have g8 := g0.trans hg4
  obtain ⟨bk9, hl10, hv11, hb12⟩ := OwnB.blk (lo := w0.heap.size) h7
  clear g0 hf0 hk5 hn6
  have g13 : Grow w2 w2 := Grow.refl _
  have hl14 : bk9 < w2.heap.size := hb12.lt
  have hz15 : w0.heap.size ≤ w2.heap.size := g8.size
  refine wp_all [([], [])] [1] w2.heap.size hf3 g13.size (by kernel_rfl) bund_nil ?_
  refine ch rfl (ob_alloc_state) ?_
  refine ch_nil ?_
  intro a16 w17 hf18 hg19 hk20 hn21
  have h22 : Holds _ (a16.eval (.tmp 2)) w17 := hn21.at 0 0 rfl rfl rfl
  have hv23 : Holds (Is (PtrV bk9)) (a16.eval (.tmp 1)) w17 := is_any (hk20.holds rfl hv11)
  have hb24 := hb12.up hg19
  have g25 := g8.trans hg19
  have g26 := g13.trans hg19
  obtain ⟨bk27, hl28, hv29, hb30⟩ := OwnB.blk (lo := w2.heap.size) h22
  clear hv11 hb12 g8 g13 hf3 hk20 hn21
  refine then_ ?_
  refine wp_seq ?_
  have g31 : Grow w17 w17 := Grow.refl _
  have hl32 : bk9 < w17.heap.size := hb24.lt
  have hl33 : bk27 < w17.heap.size := hb30.lt
  have hz34 : w2.heap.size ≤ w17.heap.size := g26.size
  refine wp_calm_tail (l1 := [_, _, _, _, _, _, _, _, _, _, _, _, _, _, _]) [0, 1, 3, 0, 8, 31, 0, 64, 255, 0, 512, 2047, 0, 4096, 16383, 32767] [([1], []), ([], [0]), ([], [1]), ([1], []), ([], [3]), ([], [4]), ([1], []), ([], [6]), ([], [7]), ([1], []), ([], [9]), ([], [10]), ([1], []), ([], [12]), ([], [2, 5, 8, 11, 13])] [2] w17.heap.size hf18 g31.size (by kernel_rfl) (bund_cons (hb24.ownp hv23) bund_nil) ?_
  intro ws35 hs36
  refine ch rfl (ob_faP (n := 0) (arg_free 0 rfl rfl) Tryz.underlying28 rfl (by kernel_rfl)) ?_
  refine ch rfl (ob_loadP (arg_op 0 0 rfl rfl rfl rfl) Tryz.underlying22 rfl rfl) ?_
  refine ch rfl (ob_call1 (by kernel_rfl) (c_cloneD ?_) (ArgOK.val (arg_op 1 0 rfl rfl rfl rfl) ((hva0.up g25).up hs36))) ?_
  · omega
  refine ch rfl (ob_faP (n := 0) (arg_free 0 rfl rfl) Tryz.underlying28 rfl (by kernel_rfl)) ?_
  refine ch rfl (ob_loadP (arg_op 3 0 rfl rfl rfl rfl) Tryz.underlying23 rfl rfl) ?_
  refine ch rfl (ob_call1 (by kernel_rfl) (c_cloneI ?_) (ArgOK.val (arg_op 4 0 rfl rfl rfl rfl) ((hvb0.up g25).up hs36))) ?_
  · omega
  refine ch rfl (ob_faP (n := 0) (arg_free 0 rfl rfl) Tryz.underlying28 rfl (by kernel_rfl)) ?_
  refine ch rfl (ob_loadP (arg_op 6 0 rfl rfl rfl rfl) Tryz.underlying24 rfl rfl) ?_
  refine ch rfl (ob_call1 (by kernel_rfl) (c_cloneK ?_) (ArgOK.val (arg_op 7 0 rfl rfl rfl rfl) ((hvc0.up g25).up hs36))) ?_
  · omega
  refine ch rfl (ob_faP (n := 0) (arg_free 0 rfl rfl) Tryz.underlying28 rfl (by kernel_rfl)) ?_
  refine ch rfl (ob_loadP (arg_op 9 0 rfl rfl rfl rfl) Tryz.underlying25 rfl rfl) ?_
  refine ch rfl (ob_call1 (by kernel_rfl) (c_cloneN ?_) (ArgOK.val (arg_op 10 0 rfl rfl rfl rfl) ((hvd0.up g25).up hs36))) ?_
  · omega
  refine ch rfl (ob_faP (n := 0) (arg_free 0 rfl rfl) Tryz.underlying28 rfl (by kernel_rfl)) ?_
  refine ch rfl (ob_loadP (arg_op 12 0 rfl rfl rfl rfl) Tryz.underlying26 rfl rfl) ?_
  refine ch rfl (ob_build_state (arg_op 2 11 rfl rfl rfl rfl) (arg_op 5 8 rfl rfl rfl rfl) (arg_op 8 5 rfl rfl rfl rfl) (arg_op 11 2 rfl rfl rfl rfl) (arg_op 13 0 rfl rfl rfl rfl)) ?_
  refine ch_nil ?_
  intro a37 w38 hf39 hg40 hk41 hn42
  have h43 : Holds (StO w17.heap.size _) (a37.eval (.tmp 17)) w38 := hn42.at 14 0 rfl rfl rfl
  have hv44 : Holds (Is (PtrV bk27)) (a37.eval (.tmp 2)) w38 := is_any (hk41.holds rfl hv29)
  have hb45 := hb30.up hg40
  have g46 := g25.trans hg40
  have g47 := g26.trans hg40
  have g48 := g31.trans hg40
  clear hv29 hb30 g25 g26 g31 hf18 hk41 hn42
  obtain ⟨V49, V50, V51, V52, h53, hV54, hV55, hV56, hV57⟩ := openO h43
  refine wl_store_state hv44 hb45 rfl h53 (st_oneS (OwnS.sl hV54) (OwnS.sl hV55) (OwnS.sl hV56) (OwnS.sl hV57)) ?_
  intro w58 ho59 hb60
  have g61 : Grow w0 w58 := g46.only ho59 (by omega)
  have g62 : Grow w2 w58 := g47.only ho59 (by omega)
  have g63 : Siz w17 w58 := Siz.below g48.size ho59.below
  have hv64 : Holds (Is (PtrV bk27)) (a37.eval (.tmp 2)) w58 := is_any hv44
  have hV65 : Holds _ V49 w58 := OwnS.only hV54 ho59 (by omega)
  have hV66 : Holds _ V50 w58 := OwnS.only hV55 ho59 (by omega)
  have hV67 : Holds _ V51 w58 := OwnS.only hV56 ho59 (by omega)
  have hV68 : Holds _ V52 w58 := OwnS.only hV57 ho59 (by omega)
  refine wpList_nil ?_
  refine then_ ?_
  refine wp_ret ?_
  refine ret_cell rfl Tryz.underlying28 rfl (by kernel_rfl) hf39 g61 (hb60.ptr hv64) ?_
  exact mkO (OwnS.mono hV65 (by omega)) (OwnS.mono hV66 (by omega)) (OwnS.mono hV67 (by omega)) (OwnS.mono hV68 (by omega))
end Ex
end Go.Proofs.YtnmfiiejhoafnaaGreat
