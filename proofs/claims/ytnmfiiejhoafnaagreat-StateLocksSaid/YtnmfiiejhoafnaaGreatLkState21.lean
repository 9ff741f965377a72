/- Locks: found, put in, taken out: of the program and of the reference. -/
import Derived.Test.YtnmfiiejhoafnaaGreatLkState15
import Derived.Test.YtnmfiiejhoafnaaGreatLkTyp
set_option linter.unusedSimpArgs false
set_option linter.unusedVariables false
namespace Go.Proofs.YtnmfiiejhoafnaaGreat
namespace Ex
open Go Calm Go.RowKit
set_option maxRecDepth 100000 in
theorem c_findK1 {k : GLock} {n : UInt64} : Con2 79 (Is (lockV k)) (PtrC (nmCells n)) (fun _ => Is (.bool (decide (k.name = n)))) := by
  intro lo v0 v1 w0 hlo hv0 hv1
  refine enter Tryz.func79 rfl Tryz.ntmps79 (by simp) ?_
  intro a0 hf0 ha
  have h00 : Holds _ (a0.eval (.tmp 0)) w0 := arg_holds ha rfl hv0
  have h01 : Holds _ (a0.eval (.tmp 1)) w0 := arg_holds ha rfl hv1
  clear ha
  have g0 : Grow w0 w0 := Grow.refl _
  refine wp_seq ?_
  refine wp_region_lit ?_
  refine wp_all [([0], []), ([], [])] [1] w0.heap.size hf0 g0.size (by kernel_rfl) (bund_cons h00 bund_nil) ?_
  refine ch rfl (ob_box_lock (arg_free 0 rfl rfl)) ?_
  refine ch rfl (ob_assign arg_c) ?_
  refine ch_nil ?_
  intro a1 w2 hf3 hg4 hk5 hn6
  have h7 : Holds _ (a1.eval (.tmp 2)) w2 := hn6.at 0 1 rfl rfl rfl
  have h8 := hk5.holds rfl h01
  have g9 := g0.trans hg4
  obtain ⟨bk10, hl11, hv12, hb13⟩ := OwnB.blk (lo := w0.heap.size) h7
  clear h01 g0 hf0 hk5 hn6
  refine then_ ?_
  refine wp_seq ?_
  refine wp_region_lit ?_
  refine wp_all [([2], []), ([], [0]), ([1], []), ([], [1, 2]), ([], [3])] [] w0.heap.size hf3 g9.size (by kernel_rfl) (bund_cons (hb13.ownp hv12) (bund_cons (h8.up g9) bund_nil)) ?_
  refine ch rfl (ob_fa_lock0 (ArgOK.ownp (arg_free 0 rfl rfl))) ?_
  refine ch rfl (ob_load_nm (arg_op 0 0 rfl rfl rfl rfl)) ?_
  refine ch rfl (ob_load_nm (arg_free 1 rfl rfl)) ?_
  refine ch rfl (ob_eqnm (arg_op 1 1 rfl rfl rfl rfl) (arg_op 2 0 rfl rfl rfl rfl)) ?_
  refine ch rfl (ob_assign (arg_op 3 0 rfl rfl rfl rfl)) ?_
  refine ch_nil ?_
  intro a14 w15 hf16 hg17 hk18 hn19
  have h20 : Holds _ (a14.eval (.tmp 3)) w15 := hn19.at 4 0 rfl rfl rfl
  have g21 := g9.trans hg17
  clear g9 hf3 hk18 hn19 hg17
  refine then_ ?_
  refine wp_ret ?_
  exact ret_tmp rfl hf16 g21 h20
set_option maxRecDepth 100000 in
theorem c_findK {s : GState} {n : UInt64} (hs : stOK s) : Con2 34 (StF s) (Is (nmV n)) (fun _ => Is (intV (fndK s.locks n))) := by
  intro lo v0 v1 w0 hlo hv0 hv1
  refine enter Tryz.func34 rfl Tryz.ntmps34 (by simp) ?_
  intro a0 hf0 ha
  obtain ⟨va0, vb0, vc0, vd0, he0, hva0, hvb0, hvc0, hvd0⟩ := openF hv0
  have h00 : Holds (Is _) (a0.eval (.tmp 0)) w0 := arg_holds ha rfl he0
  have h01 : Holds _ (a0.eval (.tmp 1)) w0 := arg_holds ha rfl hv1
  clear ha
  have g0 : Grow w0 w0 := Grow.refl _
  obtain ⟨hs1, hs2, hs3, hs4⟩ := id hs
  refine wp_seq ?_
  refine wp_region_lit ?_
  refine wp_seg (l1 := [_]) [([0], [])] [1] w0.heap.size hf0 g0.size (by kernel_rfl) (bund_cons h00 bund_nil) ?_
  refine ch rfl (ob_box_state (arg_free 0 rfl rfl)) ?_
  refine ch_nil ?_
  intro a1 w2 hf3 hg4 hk5 hn6
  have h7 : Holds _ (a1.eval (.tmp 2)) w2 := hn6.at 0 0 rfl rfl rfl
  have h8 := hk5.holds rfl h01
  have g9 := g0.trans hg4
  obtain ⟨bk10, hl11, hv12, hb13⟩ := OwnB.blk (lo := w0.heap.size) h7
  clear h01 g0 hf0 hk5 hn6
  have g14 : Grow w2 w2 := Grow.refl _
  have hl15 : bk10 < w2.heap.size := hb13.lt
  have hz16 : w0.heap.size ≤ w2.heap.size := g9.size
  refine wp_all [([1], []), ([], [])] [2] w2.heap.size hf3 g14.size (by kernel_rfl) (bund_cons (is_any h8) bund_nil) ?_
  refine ch rfl (ob_box_nm (arg_free 0 rfl rfl)) ?_
  refine ch rfl (ob_assign arg_c) ?_
  refine ch_nil ?_
  intro a17 w18 hf19 hg20 hk21 hn22
  have h23 : Holds _ (a17.eval (.tmp 3)) w18 := hn22.at 0 1 rfl rfl rfl
  have hv24 : Holds (Is (PtrV bk10)) (a17.eval (.tmp 2)) w18 := is_any (hk21.holds rfl hv12)
  have hb25 := hb13.up hg20
  have g26 := g9.trans hg20
  have g27 := g14.trans hg20
  obtain ⟨bk28, hl29, hv30, hb31⟩ := OwnB.blk (lo := w2.heap.size) h23
  clear hv12 hb13 g9 g14 hf3 hk21 hn22
  refine then_ ?_
  refine wp_seq ?_
  have g32 : Grow w18 w18 := Grow.refl _
  have hl33 : bk10 < w18.heap.size := hb25.lt
  have hl34 : bk28 < w18.heap.size := hb31.lt
  have hz35 : w2.heap.size ≤ w18.heap.size := g27.size
  refine wp_region_lit ?_
  refine wp_all [([2], []), ([], [0]), ([3], []), ([], [1, 2]), ([], [3])] [] w18.heap.size hf19 g32.size (by kernel_rfl) (bund_cons (hb25.ownp hv24) (bund_cons (hb31.ownp hv30) bund_nil)) ?_
  refine ch rfl (ob_faP (n := 0) (arg_free 0 rfl rfl) Tryz.underlying28 rfl (by kernel_rfl)) ?_
  refine ch rfl (ob_loadP (arg_op 0 0 rfl rfl rfl rfl) Tryz.underlying24 rfl rfl) ?_
  refine ch rfl (ob_mf1 (V := lockV) (by kernel_rfl) (fun k => c_findK1 (k := k) (n := n)) (ArgOK.ownp (arg_free 1 rfl rfl))) ?_
  refine ch rfl (ob_call2 (by kernel_rfl) (c_ixfK ?_) (ArgOK.val (arg_op 1 1 rfl rfl rfl rfl) (hvc0.up g26)) (arg_op 2 0 rfl rfl rfl rfl)) ?_
  · omega
  refine ch rfl (ob_assign (arg_op 3 0 rfl rfl rfl rfl)) ?_
  refine ch_nil ?_
  intro a36 w37 hf38 hg39 hk40 hn41
  have h42 : Holds _ (a36.eval (.tmp 4)) w37 := hn41.at 4 0 rfl rfl rfl
  have g43 := g26.trans hg39
  have g44 := g27.trans hg39
  have g45 := g32.trans hg39
  clear g26 g27 g32 hf19 hk40 hn41
  refine then_ ?_
  refine wp_ret ?_
  exact ret_tmp rfl hf38 g43 h42
set_option maxRecDepth 100000 in
theorem c_bef1K {x y : GLock} {c : GLock → GLock → Int} : Con3 82 (Is (lockV y)) (PtrFn2 lockV c) (PtrC (lockCells x)) (fun _ => Is (.bool (decide (0 < c y x)))) := by
  intro lo v0 v1 v2 w0 hlo hv0 hv1 hv2
  refine enter Tryz.func82 rfl Tryz.ntmps82 (by simp) ?_
  intro a0 hf0 ha
  have h00 : Holds _ (a0.eval (.tmp 0)) w0 := arg_holds ha rfl hv0
  have h01 : Holds _ (a0.eval (.tmp 1)) w0 := arg_holds ha rfl hv1
  have h02 : Holds _ (a0.eval (.tmp 2)) w0 := arg_holds ha rfl hv2
  clear ha
  have g0 : Grow w0 w0 := Grow.refl _
  refine wp_seq ?_
  refine wp_region_lit ?_
  refine wp_all [([0], []), ([], [])] [1, 2] w0.heap.size hf0 g0.size (by kernel_rfl) (bund_cons h00 bund_nil) ?_
  refine ch rfl (ob_box_lock (arg_free 0 rfl rfl)) ?_
  refine ch rfl (ob_assign arg_c) ?_
  refine ch_nil ?_
  intro a1 w2 hf3 hg4 hk5 hn6
  have h7 : Holds _ (a1.eval (.tmp 3)) w2 := hn6.at 0 1 rfl rfl rfl
  have h8 := hk5.holds rfl h01
  have h9 := hk5.holds rfl h02
  have g10 := g0.trans hg4
  obtain ⟨bk11, hl12, hv13, hb14⟩ := OwnB.blk (lo := w0.heap.size) h7
  clear h01 h02 g0 hf0 hk5 hn6
  refine then_ ?_
  refine wp_seq ?_
  have g15 : Grow w2 w2 := Grow.refl _
  have hl16 : bk11 < w2.heap.size := hb14.lt
  have hz17 : w0.heap.size ≤ w2.heap.size := g10.size
  refine wp_region_lit ?_
  refine wp_all [([1], []), ([3], []), ([2], []), ([], [0, 1, 2]), ([], [3]), ([], [4])] [] w2.heap.size hf3 g15.size (by kernel_rfl) (bund_cons (h8.up g10) (bund_cons (hb14.ownp hv13) (bund_cons (h9.up g10) bund_nil))) ?_
  refine ch rfl (ob_load_fn2 (arg_free 0 rfl rfl) Tryz.underlying71 rfl) ?_
  refine ch rfl (ob_load_lock (ArgOK.ownp (arg_free 1 rfl rfl))) ?_
  refine ch rfl (ob_load_lock (arg_free 2 rfl rfl)) ?_
  refine ch rfl (ob_callv2 (arg_op 0 2 rfl rfl rfl rfl) (arg_op 1 1 rfl rfl rfl rfl) (arg_op 2 0 rfl rfl rfl rfl)) ?_
  refine ch rfl (ob_gtr (arg_op 3 0 rfl rfl rfl rfl) arg_c) ?_
  refine ch rfl (ob_assign (arg_op 4 0 rfl rfl rfl rfl)) ?_
  refine ch_nil ?_
  intro a18 w19 hf20 hg21 hk22 hn23
  have h24 : Holds _ (a18.eval (.tmp 4)) w19 := hn23.at 5 0 rfl rfl rfl
  have g25 := g10.trans hg21
  have g26 := g15.trans hg21
  clear g10 g15 hf3 hk22 hn23
  refine then_ ?_
  refine wp_ret ?_
  exact ret_tmp rfl hf20 g25 h24
set_option maxRecDepth 100000 in
theorem c_befK {l : List GLock} {x : GLock} {c : GLock → GLock → Int} (hl : l.length ≤ 1000000) : Con3 36 (Sl elLock l) (Is (lockV x)) (Fn2 lockV c) (fun _ => Is (intV (bef c l x))) := by
  intro lo v0 v1 v2 w0 hlo hv0 hv1 hv2
  refine enter Tryz.func36 rfl Tryz.ntmps36 (by simp) ?_
  intro a0 hf0 ha
  have h00 : Holds (Is v0) (a0.eval (.tmp 0)) w0 := arg_holds ha rfl rfl
  have h01 : Holds _ (a0.eval (.tmp 1)) w0 := arg_holds ha rfl hv1
  have h02 : Holds (Is v2) (a0.eval (.tmp 2)) w0 := arg_holds ha rfl rfl
  clear ha
  have g0 : Grow w0 w0 := Grow.refl _
  refine wp_seq ?_
  refine wp_region_lit ?_
  refine wp_seg (l1 := [_]) [([1], [])] [0, 2] w0.heap.size hf0 g0.size (by kernel_rfl) (bund_cons h01 bund_nil) ?_
  refine ch rfl (ob_box_lock (arg_free 0 rfl rfl)) ?_
  refine ch_nil ?_
  intro a1 w2 hf3 hg4 hk5 hn6
  have h7 : Holds _ (a1.eval (.tmp 4)) w2 := hn6.at 0 0 rfl rfl rfl
  have h8 := hk5.holds rfl h00
  have h9 := hk5.holds rfl h02
  have g10 := g0.trans hg4
  obtain ⟨bk11, hl12, hv13, hb14⟩ := OwnB.blk (lo := w0.heap.size) h7
  clear h00 h02 g0 hf0 hk5 hn6
  have g15 : Grow w2 w2 := Grow.refl _
  have hl16 : bk11 < w2.heap.size := hb14.lt
  have hz17 : w0.heap.size ≤ w2.heap.size := g10.size
  refine wp_all [([2], []), ([], [])] [0, 4] w2.heap.size hf3 g15.size (by kernel_rfl) (bund_cons (is_any h9) bund_nil) ?_
  refine ch rfl (ob_box_fn (arg_free 0 rfl rfl) (hv2.up g10)) ?_
  refine ch rfl (ob_assign arg_c) ?_
  refine ch_nil ?_
  intro a18 w19 hf20 hg21 hk22 hn23
  have h24 : Holds _ (a18.eval (.tmp 5)) w19 := hn23.at 0 1 rfl rfl rfl
  have h25 := hk22.holds rfl h8
  have hv26 : Holds (Is (PtrV bk11)) (a18.eval (.tmp 4)) w19 := is_any (hk22.holds rfl hv13)
  have hb27 := hb14.up hg21
  have g28 := g10.trans hg21
  have g29 := g15.trans hg21
  obtain ⟨bk30, hl31, hv32, hb33⟩ := OwnB.blk (lo := w2.heap.size) h24
  clear h8 hv13 hb14 g10 g15 hf3 hk22 hn23
  refine then_ ?_
  refine wp_seq ?_
  refine wp_seq ?_
  have g34 : Grow w19 w19 := Grow.refl _
  have hl35 : bk11 < w19.heap.size := hb27.lt
  have hl36 : bk30 < w19.heap.size := hb33.lt
  have hz37 : w2.heap.size ≤ w19.heap.size := g29.size
  refine wp_region_lit ?_
  refine wp_all [([0], []), ([5, 4], []), ([], [0, 1]), ([], [2])] [0] w19.heap.size hf20 g34.size (by kernel_rfl) (bund_cons (is_any h25) (bund_cons (hb33.ownp hv32) (bund_cons (hb27.ownp hv26) bund_nil))) ?_
  refine ch rfl (ob_move (arg_free 0 rfl rfl)) ?_
  refine ch rfl (ob_mf2 (V := lockV) (by kernel_rfl) (fun y => c_bef1K (x := x) (y := y) (c := c)) (ArgOK.ptrfn (arg_free 1 rfl rfl) (hv2.up g28)) (ArgOK.ownp (arg_free 2 rfl rfl))) ?_
  refine ch rfl (ob_call2 (by kernel_rfl) (c_ixfK ?_) (ArgOK.val (arg_op 0 1 rfl rfl rfl rfl) (hv0.up g28)) (arg_op 1 0 rfl rfl rfl rfl)) ?_
  · omega
  refine ch rfl (ob_assign (arg_op 2 0 rfl rfl rfl rfl)) ?_
  refine ch_nil ?_
  intro a38 w39 hf40 hg41 hk42 hn43
  have h44 : Holds _ (a38.eval (.tmp 7)) w39 := hn43.at 3 0 rfl rfl rfl
  have h45 := hk42.holds rfl h25
  have g46 := g28.trans hg41
  have g47 := g29.trans hg41
  have g48 := g34.trans hg41
  clear h25 g28 g29 g34 hf20 hk42 hn43
  refine then_ ?_
  refine wp_seq ?_
  refine wp_region_lit ?_
  refine wp_all [([7], []), ([], [0])] [0, 7] w19.heap.size hf40 g48.size (by kernel_rfl) (bund_cons h44 bund_nil) ?_
  refine ch rfl (ob_move (arg_free 0 rfl rfl)) ?_
  refine ch rfl (ob_geq (arg_op 0 0 rfl rfl rfl rfl) arg_c) ?_
  refine ch_nil ?_
  intro a49 w50 hf51 hg52 hk53 hn54
  have h55 : Holds _ (a49.eval (.tmp 12)) w50 := hn54.at 1 0 rfl rfl rfl
  have h56 := hk53.holds rfl (h44.up hg52)
  have h57 := hk53.holds rfl h45
  have g58 := g46.trans hg52
  have g59 := g47.trans hg52
  have g60 := g48.trans hg52
  clear h44 h45 g46 g47 g48 hf40 hk53 hn54 hg52
  refine then_ ?_
  refine wp_if h55 ?_ ?_
  · intro hc61
    try simp only [cond_norm] at hc61
    refine wp_seq ?_
    refine wp_region_lit ?_
    refine wp_all [([7], []), ([], [0])] [] w19.heap.size hf51 g60.size (by kernel_rfl) (bund_cons h56 bund_nil) ?_
    refine ch rfl (ob_move (arg_free 0 rfl rfl)) ?_
    refine ch rfl (ob_assign (arg_op 0 0 rfl rfl rfl rfl)) ?_
    refine ch_nil ?_
    intro a62 w63 hf64 hg65 hk66 hn67
    have h68 : Holds _ (a62.eval (.tmp 6)) w63 := hn67.at 1 0 rfl rfl rfl
    have g69 := g58.trans hg65
    have g70 := g59.trans hg65
    have g71 := g60.trans hg65
    clear g58 g59 g60 hf51 hk66 hn67 hg65
    refine then_ ?_
    refine wp_ret ?_
    refine thenR ?_
    exact ret_tmp rfl hf64 g69 (is_cast h68 (congrArg intV (by first | exact bef_yes (by assumption) | exact bef_no (by assumption))))
  · intro hc61
    try simp only [cond_norm] at hc61
    refine wp_skip ?_
    refine then_ ?_
    refine wp_seq ?_
    refine wp_region_lit ?_
    refine wp_all [([0], []), ([], [0]), ([], [1])] [] w19.heap.size hf51 g60.size (by kernel_rfl) (bund_cons (is_any h57) bund_nil) ?_
    refine ch rfl (ob_move (arg_free 0 rfl rfl)) ?_
    refine ch rfl (ob_len (ArgOK.val (arg_op 0 0 rfl rfl rfl rfl) (hv0.up g58)) Tryz.underlying24) ?_
    refine ch rfl (ob_assign (arg_op 1 0 rfl rfl rfl rfl)) ?_
    refine ch_nil ?_
    intro a72 w73 hf74 hg75 hk76 hn77
    have h78 : Holds _ (a72.eval (.tmp 6)) w73 := hn77.at 2 0 rfl rfl rfl
    have g79 := g58.trans hg75
    have g80 := g59.trans hg75
    have g81 := g60.trans hg75
    clear g58 g59 g60 hf51 hk76 hn77 hg75
    refine then_ ?_
    refine wp_ret ?_
    exact ret_tmp rfl hf74 g79 (is_cast h78 (congrArg intV (by first | exact bef_yes (by assumption) | exact bef_no (by assumption))))
set_option maxRecDepth 100000 in
theorem c_delK {l : List GLock} {z1 z2 : Int} (i : Nat) (h1 : z1 = (i : Int)) (h2 : z2 = ((i + 1 : Nat) : Int)) (hi : i < l.length) (hl : l.length ≤ 100000) : ConD 38 elLock l (intV z1) (intV z2) (l.take i ++ l.drop (i + 1)) := by
  intro wl v0 w0 gl hv0
  refine enter Tryz.func38 rfl Tryz.ntmps38 (by simp) ?_
  intro a0 hf0 ha
  have h00 : Holds (Is v0) (a0.eval (.tmp 0)) w0 := arg_holds ha rfl rfl
  have h01 : Holds (Is (intV z1)) (a0.eval (.tmp 1)) w0 := arg_holds ha rfl rfl
  have h02 : Holds (Is (intV z2)) (a0.eval (.tmp 2)) w0 := arg_holds ha rfl rfl
  clear ha
  have g0 : Grow w0 w0 := Grow.refl _
  have q0 : Siz w0 w0 := Nat.le_refl _
  have r0 : Wr wl.heap.size elLock.tid w0 w0 := Wr.refl _
  have gz : wl.heap.size ≤ w0.heap.size := gl
  refine wp_seq ?_
  refine wp_region_lit ?_
  refine wp_all [([], [])] [0, 1, 2] w0.heap.size hf0 g0.size (by kernel_rfl) bund_nil ?_
  refine ch rfl (ob_assign (arg_cg (G := Any) (fun w => trivial))) ?_
  refine ch_nil ?_
  intro a1 w2 hf3 hg4 hk5 hn6
  have h7 := hk5.holds rfl h00
  have h8 := hk5.holds rfl h01
  have h9 := hk5.holds rfl h02
  have g10 : Siz wl w2 := gl.trans hg4
  have g11 := g0.trans hg4
  have r12 : Wr _ _ w0 w2 := r0.grow hg4 (Nat.le_trans gz q0.size)
  have q13 : Siz w0 w2 := q0.trans hg4
  clear h00 h01 h02 gl g0 r0 q0 hf0 hk5 hn6
  refine then_ ?_
  refine wp_seq ?_
  refine wp_region_lit ?_
  refine wp_all [([0], []), ([1], []), ([2], []), ([0], []), ([], [3]), ([], [0, 1, 2, 4])] [0, 1, 2] w0.heap.size hf3 g11.size (by kernel_rfl) (bund_cons (is_any h7) (bund_cons (is_any h8) (bund_cons (is_any h9) bund_nil))) ?_
  refine ch rfl (ob_move (arg_free 0 rfl rfl)) ?_
  refine ch rfl (ob_move (arg_free 1 rfl rfl)) ?_
  refine ch rfl (ob_move (arg_free 2 rfl rfl)) ?_
  refine ch rfl (ob_move (arg_free 0 rfl rfl)) ?_
  refine ch rfl (ob_len (ArgOK.sl (ArgOK.val (arg_op 3 0 rfl rfl rfl rfl) (hv0.up g11))) Tryz.underlying24) ?_
  refine ch rfl (ob_slice3_any (ArgOK.sl (ArgOK.val (arg_op 0 4 rfl rfl rfl rfl) (hv0.up g11))) (arg_op 1 3 rfl rfl rfl rfl) (arg_op 2 2 rfl rfl rfl rfl) (arg_op 4 0 rfl rfl rfl rfl) ?_ Tryz.underlying24 szLock) ?_
  · omega
  refine ch_nil ?_
  intro a14 w15 hf16 hg17 hk18 hn19
  have h20 := hk18.holds rfl h7
  have h21 := hk18.holds rfl h8
  have h22 := hk18.holds rfl h9
  have g23 : Siz wl w15 := g10.trans hg17
  have g24 := g11.trans hg17
  have r25 : Wr _ _ w0 w15 := r12.grow hg17 (Nat.le_trans gz q13.size)
  have q26 : Siz w0 w15 := q13.trans hg17
  clear h7 h8 h9 g10 g11 r12 q13 hf3 hk18 hn19 hg17
  refine then_ ?_
  refine wp_seq ?_
  refine wp_seq ?_
  refine wp_region_lit ?_
  refine wp_all [([1], []), ([2], []), ([], [0, 1])] [0, 1, 2] w0.heap.size hf16 g24.size (by kernel_rfl) (bund_cons (is_any h21) (bund_cons (is_any h22) bund_nil)) ?_
  refine ch rfl (ob_move (arg_free 0 rfl rfl)) ?_
  refine ch rfl (ob_move (arg_free 1 rfl rfl)) ?_
  refine ch rfl (ob_eql (arg_op 0 1 rfl rfl rfl rfl) (arg_op 1 0 rfl rfl rfl rfl)) ?_
  refine ch_nil ?_
  intro a27 w28 hf29 hg30 hk31 hn32
  have h33 : Holds _ (a27.eval (.tmp 16)) w28 := hn32.at 2 0 rfl rfl rfl
  have h34 := hk31.holds rfl h20
  have h35 := hk31.holds rfl h21
  have h36 := hk31.holds rfl h22
  have g37 : Siz wl w28 := g23.trans hg30
  have g38 := g24.trans hg30
  have r39 : Wr _ _ w0 w28 := r25.grow hg30 (Nat.le_trans gz q26.size)
  have q40 : Siz w0 w28 := q26.trans hg30
  clear h20 h21 h22 g23 g24 r25 q26 hf16 hk31 hn32 hg30
  refine then_ ?_
  refine wp_if h33 ?_ ?_
  · intro hc41
    try simp only [cond_norm] at hc41
    exact absurd hc41 (by omega)
  · intro hc41
    try simp only [cond_norm] at hc41
    refine wp_skip ?_
    refine then_ ?_
    refine wp_seq ?_
    refine wp_region_lit ?_
    refine wp_all [([0], []), ([], [0]), ([], [1])] [0, 1, 2] w0.heap.size hf29 g38.size (by kernel_rfl) (bund_cons (is_any h34) bund_nil) ?_
    refine ch rfl (ob_move (arg_free 0 rfl rfl)) ?_
    refine ch rfl (ob_len (ArgOK.sl (ArgOK.val (arg_op 0 0 rfl rfl rfl rfl) (hv0.up g38))) Tryz.underlying24) ?_
    refine ch rfl (ob_assign (arg_op 1 0 rfl rfl rfl rfl)) ?_
    refine ch_nil ?_
    intro a42 w43 hf44 hg45 hk46 hn47
    have h48 : Holds _ (a42.eval (.tmp 7)) w43 := hn47.at 2 0 rfl rfl rfl
    have h49 := hk46.holds rfl h34
    have h50 := hk46.holds rfl h35
    have h51 := hk46.holds rfl h36
    have g52 : Siz wl w43 := g37.trans hg45
    have g53 := g38.trans hg45
    have r54 : Wr _ _ w0 w43 := r39.grow hg45 (Nat.le_trans gz q40.size)
    have q55 : Siz w0 w43 := q40.trans hg45
    clear h34 h35 h36 g37 g38 r39 q40 hf29 hk46 hn47 hg45
    refine then_ ?_
    refine wp_seq ?_
    have g56 : Grow w43 w43 := Grow.refl _
    have hz57 : w0.heap.size ≤ w43.heap.size := g53.size
    refine wp_calm_tail (l1 := [_, _, _, _, _, _]) [0, 0, 3, 0, 0, 24, 63, 127] [([0], []), ([1], []), ([], [0, 1]), ([0], []), ([2], []), ([], [3, 4])] [0, 7] w43.heap.size hf44 g56.size (by kernel_rfl) (bund_cons (is_any h49) (bund_cons (is_any h50) (bund_cons (is_any h51) bund_nil))) ?_
    intro ws58 hs59
    refine ch rfl (ob_move (arg_free 0 rfl rfl)) ?_
    refine ch rfl (ob_move (arg_free 1 rfl rfl)) ?_
    refine ch rfl (ob_slice_toC (arg_op 0 1 rfl rfl rfl rfl) ((hv0.up g53).up hs59) (arg_op 1 0 rfl rfl rfl rfl) (h1) ?_ ?_ Tryz.underlying24 szLock) ?_
    · omega
    · omega
    refine ch rfl (ob_move (arg_free 0 rfl rfl)) ?_
    refine ch rfl (ob_move (arg_free 2 rfl rfl)) ?_
    refine ch rfl (ob_slice_from (ArgOK.sl (ArgOK.val (arg_op 3 1 rfl rfl rfl rfl) ((hv0.up g53).up hs59))) (arg_op 4 0 rfl rfl rfl rfl) (h2) ?_ Tryz.underlying24 szLock) ?_
    · omega
    refine ch_nil ?_
    intro a60 w61 hf62 hg63 hk64 hn65
    have h66 : Holds _ (a60.eval (.tmp 22)) w61 := hn65.at 2 3 rfl rfl rfl
    have h67 : Holds _ (a60.eval (.tmp 25)) w61 := hn65.at 5 0 rfl rfl rfl
    have h68 := hk64.holds rfl h48
    have h69 := hk64.holds rfl h49
    have g70 : Siz wl w61 := g52.trans hg63
    have g71 := g53.trans hg63
    have g72 := g56.trans hg63
    have r73 : Wr _ _ w0 w61 := r54.grow hg63 (Nat.le_trans gz q55.size)
    have q74 : Siz w0 w61 := q55.trans hg63
    clear h48 h49 g52 g53 g56 r54 q55 hf44 hk64 hn65
    obtain ⟨V75, h76, hV77⟩ := nameV h66
    clear h66
    obtain ⟨V78, h79, hV80⟩ := nameV h67
    clear h67
    refine wl_appendC elLockP [0, 7] hf62 (by kernel_rfl) rfl Tryz.underlying24 (unV h76 hV77) (unV h79 hV80) ?_ g70.size ?_
    · (simp only [List.length_append, List.length_take, List.length_drop]; omega)
    intro a81 w82 hf83 hw84 hk85 h86
    have r87 : Wr _ _ w0 w82 := r73.trans hw84 (by omega)
    have q88 : Siz w0 w82 := Siz.below q74.size hw84.below
    have g89 : Siz wl w82 := Siz.below g70.size hw84.below
    have g90 : Siz w0 w82 := Siz.below g71.size hw84.below
    have g91 : Siz w43 w82 := Siz.below g72.size hw84.below
    have h92 : Holds _ (a81.eval (.tmp 7)) w82 := is_any (hk85.holds rfl h68)
    have h93 : Holds _ (a81.eval (.tmp 0)) w82 := is_any (hk85.holds rfl h69)
    obtain ⟨V94, h95, hV96⟩ := nameV h86
    clear h86
    refine wp_all [([26], [])] [7] w43.heap.size hf83 g91.size (by kernel_rfl) (bund_cons h95 bund_nil) ?_
    refine ch rfl (ob_assign (arg_free 0 rfl rfl)) ?_
    refine ch_nil ?_
    intro a97 w98 hf99 hg100 hk101 hn102
    have h103 : Holds _ (a97.eval (.tmp 0)) w98 := hn102.at 0 0 rfl rfl rfl
    have h104 := hk101.holds rfl (h92.up hg100)
    have g105 : Siz wl w98 := g89.trans hg100
    have g106 : Siz w0 w98 := g90.trans hg100
    have g107 : Siz w43 w98 := g91.trans hg100
    have r108 : Wr _ _ w0 w98 := r87.grow hg100 (Nat.le_trans gz q88.size)
    have q109 : Siz w0 w98 := q88.trans hg100
    have hV110 := hV96.up hg100
    clear h92 g89 g90 g91 r87 q88 hf83 hk101 hn102 hg100 hV96
    refine then_ ?_
    refine wp_seq ?_
    have g111 : Grow w98 w98 := Grow.refl _
    have hz112 : w43.heap.size ≤ w98.heap.size := g107.size
    refine wp_region_lit ?_
    refine wp_seg (l1 := [_, _, _, _, _]) [([0], []), ([0], []), ([], [1]), ([7], []), ([], [0, 2, 3])] [0] w98.heap.size hf99 g111.size (by kernel_rfl) (bund_cons h103 (bund_cons h104 bund_nil)) ?_
    refine ch rfl (ob_move (arg_free 0 rfl rfl)) ?_
    refine ch rfl (ob_move (arg_free 0 rfl rfl)) ?_
    refine ch rfl (ob_len (ArgOK.sl (ArgOK.ownc (ArgOK.val (arg_op 1 0 rfl rfl rfl rfl) hV110))) Tryz.underlying24) ?_
    refine ch rfl (ob_move (arg_free 1 rfl rfl)) ?_
    refine ch rfl (ob_slice_subC (arg_op 0 3 rfl rfl rfl rfl) hV110 (arg_op 2 1 rfl rfl rfl rfl) (arg_op 3 0 rfl rfl rfl rfl) (rfl) (rfl) ?_ ?_ Tryz.underlying24 szLock) ?_
    · (simp only [List.length_append, List.length_take, List.length_drop]; omega)
    · omega
    refine ch_nil ?_
    intro a113 w114 hf115 hg116 hk117 hn118
    have h119 : Holds _ (a113.eval (.tmp 31)) w114 := hn118.at 4 0 rfl rfl rfl
    have h120 := hk117.holds rfl h103
    have g121 : Siz wl w114 := g105.trans hg116
    have g122 : Siz w0 w114 := g106.trans hg116
    have g123 : Siz w43 w114 := g107.trans hg116
    have g124 := g111.trans hg116
    have r125 : Wr _ _ w0 w114 := r108.grow hg116 (Nat.le_trans gz q109.size)
    have q126 : Siz w0 w114 := q109.trans hg116
    clear h103 g105 g106 g107 g111 r108 q109 hf99 hk117 hn118
    refine wl_clear elLockP Tryz.underlying24 (hV110.up g124) (sub_any h119) ?_ ?_ ?_
    · exact Nat.le_refl _
    · (simp only [List.length_append, List.length_take, List.length_drop]; omega)
    intro w127 hw128 hV129
    have r130 : Wr _ _ w0 w127 := r125.trans hw128 (by omega)
    have q131 : Siz w0 w127 := Siz.below q126.size hw128.below
    have g132 : Siz wl w127 := Siz.below g121.size hw128.below
    have h133 : Holds _ (a113.eval (.tmp 0)) w127 := is_any h120
    have h134 : Holds _ (a113.eval (.tmp 0)) w127 := is_any h120
    refine wpList_nil ?_
    refine then_ ?_
    refine wp_seq ?_
    refine wp_region_lit ?_
    refine wp_all [([0], []), ([], [0])] [] wl.heap.size hf115 g132.size (by kernel_rfl) (bund_cons h134 bund_nil) ?_
    refine ch rfl (ob_move (arg_free 0 rfl rfl)) ?_
    refine ch rfl (ob_assign (arg_op 0 0 rfl rfl rfl rfl)) ?_
    refine ch_nil ?_
    intro a135 w136 hf137 hg138 hk139 hn140
    have h141 : Holds _ (a135.eval (.tmp 6)) w136 := hn140.at 1 0 rfl rfl rfl
    have g142 : Siz wl w136 := g132.trans hg138
    have r143 : Wr _ _ w0 w136 := r130.grow hg138 (Nat.le_trans gz q131.size)
    have q144 : Siz w0 w136 := q131.trans hg138
    have hV145 := hV129.up hg138
    clear g132 r130 q131 hf115 hk139 hn140 hg138 hV129
    refine then_ ?_
    refine wp_ret ?_
    exact ret_wr rfl hf137 r143 (OwnC.own (unV h141 hV145))
set_option maxRecDepth 100000 in
theorem c_insK {l : List GLock} {x : GLock} {z : Int} (i : Nat) (h1 : z = (i : Int)) (hi : i ≤ l.length) (hl : l.length ≤ 100000) : ConI 35 elLock l (intV z) [x] (l.take i ++ x :: l.drop i) := by
  intro wl wm v0 v2 w0 gm hv0 gg hv2
  have gl : Siz wl w0 := gm.trans gg
  have gy : wm.heap.size ≤ w0.heap.size := gg.size
  have gx : wl.heap.size ≤ wm.heap.size := gm
  refine enter Tryz.func35 rfl Tryz.ntmps35 (by simp) ?_
  intro a0 hf0 ha
  have h00 : Holds (Is v0) (a0.eval (.tmp 0)) w0 := arg_holds ha rfl rfl
  have h01 : Holds (Is (intV z)) (a0.eval (.tmp 1)) w0 := arg_holds ha rfl rfl
  have h02 : Holds (Is v2) (a0.eval (.tmp 2)) w0 := arg_holds ha rfl rfl
  clear ha
  have g0 : Grow w0 w0 := Grow.refl _
  have q0 : Siz w0 w0 := Nat.le_refl _
  have r0 : Wr wl.heap.size elLock.tid w0 w0 := Wr.refl _
  have gz : wl.heap.size ≤ w0.heap.size := gl
  refine wp_seq ?_
  refine wp_region_lit ?_
  refine wp_all [([], [])] [0, 1, 2] w0.heap.size hf0 g0.size (by kernel_rfl) bund_nil ?_
  refine ch rfl (ob_assign (arg_cg (G := Any) (fun w => trivial))) ?_
  refine ch_nil ?_
  intro a1 w2 hf3 hg4 hk5 hn6
  have h7 := hk5.holds rfl h00
  have h8 := hk5.holds rfl h01
  have h9 := hk5.holds rfl h02
  have g10 : Siz wl w2 := gl.trans hg4
  have g11 := gg.trans hg4
  have g12 := g0.trans hg4
  have r13 : Wr _ _ w0 w2 := r0.grow hg4 (Nat.le_trans gz q0.size)
  have q14 : Siz w0 w2 := q0.trans hg4
  clear h00 h01 h02 gl gg g0 r0 q0 hf0 hk5 hn6
  refine then_ ?_
  refine wp_seq ?_
  refine wp_region_lit ?_
  refine wp_all [([0], []), ([1], []), ([], [0, 1])] [0, 1, 2] w0.heap.size hf3 g12.size (by kernel_rfl) (bund_cons (is_any h7) (bund_cons (is_any h8) bund_nil)) ?_
  refine ch rfl (ob_move (arg_free 0 rfl rfl)) ?_
  refine ch rfl (ob_move (arg_free 1 rfl rfl)) ?_
  refine ch rfl (ob_slice_from (ArgOK.sl (ArgOK.val (arg_op 0 1 rfl rfl rfl rfl) (hv0.up g11))) (arg_op 1 0 rfl rfl rfl rfl) (h1) ?_ Tryz.underlying24 szLock) ?_
  · omega
  refine ch_nil ?_
  intro a15 w16 hf17 hg18 hk19 hn20
  have h21 := hk19.holds rfl h7
  have h22 := hk19.holds rfl h8
  have h23 := hk19.holds rfl h9
  have g24 : Siz wl w16 := g10.trans hg18
  have g25 := g11.trans hg18
  have g26 := g12.trans hg18
  have r27 : Wr _ _ w0 w16 := r13.grow hg18 (Nat.le_trans gz q14.size)
  have q28 : Siz w0 w16 := q14.trans hg18
  clear h7 h8 h9 g10 g11 g12 r13 q14 hf3 hk19 hn20 hg18
  refine then_ ?_
  refine wp_seq ?_
  refine wp_region_lit ?_
  refine wp_all [([2], []), ([], [0]), ([], [1])] [0, 1, 2] w0.heap.size hf17 g26.size (by kernel_rfl) (bund_cons (is_any h23) bund_nil) ?_
  refine ch rfl (ob_move (arg_free 0 rfl rfl)) ?_
  refine ch rfl (ob_len (ArgOK.sl (ArgOK.val (arg_op 0 0 rfl rfl rfl rfl) (hv2.up g26))) Tryz.underlying24) ?_
  refine ch rfl (ob_assign (arg_op 1 0 rfl rfl rfl rfl)) ?_
  refine ch_nil ?_
  intro a29 w30 hf31 hg32 hk33 hn34
  have h35 : Holds _ (a29.eval (.tmp 7)) w30 := hn34.at 2 0 rfl rfl rfl
  have h36 := hk33.holds rfl h21
  have h37 := hk33.holds rfl h22
  have h38 := hk33.holds rfl h23
  have g39 : Siz wl w30 := g24.trans hg32
  have g40 := g25.trans hg32
  have g41 := g26.trans hg32
  have r42 : Wr _ _ w0 w30 := r27.grow hg32 (Nat.le_trans gz q28.size)
  have q43 : Siz w0 w30 := q28.trans hg32
  clear h21 h22 h23 g24 g25 g26 r27 q28 hf17 hk33 hn34 hg32
  refine then_ ?_
  refine wp_seq ?_
  refine wp_seq ?_
  have h44 : Holds (Is (intV 1)) (a29.eval (.tmp 7)) w30 := is_cast h35 (rfl)
  refine wp_region_lit ?_
  refine wp_all [([7], []), ([], [0])] [0, 1, 2, 7] w0.heap.size hf31 g41.size (by kernel_rfl) (bund_cons h44 bund_nil) ?_
  refine ch rfl (ob_move (arg_free 0 rfl rfl)) ?_
  refine ch rfl (ob_eql (arg_op 0 0 rfl rfl rfl rfl) arg_c) ?_
  refine ch_nil ?_
  intro a45 w46 hf47 hg48 hk49 hn50
  have h51 : Holds _ (a45.eval (.tmp 16)) w46 := hn50.at 1 0 rfl rfl rfl
  have h52 := hk49.holds rfl (h44.up hg48)
  have h53 := hk49.holds rfl h36
  have h54 := hk49.holds rfl h37
  have h55 := hk49.holds rfl h38
  have g56 : Siz wl w46 := g39.trans hg48
  have g57 := g40.trans hg48
  have g58 := g41.trans hg48
  have r59 : Wr _ _ w0 w46 := r42.grow hg48 (Nat.le_trans gz q43.size)
  have q60 : Siz w0 w46 := q43.trans hg48
  clear h44 h36 h37 h38 g39 g40 g41 r42 q43 hf31 hk49 hn50 hg48
  refine then_ ?_
  refine wp_if h51 ?_ ?_
  · intro hc61
    try simp only [cond_norm] at hc61
    exact absurd hc61 (by omega)
  · intro hc61
    try simp only [cond_norm] at hc61
    refine wp_skip ?_
    refine then_ ?_
    refine wp_seq ?_
    refine wp_region_lit ?_
    refine wp_all [([0], []), ([], [0]), ([], [1])] [0, 1, 2, 7] w0.heap.size hf47 g58.size (by kernel_rfl) (bund_cons (is_any h53) bund_nil) ?_
    refine ch rfl (ob_move (arg_free 0 rfl rfl)) ?_
    refine ch rfl (ob_len (ArgOK.sl (ArgOK.val (arg_op 0 0 rfl rfl rfl rfl) (hv0.up g57))) Tryz.underlying24) ?_
    refine ch rfl (ob_assign (arg_op 1 0 rfl rfl rfl rfl)) ?_
    refine ch_nil ?_
    intro a62 w63 hf64 hg65 hk66 hn67
    have h68 : Holds _ (a62.eval (.tmp 8)) w63 := hn67.at 2 0 rfl rfl rfl
    have h69 := hk66.holds rfl (h52.up hg65)
    have h70 := hk66.holds rfl h53
    have h71 := hk66.holds rfl h54
    have h72 := hk66.holds rfl h55
    have g73 : Siz wl w63 := g56.trans hg65
    have g74 := g57.trans hg65
    have g75 := g58.trans hg65
    have r76 : Wr _ _ w0 w63 := r59.grow hg65 (Nat.le_trans gz q60.size)
    have q77 : Siz w0 w63 := q60.trans hg65
    clear h52 h53 h54 h55 g56 g57 g58 r59 q60 hf47 hk66 hn67 hg65
    refine then_ ?_
    refine wp_seq ?_
    refine wp_seq ?_
    refine wp_region_lit ?_
    refine wp_all [([1], []), ([8], []), ([], [0, 1])] [0, 1, 2, 7, 8] w0.heap.size hf64 g75.size (by kernel_rfl) (bund_cons (is_any h71) (bund_cons h68 bund_nil)) ?_
    refine ch rfl (ob_move (arg_free 0 rfl rfl)) ?_
    refine ch rfl (ob_move (arg_free 1 rfl rfl)) ?_
    refine ch rfl (ob_eql (arg_op 0 1 rfl rfl rfl rfl) (arg_op 1 0 rfl rfl rfl rfl)) ?_
    refine ch_nil ?_
    intro a78 w79 hf80 hg81 hk82 hn83
    have h84 : Holds _ (a78.eval (.tmp 22)) w79 := hn83.at 2 0 rfl rfl rfl
    have h85 := hk82.holds rfl (h68.up hg81)
    have h86 := hk82.holds rfl (h69.up hg81)
    have h87 := hk82.holds rfl h70
    have h88 := hk82.holds rfl h71
    have h89 := hk82.holds rfl h72
    have g90 : Siz wl w79 := g73.trans hg81
    have g91 := g74.trans hg81
    have g92 := g75.trans hg81
    have r93 : Wr _ _ w0 w79 := r76.grow hg81 (Nat.le_trans gz q77.size)
    have q94 : Siz w0 w79 := q77.trans hg81
    clear h68 h69 h70 h71 h72 g73 g74 g75 r76 q77 hf64 hk82 hn83 hg81
    refine then_ ?_
    refine wp_if h84 ?_ ?_
    · intro hc95
      try simp only [cond_norm] at hc95
      obtain rfl : i = l.length := by omega
      refine wp_seq ?_
      have g96 : Grow w79 w79 := Grow.refl _
      have hz97 : w0.heap.size ≤ w79.heap.size := g92.size
      refine wp_region_lit ?_
      refine wp_seg (l1 := [_, _]) [([0], []), ([2], [])] [] w79.heap.size hf80 g96.size (by kernel_rfl) (bund_cons (is_any h87) (bund_cons (is_any h89) bund_nil)) ?_
      refine ch rfl (ob_move (arg_free 0 rfl rfl)) ?_
      refine ch rfl (ob_move (arg_free 1 rfl rfl)) ?_
      refine ch_nil ?_
      intro a98 w99 hf100 hg101 hk102 hn103
      have h104 : Holds _ (a98.eval (.tmp 23)) w99 := hn103.at 0 1 rfl rfl rfl
      have h105 : Holds _ (a98.eval (.tmp 24)) w99 := hn103.at 1 0 rfl rfl rfl
      have g106 : Siz wl w99 := g90.trans hg101
      have g107 := g91.trans hg101
      have g108 := g92.trans hg101
      have g109 := g96.trans hg101
      have r110 : Wr _ _ w0 w99 := r93.grow hg101 (Nat.le_trans gz q94.size)
      have q111 : Siz w0 w99 := q94.trans hg101
      clear g90 g91 g92 g96 r93 q94 hf80 hk102 hn103
      refine wl_appendW elLockP [] hf100 (by kernel_rfl) rfl Tryz.underlying24 (unV h104 (hv0.up g107)) (OwnS.sl (unV h105 (hv2.up g108))) ?_ ?_ g106.size ?_
      · (simp only [List.length_append, List.length_take, List.length_drop, List.length_cons, List.length_nil, List.length_replicate, maxLen, elNm, elDelta, elLock]; omega)
      · (simp only [List.length_append, List.length_take, List.length_drop, List.length_cons, List.length_nil, List.length_replicate, maxLen, elNm, elDelta, elLock]; omega)
      intro a112 w113 hf114 hw115 hk116 h117
      have r118 : Wr _ _ w0 w113 := r110.trans hw115 (by omega)
      have q119 : Siz w0 w113 := Siz.below q111.size hw115.below
      have g120 : Siz wl w113 := Siz.below g106.size hw115.below
      have g121 : Siz wm w113 := Siz.below g107.size hw115.below
      obtain ⟨V122, h123, hV124⟩ := nameV h117
      clear h117
      refine wp_all [([25], [])] [] wm.heap.size hf114 g121.size (by kernel_rfl) (bund_cons h123 bund_nil) ?_
      refine ch rfl (ob_assign (arg_free 0 rfl rfl)) ?_
      refine ch_nil ?_
      intro a125 w126 hf127 hg128 hk129 hn130
      have h131 : Holds _ (a125.eval (.tmp 6)) w126 := hn130.at 0 0 rfl rfl rfl
      have g132 : Siz wl w126 := g120.trans hg128
      have g133 : Siz wm w126 := g121.trans hg128
      have r134 : Wr _ _ w0 w126 := r118.grow hg128 (Nat.le_trans gz q119.size)
      have q135 : Siz w0 w126 := q119.trans hg128
      have hV136 := hV124.up hg128
      clear g120 g121 r118 q119 hf114 hk129 hn130 hg128 hV124
      refine then_ ?_
      refine wp_ret ?_
      refine thenR ?_
      exact ret_wr rfl hf127 r134 (OwnS.mono (cast_own (by first | rfl | (rw [List.take_length, List.drop_length])) (unV h131 hV136)) (by omega))
    · intro hc95
      try simp only [cond_norm] at hc95
      have hi2 : i < l.length := by omega
      refine wp_skip ?_
      refine then_ ?_
      refine wp_seq ?_
      refine wp_seq ?_
      have g137 : Grow w79 w79 := Grow.refl _
      have hz138 : w0.heap.size ≤ w79.heap.size := g92.size
      refine wp_region_lit ?_
      refine wp_all [([8], []), ([7], []), ([], [0, 1]), ([0], []), ([], [3]), ([], [2, 4])] [0, 1, 2, 7, 8] w79.heap.size hf80 g137.size (by kernel_rfl) (bund_cons h85 (bund_cons h86 (bund_cons (is_any h87) bund_nil))) ?_
      refine ch rfl (ob_move (arg_free 0 rfl rfl)) ?_
      refine ch rfl (ob_move (arg_free 1 rfl rfl)) ?_
      first
        | (refine ch rfl (ob_add' (arg_op 0 1 rfl rfl rfl rfl) (arg_op 1 0 rfl rfl rfl rfl) ?_) ?_; · omega)
        | refine ch rfl (ob_add (arg_op 0 1 rfl rfl rfl rfl) (arg_op 1 0 rfl rfl rfl rfl)) ?_
      refine ch rfl (ob_move (arg_free 2 rfl rfl)) ?_
      refine ch rfl (ob_cap (arg_op 3 0 rfl rfl rfl rfl) (OwnS.sl (hv0.up g91)) Tryz.underlying24) ?_
      refine ch rfl (ob_gtr (arg_op 2 2 rfl rfl rfl rfl) (arg_op 4 0 rfl rfl rfl rfl)) ?_
      refine ch_nil ?_
      intro a139 w140 hf141 hg142 hk143 hn144
      have h145 : Holds _ (a139.eval (.tmp 31)) w140 := hn144.at 5 0 rfl rfl rfl
      have h146 := hk143.holds rfl h85
      have h147 := hk143.holds rfl h86
      have h148 := hk143.holds rfl h87
      have h149 := hk143.holds rfl h88
      have h150 := hk143.holds rfl h89
      have g151 : Siz wl w140 := g90.trans hg142
      have g152 := g91.trans hg142
      have g153 := g92.trans hg142
      have g154 := g137.trans hg142
      have r155 : Wr _ _ w0 w140 := r93.grow hg142 (Nat.le_trans gz q94.size)
      have q156 : Siz w0 w140 := q94.trans hg142
      clear h85 h86 h87 h88 h89 g90 g91 g92 g137 r93 q94 hf80 hk143 hn144
      refine then_ ?_
      refine wp_if h145 ?_ ?_
      · intro hc157
        try simp only [cond_norm] at hc157
        have hcap := hc157
        refine wp_seq ?_
        have g158 : Grow w140 w140 := Grow.refl _
        have hz159 : w79.heap.size ≤ w140.heap.size := g154.size
        refine wp_region_lit ?_
        refine wp_all [([0], []), ([1], []), ([], [0, 1]), ([8], []), ([7], []), ([], [3, 4]), ([1], []), ([], [5, 6]), ([], [2, 7]), ([], [8])] [0, 1, 2, 7] w140.heap.size hf141 g158.size (by kernel_rfl) (bund_cons (is_any h148) (bund_cons (is_any h149) (bund_cons (is_any h146) (bund_cons (is_any h147) bund_nil)))) ?_
        refine ch rfl (ob_move (arg_free 0 rfl rfl)) ?_
        refine ch rfl (ob_move (arg_free 1 rfl rfl)) ?_
        refine ch rfl (ob_slice_toK (arg_op 0 1 rfl rfl rfl rfl) (hv0.up g152) (arg_op 1 0 rfl rfl rfl rfl) (h1) ?_ ?_ Tryz.underlying24 szLock) ?_
        · omega
        · omega
        refine ch rfl (ob_move (arg_free 2 rfl rfl)) ?_
        refine ch rfl (ob_move (arg_free 3 rfl rfl)) ?_
        first
          | (refine ch rfl (ob_add' (arg_op 3 1 rfl rfl rfl rfl) (arg_op 4 0 rfl rfl rfl rfl) ?_) ?_; · omega)
          | refine ch rfl (ob_add (arg_op 3 1 rfl rfl rfl rfl) (arg_op 4 0 rfl rfl rfl rfl)) ?_
        refine ch rfl (ob_move (arg_free 1 rfl rfl)) ?_
        first
          | (refine ch rfl (ob_sub' (arg_op 5 1 rfl rfl rfl rfl) (arg_op 6 0 rfl rfl rfl rfl) ?_) ?_; · omega)
          | refine ch rfl (ob_sub (arg_op 5 1 rfl rfl rfl rfl) (arg_op 6 0 rfl rfl rfl rfl)) ?_
        refine ch rfl (ob_append_zeros elLockP (k := (l.length + 1 - i)) (arg_op 2 5 rfl rfl rfl rfl) (arg_op 7 0 rfl rfl rfl rfl) ?_ ?_ ?_ ?_ ?_ Tryz.underlying24 Tryz.underlying3) ?_
        · omega
        · omega
        · (simp only [List.length_append, List.length_take, List.length_drop, List.length_cons, List.length_nil, List.length_replicate, maxLen, elNm, elDelta, elLock]; omega)
        · (simp only [List.length_append, List.length_take, List.length_drop, List.length_cons, List.length_nil, List.length_replicate, maxLen, elNm, elDelta, elLock]; omega)
        · (simp only [List.length_append, List.length_take, List.length_drop, List.length_cons, List.length_nil, List.length_replicate, maxLen, elNm, elDelta, elLock]; omega)
        refine ch rfl (ob_assign (arg_op 8 0 rfl rfl rfl rfl)) ?_
        refine ch_nil ?_
        intro a160 w161 hf162 hg163 hk164 hn165
        have h166 : Holds (OwnS w140.heap.size _ _) (a160.eval (.tmp 9)) w161 := hn165.at 9 0 rfl rfl rfl
        have h167 := hk164.holds rfl h147
        have h168 := hk164.holds rfl h148
        have h169 := hk164.holds rfl h149
        have h170 := hk164.holds rfl h150
        have g171 : Siz wl w161 := g151.trans hg163
        have g172 := g152.trans hg163
        have g173 := g153.trans hg163
        have g174 := g154.trans hg163
        have g175 := g158.trans hg163
        have r176 : Wr _ _ w0 w161 := r155.grow hg163 (Nat.le_trans gz q156.size)
        have q177 : Siz w0 w161 := q156.trans hg163
        clear h147 h148 h149 h150 g151 g152 g153 g154 g158 r155 q156 hf141 hk164 hn165
        obtain ⟨V178, h179, hV180⟩ := nameV h166
        clear h166
        refine then_ ?_
        refine wp_seq ?_
        have g181 : Grow w161 w161 := Grow.refl _
        have hz182 : w140.heap.size ≤ w161.heap.size := g175.size
        refine wp_region_lit ?_
        refine wp_seg (l1 := [_, _, _, _]) [([9], []), ([1], []), ([], [0, 1]), ([2], [])] [0, 1, 7, 9] w161.heap.size hf162 g181.size (by kernel_rfl) (bund_cons h179 (bund_cons (is_any h169) (bund_cons (is_any h170) bund_nil))) ?_
        refine ch rfl (ob_move (arg_free 0 rfl rfl)) ?_
        refine ch rfl (ob_move (arg_free 1 rfl rfl)) ?_
        refine ch rfl (ob_slice_sub (T := elLock) (arg_op 0 1 rfl rfl rfl rfl) (own_shp hV180 (by (simp only [List.length_append, List.length_take, List.length_drop, List.length_cons, List.length_nil, List.length_replicate, maxLen, elNm, elDelta, elLock]; omega))) (arg_op 1 0 rfl rfl rfl rfl) (h1) ?_ Tryz.underlying24 szLock) ?_
        · (simp only [List.length_append, List.length_take, List.length_drop, List.length_cons, List.length_nil, List.length_replicate, maxLen, elNm, elDelta, elLock]; omega)
        refine ch rfl (ob_move (arg_free 2 rfl rfl)) ?_
        refine ch_nil ?_
        intro a183 w184 hf185 hg186 hk187 hn188
        have h189 : Holds _ (a183.eval (.tmp 43)) w184 := hn188.at 2 1 rfl rfl rfl
        have h190 : Holds _ (a183.eval (.tmp 44)) w184 := hn188.at 3 0 rfl rfl rfl
        have h191 := hk187.holds rfl h179
        have h192 := hk187.holds rfl h167
        have h193 := hk187.holds rfl h168
        have h194 := hk187.holds rfl h169
        have g195 : Siz wl w184 := g171.trans hg186
        have g196 := g172.trans hg186
        have g197 := g173.trans hg186
        have g198 := g174.trans hg186
        have g199 := g175.trans hg186
        have g200 := g181.trans hg186
        have r201 : Wr _ _ w0 w184 := r176.grow hg186 (Nat.le_trans gz q177.size)
        have q202 : Siz w0 w184 := q177.trans hg186
        clear h179 h167 h168 h169 g171 g172 g173 g174 g175 g181 r176 q177 hf162 hk187 hn188
        refine wl_copyO (T := elLock) [0, 1, 7, 9] hf185 (by kernel_rfl) rfl Tryz.underlying24 szLock (hV180.up g200) (sub_any h189) (OwnS.sl (unV h190 (hv2.up g197))) ?_ g199.size ?_
        · (simp only [List.length_append, List.length_take, List.length_drop, List.length_cons, List.length_nil, List.length_replicate, maxLen, elNm, elDelta, elLock]; omega)
        intro a203 w204 hf205 hw206 hk207 hV208 h209
        have r210 : Wr _ _ w0 w204 := r201.trans hw206 (by omega)
        have q211 : Siz w0 w204 := Siz.below q202.size hw206.below
        have g212 : Siz wl w204 := Siz.below g195.size hw206.below
        have g213 : Grow wm w204 := g196.wr hw206 (by omega)
        have g214 : Grow w0 w204 := g197.wr hw206 (by omega)
        have g215 : Grow w79 w204 := g198.wr hw206 (by omega)
        have g216 : Grow w140 w204 := g199.wr hw206 (by omega)
        have h217 : Holds _ (a203.eval (.tmp 9)) w204 := is_any (hk207.holds rfl h191)
        have h218 : Holds _ (a203.eval (.tmp 7)) w204 := is_any (hk207.holds rfl h192)
        have h219 : Holds _ (a203.eval (.tmp 0)) w204 := is_any (hk207.holds rfl h193)
        have h220 : Holds _ (a203.eval (.tmp 1)) w204 := is_any (hk207.holds rfl h194)
        have hV221 : Holds (OwnS _ elLock (l.take i ++ x :: List.replicate ((l.length + 1 - i) - 1) ⟨0, 0, 0, 0, 0⟩)) V178 w204 := cast_own ((put1 _ _ _ _ (by (simp only [List.length_append, List.length_take, List.length_drop, List.length_cons, List.length_nil, List.length_replicate, maxLen, elNm, elDelta, elLock]; omega))).trans (ins_grow1 (by omega))) hV208
        have h222 : Holds _ (a203.eval (.tmp 9)) w204 := is_any (hk207.holds rfl h191)
        refine wpList_nil ?_
        refine then_ ?_
        refine wp_seq ?_
        have g223 : Grow w204 w204 := Grow.refl _
        have hz224 : w140.heap.size ≤ w204.heap.size := g216.size
        refine wp_calm_tail (l1 := [_, _, _, _, _, _, _, _]) [0, 0, 0, 6, 15, 0, 0, 96, 255] [([9], []), ([1], []), ([7], []), ([], [1, 2]), ([], [0, 3]), ([0], []), ([1], []), ([], [5, 6])] [9] w204.heap.size hf205 g223.size (by kernel_rfl) (bund_cons h222 (bund_cons h220 (bund_cons h218 (bund_cons h219 bund_nil)))) ?_
        intro ws225 hs226
        refine ch rfl (ob_move (arg_free 0 rfl rfl)) ?_
        refine ch rfl (ob_move (arg_free 1 rfl rfl)) ?_
        refine ch rfl (ob_move (arg_free 2 rfl rfl)) ?_
        first
          | (refine ch rfl (ob_add' (arg_op 1 1 rfl rfl rfl rfl) (arg_op 2 0 rfl rfl rfl rfl) ?_) ?_; · omega)
          | refine ch rfl (ob_add (arg_op 1 1 rfl rfl rfl rfl) (arg_op 2 0 rfl rfl rfl rfl)) ?_
        refine ch rfl (ob_slice_sub (T := elLock) (arg_op 0 3 rfl rfl rfl rfl) (own_shp (hV221.up hs226) (by (simp only [List.length_append, List.length_take, List.length_drop, List.length_cons, List.length_nil, List.length_replicate, maxLen, elNm, elDelta, elLock]; omega))) (arg_op 3 0 rfl rfl rfl rfl) ((show _ = ((i + 1 : Nat) : Int) by omega)) ?_ Tryz.underlying24 szLock) ?_
        · (simp only [List.length_append, List.length_take, List.length_drop, List.length_cons, List.length_nil, List.length_replicate, maxLen, elNm, elDelta, elLock]; omega)
        refine ch rfl (ob_move (arg_free 3 rfl rfl)) ?_
        refine ch rfl (ob_move (arg_free 1 rfl rfl)) ?_
        refine ch rfl (ob_slice_from (ArgOK.sl (ArgOK.val (arg_op 5 1 rfl rfl rfl rfl) ((hv0.up g213).up hs226))) (arg_op 6 0 rfl rfl rfl rfl) (h1) ?_ Tryz.underlying24 szLock) ?_
        · omega
        refine ch_nil ?_
        intro a227 w228 hf229 hg230 hk231 hn232
        have h233 : Holds _ (a227.eval (.tmp 50)) w228 := hn232.at 4 3 rfl rfl rfl
        have h234 : Holds _ (a227.eval (.tmp 53)) w228 := hn232.at 7 0 rfl rfl rfl
        have h235 := hk231.holds rfl h222
        have g236 : Siz wl w228 := g212.trans hg230
        have g237 := g213.trans hg230
        have g238 := g214.trans hg230
        have g239 := g215.trans hg230
        have g240 := g216.trans hg230
        have g241 := g223.trans hg230
        have r242 : Wr _ _ w0 w228 := r210.grow hg230 (Nat.le_trans gz q211.size)
        have q243 : Siz w0 w228 := q211.trans hg230
        clear h222 g212 g213 g214 g215 g216 g223 r210 q211 hf205 hk231 hn232
        obtain ⟨V244, h245, hV246⟩ := nameV h234
        clear h234
        refine wl_copyO (T := elLock) [9] hf229 (by kernel_rfl) rfl Tryz.underlying24 szLock (hV221.up g241) (sub_any h233) (unV h245 hV246) ?_ g240.size ?_
        · (simp only [List.length_append, List.length_take, List.length_drop, List.length_cons, List.length_nil, List.length_replicate, maxLen, elNm, elDelta, elLock]; omega)
        intro a247 w248 hf249 hw250 hk251 hV252 h253
        have r254 : Wr _ _ w0 w248 := r242.trans hw250 (by omega)
        have q255 : Siz w0 w248 := Siz.below q243.size hw250.below
        have g256 : Siz wl w248 := Siz.below g236.size hw250.below
        have g257 : Grow wm w248 := g237.wr hw250 (by omega)
        have g258 : Grow w0 w248 := g238.wr hw250 (by omega)
        have g259 : Grow w79 w248 := g239.wr hw250 (by omega)
        have g260 : Grow w140 w248 := g240.wr hw250 (by omega)
        have g261 : Siz w204 w248 := Siz.below g241.size hw250.below
        have h262 : Holds _ (a247.eval (.tmp 9)) w248 := is_any (hk251.holds rfl h235)
        have hV263 : Holds (OwnS _ elLock (l.take i ++ x :: l.drop i)) V178 w248 := cast_own (ins_grow2 (by omega) (by omega) (by (simp only [List.length_append, List.length_take, List.length_drop, List.length_cons, List.length_nil, List.length_replicate, maxLen, elNm, elDelta, elLock]; omega))) hV252
        have h264 : Holds _ (a247.eval (.tmp 9)) w248 := is_any (hk251.holds rfl h235)
        refine wpList_nil ?_
        refine then_ ?_
        refine wp_seq ?_
        refine wp_region_lit ?_
        refine wp_all [([9], []), ([], [0])] [] w204.heap.size hf249 g261.size (by kernel_rfl) (bund_cons h264 bund_nil) ?_
        refine ch rfl (ob_move (arg_free 0 rfl rfl)) ?_
        refine ch rfl (ob_assign (arg_op 0 0 rfl rfl rfl rfl)) ?_
        refine ch_nil ?_
        intro a265 w266 hf267 hg268 hk269 hn270
        have h271 : Holds _ (a265.eval (.tmp 6)) w266 := hn270.at 1 0 rfl rfl rfl
        have g272 : Siz wl w266 := g256.trans hg268
        have g273 := g257.trans hg268
        have g274 := g258.trans hg268
        have g275 := g259.trans hg268
        have g276 := g260.trans hg268
        have g277 : Siz w204 w266 := g261.trans hg268
        have r278 : Wr _ _ w0 w266 := r254.grow hg268 (Nat.le_trans gz q255.size)
        have q279 : Siz w0 w266 := q255.trans hg268
        have hV280 := hV263.up hg268
        clear g256 g257 g258 g259 g260 g261 r254 q255 hf249 hk269 hn270 hg268 hV263
        refine then_ ?_
        refine wp_ret ?_
        refine thenR ?_
        exact ret_wr rfl hf267 r278 (OwnS.mono (cast_own (by first | rfl | (rw [List.take_length, List.drop_length])) (unV h271 hV280)) (by omega))
      · intro hc157
        try simp only [cond_norm] at hc157
        have hcap := hc157
        refine wp_skip ?_
        refine then_ ?_
        refine wp_seq ?_
        refine wp_region_lit ?_
        refine wp_all [([0], []), ([8], []), ([7], []), ([], [1, 2]), ([], [0, 3]), ([], [4])] [1, 2, 7, 8] w79.heap.size hf141 g154.size (by kernel_rfl) (bund_cons (is_any h148) (bund_cons (is_any h146) (bund_cons (is_any h147) bund_nil))) ?_
        refine ch rfl (ob_move (arg_free 0 rfl rfl)) ?_
        refine ch rfl (ob_move (arg_free 1 rfl rfl)) ?_
        refine ch rfl (ob_move (arg_free 2 rfl rfl)) ?_
        first
          | (refine ch rfl (ob_add' (arg_op 1 1 rfl rfl rfl rfl) (arg_op 2 0 rfl rfl rfl rfl) ?_) ?_; · omega)
          | refine ch rfl (ob_add (arg_op 1 1 rfl rfl rfl rfl) (arg_op 2 0 rfl rfl rfl rfl)) ?_
        refine ch rfl (ob_slice_ext (k := 1) (arg_op 0 3 rfl rfl rfl rfl) (hv0.up g152) (arg_op 3 0 rfl rfl rfl rfl) ((show _ = ((l.length + 1 : Nat) : Int) by omega)) ?_ ?_ Tryz.underlying24 szLock) ?_
        · omega
        · omega
        refine ch rfl (ob_assign (arg_op 4 0 rfl rfl rfl rfl)) ?_
        refine ch_nil ?_
        intro a281 w282 hf283 hg284 hk285 hn286
        have h287 : Holds _ (a281.eval (.tmp 0)) w282 := hn286.at 5 0 rfl rfl rfl
        have h288 := hk285.holds rfl h146
        have h289 := hk285.holds rfl h147
        have h290 := hk285.holds rfl h149
        have h291 := hk285.holds rfl h150
        have g292 : Siz wl w282 := g151.trans hg284
        have g293 := g152.trans hg284
        have g294 := g153.trans hg284
        have g295 := g154.trans hg284
        have r296 : Wr _ _ w0 w282 := r155.grow hg284 (Nat.le_trans gz q156.size)
        have q297 : Siz w0 w282 := q156.trans hg284
        clear h146 h147 h149 h150 g151 g152 g153 g154 r155 q156 hf141 hk285 hn286 hg284
        obtain ⟨V298, h299, hV300⟩ := nameV h287
        clear h287
        refine then_ ?_
        refine wp_seq ?_
        refine wp_seq ?_
        have g301 : Grow w282 w282 := Grow.refl _
        have hz302 : w79.heap.size ≤ w282.heap.size := g295.size
        refine wp_region_lit ?_
        refine wp_all [([2], []), ([0], []), ([1], []), ([7], []), ([], [2, 3]), ([], [1, 4]), ([], [0, 5]), ([], [6])] [0, 1, 2, 7, 8] w282.heap.size hf283 g301.size (by kernel_rfl) (bund_cons (is_any h291) (bund_cons h299 (bund_cons (is_any h290) (bund_cons (is_any h289) bund_nil)))) ?_
        refine ch rfl (ob_move (arg_free 0 rfl rfl)) ?_
        refine ch rfl (ob_move (arg_free 1 rfl rfl)) ?_
        refine ch rfl (ob_move (arg_free 2 rfl rfl)) ?_
        refine ch rfl (ob_move (arg_free 3 rfl rfl)) ?_
        first
          | (refine ch rfl (ob_add' (arg_op 2 1 rfl rfl rfl rfl) (arg_op 3 0 rfl rfl rfl rfl) ?_) ?_; · omega)
          | refine ch rfl (ob_add (arg_op 2 1 rfl rfl rfl rfl) (arg_op 3 0 rfl rfl rfl rfl)) ?_
        refine ch rfl (ob_slice_sub (T := elLock) (arg_op 1 3 rfl rfl rfl rfl) (OwnJ.shp hV300) (arg_op 4 0 rfl rfl rfl rfl) ((show _ = ((i + 1 : Nat) : Int) by omega)) ?_ Tryz.underlying24 szLock) ?_
        · omega
        refine ch rfl (ob_overlaps (T := elLock) (tR := 4) Tryz.func80 (by kernel_rfl) (by kernel_rfl) (by kernel_rfl) (by kernel_rfl) Tryz.underlying24 szLock (arg_op 0 5 rfl rfl rfl rfl) (hv2.up g294) (by simp) (arg_op 5 0 rfl rfl rfl rfl) hV300 ?_ ?_ (far_of hv0 (OwnJ.blk hV300))) ?_
        · omega
        · omega
        refine ch rfl (ob_not (arg_op 6 0 rfl rfl rfl rfl)) ?_
        refine ch_nil ?_
        intro a303 w304 hf305 hg306 hk307 hn308
        have h309 : Holds _ (a303.eval (.tmp 68)) w304 := hn308.at 7 0 rfl rfl rfl
        have h310 := hk307.holds rfl h299
        have h311 := hk307.holds rfl h288
        have h312 := hk307.holds rfl h289
        have h313 := hk307.holds rfl h290
        have h314 := hk307.holds rfl h291
        have g315 : Siz wl w304 := g292.trans hg306
        have g316 := g293.trans hg306
        have g317 := g294.trans hg306
        have g318 := g295.trans hg306
        have g319 := g301.trans hg306
        have r320 : Wr _ _ w0 w304 := r296.grow hg306 (Nat.le_trans gz q297.size)
        have q321 : Siz w0 w304 := q297.trans hg306
        clear h299 h288 h289 h290 h291 g292 g293 g294 g295 g301 r296 q297 hf283 hk307 hn308
        refine then_ ?_
        refine wp_if h309 ?_ ?_
        · intro hc322
          try simp only [cond_norm] at hc322
          refine wp_seq ?_
          have g323 : Grow w304 w304 := Grow.refl _
          have hz324 : w282.heap.size ≤ w304.heap.size := g319.size
          refine wp_calm_tail (l1 := [_, _, _, _, _, _, _, _]) [0, 0, 0, 6, 15, 0, 0, 96, 255] [([0], []), ([1], []), ([7], []), ([], [1, 2]), ([], [0, 3]), ([0], []), ([1], []), ([], [5, 6])] [0, 1, 2] w304.heap.size hf305 g323.size (by kernel_rfl) (bund_cons (is_any h310) (bund_cons (is_any h313) (bund_cons (is_any h312) bund_nil))) ?_
          intro ws325 hs326
          refine ch rfl (ob_move (arg_free 0 rfl rfl)) ?_
          refine ch rfl (ob_move (arg_free 1 rfl rfl)) ?_
          refine ch rfl (ob_move (arg_free 2 rfl rfl)) ?_
          first
            | (refine ch rfl (ob_add' (arg_op 1 1 rfl rfl rfl rfl) (arg_op 2 0 rfl rfl rfl rfl) ?_) ?_; · omega)
            | refine ch rfl (ob_add (arg_op 1 1 rfl rfl rfl rfl) (arg_op 2 0 rfl rfl rfl rfl)) ?_
          refine ch rfl (ob_slice_sub (T := elLock) (arg_op 0 3 rfl rfl rfl rfl) (OwnJ.shp ((hV300.up g319).up hs326)) (arg_op 3 0 rfl rfl rfl rfl) ((show _ = ((i + 1 : Nat) : Int) by omega)) ?_ Tryz.underlying24 szLock) ?_
          · omega
          refine ch rfl (ob_move (arg_free 0 rfl rfl)) ?_
          refine ch rfl (ob_move (arg_free 1 rfl rfl)) ?_
          refine ch rfl (ob_slice_sub (T := elLock) (arg_op 5 1 rfl rfl rfl rfl) (OwnJ.shp ((hV300.up g319).up hs326)) (arg_op 6 0 rfl rfl rfl rfl) (h1) ?_ Tryz.underlying24 szLock) ?_
          · omega
          refine ch_nil ?_
          intro a327 w328 hf329 hg330 hk331 hn332
          have h333 : Holds _ (a327.eval (.tmp 73)) w328 := hn332.at 4 3 rfl rfl rfl
          have h334 : Holds _ (a327.eval (.tmp 76)) w328 := hn332.at 7 0 rfl rfl rfl
          have h335 := hk331.holds rfl h310
          have h336 := hk331.holds rfl h313
          have h337 := hk331.holds rfl h314
          have g338 : Siz wl w328 := g315.trans hg330
          have g339 := g316.trans hg330
          have g340 := g317.trans hg330
          have g341 := g318.trans hg330
          have g342 := g319.trans hg330
          have g343 := g323.trans hg330
          have r344 : Wr _ _ w0 w328 := r320.grow hg330 (Nat.le_trans gz q321.size)
          have q345 : Siz w0 w328 := q321.trans hg330
          clear h310 h313 h314 g315 g316 g317 g318 g319 g323 r320 q321 hf305 hk331 hn332
          refine wl_copyJ (T := elLock) [0, 1, 2] hf329 (by kernel_rfl) rfl Tryz.underlying24 szLock (hV300.up g342) (sub_any h333) (sub_any h334) ?_ ?_ ?_ ?_
          · omega
          · rfl
          · rfl
          intro a346 w347 hf348 hw349 hk350 ho351 hV352
          have r353 : Wr _ _ w0 w347 := r344.trans hw349 (by omega)
          have q354 : Siz w0 w347 := Siz.below q345.size hw349.below
          have g355 : Siz wl w347 := Siz.below g338.size hw349.below
          have g356 : Siz wm w347 := Siz.below g339.size hw349.below
          have h357 : Holds _ (a346.eval (.tmp 0)) w347 := is_any (hk350.holds rfl h335)
          have h358 : Holds _ (a346.eval (.tmp 1)) w347 := is_any (hk350.holds rfl h336)
          have h359 : Holds _ (a346.eval (.tmp 2)) w347 := is_any (hk350.holds rfl h337)
          have hV360 : Holds _ v2 w347 := OwnS.apart (hv2.up g340) ho351 (far_of hv0 (OwnJ.blk hV300))
          have h361 : Holds _ (a346.eval (.tmp 0)) w347 := is_any (hk350.holds rfl h335)
          refine wpList_nil ?_
          refine then_ ?_
          refine wp_seq ?_
          have g362 : Grow w347 w347 := Grow.refl _
          have hz363 : wm.heap.size ≤ w347.heap.size := g356.size
          refine wp_region_lit ?_
          refine wp_seg (l1 := [_, _, _, _]) [([0], []), ([1], []), ([], [0, 1]), ([2], [])] [0] w347.heap.size hf348 g362.size (by kernel_rfl) (bund_cons h361 (bund_cons h358 (bund_cons h359 bund_nil))) ?_
          refine ch rfl (ob_move (arg_free 0 rfl rfl)) ?_
          refine ch rfl (ob_move (arg_free 1 rfl rfl)) ?_
          refine ch rfl (ob_slice_sub (T := elLock) (arg_op 0 1 rfl rfl rfl rfl) (own_shp hV352 (by (simp only [List.length_append, List.length_take, List.length_drop, List.length_cons, List.length_nil, List.length_replicate, maxLen, elNm, elDelta, elLock]; omega))) (arg_op 1 0 rfl rfl rfl rfl) (h1) ?_ Tryz.underlying24 szLock) ?_
          · (simp only [List.length_append, List.length_take, List.length_drop, List.length_cons, List.length_nil, List.length_replicate, maxLen, elNm, elDelta, elLock]; omega)
          refine ch rfl (ob_move (arg_free 2 rfl rfl)) ?_
          refine ch_nil ?_
          intro a364 w365 hf366 hg367 hk368 hn369
          have h370 : Holds _ (a364.eval (.tmp 80)) w365 := hn369.at 2 1 rfl rfl rfl
          have h371 : Holds _ (a364.eval (.tmp 81)) w365 := hn369.at 3 0 rfl rfl rfl
          have h372 := hk368.holds rfl h361
          have g373 : Siz wl w365 := g355.trans hg367
          have g374 : Siz wm w365 := g356.trans hg367
          have g375 := g362.trans hg367
          have r376 : Wr _ _ w0 w365 := r353.grow hg367 (Nat.le_trans gz q354.size)
          have q377 : Siz w0 w365 := q354.trans hg367
          clear h361 g355 g356 g362 r353 q354 hf348 hk368 hn369
          refine wl_copyO (T := elLock) [0] hf366 (by kernel_rfl) rfl Tryz.underlying24 szLock (hV352.up g375) (sub_any h370) (OwnS.sl (unV h371 (hV360.up g375))) ?_ g373.size ?_
          · (simp only [List.length_append, List.length_take, List.length_drop, List.length_cons, List.length_nil, List.length_replicate, maxLen, elNm, elDelta, elLock]; omega)
          intro a378 w379 hf380 hw381 hk382 hV383 h384
          have r385 : Wr _ _ w0 w379 := r376.trans hw381 (by omega)
          have q386 : Siz w0 w379 := Siz.below q377.size hw381.below
          have g387 : Siz wl w379 := Siz.below g373.size hw381.below
          have g388 : Siz wm w379 := Siz.below g374.size hw381.below
          have h389 : Holds _ (a378.eval (.tmp 0)) w379 := is_any (hk382.holds rfl h372)
          have hV390 : Holds (OwnS _ elLock (l.take i ++ x :: l.drop i)) V298 w379 := cast_own ((put1 _ _ _ _ (by (simp only [List.length_append, List.length_take, List.length_drop, List.length_cons, List.length_nil, List.length_replicate, maxLen, elNm, elDelta, elLock]; omega))).trans (ins_place (by omega))) hV383
          have h391 : Holds _ (a378.eval (.tmp 0)) w379 := is_any (hk382.holds rfl h372)
          refine wpList_nil ?_
          refine then_ ?_
          refine wp_seq ?_
          refine wp_region_lit ?_
          refine wp_all [([0], []), ([], [0])] [] wm.heap.size hf380 g388.size (by kernel_rfl) (bund_cons h391 bund_nil) ?_
          refine ch rfl (ob_move (arg_free 0 rfl rfl)) ?_
          refine ch rfl (ob_assign (arg_op 0 0 rfl rfl rfl rfl)) ?_
          refine ch_nil ?_
          intro a392 w393 hf394 hg395 hk396 hn397
          have h398 : Holds _ (a392.eval (.tmp 6)) w393 := hn397.at 1 0 rfl rfl rfl
          have g399 : Siz wl w393 := g387.trans hg395
          have g400 : Siz wm w393 := g388.trans hg395
          have r401 : Wr _ _ w0 w393 := r385.grow hg395 (Nat.le_trans gz q386.size)
          have q402 : Siz w0 w393 := q386.trans hg395
          have hV403 := hV390.up hg395
          clear g387 g388 r385 q386 hf380 hk396 hn397 hg395 hV390
          refine then_ ?_
          refine wp_ret ?_
          refine thenR ?_
          exact ret_wr rfl hf394 r401 (OwnS.mono (cast_own (by first | rfl | (rw [List.take_length, List.drop_length])) (unV h398 hV403)) (by omega))
        · intro hc322
          try simp only [cond_norm] at hc322
          first | done | exact absurd hc322 (by decide)
set_option maxRecDepth 100000 in
theorem c_Open {s : GState} {k : GLock} (hs : stOK s) : Con2 7 (StF s) (Is (lockV k)) (fun lo => StO lo (openS s k)) := by
  intro lo v0 v1 w0 hlo hv0 hv1
  refine enter Tryz.func7 rfl Tryz.ntmps7 (by simp) ?_
  intro a0 hf0 ha
  obtain ⟨va0, vb0, vc0, vd0, he0, hva0, hvb0, hvc0, hvd0⟩ := openF hv0
  have h00 : Holds (Is _) (a0.eval (.tmp 0)) w0 := arg_holds ha rfl he0
  have h01 : Holds _ (a0.eval (.tmp 1)) w0 := arg_holds ha rfl hv1
  clear ha
  have g0 : Grow w0 w0 := Grow.refl _
  obtain ⟨hs1, hs2, hs3, hs4⟩ := id hs
  refine wp_seq ?_
  refine wp_region_lit ?_
  refine wp_seg (l1 := [_]) [([0], [])] [1] w0.heap.size hf0 g0.size (by kernel_rfl) (bund_cons h00 bund_nil) ?_
  refine ch rfl (ob_box_state (arg_free 0 rfl rfl)) ?_
  refine ch_nil ?_
  intro a1 w2 hf3 hg4 hk5 hn6
  have h7 : Holds _ (a1.eval (.tmp 2)) w2 := hn6.at 0 0 rfl rfl rfl
  have h8 := hk5.holds rfl h01
  have g9 := g0.trans hg4
  obtain ⟨bk10, hl11, hv12, hb13⟩ := OwnB.blk (lo := w0.heap.size) h7
  clear h01 g0 hf0 hk5 hn6
  have g14 : Grow w2 w2 := Grow.refl _
  have hl15 : bk10 < w2.heap.size := hb13.lt
  have hz16 : w0.heap.size ≤ w2.heap.size := g9.size
  refine wp_seg (l1 := [_]) [([1], [])] [2] w2.heap.size hf3 g14.size (by kernel_rfl) (bund_cons (is_any h8) bund_nil) ?_
  refine ch rfl (ob_box_lock (arg_free 0 rfl rfl)) ?_
  refine ch_nil ?_
  intro a17 w18 hf19 hg20 hk21 hn22
  have h23 : Holds _ (a17.eval (.tmp 3)) w18 := hn22.at 0 0 rfl rfl rfl
  have hv24 : Holds (Is (PtrV bk10)) (a17.eval (.tmp 2)) w18 := is_any (hk21.holds rfl hv12)
  have hb25 := hb13.up hg20
  have g26 := g9.trans hg20
  have g27 := g14.trans hg20
  obtain ⟨bk28, hl29, hv30, hb31⟩ := OwnB.blk (lo := w2.heap.size) h23
  clear hv12 hb13 g9 g14 hf3 hk21 hn22
  have g32 : Grow w18 w18 := Grow.refl _
  have hl33 : bk10 < w18.heap.size := hb25.lt
  have hl34 : bk28 < w18.heap.size := hb31.lt
  have hz35 : w2.heap.size ≤ w18.heap.size := g27.size
  refine wp_all [([], [])] [2, 3] w18.heap.size hf19 g32.size (by kernel_rfl) bund_nil ?_
  refine ch rfl (ob_alloc_state) ?_
  refine ch_nil ?_
  intro a36 w37 hf38 hg39 hk40 hn41
  have h42 : Holds _ (a36.eval (.tmp 4)) w37 := hn41.at 0 0 rfl rfl rfl
  have hv43 : Holds (Is (PtrV bk10)) (a36.eval (.tmp 2)) w37 := is_any (hk40.holds rfl hv24)
  have hb44 := hb25.up hg39
  have hv45 : Holds (Is (PtrV bk28)) (a36.eval (.tmp 3)) w37 := is_any (hk40.holds rfl hv30)
  have hb46 := hb31.up hg39
  have g47 := g26.trans hg39
  have g48 := g27.trans hg39
  have g49 := g32.trans hg39
  obtain ⟨bk50, hl51, hv52, hb53⟩ := OwnB.blk (lo := w18.heap.size) h42
  clear hv24 hb25 hv30 hb31 g26 g27 g32 hf19 hk40 hn41
  refine then_ ?_
  refine wp_seq ?_
  have g54 : Grow w37 w37 := Grow.refl _
  have hl55 : bk10 < w37.heap.size := hb44.lt
  have hl56 : bk28 < w37.heap.size := hb46.lt
  have hl57 : bk50 < w37.heap.size := hb53.lt
  have hz58 : w18.heap.size ≤ w37.heap.size := g49.size
  refine wp_region_lit ?_
  refine wp_seg (l1 := [_, _]) [([2], []), ([], [0])] [2, 3, 4] w37.heap.size hf38 g54.size (by kernel_rfl) (bund_cons (hb44.ownp hv43) bund_nil) ?_
  refine ch rfl (ob_load_state (ArgOK.ownp (arg_free 0 rfl rfl))) ?_
  refine ch rfl (ob_call1 (by kernel_rfl) (c_Clone (s := _) ?_) (ArgOK.val (arg_op 0 0 rfl rfl rfl rfl) (mkFs (s := s) (hva0.up g47) (hvb0.up g47) (hvc0.up g47) (hvd0.up g47)))) ?_
  · assumption
  refine ch_nil ?_
  intro a59 w60 hf61 hg62 hk63 hn64
  have h65 : Holds (StO w37.heap.size _) (a59.eval (.tmp 6)) w60 := hn64.at 1 0 rfl rfl rfl
  have hv66 : Holds (Is (PtrV bk10)) (a59.eval (.tmp 2)) w60 := is_any (hk63.holds rfl hv43)
  have hb67 := hb44.up hg62
  have hv68 : Holds (Is (PtrV bk28)) (a59.eval (.tmp 3)) w60 := is_any (hk63.holds rfl hv45)
  have hb69 := hb46.up hg62
  have hv70 : Holds (Is (PtrV bk50)) (a59.eval (.tmp 4)) w60 := is_any (hk63.holds rfl hv52)
  have hb71 := hb53.up hg62
  have g72 := g47.trans hg62
  have g73 := g48.trans hg62
  have g74 := g49.trans hg62
  have g75 := g54.trans hg62
  clear hv43 hb44 hv45 hb46 hv52 hb53 g47 g48 g49 g54 hf38 hk63 hn64
  obtain ⟨V76, V77, V78, V79, h80, hV81, hV82, hV83, hV84⟩ := openO h65
  refine wl_store_state hv66 hb67 rfl h80 (st_oneS (OwnS.sl hV81) (OwnS.sl hV82) (OwnS.sl hV83) (OwnS.sl hV84)) ?_
  intro w85 ho86 hb87
  have g88 : Grow w0 w85 := g72.only ho86 (by omega)
  have g89 : Siz w2 w85 := Siz.below g73.size ho86.below
  have g90 : Siz w18 w85 := Siz.below g74.size ho86.below
  have g91 : Siz w37 w85 := Siz.below g75.size ho86.below
  have hv92 : Holds (Is (PtrV bk10)) (a59.eval (.tmp 2)) w85 := is_any hv66
  have hv93 : Holds (Is (PtrV bk28)) (a59.eval (.tmp 3)) w85 := is_any hv68
  have hb94 : Blk bk28 _ w85 := hb69.only ho86 (by omega)
  have hv95 : Holds (Is (PtrV bk50)) (a59.eval (.tmp 4)) w85 := is_any hv70
  have hb96 : Blk bk50 _ w85 := hb71.only ho86 (by omega)
  have hV97 : Holds _ V76 w85 := OwnS.only hV81 ho86 (by omega)
  have hV98 : Holds _ V77 w85 := OwnS.only hV82 ho86 (by omega)
  have hV99 : Holds _ V78 w85 := OwnS.only hV83 ho86 (by omega)
  have hV100 : Holds _ V79 w85 := OwnS.only hV84 ho86 (by omega)
  refine wpList_nil ?_
  refine then_ ?_
  refine wp_seq ?_
  refine wp_seq ?_
  have g101 : Grow w85 w85 := Grow.refl _
  have hl102 : bk10 < w85.heap.size := hb87.lt
  have hl103 : bk28 < w85.heap.size := hb94.lt
  have hl104 : bk50 < w85.heap.size := hb96.lt
  have hz105 : w37.heap.size ≤ w85.heap.size := g91.size
  refine wp_region_lit ?_
  refine wp_all [([2], []), ([3], []), ([], [1]), ([], [0, 2]), ([], [3])] [2, 3, 4] w85.heap.size hf61 g101.size (by kernel_rfl) (bund_cons (hb87.ownp hv92) (bund_cons (hb94.ownp hv93) bund_nil)) ?_
  refine ch rfl (ob_load_state (ArgOK.ownp (arg_free 0 rfl rfl))) ?_
  refine ch rfl (ob_fa_lock0 (ArgOK.ownp (arg_free 1 rfl rfl))) ?_
  refine ch rfl (ob_load_nm (arg_op 1 0 rfl rfl rfl rfl)) ?_
  refine ch rfl (ob_call2 (by kernel_rfl) (c_findK ?_) (ArgOK.val (arg_op 0 2 rfl rfl rfl rfl) (mkF (OwnS.sl hV97) (OwnS.sl hV98) (OwnS.sl hV99) (OwnS.sl hV100))) (arg_op 2 0 rfl rfl rfl rfl)) ?_
  · assumption
  refine ch rfl (ob_lss (arg_op 3 0 rfl rfl rfl rfl) arg_c) ?_
  refine ch_nil ?_
  intro a106 w107 hf108 hg109 hk110 hn111
  have h112 : Holds _ (a106.eval (.tmp 11)) w107 := hn111.at 4 0 rfl rfl rfl
  have hv113 : Holds (Is (PtrV bk10)) (a106.eval (.tmp 2)) w107 := is_any (hk110.holds rfl hv92)
  have hb114 := hb87.up hg109
  have hv115 : Holds (Is (PtrV bk28)) (a106.eval (.tmp 3)) w107 := is_any (hk110.holds rfl hv93)
  have hb116 := hb94.up hg109
  have hv117 : Holds (Is (PtrV bk50)) (a106.eval (.tmp 4)) w107 := is_any (hk110.holds rfl hv95)
  have hb118 := hb96.up hg109
  have g119 := g88.trans hg109
  have g120 : Siz w2 w107 := g89.trans hg109
  have g121 : Siz w18 w107 := g90.trans hg109
  have g122 : Siz w37 w107 := g91.trans hg109
  have g123 := g101.trans hg109
  clear hv92 hb87 hv93 hb94 hv95 hb96 g88 g89 g90 g91 g101 hf61 hk110 hn111
  refine then_ ?_
  refine wp_if h112 ?_ ?_
  · intro hc124
    try simp only [cond_norm] at hc124
    have hp : ¬ 0 ≤ fndK s.locks k.name := by omega
    have g125 : Grow w107 w107 := Grow.refl _
    have hl126 : bk10 < w107.heap.size := hb114.lt
    have hl127 : bk28 < w107.heap.size := hb116.lt
    have hl128 : bk50 < w107.heap.size := hb118.lt
    have hz129 : w85.heap.size ≤ w107.heap.size := g123.size
    have hV130 : Holds _ V76 w107 := (hV97.up g123)
    have hV131 : Holds _ V77 w107 := (hV98.up g123)
    have hV132 : Holds _ V78 w107 := (hV99.up g123)
    have hV133 : Holds _ V79 w107 := (hV100.up g123)
    refine wp_calm_tail (l1 := [_, _, _, _, _, _, _, _]) [0, 1, 0, 4, 0, 28, 0, 64, 255, 511, 1023] [([2], []), ([], [0]), ([2], []), ([], [2]), ([3], []), ([], [3, 4]), ([3], []), ([], [6])] [2, 4] w107.heap.size hf108 g125.size (by kernel_rfl) (bund_cons (hb114.ownp hv113) (bund_cons (hb116.ownp hv115) bund_nil)) ?_
    intro ws134 hs135
    refine ch rfl (ob_faP (n := 0) (arg_free 0 rfl rfl) Tryz.underlying28 rfl (by kernel_rfl)) ?_
    refine ch rfl (ob_loadP (arg_op 0 0 rfl rfl rfl rfl) Tryz.underlying24 rfl rfl) ?_
    refine ch rfl (ob_faP (n := 0) (arg_free 0 rfl rfl) Tryz.underlying28 rfl (by kernel_rfl)) ?_
    refine ch rfl (ob_loadP (arg_op 2 0 rfl rfl rfl rfl) Tryz.underlying24 rfl rfl) ?_
    refine ch rfl (ob_load_lock (ArgOK.ownp (arg_free 1 rfl rfl))) ?_
    refine ch rfl (ob_call3 (by kernel_rfl) (c_befK ?_) (ArgOK.sl (ArgOK.val (arg_op 3 1 rfl rfl rfl rfl) (hV132.up hs135))) (arg_op 4 0 rfl rfl rfl rfl) (arg_fn2 (by kernel_rfl) (fun _ _ => c_cmpK))) ?_
    · omega
    refine ch rfl (ob_load_lock (ArgOK.ownp (arg_free 1 rfl rfl))) ?_
    refine ch rfl (ob_bs1_lock (arg_op 6 0 rfl rfl rfl rfl)) ?_
    refine ch_nil ?_
    intro a136 w137 hf138 hg139 hk140 hn141
    have h142 : Holds _ (a136.eval (.tmp 13)) w137 := hn141.at 1 6 rfl rfl rfl
    have h143 : Holds _ (a136.eval (.tmp 17)) w137 := hn141.at 5 2 rfl rfl rfl
    have h144 : Holds (OwnF w107.heap.size _ _) (a136.eval (.tmp 19)) w137 := hn141.at 7 0 rfl rfl rfl
    have hv145 : Holds (Is (PtrV bk10)) (a136.eval (.tmp 2)) w137 := is_any (hk140.holds rfl hv113)
    have hb146 := hb114.up hg139
    have hv147 : Holds (Is (PtrV bk50)) (a136.eval (.tmp 4)) w137 := is_any (hk140.holds rfl hv117)
    have hb148 := hb118.up hg139
    have g149 := g119.trans hg139
    have g150 : Siz w2 w137 := g120.trans hg139
    have g151 : Siz w18 w137 := g121.trans hg139
    have g152 : Siz w37 w137 := g122.trans hg139
    have g153 := g123.trans hg139
    have g154 := g125.trans hg139
    clear hv113 hb114 hv117 hb118 g119 g120 g121 g122 g123 g125 hf108 hk140 hn141
    obtain ⟨V155, h156, hV157⟩ := nameV h144
    clear h144
    refine wl_callI (wl := w37) (wm := w107) [2, 4] hf138 (by kernel_rfl) rfl (by kernel_rfl) (c_insK (bef cmpK s.locks k).toNat ?_ ?_ ?_) (by omega) h142 hV132 g154 h143 (OwnF.own (unV h156 hV157)) ?_
    · (have hb := bef_le (c := cmpK) (l := s.locks) (x := k); omega)
    · (have hb := bef_le (c := cmpK) (l := s.locks) (x := k); omega)
    · (have hb := bef_le (c := cmpK) (l := s.locks) (x := k); omega)
    intro a158 w159 hf160 hw161 hk162 h163
    have g164 : Grow w0 w159 := g149.wr hw161 (by omega)
    have g165 : Siz w2 w159 := Siz.below g150.size hw161.below
    have g166 : Siz w18 w159 := Siz.below g151.size hw161.below
    have g167 : Siz w37 w159 := Siz.below g152.size hw161.below
    have g168 : Siz w85 w159 := Siz.below g153.size hw161.below
    have g169 : Siz w107 w159 := Siz.below g154.size hw161.below
    have hv170 : Holds (Is (PtrV bk10)) (a158.eval (.tmp 2)) w159 := is_any (hk162.holds rfl hv145)
    have hb171 : Blk bk10 _ w159 := hb146.wr hw161 (by omega)
    have hv172 : Holds (Is (PtrV bk50)) (a158.eval (.tmp 4)) w159 := is_any (hk162.holds rfl hv147)
    have hb173 : Blk bk50 _ w159 := hb148.wr hw161 (by omega)
    have hV174 : Holds _ V76 w159 := OwnS.wr (hV130.up g154) hw161 rfl
    have hV175 : Holds _ V77 w159 := OwnS.wr (hV131.up g154) hw161 rfl
    have hV176 : Holds _ V79 w159 := OwnS.wr (hV133.up g154) hw161 rfl
    obtain ⟨V177, h178, hV179⟩ := nameV h163
    clear h163
    refine wp_seg (l1 := [_]) [([2], [])] [2, 4, 20] w107.heap.size hf160 g169.size (by kernel_rfl) (bund_cons (hb171.ownp hv170) bund_nil) ?_
    refine ch rfl (ob_faP (n := 0) (arg_free 0 rfl rfl) Tryz.underlying28 rfl (by kernel_rfl)) ?_
    refine ch_nil ?_
    intro a180 w181 hf182 hg183 hk184 hn185
    have h186 : Holds _ (a180.eval (.tmp 21)) w181 := hn185.at 0 0 rfl rfl rfl
    have h187 := hk184.holds rfl (h178.up hg183)
    have hv188 : Holds (Is (PtrV bk10)) (a180.eval (.tmp 2)) w181 := is_any (hk184.holds rfl hv170)
    have hb189 := hb171.up hg183
    have hv190 : Holds (Is (PtrV bk50)) (a180.eval (.tmp 4)) w181 := is_any (hk184.holds rfl hv172)
    have hb191 := hb173.up hg183
    have g192 := g164.trans hg183
    have g193 : Siz w2 w181 := g165.trans hg183
    have g194 : Siz w18 w181 := g166.trans hg183
    have g195 : Siz w37 w181 := g167.trans hg183
    have g196 : Siz w85 w181 := g168.trans hg183
    have g197 : Siz w107 w181 := g169.trans hg183
    have hV198 := hV174.up hg183
    have hV199 := hV175.up hg183
    have hV200 := hV176.up hg183
    have hV201 := hV179.up hg183
    clear h178 hv170 hb171 hv172 hb173 g164 g165 g166 g167 g168 g169 hf160 hk184 hn185 hg183 hV174 hV175 hV176 hV179
    refine wl_store_sl h186 h187 hV201 (show 2 < 5 by decide) szLocks ?_
    intro w202 ho203 hb204
    have hb205 : Blk bk10 (stVals V76 V77 V177 V79 _) w202 := hb204
    clear hb204
    have g206 : Grow w0 w202 := g192.only ho203 (by omega)
    have g207 : Siz w2 w202 := Siz.below g193.size ho203.below
    have g208 : Siz w18 w202 := Siz.below g194.size ho203.below
    have g209 : Siz w37 w202 := Siz.below g195.size ho203.below
    have hv212 : Holds (Is (PtrV bk10)) (a180.eval (.tmp 2)) w202 := is_any hv188
    have hv213 : Holds (Is (PtrV bk50)) (a180.eval (.tmp 4)) w202 := is_any hv190
    have hb214 : Blk bk50 _ w202 := hb191.only ho203 (by omega)
    have hV215 : Holds _ V76 w202 := OwnS.only hV198 ho203 (by omega)
    have hV216 : Holds _ V77 w202 := OwnS.only hV199 ho203 (by omega)
    have hV217 : Holds _ V79 w202 := OwnS.only hV200 ho203 (by omega)
    have hV218 : Holds _ V177 w202 := OwnS.only hV201 ho203 (by omega)
    refine wpList_nil ?_
    refine then_ ?_
    refine wp_seq ?_
    have g219 : Grow w202 w202 := Grow.refl _
    have hl220 : bk10 < w202.heap.size := hb205.lt
    have hl221 : bk50 < w202.heap.size := hb214.lt
    have hz222 : w37.heap.size ≤ w202.heap.size := g209.size
    refine wp_region_lit ?_
    refine wp_seg (l1 := [_]) [([2], [])] [4] w202.heap.size hf182 g219.size (by kernel_rfl) (bund_cons (hb205.ownp hv212) bund_nil) ?_
    refine ch rfl (ob_load_state (ArgOK.ownp (arg_free 0 rfl rfl))) ?_
    refine ch_nil ?_
    intro a223 w224 hf225 hg226 hk227 hn228
    have h229 : Holds _ (a223.eval (.tmp 22)) w224 := hn228.at 0 0 rfl rfl rfl
    have hv230 : Holds (Is (PtrV bk50)) (a223.eval (.tmp 4)) w224 := is_any (hk227.holds rfl hv213)
    have hb231 := hb214.up hg226
    have g232 := g206.trans hg226
    have g233 : Siz w2 w224 := g207.trans hg226
    have g234 : Siz w18 w224 := g208.trans hg226
    have g235 : Siz w37 w224 := g209.trans hg226
    have g236 := g219.trans hg226
    clear hv213 hb214 g206 g207 g208 g209 g219 hf182 hk227 hn228
    refine wl_store_state hv230 hb231 rfl h229 (st_oneS (OwnS.sl (hV215.up g236)) (OwnS.sl (hV216.up g236)) (OwnS.sl (hV218.up g236)) (OwnS.sl (hV217.up g236))) ?_
    intro w237 ho238 hb239
    have g240 : Grow w0 w237 := g232.only ho238 (by omega)
    have g241 : Siz w2 w237 := Siz.below g233.size ho238.below
    have g242 : Siz w18 w237 := Siz.below g234.size ho238.below
    have g243 : Siz w37 w237 := Siz.below g235.size ho238.below
    have hv245 : Holds (Is (PtrV bk50)) (a223.eval (.tmp 4)) w237 := is_any hv230
    have hV246 : Holds _ V76 w237 := OwnS.only (hV215.up g236) ho238 (by omega)
    have hV247 : Holds _ V77 w237 := OwnS.only (hV216.up g236) ho238 (by omega)
    have hV248 : Holds _ V79 w237 := OwnS.only (hV217.up g236) ho238 (by omega)
    have hV249 : Holds _ V177 w237 := OwnS.only (hV218.up g236) ho238 (by omega)
    refine wpList_nil ?_
    refine then_ ?_
    refine wp_ret ?_
    refine ret_cell rfl Tryz.underlying28 rfl (by kernel_rfl) hf225 g240 (hb239.ptr hv245) ?_
    exact sto_cast (mkO (OwnS.mono hV246 (by omega)) (OwnS.mono hV247 (by omega)) (OwnS.mono hV249 (by omega)) (OwnS.mono hV248 (by omega))) (by first | exact open_no hp | exact open_yes hp)
  · intro hc124
    try simp only [cond_norm] at hc124
    have hp : 0 ≤ fndK s.locks k.name := by omega
    refine wp_skip ?_
    refine then_ ?_
    refine wp_seq ?_
    have g250 : Grow w107 w107 := Grow.refl _
    have hl251 : bk10 < w107.heap.size := hb114.lt
    have hl252 : bk28 < w107.heap.size := hb116.lt
    have hl253 : bk50 < w107.heap.size := hb118.lt
    have hz254 : w85.heap.size ≤ w107.heap.size := g123.size
    refine wp_region_lit ?_
    refine wp_seg (l1 := [_]) [([2], [])] [4] w107.heap.size hf108 g250.size (by kernel_rfl) (bund_cons (hb114.ownp hv113) bund_nil) ?_
    refine ch rfl (ob_load_state (ArgOK.ownp (arg_free 0 rfl rfl))) ?_
    refine ch_nil ?_
    intro a255 w256 hf257 hg258 hk259 hn260
    have h261 : Holds _ (a255.eval (.tmp 22)) w256 := hn260.at 0 0 rfl rfl rfl
    have hv262 : Holds (Is (PtrV bk50)) (a255.eval (.tmp 4)) w256 := is_any (hk259.holds rfl hv117)
    have hb263 := hb118.up hg258
    have g264 := g119.trans hg258
    have g265 : Siz w2 w256 := g120.trans hg258
    have g266 : Siz w18 w256 := g121.trans hg258
    have g267 : Siz w37 w256 := g122.trans hg258
    have g268 := g123.trans hg258
    have g269 := g250.trans hg258
    clear hv117 hb118 g119 g120 g121 g122 g123 g250 hf108 hk259 hn260
    refine wl_store_state hv262 hb263 rfl h261 (st_oneS (OwnS.sl (hV97.up g268)) (OwnS.sl (hV98.up g268)) (OwnS.sl (hV99.up g268)) (OwnS.sl (hV100.up g268))) ?_
    intro w270 ho271 hb272
    have g273 : Grow w0 w270 := g264.only ho271 (by omega)
    have g274 : Siz w2 w270 := Siz.below g265.size ho271.below
    have g275 : Siz w18 w270 := Siz.below g266.size ho271.below
    have g276 : Siz w37 w270 := Siz.below g267.size ho271.below
    have hv279 : Holds (Is (PtrV bk50)) (a255.eval (.tmp 4)) w270 := is_any hv262
    have hV280 : Holds _ V76 w270 := OwnS.only (hV97.up g268) ho271 (by omega)
    have hV281 : Holds _ V77 w270 := OwnS.only (hV98.up g268) ho271 (by omega)
    have hV282 : Holds _ V78 w270 := OwnS.only (hV99.up g268) ho271 (by omega)
    have hV283 : Holds _ V79 w270 := OwnS.only (hV100.up g268) ho271 (by omega)
    refine wpList_nil ?_
    refine then_ ?_
    refine wp_ret ?_
    refine ret_cell rfl Tryz.underlying28 rfl (by kernel_rfl) hf257 g273 (hb272.ptr hv279) ?_
    exact sto_cast (mkO (OwnS.mono hV280 (by omega)) (OwnS.mono hV281 (by omega)) (OwnS.mono hV282 (by omega)) (OwnS.mono hV283 (by omega))) (by first | exact open_no hp | exact open_yes hp)
set_option maxRecDepth 100000 in
theorem c_Close {s : GState} {n : UInt64} (hs : stOK s) : Con2 8 (StF s) (Is (nmV n)) (fun lo => StO lo (closeS s n)) := by
  intro lo v0 v1 w0 hlo hv0 hv1
  refine enter Tryz.func8 rfl Tryz.ntmps8 (by simp) ?_
  intro a0 hf0 ha
  obtain ⟨va0, vb0, vc0, vd0, he0, hva0, hvb0, hvc0, hvd0⟩ := openF hv0
  have h00 : Holds (Is _) (a0.eval (.tmp 0)) w0 := arg_holds ha rfl he0
  have h01 : Holds _ (a0.eval (.tmp 1)) w0 := arg_holds ha rfl hv1
  clear ha
  have g0 : Grow w0 w0 := Grow.refl _
  obtain ⟨hs1, hs2, hs3, hs4⟩ := id hs
  refine wp_seq ?_
  refine wp_region_lit ?_
  refine wp_seg (l1 := [_]) [([0], [])] [1] w0.heap.size hf0 g0.size (by kernel_rfl) (bund_cons h00 bund_nil) ?_
  refine ch rfl (ob_box_state (arg_free 0 rfl rfl)) ?_
  refine ch_nil ?_
  intro a1 w2 hf3 hg4 hk5 hn6
  have h7 : Holds _ (a1.eval (.tmp 2)) w2 := hn6.at 0 0 rfl rfl rfl
  have h8 := hk5.holds rfl h01
  have g9 := g0.trans hg4
  obtain ⟨bk10, hl11, hv12, hb13⟩ := OwnB.blk (lo := w0.heap.size) h7
  clear h01 g0 hf0 hk5 hn6
  have g14 : Grow w2 w2 := Grow.refl _
  have hl15 : bk10 < w2.heap.size := hb13.lt
  have hz16 : w0.heap.size ≤ w2.heap.size := g9.size
  refine wp_seg (l1 := [_]) [([1], [])] [2] w2.heap.size hf3 g14.size (by kernel_rfl) (bund_cons (is_any h8) bund_nil) ?_
  refine ch rfl (ob_box_nm (arg_free 0 rfl rfl)) ?_
  refine ch_nil ?_
  intro a17 w18 hf19 hg20 hk21 hn22
  have h23 : Holds _ (a17.eval (.tmp 3)) w18 := hn22.at 0 0 rfl rfl rfl
  have hv24 : Holds (Is (PtrV bk10)) (a17.eval (.tmp 2)) w18 := is_any (hk21.holds rfl hv12)
  have hb25 := hb13.up hg20
  have g26 := g9.trans hg20
  have g27 := g14.trans hg20
  obtain ⟨bk28, hl29, hv30, hb31⟩ := OwnB.blk (lo := w2.heap.size) h23
  clear hv12 hb13 g9 g14 hf3 hk21 hn22
  have g32 : Grow w18 w18 := Grow.refl _
  have hl33 : bk10 < w18.heap.size := hb25.lt
  have hl34 : bk28 < w18.heap.size := hb31.lt
  have hz35 : w2.heap.size ≤ w18.heap.size := g27.size
  refine wp_all [([], [])] [2, 3] w18.heap.size hf19 g32.size (by kernel_rfl) bund_nil ?_
  refine ch rfl (ob_alloc_state) ?_
  refine ch_nil ?_
  intro a36 w37 hf38 hg39 hk40 hn41
  have h42 : Holds _ (a36.eval (.tmp 4)) w37 := hn41.at 0 0 rfl rfl rfl
  have hv43 : Holds (Is (PtrV bk10)) (a36.eval (.tmp 2)) w37 := is_any (hk40.holds rfl hv24)
  have hb44 := hb25.up hg39
  have hv45 : Holds (Is (PtrV bk28)) (a36.eval (.tmp 3)) w37 := is_any (hk40.holds rfl hv30)
  have hb46 := hb31.up hg39
  have g47 := g26.trans hg39
  have g48 := g27.trans hg39
  have g49 := g32.trans hg39
  obtain ⟨bk50, hl51, hv52, hb53⟩ := OwnB.blk (lo := w18.heap.size) h42
  clear hv24 hb25 hv30 hb31 g26 g27 g32 hf19 hk40 hn41
  refine then_ ?_
  refine wp_seq ?_
  have g54 : Grow w37 w37 := Grow.refl _
  have hl55 : bk10 < w37.heap.size := hb44.lt
  have hl56 : bk28 < w37.heap.size := hb46.lt
  have hl57 : bk50 < w37.heap.size := hb53.lt
  have hz58 : w18.heap.size ≤ w37.heap.size := g49.size
  refine wp_region_lit ?_
  refine wp_seg (l1 := [_, _]) [([2], []), ([], [0])] [2, 3, 4] w37.heap.size hf38 g54.size (by kernel_rfl) (bund_cons (hb44.ownp hv43) bund_nil) ?_
  refine ch rfl (ob_load_state (ArgOK.ownp (arg_free 0 rfl rfl))) ?_
  refine ch rfl (ob_call1 (by kernel_rfl) (c_Clone (s := _) ?_) (ArgOK.val (arg_op 0 0 rfl rfl rfl rfl) (mkFs (s := s) (hva0.up g47) (hvb0.up g47) (hvc0.up g47) (hvd0.up g47)))) ?_
  · assumption
  refine ch_nil ?_
  intro a59 w60 hf61 hg62 hk63 hn64
  have h65 : Holds (StO w37.heap.size _) (a59.eval (.tmp 7)) w60 := hn64.at 1 0 rfl rfl rfl
  have hv66 : Holds (Is (PtrV bk10)) (a59.eval (.tmp 2)) w60 := is_any (hk63.holds rfl hv43)
  have hb67 := hb44.up hg62
  have hv68 : Holds (Is (PtrV bk28)) (a59.eval (.tmp 3)) w60 := is_any (hk63.holds rfl hv45)
  have hb69 := hb46.up hg62
  have hv70 : Holds (Is (PtrV bk50)) (a59.eval (.tmp 4)) w60 := is_any (hk63.holds rfl hv52)
  have hb71 := hb53.up hg62
  have g72 := g47.trans hg62
  have g73 := g48.trans hg62
  have g74 := g49.trans hg62
  have g75 := g54.trans hg62
  clear hv43 hb44 hv45 hb46 hv52 hb53 g47 g48 g49 g54 hf38 hk63 hn64
  obtain ⟨V76, V77, V78, V79, h80, hV81, hV82, hV83, hV84⟩ := openO h65
  refine wl_store_state hv66 hb67 rfl h80 (st_oneS (OwnS.sl hV81) (OwnS.sl hV82) (OwnS.sl hV83) (OwnS.sl hV84)) ?_
  intro w85 ho86 hb87
  have g88 : Grow w0 w85 := g72.only ho86 (by omega)
  have g89 : Siz w2 w85 := Siz.below g73.size ho86.below
  have g90 : Siz w18 w85 := Siz.below g74.size ho86.below
  have g91 : Siz w37 w85 := Siz.below g75.size ho86.below
  have hv92 : Holds (Is (PtrV bk10)) (a59.eval (.tmp 2)) w85 := is_any hv66
  have hv93 : Holds (Is (PtrV bk28)) (a59.eval (.tmp 3)) w85 := is_any hv68
  have hb94 : Blk bk28 _ w85 := hb69.only ho86 (by omega)
  have hv95 : Holds (Is (PtrV bk50)) (a59.eval (.tmp 4)) w85 := is_any hv70
  have hb96 : Blk bk50 _ w85 := hb71.only ho86 (by omega)
  have hV97 : Holds _ V76 w85 := OwnS.only hV81 ho86 (by omega)
  have hV98 : Holds _ V77 w85 := OwnS.only hV82 ho86 (by omega)
  have hV99 : Holds _ V78 w85 := OwnS.only hV83 ho86 (by omega)
  have hV100 : Holds _ V79 w85 := OwnS.only hV84 ho86 (by omega)
  refine wpList_nil ?_
  refine then_ ?_
  refine wp_seq ?_
  refine wp_seq ?_
  have g101 : Grow w85 w85 := Grow.refl _
  have hl102 : bk10 < w85.heap.size := hb87.lt
  have hl103 : bk28 < w85.heap.size := hb94.lt
  have hl104 : bk50 < w85.heap.size := hb96.lt
  have hz105 : w37.heap.size ≤ w85.heap.size := g91.size
  refine wp_region_lit ?_
  refine wp_all [([2], []), ([3], []), ([], [0, 1]), ([], [2])] [2, 4] w85.heap.size hf61 g101.size (by kernel_rfl) (bund_cons (hb87.ownp hv92) (bund_cons (hb94.ownp hv93) bund_nil)) ?_
  refine ch rfl (ob_load_state (ArgOK.ownp (arg_free 0 rfl rfl))) ?_
  refine ch rfl (ob_load_nm (ArgOK.ownp (arg_free 1 rfl rfl))) ?_
  refine ch rfl (ob_call2 (by kernel_rfl) (c_findK ?_) (ArgOK.val (arg_op 0 1 rfl rfl rfl rfl) (mkF (OwnS.sl hV97) (OwnS.sl hV98) (OwnS.sl hV99) (OwnS.sl hV100))) (arg_op 1 0 rfl rfl rfl rfl)) ?_
  · assumption
  refine ch rfl (ob_assign (arg_op 2 0 rfl rfl rfl rfl)) ?_
  refine ch_nil ?_
  intro a106 w107 hf108 hg109 hk110 hn111
  have h112 : Holds _ (a106.eval (.tmp 5)) w107 := hn111.at 3 0 rfl rfl rfl
  have hv113 : Holds (Is (PtrV bk10)) (a106.eval (.tmp 2)) w107 := is_any (hk110.holds rfl hv92)
  have hb114 := hb87.up hg109
  have hv115 : Holds (Is (PtrV bk50)) (a106.eval (.tmp 4)) w107 := is_any (hk110.holds rfl hv95)
  have hb116 := hb96.up hg109
  have g117 := g88.trans hg109
  have g118 : Siz w2 w107 := g89.trans hg109
  have g119 : Siz w18 w107 := g90.trans hg109
  have g120 : Siz w37 w107 := g91.trans hg109
  have g121 := g101.trans hg109
  clear hv92 hb87 hv95 hb96 g88 g89 g90 g91 g101 hf61 hk110 hn111
  refine then_ ?_
  refine wp_seq ?_
  refine wp_region_lit ?_
  refine wp_all [([5], []), ([], [0])] [2, 4, 5] w85.heap.size hf108 g121.size (by kernel_rfl) (bund_cons h112 bund_nil) ?_
  refine ch rfl (ob_move (arg_free 0 rfl rfl)) ?_
  refine ch rfl (ob_geq (arg_op 0 0 rfl rfl rfl rfl) arg_c) ?_
  refine ch_nil ?_
  intro a122 w123 hf124 hg125 hk126 hn127
  have h128 : Holds _ (a122.eval (.tmp 12)) w123 := hn127.at 1 0 rfl rfl rfl
  have h129 := hk126.holds rfl (h112.up hg125)
  have hv130 : Holds (Is (PtrV bk10)) (a122.eval (.tmp 2)) w123 := is_any (hk126.holds rfl hv113)
  have hb131 := hb114.up hg125
  have hv132 : Holds (Is (PtrV bk50)) (a122.eval (.tmp 4)) w123 := is_any (hk126.holds rfl hv115)
  have hb133 := hb116.up hg125
  have g134 := g117.trans hg125
  have g135 : Siz w2 w123 := g118.trans hg125
  have g136 : Siz w18 w123 := g119.trans hg125
  have g137 : Siz w37 w123 := g120.trans hg125
  have g138 := g121.trans hg125
  clear h112 hv113 hb114 hv115 hb116 g117 g118 g119 g120 g121 hf108 hk126 hn127 hg125
  refine then_ ?_
  refine wp_if h128 ?_ ?_
  · intro hc139
    try simp only [cond_norm] at hc139
    have hp : 0 ≤ fndK s.locks n := hc139; have hq := fndK_lt hp
    have h140 : Holds (Is (intV (fndK s.locks n))) (a122.eval (.tmp 5)) w123 := is_cast h129 (rfl)
    have g141 : Grow w123 w123 := Grow.refl _
    have hl142 : bk10 < w123.heap.size := hb131.lt
    have hl143 : bk50 < w123.heap.size := hb133.lt
    have hz144 : w85.heap.size ≤ w123.heap.size := g138.size
    have hV145 : Holds _ V76 w123 := (hV97.up g138)
    have hV146 : Holds _ V77 w123 := (hV98.up g138)
    have hV147 : Holds _ V78 w123 := (hV99.up g138)
    have hV148 : Holds _ V79 w123 := (hV100.up g138)
    refine wp_region_lit ?_
    refine wp_seg (l1 := [_, _, _, _, _]) [([2], []), ([], [0]), ([5], []), ([5], []), ([], [3])] [2, 4] w123.heap.size hf124 g141.size (by kernel_rfl) (bund_cons (hb131.ownp hv130) (bund_cons h140 bund_nil)) ?_
    refine ch rfl (ob_faP (n := 0) (arg_free 0 rfl rfl) Tryz.underlying28 rfl (by kernel_rfl)) ?_
    refine ch rfl (ob_loadP (arg_op 0 0 rfl rfl rfl rfl) Tryz.underlying24 rfl rfl) ?_
    refine ch rfl (ob_move (arg_free 1 rfl rfl)) ?_
    refine ch rfl (ob_move (arg_free 1 rfl rfl)) ?_
    first
      | (refine ch rfl (ob_add' (arg_op 3 0 rfl rfl rfl rfl) arg_c ?_) ?_; · omega)
      | refine ch rfl (ob_add (arg_op 3 0 rfl rfl rfl rfl) arg_c) ?_
    refine ch_nil ?_
    intro a149 w150 hf151 hg152 hk153 hn154
    have h155 : Holds _ (a149.eval (.tmp 14)) w150 := hn154.at 1 3 rfl rfl rfl
    have h156 : Holds _ (a149.eval (.tmp 15)) w150 := hn154.at 2 2 rfl rfl rfl
    have h157 : Holds _ (a149.eval (.tmp 17)) w150 := hn154.at 4 0 rfl rfl rfl
    have hv158 : Holds (Is (PtrV bk10)) (a149.eval (.tmp 2)) w150 := is_any (hk153.holds rfl hv130)
    have hb159 := hb131.up hg152
    have hv160 : Holds (Is (PtrV bk50)) (a149.eval (.tmp 4)) w150 := is_any (hk153.holds rfl hv132)
    have hb161 := hb133.up hg152
    have g162 := g134.trans hg152
    have g163 : Siz w2 w150 := g135.trans hg152
    have g164 : Siz w18 w150 := g136.trans hg152
    have g165 : Siz w37 w150 := g137.trans hg152
    have g166 := g138.trans hg152
    have g167 := g141.trans hg152
    clear hv130 hb131 hv132 hb133 g134 g135 g136 g137 g138 g141 hf124 hk153 hn154
    refine wl_callD (wl := w37) [2, 4] hf151 (by kernel_rfl) rfl (by kernel_rfl) (c_delK (fndK s.locks n).toNat ?_ ?_ ?_ ?_) g165.size h155 (hV147.up g167) h156 h157 ?_
    · omega
    · omega
    · exact hq.1
    · omega
    intro a168 w169 hf170 hw171 hk172 h173
    have g174 : Grow w0 w169 := g162.wr hw171 (by omega)
    have g175 : Siz w2 w169 := Siz.below g163.size hw171.below
    have g176 : Siz w18 w169 := Siz.below g164.size hw171.below
    have g177 : Siz w37 w169 := Siz.below g165.size hw171.below
    have hv178 : Holds (Is (PtrV bk10)) (a168.eval (.tmp 2)) w169 := is_any (hk172.holds rfl hv158)
    have hb179 : Blk bk10 _ w169 := hb159.wr hw171 (by omega)
    have hv180 : Holds (Is (PtrV bk50)) (a168.eval (.tmp 4)) w169 := is_any (hk172.holds rfl hv160)
    have hb181 : Blk bk50 _ w169 := hb161.wr hw171 (by omega)
    have hV182 : Holds _ V76 w169 := OwnS.wr (hV145.up g167) hw171 rfl
    have hV183 : Holds _ V77 w169 := OwnS.wr (hV146.up g167) hw171 rfl
    have hV184 : Holds _ V79 w169 := OwnS.wr (hV148.up g167) hw171 rfl
    obtain ⟨V185, h186, hV187⟩ := nameV h173
    clear h173
    refine wp_seg (l1 := [_]) [([2], [])] [2, 4, 18] w37.heap.size hf170 g177.size (by kernel_rfl) (bund_cons (hb179.ownp hv178) bund_nil) ?_
    refine ch rfl (ob_faP (n := 0) (arg_free 0 rfl rfl) Tryz.underlying28 rfl (by kernel_rfl)) ?_
    refine ch_nil ?_
    intro a188 w189 hf190 hg191 hk192 hn193
    have h194 : Holds _ (a188.eval (.tmp 19)) w189 := hn193.at 0 0 rfl rfl rfl
    have h195 := hk192.holds rfl (h186.up hg191)
    have hv196 : Holds (Is (PtrV bk10)) (a188.eval (.tmp 2)) w189 := is_any (hk192.holds rfl hv178)
    have hb197 := hb179.up hg191
    have hv198 : Holds (Is (PtrV bk50)) (a188.eval (.tmp 4)) w189 := is_any (hk192.holds rfl hv180)
    have hb199 := hb181.up hg191
    have g200 := g174.trans hg191
    have g201 : Siz w2 w189 := g175.trans hg191
    have g202 : Siz w18 w189 := g176.trans hg191
    have g203 : Siz w37 w189 := g177.trans hg191
    have hV204 := hV182.up hg191
    have hV205 := hV183.up hg191
    have hV206 := hV184.up hg191
    have hV207 := hV187.up hg191
    clear h186 hv178 hb179 hv180 hb181 g174 g175 g176 g177 hf170 hk192 hn193 hg191 hV182 hV183 hV184 hV187
    refine wl_store_sl h194 h195 hV207 (show 2 < 5 by decide) szLocks ?_
    intro w208 ho209 hb210
    have hb211 : Blk bk10 (stVals V76 V77 V185 V79 _) w208 := hb210
    clear hb210
    have g212 : Grow w0 w208 := g200.only ho209 (by omega)
    have g213 : Siz w2 w208 := Siz.below g201.size ho209.below
    have g214 : Siz w18 w208 := Siz.below g202.size ho209.below
    have g215 : Siz w37 w208 := Siz.below g203.size ho209.below
    have hv216 : Holds (Is (PtrV bk10)) (a188.eval (.tmp 2)) w208 := is_any hv196
    have hv217 : Holds (Is (PtrV bk50)) (a188.eval (.tmp 4)) w208 := is_any hv198
    have hb218 : Blk bk50 _ w208 := hb199.only ho209 (by omega)
    have hV219 : Holds _ V76 w208 := OwnS.only hV204 ho209 (by omega)
    have hV220 : Holds _ V77 w208 := OwnS.only hV205 ho209 (by omega)
    have hV221 : Holds _ V79 w208 := OwnS.only hV206 ho209 (by omega)
    have hV222 : Holds _ V185 w208 := OwnS.only hV207 ho209 (by omega)
    refine wpList_nil ?_
    refine then_ ?_
    refine wp_seq ?_
    have g223 : Grow w208 w208 := Grow.refl _
    have hl224 : bk10 < w208.heap.size := hb211.lt
    have hl225 : bk50 < w208.heap.size := hb218.lt
    have hz226 : w37.heap.size ≤ w208.heap.size := g215.size
    refine wp_region_lit ?_
    refine wp_seg (l1 := [_]) [([2], [])] [4] w208.heap.size hf190 g223.size (by kernel_rfl) (bund_cons (hb211.ownp hv216) bund_nil) ?_
    refine ch rfl (ob_load_state (ArgOK.ownp (arg_free 0 rfl rfl))) ?_
    refine ch_nil ?_
    intro a227 w228 hf229 hg230 hk231 hn232
    have h233 : Holds _ (a227.eval (.tmp 20)) w228 := hn232.at 0 0 rfl rfl rfl
    have hv234 : Holds (Is (PtrV bk50)) (a227.eval (.tmp 4)) w228 := is_any (hk231.holds rfl hv217)
    have hb235 := hb218.up hg230
    have g236 := g212.trans hg230
    have g237 : Siz w2 w228 := g213.trans hg230
    have g238 : Siz w18 w228 := g214.trans hg230
    have g239 : Siz w37 w228 := g215.trans hg230
    have g240 := g223.trans hg230
    clear hv217 hb218 g212 g213 g214 g215 g223 hf190 hk231 hn232
    refine wl_store_state hv234 hb235 rfl h233 (st_oneS (OwnS.sl (hV219.up g240)) (OwnS.sl (hV220.up g240)) (OwnS.sl (hV222.up g240)) (OwnS.sl (hV221.up g240))) ?_
    intro w241 ho242 hb243
    have g244 : Grow w0 w241 := g236.only ho242 (by omega)
    have g245 : Siz w2 w241 := Siz.below g237.size ho242.below
    have g246 : Siz w18 w241 := Siz.below g238.size ho242.below
    have g247 : Siz w37 w241 := Siz.below g239.size ho242.below
    have hv249 : Holds (Is (PtrV bk50)) (a227.eval (.tmp 4)) w241 := is_any hv234
    have hV250 : Holds _ V76 w241 := OwnS.only (hV219.up g240) ho242 (by omega)
    have hV251 : Holds _ V77 w241 := OwnS.only (hV220.up g240) ho242 (by omega)
    have hV252 : Holds _ V79 w241 := OwnS.only (hV221.up g240) ho242 (by omega)
    have hV253 : Holds _ V185 w241 := OwnS.only (hV222.up g240) ho242 (by omega)
    refine wpList_nil ?_
    refine then_ ?_
    refine wp_ret ?_
    refine ret_cell rfl Tryz.underlying28 rfl (by kernel_rfl) hf229 g244 (hb243.ptr hv249) ?_
    exact sto_cast (mkO (OwnS.mono hV250 (by omega)) (OwnS.mono hV251 (by omega)) (OwnS.mono hV253 (by omega)) (OwnS.mono hV252 (by omega))) (by first | exact close_yes hp | exact close_no hp)
  · intro hc139
    try simp only [cond_norm] at hc139
    have hp : ¬ 0 ≤ fndK s.locks n := hc139
    refine wp_skip ?_
    refine then_ ?_
    refine wp_seq ?_
    have g254 : Grow w123 w123 := Grow.refl _
    have hl255 : bk10 < w123.heap.size := hb131.lt
    have hl256 : bk50 < w123.heap.size := hb133.lt
    have hz257 : w85.heap.size ≤ w123.heap.size := g138.size
    refine wp_region_lit ?_
    refine wp_seg (l1 := [_]) [([2], [])] [4] w123.heap.size hf124 g254.size (by kernel_rfl) (bund_cons (hb131.ownp hv130) bund_nil) ?_
    refine ch rfl (ob_load_state (ArgOK.ownp (arg_free 0 rfl rfl))) ?_
    refine ch_nil ?_
    intro a258 w259 hf260 hg261 hk262 hn263
    have h264 : Holds _ (a258.eval (.tmp 20)) w259 := hn263.at 0 0 rfl rfl rfl
    have hv265 : Holds (Is (PtrV bk50)) (a258.eval (.tmp 4)) w259 := is_any (hk262.holds rfl hv132)
    have hb266 := hb133.up hg261
    have g267 := g134.trans hg261
    have g268 : Siz w2 w259 := g135.trans hg261
    have g269 : Siz w18 w259 := g136.trans hg261
    have g270 : Siz w37 w259 := g137.trans hg261
    have g271 := g138.trans hg261
    have g272 := g254.trans hg261
    clear hv132 hb133 g134 g135 g136 g137 g138 g254 hf124 hk262 hn263
    refine wl_store_state hv265 hb266 rfl h264 (st_oneS (OwnS.sl (hV97.up g271)) (OwnS.sl (hV98.up g271)) (OwnS.sl (hV99.up g271)) (OwnS.sl (hV100.up g271))) ?_
    intro w273 ho274 hb275
    have g276 : Grow w0 w273 := g267.only ho274 (by omega)
    have g277 : Siz w2 w273 := Siz.below g268.size ho274.below
    have g278 : Siz w18 w273 := Siz.below g269.size ho274.below
    have g279 : Siz w37 w273 := Siz.below g270.size ho274.below
    have hv282 : Holds (Is (PtrV bk50)) (a258.eval (.tmp 4)) w273 := is_any hv265
    have hV283 : Holds _ V76 w273 := OwnS.only (hV97.up g271) ho274 (by omega)
    have hV284 : Holds _ V77 w273 := OwnS.only (hV98.up g271) ho274 (by omega)
    have hV285 : Holds _ V78 w273 := OwnS.only (hV99.up g271) ho274 (by omega)
    have hV286 : Holds _ V79 w273 := OwnS.only (hV100.up g271) ho274 (by omega)
    refine wpList_nil ?_
    refine then_ ?_
    refine wp_ret ?_
    refine ret_cell rfl Tryz.underlying28 rfl (by kernel_rfl) hf260 g276 (hb275.ptr hv282) ?_
    exact sto_cast (mkO (OwnS.mono hV283 (by omega)) (OwnS.mono hV284 (by omega)) (OwnS.mono hV285 (by omega)) (OwnS.mono hV286 (by omega))) (by first | exact close_yes hp | exact close_no hp)
set_option maxRecDepth 100000 in
theorem c_Lock {s : GState} {n : UInt64} (hs : stOK s) : Con2 9 (StF s) (Is (nmV n)) (fun _ => Two (Is (lockV (lkV s.locks n))) (Is (.bool (lkB s.locks n)))) := by
  intro lo v0 v1 w0 hlo hv0 hv1
  refine enter Tryz.func9 rfl Tryz.ntmps9 (by simp) ?_
  intro a0 hf0 ha
  obtain ⟨va0, vb0, vc0, vd0, he0, hva0, hvb0, hvc0, hvd0⟩ := openF hv0
  have h00 : Holds (Is _) (a0.eval (.tmp 0)) w0 := arg_holds ha rfl he0
  have h01 : Holds _ (a0.eval (.tmp 1)) w0 := arg_holds ha rfl hv1
  clear ha
  have g0 : Grow w0 w0 := Grow.refl _
  obtain ⟨hs1, hs2, hs3, hs4⟩ := id hs
  refine wp_seq ?_
  refine wp_region_lit ?_
  refine wp_seg (l1 := [_]) [([0], [])] [1] w0.heap.size hf0 g0.size (by kernel_rfl) (bund_cons h00 bund_nil) ?_
  refine ch rfl (ob_box_state (arg_free 0 rfl rfl)) ?_
  refine ch_nil ?_
  intro a1 w2 hf3 hg4 hk5 hn6
  have h7 : Holds _ (a1.eval (.tmp 2)) w2 := hn6.at 0 0 rfl rfl rfl
  have h8 := hk5.holds rfl h01
  have g9 := g0.trans hg4
  obtain ⟨bk10, hl11, hv12, hb13⟩ := OwnB.blk (lo := w0.heap.size) h7
  clear h01 g0 hf0 hk5 hn6
  have g14 : Grow w2 w2 := Grow.refl _
  have hl15 : bk10 < w2.heap.size := hb13.lt
  have hz16 : w0.heap.size ≤ w2.heap.size := g9.size
  refine wp_seg (l1 := [_]) [([1], [])] [2] w2.heap.size hf3 g14.size (by kernel_rfl) (bund_cons (is_any h8) bund_nil) ?_
  refine ch rfl (ob_box_nm (arg_free 0 rfl rfl)) ?_
  refine ch_nil ?_
  intro a17 w18 hf19 hg20 hk21 hn22
  have h23 : Holds _ (a17.eval (.tmp 3)) w18 := hn22.at 0 0 rfl rfl rfl
  have hv24 : Holds (Is (PtrV bk10)) (a17.eval (.tmp 2)) w18 := is_any (hk21.holds rfl hv12)
  have hb25 := hb13.up hg20
  have g26 := g9.trans hg20
  have g27 := g14.trans hg20
  obtain ⟨bk28, hl29, hv30, hb31⟩ := OwnB.blk (lo := w2.heap.size) h23
  clear hv12 hb13 g9 g14 hf3 hk21 hn22
  have g32 : Grow w18 w18 := Grow.refl _
  have hl33 : bk10 < w18.heap.size := hb25.lt
  have hl34 : bk28 < w18.heap.size := hb31.lt
  have hz35 : w2.heap.size ≤ w18.heap.size := g27.size
  refine wp_all [([], []), ([], [])] [2, 3] w18.heap.size hf19 g32.size (by kernel_rfl) bund_nil ?_
  refine ch rfl (ob_alloc_lock) ?_
  refine ch rfl (ob_assign arg_c) ?_
  refine ch_nil ?_
  intro a36 w37 hf38 hg39 hk40 hn41
  have h42 : Holds _ (a36.eval (.tmp 4)) w37 := hn41.at 0 1 rfl rfl rfl
  have hv43 : Holds (Is (PtrV bk10)) (a36.eval (.tmp 2)) w37 := is_any (hk40.holds rfl hv24)
  have hb44 := hb25.up hg39
  have hv45 : Holds (Is (PtrV bk28)) (a36.eval (.tmp 3)) w37 := is_any (hk40.holds rfl hv30)
  have hb46 := hb31.up hg39
  have g47 := g26.trans hg39
  have g48 := g27.trans hg39
  have g49 := g32.trans hg39
  obtain ⟨bk50, hl51, hv52, hb53⟩ := OwnB.blk (lo := w18.heap.size) h42
  clear hv24 hb25 hv30 hb31 g26 g27 g32 hf19 hk40 hn41
  refine then_ ?_
  refine wp_seq ?_
  refine wp_seq ?_
  have g54 : Grow w37 w37 := Grow.refl _
  have hl55 : bk10 < w37.heap.size := hb44.lt
  have hl56 : bk28 < w37.heap.size := hb46.lt
  have hl57 : bk50 < w37.heap.size := hb53.lt
  have hz58 : w18.heap.size ≤ w37.heap.size := g49.size
  refine wp_region_lit ?_
  refine wp_all [([2], []), ([3], []), ([], [0, 1]), ([], [2])] [2, 4] w37.heap.size hf38 g54.size (by kernel_rfl) (bund_cons (hb44.ownp hv43) (bund_cons (hb46.ownp hv45) bund_nil)) ?_
  refine ch rfl (ob_load_state (ArgOK.ownp (arg_free 0 rfl rfl))) ?_
  refine ch rfl (ob_load_nm (ArgOK.ownp (arg_free 1 rfl rfl))) ?_
  refine ch rfl (ob_call2 (by kernel_rfl) (c_findK ?_) (ArgOK.val (arg_op 0 1 rfl rfl rfl rfl) (mkFs (s := s) (hva0.up g47) (hvb0.up g47) (hvc0.up g47) (hvd0.up g47))) (arg_op 1 0 rfl rfl rfl rfl)) ?_
  · assumption
  refine ch rfl (ob_assign (arg_op 2 0 rfl rfl rfl rfl)) ?_
  refine ch_nil ?_
  intro a59 w60 hf61 hg62 hk63 hn64
  have h65 : Holds _ (a59.eval (.tmp 6)) w60 := hn64.at 3 0 rfl rfl rfl
  have hv66 : Holds (Is (PtrV bk10)) (a59.eval (.tmp 2)) w60 := is_any (hk63.holds rfl hv43)
  have hb67 := hb44.up hg62
  have hv68 : Holds (Is (PtrV bk50)) (a59.eval (.tmp 4)) w60 := is_any (hk63.holds rfl hv52)
  have hb69 := hb53.up hg62
  have g70 := g47.trans hg62
  have g71 := g48.trans hg62
  have g72 := g49.trans hg62
  have g73 := g54.trans hg62
  clear hv43 hb44 hv52 hb53 g47 g48 g49 g54 hf38 hk63 hn64
  refine then_ ?_
  refine wp_seq ?_
  refine wp_region_lit ?_
  refine wp_all [([6], []), ([], [0])] [2, 4, 6] w37.heap.size hf61 g73.size (by kernel_rfl) (bund_cons h65 bund_nil) ?_
  refine ch rfl (ob_move (arg_free 0 rfl rfl)) ?_
  refine ch rfl (ob_geq (arg_op 0 0 rfl rfl rfl rfl) arg_c) ?_
  refine ch_nil ?_
  intro a74 w75 hf76 hg77 hk78 hn79
  have h80 : Holds _ (a74.eval (.tmp 11)) w75 := hn79.at 1 0 rfl rfl rfl
  have h81 := hk78.holds rfl (h65.up hg77)
  have hv82 : Holds (Is (PtrV bk10)) (a74.eval (.tmp 2)) w75 := is_any (hk78.holds rfl hv66)
  have hb83 := hb67.up hg77
  have hv84 : Holds (Is (PtrV bk50)) (a74.eval (.tmp 4)) w75 := is_any (hk78.holds rfl hv68)
  have hb85 := hb69.up hg77
  have g86 := g70.trans hg77
  have g87 := g71.trans hg77
  have g88 := g72.trans hg77
  have g89 := g73.trans hg77
  clear h65 hv66 hb67 hv68 hb69 g70 g71 g72 g73 hf61 hk78 hn79 hg77
  refine then_ ?_
  refine wp_if h80 ?_ ?_
  · intro hc90
    try simp only [cond_norm] at hc90
    have hp : 0 ≤ fndK s.locks n := hc90; have hq := fndK_lt hp; have hv := lk_yes hp; have hb := (lk_has hp).symm
    refine wp_seq ?_
    have g91 : Grow w75 w75 := Grow.refl _
    have hl92 : bk10 < w75.heap.size := hb83.lt
    have hl93 : bk50 < w75.heap.size := hb85.lt
    have hz94 : w37.heap.size ≤ w75.heap.size := g89.size
    refine wp_region_lit ?_
    refine wp_seg (l1 := [_, _, _, _, _]) [([2], []), ([], [0]), ([6], []), ([], [1, 2]), ([], [3])] [4] w75.heap.size hf76 g91.size (by kernel_rfl) (bund_cons (hb83.ownp hv82) (bund_cons h81 bund_nil)) ?_
    refine ch rfl (ob_faP (n := 0) (arg_free 0 rfl rfl) Tryz.underlying28 rfl (by kernel_rfl)) ?_
    refine ch rfl (ob_loadP (arg_op 0 0 rfl rfl rfl rfl) Tryz.underlying24 rfl rfl) ?_
    refine ch rfl (ob_move (arg_free 1 rfl rfl)) ?_
    refine ch rfl (ob_ix (ArgOK.val (arg_op 1 1 rfl rfl rfl rfl) (hvc0.up g86)) (arg_op 2 0 rfl rfl rfl rfl) (hq.2.symm) ?_ Tryz.underlying24 szLock) ?_
    · exact hq.1
    refine ch rfl (ob_load_lock (arg_op 3 0 rfl rfl rfl rfl)) ?_
    refine ch_nil ?_
    intro a95 w96 hf97 hg98 hk99 hn100
    have h101 : Holds _ (a95.eval (.tmp 16)) w96 := hn100.at 4 0 rfl rfl rfl
    have hv102 : Holds (Is (PtrV bk50)) (a95.eval (.tmp 4)) w96 := is_any (hk99.holds rfl hv84)
    have hb103 := hb85.up hg98
    have g104 := g86.trans hg98
    have g105 := g87.trans hg98
    have g106 := g88.trans hg98
    have g107 := g89.trans hg98
    have g108 := g91.trans hg98
    clear hv84 hb85 g86 g87 g88 g89 g91 hf76 hk99 hn100
    refine wl_store_lock hv102 hb103 rfl h101 ?_
    intro w109 ho110 hb111
    have g112 : Grow w0 w109 := g104.only ho110 (by omega)
    have g113 : Grow w2 w109 := g105.only ho110 (by omega)
    have g114 : Grow w18 w109 := g106.only ho110 (by omega)
    have hv117 : Holds (Is (PtrV bk50)) (a95.eval (.tmp 4)) w109 := is_any hv102
    refine wp_all [([], [])] [4] w18.heap.size hf97 g114.size (by kernel_rfl) bund_nil ?_
    refine ch rfl (ob_assign arg_c) ?_
    refine ch_nil ?_
    intro a118 w119 hf120 hg121 hk122 hn123
    have h124 : Holds _ (a118.eval (.tmp 5)) w119 := hn123.at 0 0 rfl rfl rfl
    have hv125 : Holds (Is (PtrV bk50)) (a118.eval (.tmp 4)) w119 := is_any (hk122.holds rfl hv117)
    have hb126 := hb111.up hg121
    have g127 := g112.trans hg121
    have g128 := g113.trans hg121
    have g129 := g114.trans hg121
    clear hv117 hb111 g112 g113 g114 hf97 hk122 hn123 hg121
    refine then_ ?_
    refine wp_ret ?_
    refine thenR ?_
    refine ret_cell_tmp rfl Tryz.underlying32 rfl (by kernel_rfl) hf120 g127 (hb126.ptr hv125) ?_ (is_cast h124 (congrArg Value.bool hb))
    exact congrArg lockV hv
  · intro hc90
    try simp only [cond_norm] at hc90
    have hp : ¬ 0 ≤ fndK s.locks n := hc90; have hv := lk_no hp; have hb := (lk_not hp).symm
    refine wp_skip ?_
    refine then_ ?_
    refine wp_seq ?_
    have g130 : Grow w75 w75 := Grow.refl _
    have hl131 : bk10 < w75.heap.size := hb83.lt
    have hl132 : bk50 < w75.heap.size := hb85.lt
    have hz133 : w37.heap.size ≤ w75.heap.size := g89.size
    refine wp_region_lit ?_
    refine wp_seg (l1 := [_]) [([], [])] [4] w75.heap.size hf76 g130.size (by kernel_rfl) bund_nil ?_
    refine ch rfl (ob_build_lock0) ?_
    refine ch_nil ?_
    intro a134 w135 hf136 hg137 hk138 hn139
    have h140 : Holds _ (a134.eval (.tmp 17)) w135 := hn139.at 0 0 rfl rfl rfl
    have hv141 : Holds (Is (PtrV bk50)) (a134.eval (.tmp 4)) w135 := is_any (hk138.holds rfl hv84)
    have hb142 := hb85.up hg137
    have g143 := g86.trans hg137
    have g144 := g87.trans hg137
    have g145 := g88.trans hg137
    have g146 := g89.trans hg137
    have g147 := g130.trans hg137
    clear hv84 hb85 g86 g87 g88 g89 g130 hf76 hk138 hn139
    refine wl_store_lock hv141 hb142 rfl h140 ?_
    intro w148 ho149 hb150
    have g151 : Grow w0 w148 := g143.only ho149 (by omega)
    have g152 : Grow w2 w148 := g144.only ho149 (by omega)
    have g153 : Grow w18 w148 := g145.only ho149 (by omega)
    have hv156 : Holds (Is (PtrV bk50)) (a134.eval (.tmp 4)) w148 := is_any hv141
    refine wp_all [([], [])] [4] w18.heap.size hf136 g153.size (by kernel_rfl) bund_nil ?_
    refine ch rfl (ob_assign arg_c) ?_
    refine ch_nil ?_
    intro a157 w158 hf159 hg160 hk161 hn162
    have h163 : Holds _ (a157.eval (.tmp 5)) w158 := hn162.at 0 0 rfl rfl rfl
    have hv164 : Holds (Is (PtrV bk50)) (a157.eval (.tmp 4)) w158 := is_any (hk161.holds rfl hv156)
    have hb165 := hb150.up hg160
    have g166 := g151.trans hg160
    have g167 := g152.trans hg160
    have g168 := g153.trans hg160
    clear hv156 hb150 g151 g152 g153 hf136 hk161 hn162 hg160
    refine then_ ?_
    refine wp_ret ?_
    refine ret_cell_tmp rfl Tryz.underlying32 rfl (by kernel_rfl) hf159 g166 (hb165.ptr hv164) ?_ (is_cast h163 (congrArg Value.bool hb))
    exact congrArg lockV hv
set_option maxRecDepth 100000 in
theorem c_rFindLock {s : GState} {n : UInt64} (hs : stOK s) : Con2 10 (StF s) (Is (nmV n)) (fun _ => Two (Is (lockV (lkV s.locks n))) (Is (.bool (lkB s.locks n)))) := by
  intro lo v0 v1 w0 hlo hv0 hv1
  refine enter Tryz.func10 rfl Tryz.ntmps10 (by simp) ?_
  intro a0 hf0 ha
  obtain ⟨va0, vb0, vc0, vd0, he0, hva0, hvb0, hvc0, hvd0⟩ := openF hv0
  have h00 : Holds (Is _) (a0.eval (.tmp 0)) w0 := arg_holds ha rfl he0
  have h01 : Holds _ (a0.eval (.tmp 1)) w0 := arg_holds ha rfl hv1
  clear ha
  have g0 : Grow w0 w0 := Grow.refl _
  obtain ⟨hs1, hs2, hs3, hs4⟩ := id hs
  refine wp_seq ?_
  refine wp_region_lit ?_
  refine wp_seg (l1 := [_]) [([0], [])] [1] w0.heap.size hf0 g0.size (by kernel_rfl) (bund_cons h00 bund_nil) ?_
  refine ch rfl (ob_box_state (arg_free 0 rfl rfl)) ?_
  refine ch_nil ?_
  intro a1 w2 hf3 hg4 hk5 hn6
  have h7 : Holds _ (a1.eval (.tmp 2)) w2 := hn6.at 0 0 rfl rfl rfl
  have h8 := hk5.holds rfl h01
  have g9 := g0.trans hg4
  obtain ⟨bk10, hl11, hv12, hb13⟩ := OwnB.blk (lo := w0.heap.size) h7
  clear h01 g0 hf0 hk5 hn6
  have g14 : Grow w2 w2 := Grow.refl _
  have hl15 : bk10 < w2.heap.size := hb13.lt
  have hz16 : w0.heap.size ≤ w2.heap.size := g9.size
  refine wp_seg (l1 := [_]) [([1], [])] [2] w2.heap.size hf3 g14.size (by kernel_rfl) (bund_cons (is_any h8) bund_nil) ?_
  refine ch rfl (ob_box_nm (arg_free 0 rfl rfl)) ?_
  refine ch_nil ?_
  intro a17 w18 hf19 hg20 hk21 hn22
  have h23 : Holds _ (a17.eval (.tmp 3)) w18 := hn22.at 0 0 rfl rfl rfl
  have hv24 : Holds (Is (PtrV bk10)) (a17.eval (.tmp 2)) w18 := is_any (hk21.holds rfl hv12)
  have hb25 := hb13.up hg20
  have g26 := g9.trans hg20
  have g27 := g14.trans hg20
  obtain ⟨bk28, hl29, hv30, hb31⟩ := OwnB.blk (lo := w2.heap.size) h23
  clear hv12 hb13 g9 g14 hf3 hk21 hn22
  have g32 : Grow w18 w18 := Grow.refl _
  have hl33 : bk10 < w18.heap.size := hb25.lt
  have hl34 : bk28 < w18.heap.size := hb31.lt
  have hz35 : w2.heap.size ≤ w18.heap.size := g27.size
  refine wp_all [([], []), ([], [])] [2, 3] w18.heap.size hf19 g32.size (by kernel_rfl) bund_nil ?_
  refine ch rfl (ob_alloc_lock) ?_
  refine ch rfl (ob_assign arg_c) ?_
  refine ch_nil ?_
  intro a36 w37 hf38 hg39 hk40 hn41
  have h42 : Holds _ (a36.eval (.tmp 4)) w37 := hn41.at 0 1 rfl rfl rfl
  have hv43 : Holds (Is (PtrV bk10)) (a36.eval (.tmp 2)) w37 := is_any (hk40.holds rfl hv24)
  have hb44 := hb25.up hg39
  have hv45 : Holds (Is (PtrV bk28)) (a36.eval (.tmp 3)) w37 := is_any (hk40.holds rfl hv30)
  have hb46 := hb31.up hg39
  have g47 := g26.trans hg39
  have g48 := g27.trans hg39
  have g49 := g32.trans hg39
  obtain ⟨bk50, hl51, hv52, hb53⟩ := OwnB.blk (lo := w18.heap.size) h42
  clear hv24 hb25 hv30 hb31 g26 g27 g32 hf19 hk40 hn41
  refine then_ ?_
  refine wp_seq ?_
  refine wp_seq ?_
  refine wp_region_lit ?_
  refine wp_all [([], [])] [2, 3, 4] w18.heap.size hf38 g49.size (by kernel_rfl) bund_nil ?_
  refine ch rfl (ob_assign arg_c) ?_
  refine ch_nil ?_
  intro a54 w55 hf56 hg57 hk58 hn59
  have h60 : Holds _ (a54.eval (.tmp 6)) w55 := hn59.at 0 0 rfl rfl rfl
  have hv61 : Holds (Is (PtrV bk10)) (a54.eval (.tmp 2)) w55 := is_any (hk58.holds rfl hv43)
  have hb62 := hb44.up hg57
  have hv63 : Holds (Is (PtrV bk28)) (a54.eval (.tmp 3)) w55 := is_any (hk58.holds rfl hv45)
  have hb64 := hb46.up hg57
  have hv65 : Holds (Is (PtrV bk50)) (a54.eval (.tmp 4)) w55 := is_any (hk58.holds rfl hv52)
  have hb66 := hb53.up hg57
  have g67 := g47.trans hg57
  have g68 := g48.trans hg57
  have g69 := g49.trans hg57
  clear hv43 hb44 hv45 hb46 hv52 hb53 g47 g48 g49 hf38 hk58 hn59 hg57
  refine then_ ?_
  refine wp_block ?_
  have g70 : Grow w55 w55 := Grow.refl _
  have hl71 : bk10 < w55.heap.size := hb62.lt
  have hl72 : bk28 < w55.heap.size := hb64.lt
  have hl73 : bk50 < w55.heap.size := hb66.lt
  have hz74 : w18.heap.size ≤ w55.heap.size := g69.size
  refine wp_loopL (α := Nat) (fun i a' w' => Fr 28 a' ∧ (i ≤ s.locks.length) ∧ (∀ j, j < i → (fun k : GLock => decide (k.name = n)) (s.locks.getD j default) = false) ∧ Grow w0 w' ∧ Grow w2 w' ∧ Grow w18 w' ∧ Grow w55 w' ∧ Keep [2, 3, 4] a54 a' ∧ Holds (Is (intV (i : Int))) (a'.eval (.tmp 6)) w' ∧ Blk bk10 (_) w' ∧ Blk bk28 (_) w' ∧ Blk bk50 (_) w') (fun i => s.locks.length - i) (0) ⟨hf56, (by omega), (by exact fun j hj => absurd hj (Nat.not_lt_zero j)), g67, g68, g69, g70, Keep.refl _ _, (is_cast h60 (by first | rfl | (refine congrArg intV ?_; (try dsimp only); omega))), hb62, hb64, hb66⟩ ?_
  intro i a75 w76 ⟨hf77, hi79, hi80, g81, g82, g83, g84, kk78, h85, hb86, hb87, hb88⟩
  have hv89 : Holds (Is (PtrV bk10)) (a75.eval (.tmp 2)) w76 := is_any (kk78.holds rfl hv61)
  have hv90 : Holds (Is (PtrV bk28)) (a75.eval (.tmp 3)) w76 := is_any (kk78.holds rfl hv63)
  have hv91 : Holds (Is (PtrV bk50)) (a75.eval (.tmp 4)) w76 := is_any (kk78.holds rfl hv65)
  refine wp_seq ?_
  refine wp_seq ?_
  refine wp_region_lit ?_
  refine wp_all [([6], []), ([2], []), ([], [1]), ([], [2]), ([], [0, 3])] [2, 3, 4, 6] w55.heap.size hf77 g84.size (by kernel_rfl) (bund_cons h85 (bund_cons (hb86.ownp hv89) bund_nil)) ?_
  refine ch rfl (ob_move (arg_free 0 rfl rfl)) ?_
  refine ch rfl (ob_faP (n := 0) (arg_free 1 rfl rfl) Tryz.underlying28 rfl (by kernel_rfl)) ?_
  refine ch rfl (ob_loadP (arg_op 1 0 rfl rfl rfl rfl) Tryz.underlying24 rfl rfl) ?_
  refine ch rfl (ob_len (ArgOK.val (arg_op 2 0 rfl rfl rfl rfl) (hvc0.up g81)) Tryz.underlying24) ?_
  refine ch rfl (ob_lss (arg_op 0 3 rfl rfl rfl rfl) (arg_op 3 0 rfl rfl rfl rfl)) ?_
  refine ch_nil ?_
  intro a92 w93 hf94 hg95 hk96 hn97
  have h98 : Holds _ (a92.eval (.tmp 11)) w93 := hn97.at 4 0 rfl rfl rfl
  have h99 := hk96.holds rfl (h85.up hg95)
  have hv100 : Holds (Is (PtrV bk10)) (a92.eval (.tmp 2)) w93 := is_any (hk96.holds rfl hv89)
  have hb101 := hb86.up hg95
  have hv102 : Holds (Is (PtrV bk28)) (a92.eval (.tmp 3)) w93 := is_any (hk96.holds rfl hv90)
  have hb103 := hb87.up hg95
  have hv104 : Holds (Is (PtrV bk50)) (a92.eval (.tmp 4)) w93 := is_any (hk96.holds rfl hv91)
  have hb105 := hb88.up hg95
  have g106 := g81.trans hg95
  have g107 := g82.trans hg95
  have g108 := g83.trans hg95
  have g109 := g84.trans hg95
  have kk110 : Keep _ a54 a92 := kk78.trans hk96 rfl
  clear h85 hv89 hb86 hv90 hb87 hv91 hb88 g81 g82 g83 g84 kk78 hf77 hk96 hn97 hg95
  refine then_ ?_
  refine wp_if h98 ?_ ?_
  · intro hc111
    try simp only [cond_norm] at hc111
    refine wp_skip ?_
    refine then_ ?_
    refine wp_seq ?_
    refine wp_block ?_
    refine wp_seq ?_
    refine wp_calm [0, 1, 0, 7, 15, 31, 0, 127] [([2], []), ([], [0]), ([6], []), ([], [1, 2]), ([], [3]), ([], [4]), ([3], []), ([], [5, 6])] [2, 3, 4, 6] w55.heap.size hf94 g109.size (by kernel_rfl) (bund_cons (hb101.ownp hv100) (bund_cons h99 (bund_cons (hb103.ownp hv102) bund_nil))) ?_
    intro ws112 hs113
    refine ch rfl (ob_faP (n := 0) (arg_free 0 rfl rfl) Tryz.underlying28 rfl (by kernel_rfl)) ?_
    refine ch rfl (ob_loadP (arg_op 0 0 rfl rfl rfl rfl) Tryz.underlying24 rfl rfl) ?_
    refine ch rfl (ob_move (arg_free 1 rfl rfl)) ?_
    refine ch rfl (ob_ix (ArgOK.val (arg_op 1 1 rfl rfl rfl rfl) ((hvc0.up g106).up hs113)) (arg_op 2 0 rfl rfl rfl rfl) (rfl) ?_ Tryz.underlying24 szLock) ?_
    · omega
    refine ch rfl (ob_fa_lock0 (arg_op 3 0 rfl rfl rfl rfl)) ?_
    refine ch rfl (ob_load_nm (arg_op 4 0 rfl rfl rfl rfl)) ?_
    refine ch rfl (ob_load_nm (ArgOK.ownp (arg_free 2 rfl rfl))) ?_
    refine ch rfl (ob_eqnm (arg_op 5 1 rfl rfl rfl rfl) (arg_op 6 0 rfl rfl rfl rfl)) ?_
    refine ch_nil ?_
    intro a114 w115 hf116 hg117 hk118 hn119
    have h120 : Holds _ (a114.eval (.tmp 21)) w115 := hn119.at 7 0 rfl rfl rfl
    have h121 := hk118.holds rfl (h99.up hg117)
    have hv122 : Holds (Is (PtrV bk10)) (a114.eval (.tmp 2)) w115 := is_any (hk118.holds rfl hv100)
    have hb123 := hb101.up hg117
    have hv124 : Holds (Is (PtrV bk28)) (a114.eval (.tmp 3)) w115 := is_any (hk118.holds rfl hv102)
    have hb125 := hb103.up hg117
    have hv126 : Holds (Is (PtrV bk50)) (a114.eval (.tmp 4)) w115 := is_any (hk118.holds rfl hv104)
    have hb127 := hb105.up hg117
    have g128 := g106.trans hg117
    have g129 := g107.trans hg117
    have g130 := g108.trans hg117
    have g131 := g109.trans hg117
    have kk132 : Keep _ a54 a114 := kk110.trans hk118 rfl
    clear h99 hv100 hb101 hv102 hb103 hv104 hb105 g106 g107 g108 g109 kk110 hf94 hk118 hn119 hg117
    refine then_ ?_
    refine wp_if h120 ?_ ?_
    · intro hc133
      try simp only [cond_norm] at hc133
      have hz := idx_hit (p := fun k : GLock => decide (k.name = n)) (l := s.locks) (i := i) (by assumption) (by omega) (decide_eq_true hc133); have hp : 0 ≤ fndK s.locks n := (by unfold fndK; omega); have hi : (fndK s.locks n).toNat = i := (by unfold fndK; omega); have hv : s.locks.getD i default = lkV s.locks n := (by rw [← lk_yes hp, hi]); have hb := (lk_has hp).symm
      refine wp_seq ?_
      have g134 : Grow w115 w115 := Grow.refl _
      have hl135 : bk10 < w115.heap.size := hb123.lt
      have hl136 : bk28 < w115.heap.size := hb125.lt
      have hl137 : bk50 < w115.heap.size := hb127.lt
      have hz138 : w55.heap.size ≤ w115.heap.size := g131.size
      refine wp_region_lit ?_
      refine wp_seg (l1 := [_, _, _, _, _]) [([2], []), ([], [0]), ([6], []), ([], [1, 2]), ([], [3])] [2, 3, 4] w115.heap.size hf116 g134.size (by kernel_rfl) (bund_cons (hb123.ownp hv122) (bund_cons h121 bund_nil)) ?_
      refine ch rfl (ob_faP (n := 0) (arg_free 0 rfl rfl) Tryz.underlying28 rfl (by kernel_rfl)) ?_
      refine ch rfl (ob_loadP (arg_op 0 0 rfl rfl rfl rfl) Tryz.underlying24 rfl rfl) ?_
      refine ch rfl (ob_move (arg_free 1 rfl rfl)) ?_
      refine ch rfl (ob_ix (ArgOK.val (arg_op 1 1 rfl rfl rfl rfl) (hvc0.up g128)) (arg_op 2 0 rfl rfl rfl rfl) (rfl) ?_ Tryz.underlying24 szLock) ?_
      · omega
      refine ch rfl (ob_load_lock (arg_op 3 0 rfl rfl rfl rfl)) ?_
      refine ch_nil ?_
      intro a139 w140 hf141 hg142 hk143 hn144
      have h145 : Holds _ (a139.eval (.tmp 26)) w140 := hn144.at 4 0 rfl rfl rfl
      have hv146 : Holds (Is (PtrV bk10)) (a139.eval (.tmp 2)) w140 := is_any (hk143.holds rfl hv122)
      have hb147 := hb123.up hg142
      have hv148 : Holds (Is (PtrV bk28)) (a139.eval (.tmp 3)) w140 := is_any (hk143.holds rfl hv124)
      have hb149 := hb125.up hg142
      have hv150 : Holds (Is (PtrV bk50)) (a139.eval (.tmp 4)) w140 := is_any (hk143.holds rfl hv126)
      have hb151 := hb127.up hg142
      have g152 := g128.trans hg142
      have g153 := g129.trans hg142
      have g154 := g130.trans hg142
      have g155 := g131.trans hg142
      have g156 := g134.trans hg142
      have kk157 : Keep _ a54 a139 := kk132.trans hk143 rfl
      clear hv122 hb123 hv124 hb125 hv126 hb127 g128 g129 g130 g131 g134 kk132 hf116 hk143 hn144
      refine wl_store_lock hv150 hb151 rfl h145 ?_
      intro w158 ho159 hb160
      have g161 : Grow w0 w158 := g152.only ho159 (by omega)
      have g162 : Grow w2 w158 := g153.only ho159 (by omega)
      have g163 : Grow w18 w158 := g154.only ho159 (by omega)
      have hv166 : Holds (Is (PtrV bk10)) (a139.eval (.tmp 2)) w158 := is_any hv146
      have hb167 : Blk bk10 _ w158 := hb147.only ho159 (by omega)
      have hv168 : Holds (Is (PtrV bk28)) (a139.eval (.tmp 3)) w158 := is_any hv148
      have hb169 : Blk bk28 _ w158 := hb149.only ho159 (by omega)
      have hv170 : Holds (Is (PtrV bk50)) (a139.eval (.tmp 4)) w158 := is_any hv150
      refine wp_all [([], [])] [2, 3, 4] w18.heap.size hf141 g163.size (by kernel_rfl) bund_nil ?_
      refine ch rfl (ob_assign arg_c) ?_
      refine ch_nil ?_
      intro a171 w172 hf173 hg174 hk175 hn176
      have h177 : Holds _ (a171.eval (.tmp 5)) w172 := hn176.at 0 0 rfl rfl rfl
      have hv178 : Holds (Is (PtrV bk10)) (a171.eval (.tmp 2)) w172 := is_any (hk175.holds rfl hv166)
      have hb179 := hb167.up hg174
      have hv180 : Holds (Is (PtrV bk28)) (a171.eval (.tmp 3)) w172 := is_any (hk175.holds rfl hv168)
      have hb181 := hb169.up hg174
      have hv182 : Holds (Is (PtrV bk50)) (a171.eval (.tmp 4)) w172 := is_any (hk175.holds rfl hv170)
      have hb183 := hb160.up hg174
      have g184 := g161.trans hg174
      have g185 := g162.trans hg174
      have g186 := g163.trans hg174
      have kk187 : Keep _ a54 a171 := kk157.trans hk175 rfl
      clear hv166 hb167 hv168 hb169 hv170 hb160 g161 g162 g163 kk157 hf141 hk175 hn176 hg174
      refine then_ ?_
      refine wp_ret ?_
      refine blockR ?_
      refine thenR ?_
      refine thenR ?_
      refine blockR ?_
      refine thenR ?_
      refine ret_cell_tmp rfl Tryz.underlying32 rfl (by kernel_rfl) hf173 g184 (hb183.ptr hv182) ?_ (is_cast h177 (congrArg Value.bool hb))
      exact congrArg lockV hv
    · intro hc133
      try simp only [cond_norm] at hc133
      have hst := none_step (p := fun k : GLock => decide (k.name = n)) (l := s.locks) (i := i) (by assumption) (decide_eq_false hc133)
      refine wp_skip ?_
      refine blockN ?_
      refine then_ ?_
      refine wp_region_lit ?_
      refine wp_all [([6], []), ([], [0]), ([], [1])] [2, 3, 4] w55.heap.size hf116 g131.size (by kernel_rfl) (bund_cons h121 bund_nil) ?_
      refine ch rfl (ob_move (arg_free 0 rfl rfl)) ?_
      first
        | (refine ch rfl (ob_add' (arg_op 0 0 rfl rfl rfl rfl) arg_c ?_) ?_; · omega)
        | refine ch rfl (ob_add (arg_op 0 0 rfl rfl rfl rfl) arg_c) ?_
      refine ch rfl (ob_assign (arg_op 1 0 rfl rfl rfl rfl)) ?_
      refine ch_nil ?_
      intro a188 w189 hf190 hg191 hk192 hn193
      have h194 : Holds _ (a188.eval (.tmp 6)) w189 := hn193.at 2 0 rfl rfl rfl
      have hv195 : Holds (Is (PtrV bk10)) (a188.eval (.tmp 2)) w189 := is_any (hk192.holds rfl hv122)
      have hb196 := hb123.up hg191
      have hv197 : Holds (Is (PtrV bk28)) (a188.eval (.tmp 3)) w189 := is_any (hk192.holds rfl hv124)
      have hb198 := hb125.up hg191
      have hv199 : Holds (Is (PtrV bk50)) (a188.eval (.tmp 4)) w189 := is_any (hk192.holds rfl hv126)
      have hb200 := hb127.up hg191
      have g201 := g128.trans hg191
      have g202 := g129.trans hg191
      have g203 := g130.trans hg191
      have g204 := g131.trans hg191
      have kk205 : Keep _ a54 a188 := kk132.trans hk192 rfl
      clear hv122 hb123 hv124 hb125 hv126 hb127 g128 g129 g130 g131 kk132 hf116 hk192 hn193 hg191
      refine then_ ?_
      exact ⟨(i + 1), (by ((try dsimp only); omega)), hf190, (by omega), (by exact hst), g201, g202, g203, g204, kk205, (is_cast h194 (by first | rfl | (refine congrArg intV ?_; (try dsimp only); omega))), hb196, hb198, hb200⟩
  · intro hc111
    try simp only [cond_norm] at hc111
    have hz := idx_none (p := fun k : GLock => decide (k.name = n)) (l := s.locks) (i := i) (by assumption) (by omega); have hp : ¬ 0 ≤ fndK s.locks n := (by unfold fndK; omega); have hv := lk_no hp; have hb := (lk_not hp).symm
    refine wp_exit ?_
    refine thenX ?_
    refine thenX ?_
    refine blockX ?_
    refine then_ ?_
    refine wp_seq ?_
    have g206 : Grow w93 w93 := Grow.refl _
    have hl207 : bk10 < w93.heap.size := hb101.lt
    have hl208 : bk28 < w93.heap.size := hb103.lt
    have hl209 : bk50 < w93.heap.size := hb105.lt
    have hz210 : w55.heap.size ≤ w93.heap.size := g109.size
    refine wp_region_lit ?_
    refine wp_seg (l1 := [_]) [([], [])] [4] w93.heap.size hf94 g206.size (by kernel_rfl) bund_nil ?_
    refine ch rfl (ob_build_lock0) ?_
    refine ch_nil ?_
    intro a211 w212 hf213 hg214 hk215 hn216
    have h217 : Holds _ (a211.eval (.tmp 27)) w212 := hn216.at 0 0 rfl rfl rfl
    have hv218 : Holds (Is (PtrV bk50)) (a211.eval (.tmp 4)) w212 := is_any (hk215.holds rfl hv104)
    have hb219 := hb105.up hg214
    have g220 := g106.trans hg214
    have g221 := g107.trans hg214
    have g222 := g108.trans hg214
    have g223 := g109.trans hg214
    have g224 := g206.trans hg214
    clear hv104 hb105 g106 g107 g108 g109 g206 hf94 hk215 hn216
    refine wl_store_lock hv218 hb219 rfl h217 ?_
    intro w225 ho226 hb227
    have g228 : Grow w0 w225 := g220.only ho226 (by omega)
    have g229 : Grow w2 w225 := g221.only ho226 (by omega)
    have g230 : Grow w18 w225 := g222.only ho226 (by omega)
    have hv233 : Holds (Is (PtrV bk50)) (a211.eval (.tmp 4)) w225 := is_any hv218
    refine wp_all [([], [])] [4] w18.heap.size hf213 g230.size (by kernel_rfl) bund_nil ?_
    refine ch rfl (ob_assign arg_c) ?_
    refine ch_nil ?_
    intro a234 w235 hf236 hg237 hk238 hn239
    have h240 : Holds _ (a234.eval (.tmp 5)) w235 := hn239.at 0 0 rfl rfl rfl
    have hv241 : Holds (Is (PtrV bk50)) (a234.eval (.tmp 4)) w235 := is_any (hk238.holds rfl hv233)
    have hb242 := hb227.up hg237
    have g243 := g228.trans hg237
    have g244 := g229.trans hg237
    have g245 := g230.trans hg237
    clear hv233 hb227 g228 g229 g230 hf213 hk238 hn239 hg237
    refine then_ ?_
    refine wp_ret ?_
    refine ret_cell_tmp rfl Tryz.underlying32 rfl (by kernel_rfl) hf236 g243 (hb242.ptr hv241) ?_ (is_cast h240 (congrArg Value.bool hb))
    exact congrArg lockV hv
theorem befK_hit {l : List GLock} {k : GLock} {i : Nat} (h : ∀ j, j < i → ¬ k.name < (l.getD j default).name) (hi : i ≤ l.length) (he : ¬ (i : Int) < (l.length : Int) ∨ k.name < (l.getD i default).name) : (bef cmpK l k).toNat = i := by
  refine befG_hit (c := cmpK) (fun j hj hc => h j hj (cmpN_pos.1 hc)) hi ?_
  rcases he with h | h
  · exact .inl h
  · exact .inr (cmpN_pos.2 h)
theorem ltK_step {l : List GLock} {k : GLock} {i : Nat} (h : ∀ j, j < i → ¬ k.name < (l.getD j default).name) (he : ¬ k.name < (l.getD i default).name) : ∀ j, j < i + 1 → ¬ k.name < (l.getD j default).name := fun j hj => by
  by_cases e : j = i
  · subst e; exact he
  · exact h j (by omega)
set_option maxRecDepth 100000 in
theorem c_rOpen {s : GState} {k : GLock} (hs : stOK s) : Con2 12 (StF s) (Is (lockV k)) (fun lo => StO lo (openS s k)) := by
  intro lo v0 v1 w0 hlo hv0 hv1
  refine enter Tryz.func12 rfl Tryz.ntmps12 (by simp) ?_
  intro a0 hf0 ha
  obtain ⟨va0, vb0, vc0, vd0, he0, hva0, hvb0, hvc0, hvd0⟩ := openF hv0
  have h00 : Holds (Is _) (a0.eval (.tmp 0)) w0 := arg_holds ha rfl he0
  have h01 : Holds _ (a0.eval (.tmp 1)) w0 := arg_holds ha rfl hv1
  clear ha
  have g0 : Grow w0 w0 := Grow.refl _
  obtain ⟨hs1, hs2, hs3, hs4⟩ := id hs
  refine wp_seq ?_
  refine wp_region_lit ?_
  refine wp_seg (l1 := [_]) [([0], [])] [1] w0.heap.size hf0 g0.size (by kernel_rfl) (bund_cons h00 bund_nil) ?_
  refine ch rfl (ob_box_state (arg_free 0 rfl rfl)) ?_
  refine ch_nil ?_
  intro a1 w2 hf3 hg4 hk5 hn6
  have h7 : Holds _ (a1.eval (.tmp 2)) w2 := hn6.at 0 0 rfl rfl rfl
  have h8 := hk5.holds rfl h01
  have g9 := g0.trans hg4
  obtain ⟨bk10, hl11, hv12, hb13⟩ := OwnB.blk (lo := w0.heap.size) h7
  clear h01 g0 hf0 hk5 hn6
  have g14 : Grow w2 w2 := Grow.refl _
  have hl15 : bk10 < w2.heap.size := hb13.lt
  have hz16 : w0.heap.size ≤ w2.heap.size := g9.size
  refine wp_seg (l1 := [_]) [([1], [])] [2] w2.heap.size hf3 g14.size (by kernel_rfl) (bund_cons (is_any h8) bund_nil) ?_
  refine ch rfl (ob_box_lock (arg_free 0 rfl rfl)) ?_
  refine ch_nil ?_
  intro a17 w18 hf19 hg20 hk21 hn22
  have h23 : Holds _ (a17.eval (.tmp 3)) w18 := hn22.at 0 0 rfl rfl rfl
  have hv24 : Holds (Is (PtrV bk10)) (a17.eval (.tmp 2)) w18 := is_any (hk21.holds rfl hv12)
  have hb25 := hb13.up hg20
  have g26 := g9.trans hg20
  have g27 := g14.trans hg20
  obtain ⟨bk28, hl29, hv30, hb31⟩ := OwnB.blk (lo := w2.heap.size) h23
  clear hv12 hb13 g9 g14 hf3 hk21 hn22
  have g32 : Grow w18 w18 := Grow.refl _
  have hl33 : bk10 < w18.heap.size := hb25.lt
  have hl34 : bk28 < w18.heap.size := hb31.lt
  have hz35 : w2.heap.size ≤ w18.heap.size := g27.size
  refine wp_all [([], [])] [2, 3] w18.heap.size hf19 g32.size (by kernel_rfl) bund_nil ?_
  refine ch rfl (ob_alloc_state) ?_
  refine ch_nil ?_
  intro a36 w37 hf38 hg39 hk40 hn41
  have h42 : Holds _ (a36.eval (.tmp 4)) w37 := hn41.at 0 0 rfl rfl rfl
  have hv43 : Holds (Is (PtrV bk10)) (a36.eval (.tmp 2)) w37 := is_any (hk40.holds rfl hv24)
  have hb44 := hb25.up hg39
  have hv45 : Holds (Is (PtrV bk28)) (a36.eval (.tmp 3)) w37 := is_any (hk40.holds rfl hv30)
  have hb46 := hb31.up hg39
  have g47 := g26.trans hg39
  have g48 := g27.trans hg39
  have g49 := g32.trans hg39
  obtain ⟨bk50, hl51, hv52, hb53⟩ := OwnB.blk (lo := w18.heap.size) h42
  clear hv24 hb25 hv30 hb31 g26 g27 g32 hf19 hk40 hn41
  refine then_ ?_
  refine wp_seq ?_
  have g54 : Grow w37 w37 := Grow.refl _
  have hl55 : bk10 < w37.heap.size := hb44.lt
  have hl56 : bk28 < w37.heap.size := hb46.lt
  have hl57 : bk50 < w37.heap.size := hb53.lt
  have hz58 : w18.heap.size ≤ w37.heap.size := g49.size
  refine wp_region_lit ?_
  refine wp_seg (l1 := [_, _]) [([2], []), ([], [0])] [2, 3, 4] w37.heap.size hf38 g54.size (by kernel_rfl) (bund_cons (hb44.ownp hv43) bund_nil) ?_
  refine ch rfl (ob_load_state (ArgOK.ownp (arg_free 0 rfl rfl))) ?_
  refine ch rfl (ob_call1 (by kernel_rfl) (c_Copy (s := _) ?_) (ArgOK.val (arg_op 0 0 rfl rfl rfl rfl) (mkFs (s := s) (hva0.up g47) (hvb0.up g47) (hvc0.up g47) (hvd0.up g47)))) ?_
  · assumption
  refine ch_nil ?_
  intro a59 w60 hf61 hg62 hk63 hn64
  have h65 : Holds (StO w37.heap.size _) (a59.eval (.tmp 10)) w60 := hn64.at 1 0 rfl rfl rfl
  have hv66 : Holds (Is (PtrV bk10)) (a59.eval (.tmp 2)) w60 := is_any (hk63.holds rfl hv43)
  have hb67 := hb44.up hg62
  have hv68 : Holds (Is (PtrV bk28)) (a59.eval (.tmp 3)) w60 := is_any (hk63.holds rfl hv45)
  have hb69 := hb46.up hg62
  have hv70 : Holds (Is (PtrV bk50)) (a59.eval (.tmp 4)) w60 := is_any (hk63.holds rfl hv52)
  have hb71 := hb53.up hg62
  have g72 := g47.trans hg62
  have g73 := g48.trans hg62
  have g74 := g49.trans hg62
  have g75 := g54.trans hg62
  clear hv43 hb44 hv45 hb46 hv52 hb53 g47 g48 g49 g54 hf38 hk63 hn64
  obtain ⟨V76, V77, V78, V79, h80, hV81, hV82, hV83, hV84⟩ := openO h65
  refine wl_store_state hv66 hb67 rfl h80 (st_oneS (OwnS.sl hV81) (OwnS.sl hV82) (OwnS.sl hV83) (OwnS.sl hV84)) ?_
  intro w85 ho86 hb87
  have g88 : Grow w0 w85 := g72.only ho86 (by omega)
  have g89 : Siz w2 w85 := Siz.below g73.size ho86.below
  have g90 : Siz w18 w85 := Siz.below g74.size ho86.below
  have g91 : Siz w37 w85 := Siz.below g75.size ho86.below
  have hv92 : Holds (Is (PtrV bk10)) (a59.eval (.tmp 2)) w85 := is_any hv66
  have hv93 : Holds (Is (PtrV bk28)) (a59.eval (.tmp 3)) w85 := is_any hv68
  have hb94 : Blk bk28 _ w85 := hb69.only ho86 (by omega)
  have hv95 : Holds (Is (PtrV bk50)) (a59.eval (.tmp 4)) w85 := is_any hv70
  have hb96 : Blk bk50 _ w85 := hb71.only ho86 (by omega)
  have hV97 : Holds _ V76 w85 := OwnS.only hV81 ho86 (by omega)
  have hV98 : Holds _ V77 w85 := OwnS.only hV82 ho86 (by omega)
  have hV99 : Holds _ V78 w85 := OwnS.only hV83 ho86 (by omega)
  have hV100 : Holds _ V79 w85 := OwnS.only hV84 ho86 (by omega)
  refine wpList_nil ?_
  refine then_ ?_
  refine wp_seq ?_
  refine wp_seq ?_
  have g101 : Grow w85 w85 := Grow.refl _
  have hl102 : bk10 < w85.heap.size := hb87.lt
  have hl103 : bk28 < w85.heap.size := hb94.lt
  have hl104 : bk50 < w85.heap.size := hb96.lt
  have hz105 : w37.heap.size ≤ w85.heap.size := g91.size
  refine wp_region_lit ?_
  refine wp_seg (l1 := [_, _, _, _, _, _, _]) [([2], []), ([3], []), ([], [1]), ([], [0, 2]), ([], [3]), ([], [4]), ([], [4])] [2, 3, 4] w85.heap.size hf61 g101.size (by kernel_rfl) (bund_cons (hb87.ownp hv92) (bund_cons (hb94.ownp hv93) bund_nil)) ?_
  refine ch rfl (ob_load_state (ArgOK.ownp (arg_free 0 rfl rfl))) ?_
  refine ch rfl (ob_fa_lock0 (ArgOK.ownp (arg_free 1 rfl rfl))) ?_
  refine ch rfl (ob_load_nm (arg_op 1 0 rfl rfl rfl rfl)) ?_
  refine ch rfl (ob_call2 (by kernel_rfl) (c_rFindLock ?_) (ArgOK.val (arg_op 0 2 rfl rfl rfl rfl) (mkF (OwnS.sl hV97) (OwnS.sl hV98) (OwnS.sl hV99) (OwnS.sl hV100))) (arg_op 2 0 rfl rfl rfl rfl)) ?_
  · assumption
  refine ch rfl (ob_move (arg_op 3 0 rfl rfl rfl rfl)) ?_
  refine ch rfl (ob_extract0 (arg_op 4 0 rfl rfl rfl rfl)) ?_
  refine ch rfl (ob_extract1 (arg_op 4 1 rfl rfl rfl rfl)) ?_
  refine ch_nil ?_
  intro a106 w107 hf108 hg109 hk110 hn111
  have h112 : Holds _ (a106.eval (.tmp 16)) w107 := hn111.at 5 1 rfl rfl rfl
  have h113 : Holds _ (a106.eval (.tmp 17)) w107 := hn111.at 6 0 rfl rfl rfl
  have hv114 : Holds (Is (PtrV bk10)) (a106.eval (.tmp 2)) w107 := is_any (hk110.holds rfl hv92)
  have hb115 := hb87.up hg109
  have hv116 : Holds (Is (PtrV bk28)) (a106.eval (.tmp 3)) w107 := is_any (hk110.holds rfl hv93)
  have hb117 := hb94.up hg109
  have hv118 : Holds (Is (PtrV bk50)) (a106.eval (.tmp 4)) w107 := is_any (hk110.holds rfl hv95)
  have hb119 := hb96.up hg109
  have g120 := g88.trans hg109
  have g121 : Siz w2 w107 := g89.trans hg109
  have g122 : Siz w18 w107 := g90.trans hg109
  have g123 : Siz w37 w107 := g91.trans hg109
  have g124 := g101.trans hg109
  clear hv92 hb87 hv93 hb94 hv95 hb96 g88 g89 g90 g91 g101 hf61 hk110 hn111
  have g125 : Grow w107 w107 := Grow.refl _
  have hl126 : bk10 < w107.heap.size := hb115.lt
  have hl127 : bk28 < w107.heap.size := hb117.lt
  have hl128 : bk50 < w107.heap.size := hb119.lt
  have hz129 : w85.heap.size ≤ w107.heap.size := g124.size
  refine wp_seg (l1 := [_]) [([], [])] [2, 3, 4, 16, 17] w107.heap.size hf108 g125.size (by kernel_rfl) bund_nil ?_
  refine ch rfl (ob_alloc_lock) ?_
  refine ch_nil ?_
  intro a130 w131 hf132 hg133 hk134 hn135
  have h136 : Holds _ (a130.eval (.tmp 5)) w131 := hn135.at 0 0 rfl rfl rfl
  have h137 := hk134.holds rfl h112
  have h138 := hk134.holds rfl h113
  have hv139 : Holds (Is (PtrV bk10)) (a130.eval (.tmp 2)) w131 := is_any (hk134.holds rfl hv114)
  have hb140 := hb115.up hg133
  have hv141 : Holds (Is (PtrV bk28)) (a130.eval (.tmp 3)) w131 := is_any (hk134.holds rfl hv116)
  have hb142 := hb117.up hg133
  have hv143 : Holds (Is (PtrV bk50)) (a130.eval (.tmp 4)) w131 := is_any (hk134.holds rfl hv118)
  have hb144 := hb119.up hg133
  have g145 := g120.trans hg133
  have g146 : Siz w2 w131 := g121.trans hg133
  have g147 : Siz w18 w131 := g122.trans hg133
  have g148 : Siz w37 w131 := g123.trans hg133
  have g149 := g124.trans hg133
  have g150 := g125.trans hg133
  obtain ⟨bk151, hl152, hv153, hb154⟩ := OwnB.blk (lo := w107.heap.size) h136
  clear h112 h113 hv114 hb115 hv116 hb117 hv118 hb119 g120 g121 g122 g123 g124 g125 hf108 hk134 hn135
  refine wl_store_lock hv153 hb154 rfl (is_any h137) ?_
  intro w155 ho156 hb157
  have g158 : Grow w0 w155 := g145.only ho156 (by omega)
  have g159 : Siz w2 w155 := Siz.below g146.size ho156.below
  have g160 : Siz w18 w155 := Siz.below g147.size ho156.below
  have g161 : Siz w37 w155 := Siz.below g148.size ho156.below
  have g162 : Grow w85 w155 := g149.only ho156 (by omega)
  have g163 : Grow w107 w155 := g150.only ho156 (by omega)
  have hv164 : Holds (Is (PtrV bk10)) (a130.eval (.tmp 2)) w155 := is_any hv139
  have hb165 : Blk bk10 _ w155 := hb140.only ho156 (by omega)
  have hv166 : Holds (Is (PtrV bk28)) (a130.eval (.tmp 3)) w155 := is_any hv141
  have hb167 : Blk bk28 _ w155 := hb142.only ho156 (by omega)
  have hv168 : Holds (Is (PtrV bk50)) (a130.eval (.tmp 4)) w155 := is_any hv143
  have hb169 : Blk bk50 _ w155 := hb144.only ho156 (by omega)
  refine wp_all [([17], [])] [2, 3, 4] w107.heap.size hf132 g163.size (by kernel_rfl) (bund_cons (is_any h138) bund_nil) ?_
  refine ch rfl (ob_assign (arg_free 0 rfl rfl)) ?_
  refine ch_nil ?_
  intro a170 w171 hf172 hg173 hk174 hn175
  have h176 : Holds _ (a170.eval (.tmp 6)) w171 := hn175.at 0 0 rfl rfl rfl
  have hv177 : Holds (Is (PtrV bk10)) (a170.eval (.tmp 2)) w171 := is_any (hk174.holds rfl hv164)
  have hb178 := hb165.up hg173
  have hv179 : Holds (Is (PtrV bk28)) (a170.eval (.tmp 3)) w171 := is_any (hk174.holds rfl hv166)
  have hb180 := hb167.up hg173
  have hv181 : Holds (Is (PtrV bk50)) (a170.eval (.tmp 4)) w171 := is_any (hk174.holds rfl hv168)
  have hb182 := hb169.up hg173
  have g183 := g158.trans hg173
  have g184 : Siz w2 w171 := g159.trans hg173
  have g185 : Siz w18 w171 := g160.trans hg173
  have g186 : Siz w37 w171 := g161.trans hg173
  have g187 := g162.trans hg173
  have g188 := g163.trans hg173
  clear hv164 hb165 hv166 hb167 hv168 hb169 g158 g159 g160 g161 g162 g163 hf132 hk174 hn175 hg173
  refine then_ ?_
  refine wp_seq ?_
  refine wp_region_lit ?_
  refine wp_all [([6], [])] [2, 3, 4] w107.heap.size hf172 g188.size (by kernel_rfl) (bund_cons h176 bund_nil) ?_
  refine ch rfl (ob_move (arg_free 0 rfl rfl)) ?_
  refine ch_nil ?_
  intro a189 w190 hf191 hg192 hk193 hn194
  have h195 : Holds _ (a189.eval (.tmp 18)) w190 := hn194.at 0 0 rfl rfl rfl
  have hv196 : Holds (Is (PtrV bk10)) (a189.eval (.tmp 2)) w190 := is_any (hk193.holds rfl hv177)
  have hb197 := hb178.up hg192
  have hv198 : Holds (Is (PtrV bk28)) (a189.eval (.tmp 3)) w190 := is_any (hk193.holds rfl hv179)
  have hb199 := hb180.up hg192
  have hv200 : Holds (Is (PtrV bk50)) (a189.eval (.tmp 4)) w190 := is_any (hk193.holds rfl hv181)
  have hb201 := hb182.up hg192
  have g202 := g183.trans hg192
  have g203 : Siz w2 w190 := g184.trans hg192
  have g204 : Siz w18 w190 := g185.trans hg192
  have g205 : Siz w37 w190 := g186.trans hg192
  have g206 := g187.trans hg192
  have g207 := g188.trans hg192
  clear hv177 hb178 hv179 hb180 hv181 hb182 g183 g184 g185 g186 g187 g188 hf172 hk193 hn194 hg192
  refine then_ ?_
  refine wp_if h195 ?_ ?_
  · intro hc208
    have hp : 0 ≤ fndK s.locks k.name := of_decide_eq_true hc208
    refine wp_seq ?_
    have g209 : Grow w190 w190 := Grow.refl _
    have hl210 : bk10 < w190.heap.size := hb197.lt
    have hl211 : bk28 < w190.heap.size := hb199.lt
    have hl212 : bk50 < w190.heap.size := hb201.lt
    have hz213 : w107.heap.size ≤ w190.heap.size := g207.size
    refine wp_region_lit ?_
    refine wp_seg (l1 := [_]) [([2], [])] [4] w190.heap.size hf191 g209.size (by kernel_rfl) (bund_cons (hb197.ownp hv196) bund_nil) ?_
    refine ch rfl (ob_load_state (ArgOK.ownp (arg_free 0 rfl rfl))) ?_
    refine ch_nil ?_
    intro a214 w215 hf216 hg217 hk218 hn219
    have h220 : Holds _ (a214.eval (.tmp 19)) w215 := hn219.at 0 0 rfl rfl rfl
    have hv221 : Holds (Is (PtrV bk50)) (a214.eval (.tmp 4)) w215 := is_any (hk218.holds rfl hv200)
    have hb222 := hb201.up hg217
    have g223 := g202.trans hg217
    have g224 : Siz w2 w215 := g203.trans hg217
    have g225 : Siz w18 w215 := g204.trans hg217
    have g226 : Siz w37 w215 := g205.trans hg217
    have g227 := g206.trans hg217
    have g228 := g207.trans hg217
    have g229 := g209.trans hg217
    clear hv200 hb201 g202 g203 g204 g205 g206 g207 g209 hf191 hk218 hn219
    refine wl_store_state hv221 hb222 rfl h220 (st_oneS (OwnS.sl (hV97.up g227)) (OwnS.sl (hV98.up g227)) (OwnS.sl (hV99.up g227)) (OwnS.sl (hV100.up g227))) ?_
    intro w230 ho231 hb232
    have g233 : Grow w0 w230 := g223.only ho231 (by omega)
    have g234 : Siz w2 w230 := Siz.below g224.size ho231.below
    have g235 : Siz w18 w230 := Siz.below g225.size ho231.below
    have g236 : Siz w37 w230 := Siz.below g226.size ho231.below
    have hv240 : Holds (Is (PtrV bk50)) (a214.eval (.tmp 4)) w230 := is_any hv221
    have hV241 : Holds _ V76 w230 := OwnS.only (hV97.up g227) ho231 (by omega)
    have hV242 : Holds _ V77 w230 := OwnS.only (hV98.up g227) ho231 (by omega)
    have hV243 : Holds _ V78 w230 := OwnS.only (hV99.up g227) ho231 (by omega)
    have hV244 : Holds _ V79 w230 := OwnS.only (hV100.up g227) ho231 (by omega)
    refine wpList_nil ?_
    refine then_ ?_
    refine wp_ret ?_
    refine thenR ?_
    refine ret_cell rfl Tryz.underlying28 rfl (by kernel_rfl) hf216 g233 (hb232.ptr hv240) ?_
    exact sto_cast (mkO (OwnS.mono hV241 (by omega)) (OwnS.mono hV242 (by omega)) (OwnS.mono hV243 (by omega)) (OwnS.mono hV244 (by omega))) (by exact open_yes hp)
  · intro hc208
    have hp : ¬ 0 ≤ fndK s.locks k.name := of_decide_eq_false hc208
    refine wp_skip ?_
    refine then_ ?_
    refine wp_seq ?_
    refine wp_region_lit ?_
    refine wp_all [([], [])] [2, 3, 4] w107.heap.size hf191 g207.size (by kernel_rfl) bund_nil ?_
    refine ch rfl (ob_assign arg_c) ?_
    refine ch_nil ?_
    intro a245 w246 hf247 hg248 hk249 hn250
    have h251 : Holds _ (a245.eval (.tmp 7)) w246 := hn250.at 0 0 rfl rfl rfl
    have hv252 : Holds (Is (PtrV bk10)) (a245.eval (.tmp 2)) w246 := is_any (hk249.holds rfl hv196)
    have hb253 := hb197.up hg248
    have hv254 : Holds (Is (PtrV bk28)) (a245.eval (.tmp 3)) w246 := is_any (hk249.holds rfl hv198)
    have hb255 := hb199.up hg248
    have hv256 : Holds (Is (PtrV bk50)) (a245.eval (.tmp 4)) w246 := is_any (hk249.holds rfl hv200)
    have hb257 := hb201.up hg248
    have g258 := g202.trans hg248
    have g259 : Siz w2 w246 := g203.trans hg248
    have g260 : Siz w18 w246 := g204.trans hg248
    have g261 : Siz w37 w246 := g205.trans hg248
    have g262 := g206.trans hg248
    have g263 := g207.trans hg248
    clear hv196 hb197 hv198 hb199 hv200 hb201 g202 g203 g204 g205 g206 g207 hf191 hk249 hn250 hg248
    refine then_ ?_
    refine wp_seq ?_
    refine wp_block ?_
    have g264 : Grow w246 w246 := Grow.refl _
    have hl265 : bk10 < w246.heap.size := hb253.lt
    have hl266 : bk28 < w246.heap.size := hb255.lt
    have hl267 : bk50 < w246.heap.size := hb257.lt
    have hz268 : w107.heap.size ≤ w246.heap.size := g263.size
    refine wp_loopL (α := Nat) (fun i a' w' => Fr 57 a' ∧ (i ≤ s.locks.length) ∧ (∀ j, j < i → ¬ k.name < (s.locks.getD j default).name) ∧ Grow w0 w' ∧ Siz w2 w' ∧ Siz w18 w' ∧ Siz w37 w' ∧ Grow w85 w' ∧ Grow w107 w' ∧ Grow w246 w' ∧ Keep [2, 3, 4] a245 a' ∧ Holds (Is (intV (i : Int))) (a'.eval (.tmp 7)) w' ∧ Blk bk10 (_) w' ∧ Blk bk28 (_) w' ∧ Blk bk50 (_) w') (fun i => s.locks.length - i) (0) ⟨hf247, (by omega), (by exact fun j hj => absurd hj (Nat.not_lt_zero j)), g258, g259.size, g260.size, g261.size, g262, g263, g264, Keep.refl _ _, (is_cast h251 (by first | rfl | (refine congrArg intV ?_; (try dsimp only); omega))), hb253, hb255, hb257⟩ ?_
    intro i a269 w270 ⟨hf271, hi273, hi274, g275, g276, g277, g278, g279, g280, g281, kk272, h282, hb283, hb284, hb285⟩
    have hv286 : Holds (Is (PtrV bk10)) (a269.eval (.tmp 2)) w270 := is_any (kk272.holds rfl hv252)
    have hv287 : Holds (Is (PtrV bk28)) (a269.eval (.tmp 3)) w270 := is_any (kk272.holds rfl hv254)
    have hv288 : Holds (Is (PtrV bk50)) (a269.eval (.tmp 4)) w270 := is_any (kk272.holds rfl hv256)
    refine wp_seq ?_
    refine wp_seq ?_
    have g289 : Grow w270 w270 := Grow.refl _
    have hl290 : bk10 < w270.heap.size := hb283.lt
    have hl291 : bk28 < w270.heap.size := hb284.lt
    have hl292 : bk50 < w270.heap.size := hb285.lt
    have hz293 : w246.heap.size ≤ w270.heap.size := g281.size
    refine wp_calm [0, 0, 2, 6, 15, 31, 63, 127, 63, 319, 63, 1855, 3903, 7999, 16383, 32767, 65535] [([7], []), ([2], []), ([], [1]), ([], [2]), ([], [0, 3]), ([], [4]), ([3], [5]), ([], [6, 5]), ([2], [5]), ([], [8, 5]), ([7], [5]), ([], [9, 10, 5]), ([], [11, 5]), ([], [12, 5]), ([], [7, 13, 5]), ([], [14, 5]), ([], [5, 15])] [2, 3, 4, 7] w270.heap.size hf271 g289.size (by kernel_rfl) (bund_cons h282 (bund_cons (hb283.ownp hv286) (bund_cons (hb284.ownp hv287) bund_nil))) ?_
    intro ws294 hs295
    refine ch rfl (ob_move (arg_free 0 rfl rfl)) ?_
    refine ch rfl (ob_faP (n := 0) (arg_free 1 rfl rfl) Tryz.underlying28 rfl (by kernel_rfl)) ?_
    refine ch rfl (ob_loadP (arg_op 1 0 rfl rfl rfl rfl) Tryz.underlying24 rfl rfl) ?_
    refine ch rfl (ob_len (ArgOK.sl (ArgOK.val (arg_op 2 0 rfl rfl rfl rfl) ((hV99.up g279).up hs295))) Tryz.underlying24) ?_
    refine ch rfl (ob_lss (arg_op 0 3 rfl rfl rfl rfl) (arg_op 3 0 rfl rfl rfl rfl)) ?_
    refine ch rfl (ob_move (arg_op 4 0 rfl rfl rfl rfl)) ?_
    refine chg (b := _) rfl rfl (arg_op 5 0 rfl rfl rfl rfl) (fun hb5 => ob_fa_lock0 (ArgOK.ownp (arg_free 2 rfl rfl))) ?_
    refine chg (b := _) rfl rfl (arg_op 5 1 rfl rfl rfl rfl) (fun hb5 => ob_load_nm (ArgOK.when (arg_op 6 0 rfl rfl rfl rfl) hb5)) ?_
    refine chg (b := _) rfl rfl (arg_op 5 2 rfl rfl rfl rfl) (fun hb5 => ob_faP (n := 0) (arg_free 1 rfl rfl) Tryz.underlying28 rfl (by kernel_rfl)) ?_
    refine chg (b := _) rfl rfl (arg_op 5 3 rfl rfl rfl rfl) (fun hb5 => ob_loadP (ArgOK.when (arg_op 8 0 rfl rfl rfl rfl) hb5) Tryz.underlying24 rfl rfl) ?_
    refine chg (b := _) rfl rfl (arg_op 5 4 rfl rfl rfl rfl) (fun hb5 => ob_move (arg_free 0 rfl rfl)) ?_
    refine chg (b := _) rfl rfl (arg_op 5 5 rfl rfl rfl rfl) (fun hb5 => ob_ix (ArgOK.sl (ArgOK.val (ArgOK.when (arg_op 9 1 rfl rfl rfl rfl) hb5) ((hV99.up g279).up hs295))) (ArgOK.when (arg_op 10 0 rfl rfl rfl rfl) hb5) (rfl) ?_ Tryz.underlying24 szLock) ?_
    · (have hq := of_decide_eq_true hb5; omega)
    refine chg (b := _) rfl rfl (arg_op 5 6 rfl rfl rfl rfl) (fun hb5 => ob_fa_lock0 (ArgOK.when (arg_op 11 0 rfl rfl rfl rfl) hb5)) ?_
    refine chg (b := _) rfl rfl (arg_op 5 7 rfl rfl rfl rfl) (fun hb5 => ob_load_nm (ArgOK.when (arg_op 12 0 rfl rfl rfl rfl) hb5)) ?_
    refine chg (b := _) rfl rfl (arg_op 5 8 rfl rfl rfl rfl) (fun hb5 => ob_call2 (by kernel_rfl) (c_rLess) (ArgOK.when (arg_op 7 6 rfl rfl rfl rfl) hb5) (ArgOK.when (arg_op 13 0 rfl rfl rfl rfl) hb5)) ?_
    refine chg (b := _) rfl rfl (arg_op 5 9 rfl rfl rfl rfl) (fun hb5 => ob_not (ArgOK.when (arg_op 14 0 rfl rfl rfl rfl) hb5)) ?_
    refine ch rfl (ob_and (arg_op 5 10 rfl rfl rfl rfl) (arg_op 15 0 rfl rfl rfl rfl)) ?_
    refine ch_nil ?_
    intro a296 w297 hf298 hg299 hk300 hn301
    have h302 : Holds _ (a296.eval (.tmp 36)) w297 := hn301.at 16 0 rfl rfl rfl
    have h303 := hk300.holds rfl h282
    have hv304 : Holds (Is (PtrV bk10)) (a296.eval (.tmp 2)) w297 := is_any (hk300.holds rfl hv286)
    have hb305 := hb283.up hg299
    have hv306 : Holds (Is (PtrV bk28)) (a296.eval (.tmp 3)) w297 := is_any (hk300.holds rfl hv287)
    have hb307 := hb284.up hg299
    have hv308 : Holds (Is (PtrV bk50)) (a296.eval (.tmp 4)) w297 := is_any (hk300.holds rfl hv288)
    have hb309 := hb285.up hg299
    have g310 := g275.trans hg299
    have g311 : Siz w2 w297 := g276.trans hg299
    have g312 : Siz w18 w297 := g277.trans hg299
    have g313 : Siz w37 w297 := g278.trans hg299
    have g314 := g279.trans hg299
    have g315 := g280.trans hg299
    have g316 := g281.trans hg299
    have g317 := g289.trans hg299
    have kk318 : Keep _ a245 a296 := kk272.trans hk300 rfl
    clear h282 hv286 hb283 hv287 hb284 hv288 hb285 g275 g276 g277 g278 g279 g280 g281 g289 kk272 hf271 hk300 hn301
    refine then_ ?_
    refine wp_if h302 ?_ ?_
    · intro hc319
      try simp only [cond_norm] at hc319
      obtain ⟨hlt, hnl⟩ := hc319
      refine wp_skip ?_
      refine then_ ?_
      refine wp_block ?_
      refine wp_region_lit ?_
      refine wp_all [([7], []), ([], [0]), ([], [1])] [2, 3, 4] w270.heap.size hf298 g317.size (by kernel_rfl) (bund_cons (is_any h303) bund_nil) ?_
      refine ch rfl (ob_move (arg_free 0 rfl rfl)) ?_
      first
        | (refine ch rfl (ob_add' (arg_op 0 0 rfl rfl rfl rfl) arg_c ?_) ?_; · omega)
        | refine ch rfl (ob_add (arg_op 0 0 rfl rfl rfl rfl) arg_c) ?_
      refine ch rfl (ob_assign (arg_op 1 0 rfl rfl rfl rfl)) ?_
      refine ch_nil ?_
      intro a320 w321 hf322 hg323 hk324 hn325
      have h326 : Holds _ (a320.eval (.tmp 7)) w321 := hn325.at 2 0 rfl rfl rfl
      have hv327 : Holds (Is (PtrV bk10)) (a320.eval (.tmp 2)) w321 := is_any (hk324.holds rfl hv304)
      have hb328 := hb305.up hg323
      have hv329 : Holds (Is (PtrV bk28)) (a320.eval (.tmp 3)) w321 := is_any (hk324.holds rfl hv306)
      have hb330 := hb307.up hg323
      have hv331 : Holds (Is (PtrV bk50)) (a320.eval (.tmp 4)) w321 := is_any (hk324.holds rfl hv308)
      have hb332 := hb309.up hg323
      have g333 := g310.trans hg323
      have g334 : Siz w2 w321 := g311.trans hg323
      have g335 : Siz w18 w321 := g312.trans hg323
      have g336 : Siz w37 w321 := g313.trans hg323
      have g337 := g314.trans hg323
      have g338 := g315.trans hg323
      have g339 := g316.trans hg323
      have g340 := g317.trans hg323
      have kk341 : Keep _ a245 a320 := kk318.trans hk324 rfl
      clear hv304 hb305 hv306 hb307 hv308 hb309 g310 g311 g312 g313 g314 g315 g316 g317 kk318 hf298 hk324 hn325 hg323
      refine blockN ?_
      refine then_ ?_
      exact ⟨(i + 1), (by ((try dsimp only); omega)), hf322, (by omega), (by exact ltK_step (by assumption) hnl), g333, g334.size, g335.size, g336.size, g337, g338, g339, kk341, (is_cast h326 (by first | rfl | (refine congrArg intV ?_; (try dsimp only); omega))), hb328, hb330, hb332⟩
    · intro hc319
      try simp only [cond_norm] at hc319
      have hb := befK_hit (l := s.locks) (k := k) (i := i) (by assumption) (by omega) hc319
      refine wp_exit ?_
      refine thenX ?_
      refine thenX ?_
      refine blockX ?_
      refine then_ ?_
      refine wp_seq ?_
      have g342 : Grow w297 w297 := Grow.refl _
      have hl343 : bk10 < w297.heap.size := hb305.lt
      have hl344 : bk28 < w297.heap.size := hb307.lt
      have hl345 : bk50 < w297.heap.size := hb309.lt
      have hz346 : w270.heap.size ≤ w297.heap.size := g317.size
      refine wp_region_lit ?_
      refine wp_all [([], []), ([2], []), ([], [1]), ([7], []), ([], [2, 3]), ([], [0, 4]), ([], [5])] [2, 3, 4, 7] w297.heap.size hf298 g342.size (by kernel_rfl) (bund_cons (hb305.ownp hv304) (bund_cons (is_any h303) bund_nil)) ?_
      refine ch rfl (ob_bs0_lock ) ?_
      refine ch rfl (ob_faP (n := 0) (arg_free 0 rfl rfl) Tryz.underlying28 rfl (by kernel_rfl)) ?_
      refine ch rfl (ob_loadP (arg_op 1 0 rfl rfl rfl rfl) Tryz.underlying24 rfl rfl) ?_
      refine ch rfl (ob_move (arg_free 1 rfl rfl)) ?_
      refine ch rfl (ob_slice_to (ArgOK.sl (ArgOK.val (arg_op 2 1 rfl rfl rfl rfl) (hV99.up g314))) (arg_op 3 0 rfl rfl rfl rfl) (rfl) ?_ Tryz.underlying24 szLock) ?_
      · omega
      refine ch rfl (ob_append_fresh elLockP Tryz.underlying24 (arg_op 0 4 rfl rfl rfl rfl) (arg_op 4 0 rfl rfl rfl rfl) ?_) ?_
      · (refine ⟨?_, ?_⟩ <;> (simp only [List.length_nil, List.length_take, elLock]; omega))
      refine ch rfl (ob_assign (arg_op 5 0 rfl rfl rfl rfl)) ?_
      refine ch_nil ?_
      intro a347 w348 hf349 hg350 hk351 hn352
      have h353 : Holds (OwnS w297.heap.size _ _) (a347.eval (.tmp 8)) w348 := hn352.at 6 0 rfl rfl rfl
      have h354 := hk351.holds rfl h303
      have hv355 : Holds (Is (PtrV bk10)) (a347.eval (.tmp 2)) w348 := is_any (hk351.holds rfl hv304)
      have hb356 := hb305.up hg350
      have hv357 : Holds (Is (PtrV bk28)) (a347.eval (.tmp 3)) w348 := is_any (hk351.holds rfl hv306)
      have hb358 := hb307.up hg350
      have hv359 : Holds (Is (PtrV bk50)) (a347.eval (.tmp 4)) w348 := is_any (hk351.holds rfl hv308)
      have hb360 := hb309.up hg350
      have g361 := g310.trans hg350
      have g362 : Siz w2 w348 := g311.trans hg350
      have g363 : Siz w18 w348 := g312.trans hg350
      have g364 : Siz w37 w348 := g313.trans hg350
      have g365 := g314.trans hg350
      have g366 := g315.trans hg350
      have g367 := g316.trans hg350
      have g368 := g317.trans hg350
      have g369 := g342.trans hg350
      clear h303 hv304 hb305 hv306 hb307 hv308 hb309 g310 g311 g312 g313 g314 g315 g316 g317 g342 hf298 hk351 hn352
      obtain ⟨V370, h371, hV372⟩ := nameV h353
      clear h353
      refine then_ ?_
      refine wp_seq ?_
      have g373 : Grow w348 w348 := Grow.refl _
      have hl374 : bk10 < w348.heap.size := hb356.lt
      have hl375 : bk28 < w348.heap.size := hb358.lt
      have hl376 : bk50 < w348.heap.size := hb360.lt
      have hz377 : w297.heap.size ≤ w348.heap.size := g369.size
      refine wp_region_lit ?_
      refine wp_seg (l1 := [_, _, _]) [([8], []), ([3], []), ([], [1])] [2, 4, 7, 8] w348.heap.size hf349 g373.size (by kernel_rfl) (bund_cons h371 (bund_cons (hb358.ownp hv357) bund_nil)) ?_
      refine ch rfl (ob_move (arg_free 0 rfl rfl)) ?_
      refine ch rfl (ob_load_lock (ArgOK.ownp (arg_free 1 rfl rfl))) ?_
      refine ch rfl (ob_bs1_lock (arg_op 1 0 rfl rfl rfl rfl)) ?_
      refine ch_nil ?_
      intro a378 w379 hf380 hg381 hk382 hn383
      have h384 : Holds _ (a378.eval (.tmp 45)) w379 := hn383.at 0 2 rfl rfl rfl
      have h385 : Holds (OwnF w348.heap.size _ _) (a378.eval (.tmp 47)) w379 := hn383.at 2 0 rfl rfl rfl
      have h386 := hk382.holds rfl h371
      have h387 := hk382.holds rfl h354
      have hv388 : Holds (Is (PtrV bk10)) (a378.eval (.tmp 2)) w379 := is_any (hk382.holds rfl hv355)
      have hb389 := hb356.up hg381
      have hv390 : Holds (Is (PtrV bk50)) (a378.eval (.tmp 4)) w379 := is_any (hk382.holds rfl hv359)
      have hb391 := hb360.up hg381
      have g392 := g361.trans hg381
      have g393 : Siz w2 w379 := g362.trans hg381
      have g394 : Siz w18 w379 := g363.trans hg381
      have g395 : Siz w37 w379 := g364.trans hg381
      have g396 := g365.trans hg381
      have g397 := g366.trans hg381
      have g398 := g367.trans hg381
      have g399 := g368.trans hg381
      have g400 := g369.trans hg381
      have g401 := g373.trans hg381
      clear h371 h354 hv355 hb356 hv359 hb360 g361 g362 g363 g364 g365 g366 g367 g368 g369 g373 hf349 hk382 hn383
      obtain ⟨V402, h403, hV404⟩ := nameV h385
      clear h385
      refine wl_appendW elLockP [2, 4, 7, 8] hf380 (by kernel_rfl) rfl Tryz.underlying24 (unV h384 (hV372.up g401)) (OwnS.sl (OwnF.own (unV h403 hV404))) ?_ ?_ g400.size ?_
      · (simp only [List.length_append, List.length_take, List.length_drop, List.length_cons, List.length_nil, maxLen]; omega)
      · (simp only [List.length_append, List.length_take, List.length_drop, List.length_cons, List.length_nil, elLock]; omega)
      intro a405 w406 hf407 hw408 hk409 h410
      have g411 : Grow w0 w406 := g392.wr hw408 (by omega)
      have g412 : Siz w2 w406 := Siz.below g393.size hw408.below
      have g413 : Siz w18 w406 := Siz.below g394.size hw408.below
      have g414 : Siz w37 w406 := Siz.below g395.size hw408.below
      have g415 : Grow w85 w406 := g396.wr hw408 (by omega)
      have g416 : Grow w107 w406 := g397.wr hw408 (by omega)
      have g417 : Grow w246 w406 := g398.wr hw408 (by omega)
      have g418 : Grow w270 w406 := g399.wr hw408 (by omega)
      have g419 : Grow w297 w406 := g400.wr hw408 (by omega)
      have g420 : Siz w348 w406 := Siz.below g401.size hw408.below
      have h421 : Holds _ (a405.eval (.tmp 8)) w406 := is_any (hk409.holds rfl h386)
      have h422 : Holds _ (a405.eval (.tmp 7)) w406 := is_any (hk409.holds rfl h387)
      have hv423 : Holds (Is (PtrV bk10)) (a405.eval (.tmp 2)) w406 := is_any (hk409.holds rfl hv388)
      have hb424 : Blk bk10 _ w406 := hb389.wr hw408 (by omega)
      have hv425 : Holds (Is (PtrV bk50)) (a405.eval (.tmp 4)) w406 := is_any (hk409.holds rfl hv390)
      have hb426 : Blk bk50 _ w406 := hb391.wr hw408 (by omega)
      obtain ⟨V427, h428, hV429⟩ := nameV h410
      clear h410
      refine wp_all [([48], [])] [2, 4, 7] w348.heap.size hf407 g420.size (by kernel_rfl) (bund_cons h428 bund_nil) ?_
      refine ch rfl (ob_assign (arg_free 0 rfl rfl)) ?_
      refine ch_nil ?_
      intro a430 w431 hf432 hg433 hk434 hn435
      have h436 : Holds _ (a430.eval (.tmp 8)) w431 := hn435.at 0 0 rfl rfl rfl
      have h437 := hk434.holds rfl (h422.up hg433)
      have hv438 : Holds (Is (PtrV bk10)) (a430.eval (.tmp 2)) w431 := is_any (hk434.holds rfl hv423)
      have hb439 := hb424.up hg433
      have hv440 : Holds (Is (PtrV bk50)) (a430.eval (.tmp 4)) w431 := is_any (hk434.holds rfl hv425)
      have hb441 := hb426.up hg433
      have g442 := g411.trans hg433
      have g443 : Siz w2 w431 := g412.trans hg433
      have g444 : Siz w18 w431 := g413.trans hg433
      have g445 : Siz w37 w431 := g414.trans hg433
      have g446 := g415.trans hg433
      have g447 := g416.trans hg433
      have g448 := g417.trans hg433
      have g449 := g418.trans hg433
      have g450 := g419.trans hg433
      have g451 : Siz w348 w431 := g420.trans hg433
      have hV452 := hV429.up hg433
      clear h422 hv423 hb424 hv425 hb426 g411 g412 g413 g414 g415 g416 g417 g418 g419 g420 hf407 hk434 hn435 hg433 hV429
      refine then_ ?_
      refine wp_seq ?_
      have g453 : Grow w431 w431 := Grow.refl _
      have hl454 : bk10 < w431.heap.size := hb439.lt
      have hl455 : bk50 < w431.heap.size := hb441.lt
      have hz456 : w348.heap.size ≤ w431.heap.size := g451.size
      refine wp_region_lit ?_
      refine wp_seg (l1 := [_, _, _, _, _]) [([8], []), ([2], []), ([], [1]), ([7], []), ([], [2, 3])] [2, 4] w431.heap.size hf432 g453.size (by kernel_rfl) (bund_cons h436 (bund_cons (hb439.ownp hv438) (bund_cons h437 bund_nil))) ?_
      refine ch rfl (ob_move (arg_free 0 rfl rfl)) ?_
      refine ch rfl (ob_faP (n := 0) (arg_free 1 rfl rfl) Tryz.underlying28 rfl (by kernel_rfl)) ?_
      refine ch rfl (ob_loadP (arg_op 1 0 rfl rfl rfl rfl) Tryz.underlying24 rfl rfl) ?_
      refine ch rfl (ob_move (arg_free 2 rfl rfl)) ?_
      refine ch rfl (ob_slice_from (ArgOK.sl (ArgOK.val (arg_op 2 1 rfl rfl rfl rfl) (hV99.up g446))) (arg_op 3 0 rfl rfl rfl rfl) (rfl) ?_ Tryz.underlying24 szLock) ?_
      · omega
      refine ch_nil ?_
      intro a457 w458 hf459 hg460 hk461 hn462
      have h463 : Holds _ (a457.eval (.tmp 49)) w458 := hn462.at 0 4 rfl rfl rfl
      have h464 : Holds _ (a457.eval (.tmp 53)) w458 := hn462.at 4 0 rfl rfl rfl
      have hv465 : Holds (Is (PtrV bk10)) (a457.eval (.tmp 2)) w458 := is_any (hk461.holds rfl hv438)
      have hb466 := hb439.up hg460
      have hv467 : Holds (Is (PtrV bk50)) (a457.eval (.tmp 4)) w458 := is_any (hk461.holds rfl hv440)
      have hb468 := hb441.up hg460
      have g469 := g442.trans hg460
      have g470 : Siz w2 w458 := g443.trans hg460
      have g471 : Siz w18 w458 := g444.trans hg460
      have g472 : Siz w37 w458 := g445.trans hg460
      have g473 := g446.trans hg460
      have g474 := g447.trans hg460
      have g475 := g448.trans hg460
      have g476 := g449.trans hg460
      have g477 := g450.trans hg460
      have g478 : Siz w348 w458 := g451.trans hg460
      have g479 := g453.trans hg460
      clear hv438 hb439 hv440 hb441 g442 g443 g444 g445 g446 g447 g448 g449 g450 g451 g453 hf432 hk461 hn462
      obtain ⟨V480, h481, hV482⟩ := nameV h464
      clear h464
      refine wl_appendW elLockP [2, 4] hf459 (by kernel_rfl) rfl Tryz.underlying24 (unV h463 (hV452.up g479)) (unV h481 hV482) ?_ ?_ g477.size ?_
      · (simp only [List.length_append, List.length_take, List.length_drop, List.length_cons, List.length_nil, maxLen]; omega)
      · (simp only [List.length_append, List.length_take, List.length_drop, List.length_cons, List.length_nil, elLock]; omega)
      intro a483 w484 hf485 hw486 hk487 h488
      have g489 : Grow w0 w484 := g469.wr hw486 (by omega)
      have g490 : Siz w2 w484 := Siz.below g470.size hw486.below
      have g491 : Siz w18 w484 := Siz.below g471.size hw486.below
      have g492 : Siz w37 w484 := Siz.below g472.size hw486.below
      have g493 : Grow w85 w484 := g473.wr hw486 (by omega)
      have g494 : Grow w107 w484 := g474.wr hw486 (by omega)
      have g495 : Grow w246 w484 := g475.wr hw486 (by omega)
      have g496 : Grow w270 w484 := g476.wr hw486 (by omega)
      have g497 : Grow w297 w484 := g477.wr hw486 (by omega)
      have g498 : Siz w348 w484 := Siz.below g478.size hw486.below
      have g499 : Siz w431 w484 := Siz.below g479.size hw486.below
      have hv500 : Holds (Is (PtrV bk10)) (a483.eval (.tmp 2)) w484 := is_any (hk487.holds rfl hv465)
      have hb501 : Blk bk10 _ w484 := hb466.wr hw486 (by omega)
      have hv502 : Holds (Is (PtrV bk50)) (a483.eval (.tmp 4)) w484 := is_any (hk487.holds rfl hv467)
      have hb503 : Blk bk50 _ w484 := hb468.wr hw486 (by omega)
      obtain ⟨V504, h505, hV506⟩ := nameV h488
      clear h488
      refine wp_seg (l1 := [_]) [([2], [])] [2, 4, 54] w431.heap.size hf485 g499.size (by kernel_rfl) (bund_cons (hb501.ownp hv500) bund_nil) ?_
      refine ch rfl (ob_faP (n := 0) (arg_free 0 rfl rfl) Tryz.underlying28 rfl (by kernel_rfl)) ?_
      refine ch_nil ?_
      intro a507 w508 hf509 hg510 hk511 hn512
      have h513 : Holds _ (a507.eval (.tmp 55)) w508 := hn512.at 0 0 rfl rfl rfl
      have h514 := hk511.holds rfl (h505.up hg510)
      have hv515 : Holds (Is (PtrV bk10)) (a507.eval (.tmp 2)) w508 := is_any (hk511.holds rfl hv500)
      have hb516 := hb501.up hg510
      have hv517 : Holds (Is (PtrV bk50)) (a507.eval (.tmp 4)) w508 := is_any (hk511.holds rfl hv502)
      have hb518 := hb503.up hg510
      have g519 := g489.trans hg510
      have g520 : Siz w2 w508 := g490.trans hg510
      have g521 : Siz w18 w508 := g491.trans hg510
      have g522 : Siz w37 w508 := g492.trans hg510
      have g523 := g493.trans hg510
      have g524 := g494.trans hg510
      have g525 := g495.trans hg510
      have g526 := g496.trans hg510
      have g527 := g497.trans hg510
      have g528 : Siz w348 w508 := g498.trans hg510
      have g529 : Siz w431 w508 := g499.trans hg510
      have hV530 := hV506.up hg510
      clear h505 hv500 hb501 hv502 hb503 g489 g490 g491 g492 g493 g494 g495 g496 g497 g498 g499 hf485 hk511 hn512 hg510 hV506
      refine wl_store_sl h513 h514 hV530 (show 2 < 5 by decide) szLocks ?_
      intro w531 ho532 hb533
      have hb534 : Blk bk10 (stVals V76 V77 V504 V79 _) w531 := hb533
      clear hb533
      have g535 : Grow w0 w531 := g519.only ho532 (by omega)
      have g536 : Siz w2 w531 := Siz.below g520.size ho532.below
      have g537 : Siz w18 w531 := Siz.below g521.size ho532.below
      have g538 : Siz w37 w531 := Siz.below g522.size ho532.below
      have g539 : Siz w85 w531 := Siz.below g523.size ho532.below
      have g540 : Siz w107 w531 := Siz.below g524.size ho532.below
      have g541 : Siz w246 w531 := Siz.below g525.size ho532.below
      have g542 : Siz w270 w531 := Siz.below g526.size ho532.below
      have g543 : Siz w297 w531 := Siz.below g527.size ho532.below
      have hv546 : Holds (Is (PtrV bk10)) (a507.eval (.tmp 2)) w531 := is_any hv515
      have hv547 : Holds (Is (PtrV bk50)) (a507.eval (.tmp 4)) w531 := is_any hv517
      have hb548 : Blk bk50 _ w531 := hb518.only ho532 (by omega)
      have hV549 : Holds _ V76 w531 := OwnS.only (hV97.up g523) ho532 (by omega)
      have hV550 : Holds _ V77 w531 := OwnS.only (hV98.up g523) ho532 (by omega)
      have hV551 : Holds _ V79 w531 := OwnS.only (hV100.up g523) ho532 (by omega)
      have hV552 : Holds _ V504 w531 := OwnS.only hV530 ho532 (by omega)
      refine wpList_nil ?_
      refine then_ ?_
      refine wp_seq ?_
      have g553 : Grow w531 w531 := Grow.refl _
      have hl554 : bk10 < w531.heap.size := hb534.lt
      have hl555 : bk50 < w531.heap.size := hb548.lt
      have hz556 : w297.heap.size ≤ w531.heap.size := g543.size
      refine wp_region_lit ?_
      refine wp_seg (l1 := [_]) [([2], [])] [4] w531.heap.size hf509 g553.size (by kernel_rfl) (bund_cons (hb534.ownp hv546) bund_nil) ?_
      refine ch rfl (ob_load_state (ArgOK.ownp (arg_free 0 rfl rfl))) ?_
      refine ch_nil ?_
      intro a557 w558 hf559 hg560 hk561 hn562
      have h563 : Holds _ (a557.eval (.tmp 56)) w558 := hn562.at 0 0 rfl rfl rfl
      have hv564 : Holds (Is (PtrV bk50)) (a557.eval (.tmp 4)) w558 := is_any (hk561.holds rfl hv547)
      have hb565 := hb548.up hg560
      have g566 := g535.trans hg560
      have g567 : Siz w2 w558 := g536.trans hg560
      have g568 : Siz w18 w558 := g537.trans hg560
      have g569 : Siz w37 w558 := g538.trans hg560
      have g570 : Siz w85 w558 := g539.trans hg560
      have g571 : Siz w107 w558 := g540.trans hg560
      have g572 : Siz w246 w558 := g541.trans hg560
      have g573 : Siz w270 w558 := g542.trans hg560
      have g574 : Siz w297 w558 := g543.trans hg560
      have g575 := g553.trans hg560
      clear hv547 hb548 g535 g536 g537 g538 g539 g540 g541 g542 g543 g553 hf509 hk561 hn562
      refine wl_store_state hv564 hb565 rfl h563 (st_oneS (OwnS.sl (hV549.up g575)) (OwnS.sl (hV550.up g575)) (OwnS.sl (hV552.up g575)) (OwnS.sl (hV551.up g575))) ?_
      intro w576 ho577 hb578
      have g579 : Grow w0 w576 := g566.only ho577 (by omega)
      have g580 : Siz w2 w576 := Siz.below g567.size ho577.below
      have g581 : Siz w18 w576 := Siz.below g568.size ho577.below
      have g582 : Siz w37 w576 := Siz.below g569.size ho577.below
      have g583 : Siz w85 w576 := Siz.below g570.size ho577.below
      have g584 : Siz w107 w576 := Siz.below g571.size ho577.below
      have g585 : Siz w246 w576 := Siz.below g572.size ho577.below
      have g586 : Siz w270 w576 := Siz.below g573.size ho577.below
      have g587 : Siz w297 w576 := Siz.below g574.size ho577.below
      have hv589 : Holds (Is (PtrV bk50)) (a557.eval (.tmp 4)) w576 := is_any hv564
      have hV590 : Holds _ V76 w576 := OwnS.only (hV549.up g575) ho577 (by omega)
      have hV591 : Holds _ V77 w576 := OwnS.only (hV550.up g575) ho577 (by omega)
      have hV592 : Holds _ V79 w576 := OwnS.only (hV551.up g575) ho577 (by omega)
      have hV593 : Holds _ V504 w576 := OwnS.only (hV552.up g575) ho577 (by omega)
      refine wpList_nil ?_
      refine then_ ?_
      refine wp_ret ?_
      refine ret_cell rfl Tryz.underlying28 rfl (by kernel_rfl) hf559 g579 (hb578.ptr hv589) ?_
      exact sto_cast (mkO (OwnS.mono hV590 (by omega)) (OwnS.mono hV591 (by omega)) (OwnS.mono hV593 (by omega)) (OwnS.mono hV592 (by omega))) (by (rw [← open_no hp, hb, List.nil_append, List.append_assoc]; rfl))
set_option maxRecDepth 100000 in
theorem c_rClose {s : GState} {n : UInt64} (hs : stOK s) : Con2 13 (StF s) (Is (nmV n)) (fun lo => StO lo (closeS s n)) := by
  intro lo v0 v1 w0 hlo hv0 hv1
  refine enter Tryz.func13 rfl Tryz.ntmps13 (by simp) ?_
  intro a0 hf0 ha
  obtain ⟨va0, vb0, vc0, vd0, he0, hva0, hvb0, hvc0, hvd0⟩ := openF hv0
  have h00 : Holds (Is _) (a0.eval (.tmp 0)) w0 := arg_holds ha rfl he0
  have h01 : Holds _ (a0.eval (.tmp 1)) w0 := arg_holds ha rfl hv1
  clear ha
  have g0 : Grow w0 w0 := Grow.refl _
  obtain ⟨hs1, hs2, hs3, hs4⟩ := id hs
  refine wp_seq ?_
  refine wp_region_lit ?_
  refine wp_seg (l1 := [_]) [([0], [])] [1] w0.heap.size hf0 g0.size (by kernel_rfl) (bund_cons h00 bund_nil) ?_
  refine ch rfl (ob_box_state (arg_free 0 rfl rfl)) ?_
  refine ch_nil ?_
  intro a1 w2 hf3 hg4 hk5 hn6
  have h7 : Holds _ (a1.eval (.tmp 2)) w2 := hn6.at 0 0 rfl rfl rfl
  have h8 := hk5.holds rfl h01
  have g9 := g0.trans hg4
  obtain ⟨bk10, hl11, hv12, hb13⟩ := OwnB.blk (lo := w0.heap.size) h7
  clear h01 g0 hf0 hk5 hn6
  have g14 : Grow w2 w2 := Grow.refl _
  have hl15 : bk10 < w2.heap.size := hb13.lt
  have hz16 : w0.heap.size ≤ w2.heap.size := g9.size
  refine wp_seg (l1 := [_]) [([1], [])] [2] w2.heap.size hf3 g14.size (by kernel_rfl) (bund_cons (is_any h8) bund_nil) ?_
  refine ch rfl (ob_box_nm (arg_free 0 rfl rfl)) ?_
  refine ch_nil ?_
  intro a17 w18 hf19 hg20 hk21 hn22
  have h23 : Holds _ (a17.eval (.tmp 3)) w18 := hn22.at 0 0 rfl rfl rfl
  have hv24 : Holds (Is (PtrV bk10)) (a17.eval (.tmp 2)) w18 := is_any (hk21.holds rfl hv12)
  have hb25 := hb13.up hg20
  have g26 := g9.trans hg20
  have g27 := g14.trans hg20
  obtain ⟨bk28, hl29, hv30, hb31⟩ := OwnB.blk (lo := w2.heap.size) h23
  clear hv12 hb13 g9 g14 hf3 hk21 hn22
  have g32 : Grow w18 w18 := Grow.refl _
  have hl33 : bk10 < w18.heap.size := hb25.lt
  have hl34 : bk28 < w18.heap.size := hb31.lt
  have hz35 : w2.heap.size ≤ w18.heap.size := g27.size
  refine wp_all [([], [])] [2, 3] w18.heap.size hf19 g32.size (by kernel_rfl) bund_nil ?_
  refine ch rfl (ob_alloc_state) ?_
  refine ch_nil ?_
  intro a36 w37 hf38 hg39 hk40 hn41
  have h42 : Holds _ (a36.eval (.tmp 4)) w37 := hn41.at 0 0 rfl rfl rfl
  have hv43 : Holds (Is (PtrV bk10)) (a36.eval (.tmp 2)) w37 := is_any (hk40.holds rfl hv24)
  have hb44 := hb25.up hg39
  have hv45 : Holds (Is (PtrV bk28)) (a36.eval (.tmp 3)) w37 := is_any (hk40.holds rfl hv30)
  have hb46 := hb31.up hg39
  have g47 := g26.trans hg39
  have g48 := g27.trans hg39
  have g49 := g32.trans hg39
  obtain ⟨bk50, hl51, hv52, hb53⟩ := OwnB.blk (lo := w18.heap.size) h42
  clear hv24 hb25 hv30 hb31 g26 g27 g32 hf19 hk40 hn41
  refine then_ ?_
  refine wp_seq ?_
  have g54 : Grow w37 w37 := Grow.refl _
  have hl55 : bk10 < w37.heap.size := hb44.lt
  have hl56 : bk28 < w37.heap.size := hb46.lt
  have hl57 : bk50 < w37.heap.size := hb53.lt
  have hz58 : w18.heap.size ≤ w37.heap.size := g49.size
  refine wp_region_lit ?_
  refine wp_seg (l1 := [_, _]) [([2], []), ([], [0])] [2, 3, 4] w37.heap.size hf38 g54.size (by kernel_rfl) (bund_cons (hb44.ownp hv43) bund_nil) ?_
  refine ch rfl (ob_load_state (ArgOK.ownp (arg_free 0 rfl rfl))) ?_
  refine ch rfl (ob_call1 (by kernel_rfl) (c_Copy (s := _) ?_) (ArgOK.val (arg_op 0 0 rfl rfl rfl rfl) (mkFs (s := s) (hva0.up g47) (hvb0.up g47) (hvc0.up g47) (hvd0.up g47)))) ?_
  · assumption
  refine ch_nil ?_
  intro a59 w60 hf61 hg62 hk63 hn64
  have h65 : Holds (StO w37.heap.size _) (a59.eval (.tmp 7)) w60 := hn64.at 1 0 rfl rfl rfl
  have hv66 : Holds (Is (PtrV bk10)) (a59.eval (.tmp 2)) w60 := is_any (hk63.holds rfl hv43)
  have hb67 := hb44.up hg62
  have hv68 : Holds (Is (PtrV bk28)) (a59.eval (.tmp 3)) w60 := is_any (hk63.holds rfl hv45)
  have hb69 := hb46.up hg62
  have hv70 : Holds (Is (PtrV bk50)) (a59.eval (.tmp 4)) w60 := is_any (hk63.holds rfl hv52)
  have hb71 := hb53.up hg62
  have g72 := g47.trans hg62
  have g73 := g48.trans hg62
  have g74 := g49.trans hg62
  have g75 := g54.trans hg62
  clear hv43 hb44 hv45 hb46 hv52 hb53 g47 g48 g49 g54 hf38 hk63 hn64
  obtain ⟨V76, V77, V78, V79, h80, hV81, hV82, hV83, hV84⟩ := openO h65
  refine wl_store_state hv66 hb67 rfl h80 (st_oneS (OwnS.sl hV81) (OwnS.sl hV82) (OwnS.sl hV83) (OwnS.sl hV84)) ?_
  intro w85 ho86 hb87
  have g88 : Grow w0 w85 := g72.only ho86 (by omega)
  have g89 : Siz w2 w85 := Siz.below g73.size ho86.below
  have g90 : Siz w18 w85 := Siz.below g74.size ho86.below
  have g91 : Siz w37 w85 := Siz.below g75.size ho86.below
  have hv92 : Holds (Is (PtrV bk10)) (a59.eval (.tmp 2)) w85 := is_any hv66
  have hv93 : Holds (Is (PtrV bk28)) (a59.eval (.tmp 3)) w85 := is_any hv68
  have hb94 : Blk bk28 _ w85 := hb69.only ho86 (by omega)
  have hv95 : Holds (Is (PtrV bk50)) (a59.eval (.tmp 4)) w85 := is_any hv70
  have hb96 : Blk bk50 _ w85 := hb71.only ho86 (by omega)
  have hV97 : Holds _ V76 w85 := OwnS.only hV81 ho86 (by omega)
  have hV98 : Holds _ V77 w85 := OwnS.only hV82 ho86 (by omega)
  have hV99 : Holds _ V78 w85 := OwnS.only hV83 ho86 (by omega)
  have hV100 : Holds _ V79 w85 := OwnS.only hV84 ho86 (by omega)
  refine wpList_nil ?_
  refine then_ ?_
  refine wp_seq ?_
  refine wp_seq ?_
  refine wp_region_lit ?_
  refine wp_all [([], [])] [2, 3, 4] w37.heap.size hf61 g91.size (by kernel_rfl) bund_nil ?_
  refine ch rfl (ob_assign arg_c) ?_
  refine ch_nil ?_
  intro a101 w102 hf103 hg104 hk105 hn106
  have h107 : Holds _ (a101.eval (.tmp 5)) w102 := hn106.at 0 0 rfl rfl rfl
  have hv108 : Holds (Is (PtrV bk10)) (a101.eval (.tmp 2)) w102 := is_any (hk105.holds rfl hv92)
  have hb109 := hb87.up hg104
  have hv110 : Holds (Is (PtrV bk28)) (a101.eval (.tmp 3)) w102 := is_any (hk105.holds rfl hv93)
  have hb111 := hb94.up hg104
  have hv112 : Holds (Is (PtrV bk50)) (a101.eval (.tmp 4)) w102 := is_any (hk105.holds rfl hv95)
  have hb113 := hb96.up hg104
  have g114 := g88.trans hg104
  have g115 : Siz w2 w102 := g89.trans hg104
  have g116 : Siz w18 w102 := g90.trans hg104
  have g117 : Siz w37 w102 := g91.trans hg104
  have hV118 := hV97.up hg104
  have hV119 := hV98.up hg104
  have hV120 := hV99.up hg104
  have hV121 := hV100.up hg104
  clear hv92 hb87 hv93 hb94 hv95 hb96 g88 g89 g90 g91 hf61 hk105 hn106 hg104 hV97 hV98 hV99 hV100
  refine then_ ?_
  refine wp_block ?_
  have g122 : Grow w102 w102 := Grow.refl _
  have hl123 : bk10 < w102.heap.size := hb109.lt
  have hl124 : bk28 < w102.heap.size := hb111.lt
  have hl125 : bk50 < w102.heap.size := hb113.lt
  have hz126 : w37.heap.size ≤ w102.heap.size := g117.size
  refine wp_loopL (α := Nat) (fun i a' w' => Fr 36 a' ∧ (i ≤ s.locks.length) ∧ (∀ j, j < i → (fun k : GLock => decide (k.name = n)) (s.locks.getD j default) = false) ∧ Grow w0 w' ∧ Siz w2 w' ∧ Siz w18 w' ∧ Siz w37 w' ∧ Grow w102 w' ∧ Keep [2, 3, 4] a101 a' ∧ Holds (Is (intV (i : Int))) (a'.eval (.tmp 5)) w' ∧ Blk bk10 (_) w' ∧ Blk bk28 (_) w' ∧ Blk bk50 (_) w') (fun i => s.locks.length - i) (0) ⟨hf103, (by omega), (by exact fun j hj => absurd hj (Nat.not_lt_zero j)), g114, g115.size, g116.size, g117.size, g122, Keep.refl _ _, (is_cast h107 (by first | rfl | (refine congrArg intV ?_; (try dsimp only); omega))), hb109, hb111, hb113⟩ ?_
  intro i a127 w128 ⟨hf129, hi131, hi132, g133, g134, g135, g136, g137, kk130, h138, hb139, hb140, hb141⟩
  have hv142 : Holds (Is (PtrV bk10)) (a127.eval (.tmp 2)) w128 := is_any (kk130.holds rfl hv108)
  have hv143 : Holds (Is (PtrV bk28)) (a127.eval (.tmp 3)) w128 := is_any (kk130.holds rfl hv110)
  have hv144 : Holds (Is (PtrV bk50)) (a127.eval (.tmp 4)) w128 := is_any (kk130.holds rfl hv112)
  refine wp_seq ?_
  refine wp_seq ?_
  refine wp_region_lit ?_
  refine wp_all [([5], []), ([2], []), ([], [1]), ([], [2]), ([], [0, 3])] [2, 3, 4, 5] w102.heap.size hf129 g137.size (by kernel_rfl) (bund_cons h138 (bund_cons (hb139.ownp hv142) bund_nil)) ?_
  refine ch rfl (ob_move (arg_free 0 rfl rfl)) ?_
  refine ch rfl (ob_faP (n := 0) (arg_free 1 rfl rfl) Tryz.underlying28 rfl (by kernel_rfl)) ?_
  refine ch rfl (ob_loadP (arg_op 1 0 rfl rfl rfl rfl) Tryz.underlying24 rfl rfl) ?_
  refine ch rfl (ob_len (ArgOK.sl (ArgOK.val (arg_op 2 0 rfl rfl rfl rfl) (hV120.up g137))) Tryz.underlying24) ?_
  refine ch rfl (ob_lss (arg_op 0 3 rfl rfl rfl rfl) (arg_op 3 0 rfl rfl rfl rfl)) ?_
  refine ch_nil ?_
  intro a145 w146 hf147 hg148 hk149 hn150
  have h151 : Holds _ (a145.eval (.tmp 12)) w146 := hn150.at 4 0 rfl rfl rfl
  have h152 := hk149.holds rfl (h138.up hg148)
  have hv153 : Holds (Is (PtrV bk10)) (a145.eval (.tmp 2)) w146 := is_any (hk149.holds rfl hv142)
  have hb154 := hb139.up hg148
  have hv155 : Holds (Is (PtrV bk28)) (a145.eval (.tmp 3)) w146 := is_any (hk149.holds rfl hv143)
  have hb156 := hb140.up hg148
  have hv157 : Holds (Is (PtrV bk50)) (a145.eval (.tmp 4)) w146 := is_any (hk149.holds rfl hv144)
  have hb158 := hb141.up hg148
  have g159 := g133.trans hg148
  have g160 : Siz w2 w146 := g134.trans hg148
  have g161 : Siz w18 w146 := g135.trans hg148
  have g162 : Siz w37 w146 := g136.trans hg148
  have g163 := g137.trans hg148
  have kk164 : Keep _ a101 a145 := kk130.trans hk149 rfl
  clear h138 hv142 hb139 hv143 hb140 hv144 hb141 g133 g134 g135 g136 g137 kk130 hf129 hk149 hn150 hg148
  refine then_ ?_
  refine wp_if h151 ?_ ?_
  · intro hc165
    try simp only [cond_norm] at hc165
    refine wp_skip ?_
    refine then_ ?_
    refine wp_seq ?_
    refine wp_block ?_
    refine wp_seq ?_
    refine wp_calm [0, 1, 0, 7, 15, 31, 0, 127] [([2], []), ([], [0]), ([5], []), ([], [1, 2]), ([], [3]), ([], [4]), ([3], []), ([], [5, 6])] [2, 3, 4, 5] w102.heap.size hf147 g163.size (by kernel_rfl) (bund_cons (hb154.ownp hv153) (bund_cons h152 (bund_cons (hb156.ownp hv155) bund_nil))) ?_
    intro ws166 hs167
    refine ch rfl (ob_faP (n := 0) (arg_free 0 rfl rfl) Tryz.underlying28 rfl (by kernel_rfl)) ?_
    refine ch rfl (ob_loadP (arg_op 0 0 rfl rfl rfl rfl) Tryz.underlying24 rfl rfl) ?_
    refine ch rfl (ob_move (arg_free 1 rfl rfl)) ?_
    refine ch rfl (ob_ix (ArgOK.sl (ArgOK.val (arg_op 1 1 rfl rfl rfl rfl) ((hV120.up g163).up hs167))) (arg_op 2 0 rfl rfl rfl rfl) (rfl) ?_ Tryz.underlying24 szLock) ?_
    · omega
    refine ch rfl (ob_fa_lock0 (arg_op 3 0 rfl rfl rfl rfl)) ?_
    refine ch rfl (ob_load_nm (arg_op 4 0 rfl rfl rfl rfl)) ?_
    refine ch rfl (ob_load_nm (ArgOK.ownp (arg_free 2 rfl rfl))) ?_
    refine ch rfl (ob_eqnm (arg_op 5 1 rfl rfl rfl rfl) (arg_op 6 0 rfl rfl rfl rfl)) ?_
    refine ch_nil ?_
    intro a168 w169 hf170 hg171 hk172 hn173
    have h174 : Holds _ (a168.eval (.tmp 22)) w169 := hn173.at 7 0 rfl rfl rfl
    have h175 := hk172.holds rfl (h152.up hg171)
    have hv176 : Holds (Is (PtrV bk10)) (a168.eval (.tmp 2)) w169 := is_any (hk172.holds rfl hv153)
    have hb177 := hb154.up hg171
    have hv178 : Holds (Is (PtrV bk28)) (a168.eval (.tmp 3)) w169 := is_any (hk172.holds rfl hv155)
    have hb179 := hb156.up hg171
    have hv180 : Holds (Is (PtrV bk50)) (a168.eval (.tmp 4)) w169 := is_any (hk172.holds rfl hv157)
    have hb181 := hb158.up hg171
    have g182 := g159.trans hg171
    have g183 : Siz w2 w169 := g160.trans hg171
    have g184 : Siz w18 w169 := g161.trans hg171
    have g185 : Siz w37 w169 := g162.trans hg171
    have g186 := g163.trans hg171
    have kk187 : Keep _ a101 a168 := kk164.trans hk172 rfl
    clear h152 hv153 hb154 hv155 hb156 hv157 hb158 g159 g160 g161 g162 g163 kk164 hf147 hk172 hn173 hg171
    refine then_ ?_
    refine wp_if h174 ?_ ?_
    · intro hc188
      try simp only [cond_norm] at hc188
      have hz := idx_hit (p := fun k : GLock => decide (k.name = n)) (l := s.locks) (i := i) (by assumption) (by omega) (decide_eq_true hc188); have hp : 0 ≤ fndK s.locks n := (by unfold fndK; omega); have hi : (fndK s.locks n).toNat = i := (by unfold fndK; omega)
      refine wp_seq ?_
      have g189 : Grow w169 w169 := Grow.refl _
      have hl190 : bk10 < w169.heap.size := hb177.lt
      have hl191 : bk28 < w169.heap.size := hb179.lt
      have hl192 : bk50 < w169.heap.size := hb181.lt
      have hz193 : w102.heap.size ≤ w169.heap.size := g186.size
      refine wp_calm_tail (l1 := [_, _, _, _, _, _, _, _, _]) [0, 1, 0, 7, 0, 16, 0, 64, 240, 511, 1023, 2047] [([2], []), ([], [0]), ([5], []), ([], [1, 2]), ([2], []), ([], [4]), ([5], []), ([], [6]), ([], [5, 7])] [2, 3, 4] w169.heap.size hf170 g189.size (by kernel_rfl) (bund_cons (hb177.ownp hv176) (bund_cons h175 bund_nil)) ?_
      intro ws194 hs195
      refine ch rfl (ob_faP (n := 0) (arg_free 0 rfl rfl) Tryz.underlying28 rfl (by kernel_rfl)) ?_
      refine ch rfl (ob_loadP (arg_op 0 0 rfl rfl rfl rfl) Tryz.underlying24 rfl rfl) ?_
      refine ch rfl (ob_move (arg_free 1 rfl rfl)) ?_
      refine ch rfl (ob_slice_toC (arg_op 1 1 rfl rfl rfl rfl) ((hV120.up g186).up hs195) (arg_op 2 0 rfl rfl rfl rfl) (rfl) ?_ ?_ Tryz.underlying24 szLock) ?_
      · omega
      · omega
      refine ch rfl (ob_faP (n := 0) (arg_free 0 rfl rfl) Tryz.underlying28 rfl (by kernel_rfl)) ?_
      refine ch rfl (ob_loadP (arg_op 4 0 rfl rfl rfl rfl) Tryz.underlying24 rfl rfl) ?_
      refine ch rfl (ob_move (arg_free 1 rfl rfl)) ?_
      first
        | (refine ch rfl (ob_add' (arg_op 6 0 rfl rfl rfl rfl) arg_c ?_) ?_; · omega)
        | refine ch rfl (ob_add (arg_op 6 0 rfl rfl rfl rfl) arg_c) ?_
      refine ch rfl (ob_slice_from (ArgOK.sl (ArgOK.val (arg_op 5 2 rfl rfl rfl rfl) ((hV120.up g186).up hs195))) (arg_op 7 0 rfl rfl rfl rfl) (show _ = ((i + 1 : Nat) : Int) by omega) ?_ Tryz.underlying24 szLock) ?_
      · omega
      refine ch_nil ?_
      intro a196 w197 hf198 hg199 hk200 hn201
      have h202 : Holds _ (a196.eval (.tmp 26)) w197 := hn201.at 3 5 rfl rfl rfl
      have h203 : Holds _ (a196.eval (.tmp 31)) w197 := hn201.at 8 0 rfl rfl rfl
      have hv204 : Holds (Is (PtrV bk10)) (a196.eval (.tmp 2)) w197 := is_any (hk200.holds rfl hv176)
      have hb205 := hb177.up hg199
      have hv206 : Holds (Is (PtrV bk28)) (a196.eval (.tmp 3)) w197 := is_any (hk200.holds rfl hv178)
      have hb207 := hb179.up hg199
      have hv208 : Holds (Is (PtrV bk50)) (a196.eval (.tmp 4)) w197 := is_any (hk200.holds rfl hv180)
      have hb209 := hb181.up hg199
      have g210 := g182.trans hg199
      have g211 : Siz w2 w197 := g183.trans hg199
      have g212 : Siz w18 w197 := g184.trans hg199
      have g213 : Siz w37 w197 := g185.trans hg199
      have g214 := g186.trans hg199
      have g215 := g189.trans hg199
      have kk216 : Keep _ a101 a196 := kk187.trans hk200 rfl
      clear hv176 hb177 hv178 hb179 hv180 hb181 g182 g183 g184 g185 g186 g189 kk187 hf170 hk200 hn201
      obtain ⟨V217, h218, hV219⟩ := nameV h202
      clear h202
      obtain ⟨V220, h221, hV222⟩ := nameV h203
      clear h203
      refine wl_appendC elLockP [2, 3, 4] hf198 (by kernel_rfl) rfl Tryz.underlying24 (unV h218 hV219) (unV h221 hV222) ?_ g213.size ?_
      · (simp only [List.length_append, List.length_take, List.length_drop, List.length_cons, List.length_nil, maxLen, elLock]; omega)
      intro a223 w224 hf225 hw226 hk227 h228
      have g229 : Grow w0 w224 := g210.wr hw226 (by omega)
      have g230 : Siz w2 w224 := Siz.below g211.size hw226.below
      have g231 : Siz w18 w224 := Siz.below g212.size hw226.below
      have g232 : Siz w37 w224 := Siz.below g213.size hw226.below
      have g233 : Siz w102 w224 := Siz.below g214.size hw226.below
      have g234 : Siz w169 w224 := Siz.below g215.size hw226.below
      have hv235 : Holds (Is (PtrV bk10)) (a223.eval (.tmp 2)) w224 := is_any (hk227.holds rfl hv204)
      have hb236 : Blk bk10 _ w224 := hb205.wr hw226 (by omega)
      have hv237 : Holds (Is (PtrV bk28)) (a223.eval (.tmp 3)) w224 := is_any (hk227.holds rfl hv206)
      have hb238 : Blk bk28 _ w224 := hb207.wr hw226 (by omega)
      have hv239 : Holds (Is (PtrV bk50)) (a223.eval (.tmp 4)) w224 := is_any (hk227.holds rfl hv208)
      have hb240 : Blk bk50 _ w224 := hb209.wr hw226 (by omega)
      have hV241 : Holds _ V76 w224 := OwnS.wr (hV118.up g214) hw226 rfl
      have hV242 : Holds _ V77 w224 := OwnS.wr (hV119.up g214) hw226 rfl
      have hV243 : Holds _ V79 w224 := OwnS.wr (hV121.up g214) hw226 rfl
      have kk244 : Keep _ a101 a223 := kk216.trans hk227 rfl
      obtain ⟨V245, h246, hV247⟩ := nameV h228
      clear h228
      refine wp_seg (l1 := [_]) [([2], [])] [2, 3, 4, 32] w169.heap.size hf225 g234.size (by kernel_rfl) (bund_cons (hb236.ownp hv235) bund_nil) ?_
      refine ch rfl (ob_faP (n := 0) (arg_free 0 rfl rfl) Tryz.underlying28 rfl (by kernel_rfl)) ?_
      refine ch_nil ?_
      intro a248 w249 hf250 hg251 hk252 hn253
      have h254 : Holds _ (a248.eval (.tmp 33)) w249 := hn253.at 0 0 rfl rfl rfl
      have h255 := hk252.holds rfl (h246.up hg251)
      have hv256 : Holds (Is (PtrV bk10)) (a248.eval (.tmp 2)) w249 := is_any (hk252.holds rfl hv235)
      have hb257 := hb236.up hg251
      have hv258 : Holds (Is (PtrV bk28)) (a248.eval (.tmp 3)) w249 := is_any (hk252.holds rfl hv237)
      have hb259 := hb238.up hg251
      have hv260 : Holds (Is (PtrV bk50)) (a248.eval (.tmp 4)) w249 := is_any (hk252.holds rfl hv239)
      have hb261 := hb240.up hg251
      have g262 := g229.trans hg251
      have g263 : Siz w2 w249 := g230.trans hg251
      have g264 : Siz w18 w249 := g231.trans hg251
      have g265 : Siz w37 w249 := g232.trans hg251
      have g266 : Siz w102 w249 := g233.trans hg251
      have g267 : Siz w169 w249 := g234.trans hg251
      have kk268 : Keep _ a101 a248 := kk244.trans hk252 rfl
      have hV269 := hV241.up hg251
      have hV270 := hV242.up hg251
      have hV271 := hV243.up hg251
      have hV272 := hV247.up hg251
      clear h246 hv235 hb236 hv237 hb238 hv239 hb240 g229 g230 g231 g232 g233 g234 kk244 hf225 hk252 hn253 hg251 hV241 hV242 hV243 hV247
      have hV273 : Holds _ V245 w249 := OwnC.own hV272
      refine wl_store_sl h254 h255 hV273 (show 2 < 5 by decide) szLocks ?_
      intro w274 ho275 hb276
      have hb277 : Blk bk10 (stVals V76 V77 V245 V79 _) w274 := hb276
      clear hb276
      have g278 : Grow w0 w274 := g262.only ho275 (by omega)
      have g279 : Siz w2 w274 := Siz.below g263.size ho275.below
      have g280 : Siz w18 w274 := Siz.below g264.size ho275.below
      have g281 : Siz w37 w274 := Siz.below g265.size ho275.below
      have hv284 : Holds (Is (PtrV bk10)) (a248.eval (.tmp 2)) w274 := is_any hv256
      have hv285 : Holds (Is (PtrV bk28)) (a248.eval (.tmp 3)) w274 := is_any hv258
      have hb286 : Blk bk28 _ w274 := hb259.only ho275 (by omega)
      have hv287 : Holds (Is (PtrV bk50)) (a248.eval (.tmp 4)) w274 := is_any hv260
      have hb288 : Blk bk50 _ w274 := hb261.only ho275 (by omega)
      have hV289 : Holds _ V76 w274 := OwnS.only hV269 ho275 (by omega)
      have hV290 : Holds _ V77 w274 := OwnS.only hV270 ho275 (by omega)
      have hV291 : Holds _ V79 w274 := OwnS.only hV271 ho275 (by omega)
      have hV292 : Holds _ V245 w274 := OwnS.only hV273 ho275 (by omega)
      refine wpList_nil ?_
      refine then_ ?_
      refine wp_seq ?_
      have g293 : Grow w274 w274 := Grow.refl _
      have hl294 : bk10 < w274.heap.size := hb277.lt
      have hl295 : bk28 < w274.heap.size := hb286.lt
      have hl296 : bk50 < w274.heap.size := hb288.lt
      have hz297 : w37.heap.size ≤ w274.heap.size := g281.size
      refine wp_region_lit ?_
      refine wp_seg (l1 := [_]) [([2], [])] [2, 3, 4] w274.heap.size hf250 g293.size (by kernel_rfl) (bund_cons (hb277.ownp hv284) bund_nil) ?_
      refine ch rfl (ob_load_state (ArgOK.ownp (arg_free 0 rfl rfl))) ?_
      refine ch_nil ?_
      intro a298 w299 hf300 hg301 hk302 hn303
      have h304 : Holds _ (a298.eval (.tmp 34)) w299 := hn303.at 0 0 rfl rfl rfl
      have hv305 : Holds (Is (PtrV bk10)) (a298.eval (.tmp 2)) w299 := is_any (hk302.holds rfl hv284)
      have hb306 := hb277.up hg301
      have hv307 : Holds (Is (PtrV bk28)) (a298.eval (.tmp 3)) w299 := is_any (hk302.holds rfl hv285)
      have hb308 := hb286.up hg301
      have hv309 : Holds (Is (PtrV bk50)) (a298.eval (.tmp 4)) w299 := is_any (hk302.holds rfl hv287)
      have hb310 := hb288.up hg301
      have g311 := g278.trans hg301
      have g312 : Siz w2 w299 := g279.trans hg301
      have g313 : Siz w18 w299 := g280.trans hg301
      have g314 : Siz w37 w299 := g281.trans hg301
      have g315 := g293.trans hg301
      have kk316 : Keep _ a101 a298 := kk268.trans hk302 rfl
      clear hv284 hb277 hv285 hb286 hv287 hb288 g278 g279 g280 g281 g293 kk268 hf250 hk302 hn303
      refine wl_store_state hv309 hb310 rfl h304 (st_oneS (OwnS.sl (hV289.up g315)) (OwnS.sl (hV290.up g315)) (OwnS.sl (hV292.up g315)) (OwnS.sl (hV291.up g315))) ?_
      intro w317 ho318 hb319
      have g320 : Grow w0 w317 := g311.only ho318 (by omega)
      have g321 : Siz w2 w317 := Siz.below g312.size ho318.below
      have g322 : Siz w18 w317 := Siz.below g313.size ho318.below
      have g323 : Siz w37 w317 := Siz.below g314.size ho318.below
      have hv325 : Holds (Is (PtrV bk10)) (a298.eval (.tmp 2)) w317 := is_any hv305
      have hb326 : Blk bk10 _ w317 := hb306.only ho318 (by omega)
      have hv327 : Holds (Is (PtrV bk28)) (a298.eval (.tmp 3)) w317 := is_any hv307
      have hb328 : Blk bk28 _ w317 := hb308.only ho318 (by omega)
      have hv329 : Holds (Is (PtrV bk50)) (a298.eval (.tmp 4)) w317 := is_any hv309
      have hV330 : Holds _ V76 w317 := OwnS.only (hV289.up g315) ho318 (by omega)
      have hV331 : Holds _ V77 w317 := OwnS.only (hV290.up g315) ho318 (by omega)
      have hV332 : Holds _ V79 w317 := OwnS.only (hV291.up g315) ho318 (by omega)
      have hV333 : Holds _ V245 w317 := OwnS.only (hV292.up g315) ho318 (by omega)
      refine wpList_nil ?_
      refine then_ ?_
      refine wp_ret ?_
      refine blockR ?_
      refine thenR ?_
      refine thenR ?_
      refine blockR ?_
      refine thenR ?_
      refine ret_cell rfl Tryz.underlying28 rfl (by kernel_rfl) hf300 g320 (hb319.ptr hv329) ?_
      exact sto_cast (mkO (OwnS.mono hV330 (by omega)) (OwnS.mono hV331 (by omega)) (OwnS.mono hV333 (by omega)) (OwnS.mono hV332 (by omega))) (by (rw [← close_yes hp, hi]))
    · intro hc188
      try simp only [cond_norm] at hc188
      have hst := none_step (p := fun k : GLock => decide (k.name = n)) (l := s.locks) (i := i) (by assumption) (decide_eq_false hc188)
      refine wp_skip ?_
      refine blockN ?_
      refine then_ ?_
      refine wp_region_lit ?_
      refine wp_all [([5], []), ([], [0]), ([], [1])] [2, 3, 4] w102.heap.size hf170 g186.size (by kernel_rfl) (bund_cons h175 bund_nil) ?_
      refine ch rfl (ob_move (arg_free 0 rfl rfl)) ?_
      first
        | (refine ch rfl (ob_add' (arg_op 0 0 rfl rfl rfl rfl) arg_c ?_) ?_; · omega)
        | refine ch rfl (ob_add (arg_op 0 0 rfl rfl rfl rfl) arg_c) ?_
      refine ch rfl (ob_assign (arg_op 1 0 rfl rfl rfl rfl)) ?_
      refine ch_nil ?_
      intro a334 w335 hf336 hg337 hk338 hn339
      have h340 : Holds _ (a334.eval (.tmp 5)) w335 := hn339.at 2 0 rfl rfl rfl
      have hv341 : Holds (Is (PtrV bk10)) (a334.eval (.tmp 2)) w335 := is_any (hk338.holds rfl hv176)
      have hb342 := hb177.up hg337
      have hv343 : Holds (Is (PtrV bk28)) (a334.eval (.tmp 3)) w335 := is_any (hk338.holds rfl hv178)
      have hb344 := hb179.up hg337
      have hv345 : Holds (Is (PtrV bk50)) (a334.eval (.tmp 4)) w335 := is_any (hk338.holds rfl hv180)
      have hb346 := hb181.up hg337
      have g347 := g182.trans hg337
      have g348 : Siz w2 w335 := g183.trans hg337
      have g349 : Siz w18 w335 := g184.trans hg337
      have g350 : Siz w37 w335 := g185.trans hg337
      have g351 := g186.trans hg337
      have kk352 : Keep _ a101 a334 := kk187.trans hk338 rfl
      clear hv176 hb177 hv178 hb179 hv180 hb181 g182 g183 g184 g185 g186 kk187 hf170 hk338 hn339 hg337
      refine then_ ?_
      exact ⟨(i + 1), (by ((try dsimp only); omega)), hf336, (by omega), (by exact hst), g347, g348.size, g349.size, g350.size, g351, kk352, (is_cast h340 (by first | rfl | (refine congrArg intV ?_; (try dsimp only); omega))), hb342, hb344, hb346⟩
  · intro hc165
    try simp only [cond_norm] at hc165
    have hz := idx_none (p := fun k : GLock => decide (k.name = n)) (l := s.locks) (i := i) (by assumption) (by omega); have hp : ¬ 0 ≤ fndK s.locks n := (by unfold fndK; omega)
    refine wp_exit ?_
    refine thenX ?_
    refine thenX ?_
    refine blockX ?_
    refine then_ ?_
    refine wp_seq ?_
    have g353 : Grow w146 w146 := Grow.refl _
    have hl354 : bk10 < w146.heap.size := hb154.lt
    have hl355 : bk28 < w146.heap.size := hb156.lt
    have hl356 : bk50 < w146.heap.size := hb158.lt
    have hz357 : w102.heap.size ≤ w146.heap.size := g163.size
    refine wp_region_lit ?_
    refine wp_seg (l1 := [_]) [([2], [])] [4] w146.heap.size hf147 g353.size (by kernel_rfl) (bund_cons (hb154.ownp hv153) bund_nil) ?_
    refine ch rfl (ob_load_state (ArgOK.ownp (arg_free 0 rfl rfl))) ?_
    refine ch_nil ?_
    intro a358 w359 hf360 hg361 hk362 hn363
    have h364 : Holds _ (a358.eval (.tmp 35)) w359 := hn363.at 0 0 rfl rfl rfl
    have hv365 : Holds (Is (PtrV bk50)) (a358.eval (.tmp 4)) w359 := is_any (hk362.holds rfl hv157)
    have hb366 := hb158.up hg361
    have g367 := g159.trans hg361
    have g368 : Siz w2 w359 := g160.trans hg361
    have g369 : Siz w18 w359 := g161.trans hg361
    have g370 : Siz w37 w359 := g162.trans hg361
    have g371 := g163.trans hg361
    have g372 := g353.trans hg361
    clear hv157 hb158 g159 g160 g161 g162 g163 g353 hf147 hk362 hn363
    refine wl_store_state hv365 hb366 rfl h364 (st_oneS (OwnS.sl (hV118.up g371)) (OwnS.sl (hV119.up g371)) (OwnS.sl (hV120.up g371)) (OwnS.sl (hV121.up g371))) ?_
    intro w373 ho374 hb375
    have g376 : Grow w0 w373 := g367.only ho374 (by omega)
    have g377 : Siz w2 w373 := Siz.below g368.size ho374.below
    have g378 : Siz w18 w373 := Siz.below g369.size ho374.below
    have g379 : Siz w37 w373 := Siz.below g370.size ho374.below
    have hv382 : Holds (Is (PtrV bk50)) (a358.eval (.tmp 4)) w373 := is_any hv365
    have hV383 : Holds _ V76 w373 := OwnS.only (hV118.up g371) ho374 (by omega)
    have hV384 : Holds _ V77 w373 := OwnS.only (hV119.up g371) ho374 (by omega)
    have hV385 : Holds _ V78 w373 := OwnS.only (hV120.up g371) ho374 (by omega)
    have hV386 : Holds _ V79 w373 := OwnS.only (hV121.up g371) ho374 (by omega)
    refine wpList_nil ?_
    refine then_ ?_
    refine wp_ret ?_
    refine ret_cell rfl Tryz.underlying28 rfl (by kernel_rfl) hf360 g376 (hb375.ptr hv382) ?_
    exact sto_cast (mkO (OwnS.mono hV383 (by omega)) (OwnS.mono hV384 (by omega)) (OwnS.mono hV385 (by omega)) (OwnS.mono hV386 (by omega))) (by exact close_no hp)
end Ex
end Go.Proofs.YtnmfiiejhoafnaaGreat
