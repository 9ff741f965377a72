/- Ordered lists: taken out, put in. -/
import Derived.Test.YtnmfiiejhoafnaaGreatPvState6
import Derived.Test.YtnmfiiejhoafnaaGreatPvRow4
set_option linter.unusedSimpArgs false
set_option linter.unusedVariables false
namespace Go.Proofs.YtnmfiiejhoafnaaGreat
namespace Ex
open Go Calm Go.RowKit
set_option maxRecDepth 100000 in
theorem c_delD {l : List GDelta} {z1 z2 : Int} (i : Nat) (h1 : z1 = (i : Int)) (h2 : z2 = ((i + 1 : Nat) : Int)) (hi : i < l.length) (hl : l.length ≤ 100000) : ConD 97 elDelta l (intV z1) (intV z2) (l.take i ++ l.drop (i + 1)) := by
  intro wl v0 w0 gl hv0
  refine enter Tryz.func97 rfl Tryz.ntmps97 (by simp) ?_
  intro a0 hf0 ha
  have h00 : Holds (Is v0) (a0.eval (.tmp 0)) w0 := arg_holds ha rfl rfl
  have h01 : Holds (Is (intV z1)) (a0.eval (.tmp 1)) w0 := arg_holds ha rfl rfl
  have h02 : Holds (Is (intV z2)) (a0.eval (.tmp 2)) w0 := arg_holds ha rfl rfl
  clear ha
  have g0 : Grow w0 w0 := Grow.refl _
  have q0 : Siz w0 w0 := Nat.le_refl _
  have r0 : Wr wl.heap.size elDelta.tid w0 w0 := Wr.refl _
  have gz : wl.heap.size ≤ w0.heap.size := gl
  refine wp_seq ?_
  refine wp_region_lit ?_
  refine wp_all [([], [])] [0, 1, 2] w0.heap.size hf0 g0.size (by kernel_rfl) bund_nil ?_
  refine ch rfl (ob_assign (arg_cg (G := Any) (fun w => trivial))) ?_
  refine ch_nil ?_
  intro a1 w2 hf3 hg4 hk5 hn6
  have h7 := hk5.holds rfl h00
  have h8 := hk5.holds rfl h01
  have h9 := hk5.holds rfl h02
  have g10 : Siz wl w2 := gl.trans hg4
  have g11 := g0.trans hg4
  have r12 : Wr _ _ w0 w2 := r0.grow hg4 (Nat.le_trans gz q0.size)
  have q13 : Siz w0 w2 := q0.trans hg4
  clear h00 h01 h02 gl g0 r0 q0 hf0 hk5 hn6
  refine then_ ?_
  refine wp_seq ?_
  refine wp_region_lit ?_
  refine wp_all [([0], []), ([1], []), ([2], []), ([0], []), ([], [3]), ([], [0, 1, 2, 4])] [0, 1, 2] w0.heap.size hf3 g11.size (by kernel_rfl) (bund_cons (is_any h7) (bund_cons (is_any h8) (bund_cons (is_any h9) bund_nil))) ?_
  refine ch rfl (ob_move (arg_free 0 rfl rfl)) ?_
  refine ch rfl (ob_move (arg_free 1 rfl rfl)) ?_
  refine ch rfl (ob_move (arg_free 2 rfl rfl)) ?_
  refine ch rfl (ob_move (arg_free 0 rfl rfl)) ?_
  refine ch rfl (ob_len (ArgOK.sl (ArgOK.val (arg_op 3 0 rfl rfl rfl rfl) (hv0.up g11))) Tryz.underlying22) ?_
  refine ch rfl (ob_slice3_any (ArgOK.sl (ArgOK.val (arg_op 0 4 rfl rfl rfl rfl) (hv0.up g11))) (arg_op 1 3 rfl rfl rfl rfl) (arg_op 2 2 rfl rfl rfl rfl) (arg_op 4 0 rfl rfl rfl rfl) ?_ Tryz.underlying22 szDelta) ?_
  · omega
  refine ch_nil ?_
  intro a14 w15 hf16 hg17 hk18 hn19
  have h20 := hk18.holds rfl h7
  have h21 := hk18.holds rfl h8
  have h22 := hk18.holds rfl h9
  have g23 : Siz wl w15 := g10.trans hg17
  have g24 := g11.trans hg17
  have r25 : Wr _ _ w0 w15 := r12.grow hg17 (Nat.le_trans gz q13.size)
  have q26 : Siz w0 w15 := q13.trans hg17
  clear h7 h8 h9 g10 g11 r12 q13 hf3 hk18 hn19 hg17
  refine then_ ?_
  refine wp_seq ?_
  refine wp_seq ?_
  refine wp_region_lit ?_
  refine wp_all [([1], []), ([2], []), ([], [0, 1])] [0, 1, 2] w0.heap.size hf16 g24.size (by kernel_rfl) (bund_cons (is_any h21) (bund_cons (is_any h22) bund_nil)) ?_
  refine ch rfl (ob_move (arg_free 0 rfl rfl)) ?_
  refine ch rfl (ob_move (arg_free 1 rfl rfl)) ?_
  refine ch rfl (ob_eql (arg_op 0 1 rfl rfl rfl rfl) (arg_op 1 0 rfl rfl rfl rfl)) ?_
  refine ch_nil ?_
  intro a27 w28 hf29 hg30 hk31 hn32
  have h33 : Holds _ (a27.eval (.tmp 16)) w28 := hn32.at 2 0 rfl rfl rfl
  have h34 := hk31.holds rfl h20
  have h35 := hk31.holds rfl h21
  have h36 := hk31.holds rfl h22
  have g37 : Siz wl w28 := g23.trans hg30
  have g38 := g24.trans hg30
  have r39 : Wr _ _ w0 w28 := r25.grow hg30 (Nat.le_trans gz q26.size)
  have q40 : Siz w0 w28 := q26.trans hg30
  clear h20 h21 h22 g23 g24 r25 q26 hf16 hk31 hn32 hg30
  refine then_ ?_
  refine wp_if h33 ?_ ?_
  · intro hc41
    try simp only [cond_norm] at hc41
    exact absurd hc41 (by omega)
  · intro hc41
    try simp only [cond_norm] at hc41
    refine wp_skip ?_
    refine then_ ?_
    refine wp_seq ?_
    refine wp_region_lit ?_
    refine wp_all [([0], []), ([], [0]), ([], [1])] [0, 1, 2] w0.heap.size hf29 g38.size (by kernel_rfl) (bund_cons (is_any h34) bund_nil) ?_
    refine ch rfl (ob_move (arg_free 0 rfl rfl)) ?_
    refine ch rfl (ob_len (ArgOK.sl (ArgOK.val (arg_op 0 0 rfl rfl rfl rfl) (hv0.up g38))) Tryz.underlying22) ?_
    refine ch rfl (ob_assign (arg_op 1 0 rfl rfl rfl rfl)) ?_
    refine ch_nil ?_
    intro a42 w43 hf44 hg45 hk46 hn47
    have h48 : Holds _ (a42.eval (.tmp 7)) w43 := hn47.at 2 0 rfl rfl rfl
    have h49 := hk46.holds rfl h34
    have h50 := hk46.holds rfl h35
    have h51 := hk46.holds rfl h36
    have g52 : Siz wl w43 := g37.trans hg45
    have g53 := g38.trans hg45
    have r54 : Wr _ _ w0 w43 := r39.grow hg45 (Nat.le_trans gz q40.size)
    have q55 : Siz w0 w43 := q40.trans hg45
    clear h34 h35 h36 g37 g38 r39 q40 hf29 hk46 hn47 hg45
    refine then_ ?_
    refine wp_seq ?_
    have g56 : Grow w43 w43 := Grow.refl _
    have hz57 : w0.heap.size ≤ w43.heap.size := g53.size
    refine wp_calm_tail (l1 := [_, _, _, _, _, _]) [0, 0, 3, 0, 0, 24, 63, 127] [([0], []), ([1], []), ([], [0, 1]), ([0], []), ([2], []), ([], [3, 4])] [0, 7] w43.heap.size hf44 g56.size (by kernel_rfl) (bund_cons (is_any h49) (bund_cons (is_any h50) (bund_cons (is_any h51) bund_nil))) ?_
    intro ws58 hs59
    refine ch rfl (ob_move (arg_free 0 rfl rfl)) ?_
    refine ch rfl (ob_move (arg_free 1 rfl rfl)) ?_
    refine ch rfl (ob_slice_toC (arg_op 0 1 rfl rfl rfl rfl) ((hv0.up g53).up hs59) (arg_op 1 0 rfl rfl rfl rfl) (h1) ?_ ?_ Tryz.underlying22 szDelta) ?_
    · omega
    · omega
    refine ch rfl (ob_move (arg_free 0 rfl rfl)) ?_
    refine ch rfl (ob_move (arg_free 2 rfl rfl)) ?_
    refine ch rfl (ob_slice_from (ArgOK.sl (ArgOK.val (arg_op 3 1 rfl rfl rfl rfl) ((hv0.up g53).up hs59))) (arg_op 4 0 rfl rfl rfl rfl) (h2) ?_ Tryz.underlying22 szDelta) ?_
    · omega
    refine ch_nil ?_
    intro a60 w61 hf62 hg63 hk64 hn65
    have h66 : Holds _ (a60.eval (.tmp 22)) w61 := hn65.at 2 3 rfl rfl rfl
    have h67 : Holds _ (a60.eval (.tmp 25)) w61 := hn65.at 5 0 rfl rfl rfl
    have h68 := hk64.holds rfl h48
    have h69 := hk64.holds rfl h49
    have g70 : Siz wl w61 := g52.trans hg63
    have g71 := g53.trans hg63
    have g72 := g56.trans hg63
    have r73 : Wr _ _ w0 w61 := r54.grow hg63 (Nat.le_trans gz q55.size)
    have q74 : Siz w0 w61 := q55.trans hg63
    clear h48 h49 g52 g53 g56 r54 q55 hf44 hk64 hn65
    obtain ⟨V75, h76, hV77⟩ := nameV h66
    clear h66
    obtain ⟨V78, h79, hV80⟩ := nameV h67
    clear h67
    refine wl_appendC elDeltaP [0, 7] hf62 (by kernel_rfl) rfl Tryz.underlying22 (unV h76 hV77) (unV h79 hV80) ?_ g70.size ?_
    · (simp only [List.length_append, List.length_take, List.length_drop]; omega)
    intro a81 w82 hf83 hw84 hk85 h86
    have r87 : Wr _ _ w0 w82 := r73.trans hw84 (by omega)
    have q88 : Siz w0 w82 := Siz.below q74.size hw84.below
    have g89 : Siz wl w82 := Siz.below g70.size hw84.below
    have g90 : Siz w0 w82 := Siz.below g71.size hw84.below
    have g91 : Siz w43 w82 := Siz.below g72.size hw84.below
    have h92 : Holds _ (a81.eval (.tmp 7)) w82 := is_any (hk85.holds rfl h68)
    have h93 : Holds _ (a81.eval (.tmp 0)) w82 := is_any (hk85.holds rfl h69)
    obtain ⟨V94, h95, hV96⟩ := nameV h86
    clear h86
    refine wp_all [([26], [])] [7] w43.heap.size hf83 g91.size (by kernel_rfl) (bund_cons h95 bund_nil) ?_
    refine ch rfl (ob_assign (arg_free 0 rfl rfl)) ?_
    refine ch_nil ?_
    intro a97 w98 hf99 hg100 hk101 hn102
    have h103 : Holds _ (a97.eval (.tmp 0)) w98 := hn102.at 0 0 rfl rfl rfl
    have h104 := hk101.holds rfl (h92.up hg100)
    have g105 : Siz wl w98 := g89.trans hg100
    have g106 : Siz w0 w98 := g90.trans hg100
    have g107 : Siz w43 w98 := g91.trans hg100
    have r108 : Wr _ _ w0 w98 := r87.grow hg100 (Nat.le_trans gz q88.size)
    have q109 : Siz w0 w98 := q88.trans hg100
    have hV110 := hV96.up hg100
    clear h92 g89 g90 g91 r87 q88 hf83 hk101 hn102 hg100 hV96
    refine then_ ?_
    refine wp_seq ?_
    have g111 : Grow w98 w98 := Grow.refl _
    have hz112 : w43.heap.size ≤ w98.heap.size := g107.size
    refine wp_region_lit ?_
    refine wp_seg (l1 := [_, _, _, _, _]) [([0], []), ([0], []), ([], [1]), ([7], []), ([], [0, 2, 3])] [0] w98.heap.size hf99 g111.size (by kernel_rfl) (bund_cons h103 (bund_cons h104 bund_nil)) ?_
    refine ch rfl (ob_move (arg_free 0 rfl rfl)) ?_
    refine ch rfl (ob_move (arg_free 0 rfl rfl)) ?_
    refine ch rfl (ob_len (ArgOK.sl (ArgOK.ownc (ArgOK.val (arg_op 1 0 rfl rfl rfl rfl) hV110))) Tryz.underlying22) ?_
    refine ch rfl (ob_move (arg_free 1 rfl rfl)) ?_
    refine ch rfl (ob_slice_subC (arg_op 0 3 rfl rfl rfl rfl) hV110 (arg_op 2 1 rfl rfl rfl rfl) (arg_op 3 0 rfl rfl rfl rfl) (rfl) (rfl) ?_ ?_ Tryz.underlying22 szDelta) ?_
    · (simp only [List.length_append, List.length_take, List.length_drop]; omega)
    · omega
    refine ch_nil ?_
    intro a113 w114 hf115 hg116 hk117 hn118
    have h119 : Holds _ (a113.eval (.tmp 31)) w114 := hn118.at 4 0 rfl rfl rfl
    have h120 := hk117.holds rfl h103
    have g121 : Siz wl w114 := g105.trans hg116
    have g122 : Siz w0 w114 := g106.trans hg116
    have g123 : Siz w43 w114 := g107.trans hg116
    have g124 := g111.trans hg116
    have r125 : Wr _ _ w0 w114 := r108.grow hg116 (Nat.le_trans gz q109.size)
    have q126 : Siz w0 w114 := q109.trans hg116
    clear h103 g105 g106 g107 g111 r108 q109 hf99 hk117 hn118
    refine wl_clear elDeltaP Tryz.underlying22 (hV110.up g124) (sub_any h119) ?_ ?_ ?_
    · exact Nat.le_refl _
    · (simp only [List.length_append, List.length_take, List.length_drop]; omega)
    intro w127 hw128 hV129
    have r130 : Wr _ _ w0 w127 := r125.trans hw128 (by omega)
    have q131 : Siz w0 w127 := Siz.below q126.size hw128.below
    have g132 : Siz wl w127 := Siz.below g121.size hw128.below
    have h133 : Holds _ (a113.eval (.tmp 0)) w127 := is_any h120
    have h134 : Holds _ (a113.eval (.tmp 0)) w127 := is_any h120
    refine wpList_nil ?_
    refine then_ ?_
    refine wp_seq ?_
    refine wp_region_lit ?_
    refine wp_all [([0], []), ([], [0])] [] wl.heap.size hf115 g132.size (by kernel_rfl) (bund_cons h134 bund_nil) ?_
    refine ch rfl (ob_move (arg_free 0 rfl rfl)) ?_
    refine ch rfl (ob_assign (arg_op 0 0 rfl rfl rfl rfl)) ?_
    refine ch_nil ?_
    intro a135 w136 hf137 hg138 hk139 hn140
    have h141 : Holds _ (a135.eval (.tmp 6)) w136 := hn140.at 1 0 rfl rfl rfl
    have g142 : Siz wl w136 := g132.trans hg138
    have r143 : Wr _ _ w0 w136 := r130.grow hg138 (Nat.le_trans gz q131.size)
    have q144 : Siz w0 w136 := q131.trans hg138
    have hV145 := hV129.up hg138
    clear g132 r130 q131 hf115 hk139 hn140 hg138 hV129
    refine then_ ?_
    refine wp_ret ?_
    exact ret_wr rfl hf137 r143 (OwnC.own (unV h141 hV145))
set_option maxRecDepth 100000 in
theorem c_insD {l : List GDelta} {x : GDelta} {z : Int} (i : Nat) (h1 : z = (i : Int)) (hi : i ≤ l.length) (hl : l.length ≤ 100000) : ConI 98 elDelta l (intV z) [x] (l.take i ++ x :: l.drop i) := by
  intro wl wm v0 v2 w0 gm hv0 gg hv2
  have gl : Siz wl w0 := gm.trans gg
  have gy : wm.heap.size ≤ w0.heap.size := gg.size
  have gx : wl.heap.size ≤ wm.heap.size := gm
  refine enter Tryz.func98 rfl Tryz.ntmps98 (by simp) ?_
  intro a0 hf0 ha
  have h00 : Holds (Is v0) (a0.eval (.tmp 0)) w0 := arg_holds ha rfl rfl
  have h01 : Holds (Is (intV z)) (a0.eval (.tmp 1)) w0 := arg_holds ha rfl rfl
  have h02 : Holds (Is v2) (a0.eval (.tmp 2)) w0 := arg_holds ha rfl rfl
  clear ha
  have g0 : Grow w0 w0 := Grow.refl _
  have q0 : Siz w0 w0 := Nat.le_refl _
  have r0 : Wr wl.heap.size elDelta.tid w0 w0 := Wr.refl _
  have gz : wl.heap.size ≤ w0.heap.size := gl
  refine wp_seq ?_
  refine wp_region_lit ?_
  refine wp_all [([], [])] [0, 1, 2] w0.heap.size hf0 g0.size (by kernel_rfl) bund_nil ?_
  refine ch rfl (ob_assign (arg_cg (G := Any) (fun w => trivial))) ?_
  refine ch_nil ?_
  intro a1 w2 hf3 hg4 hk5 hn6
  have h7 := hk5.holds rfl h00
  have h8 := hk5.holds rfl h01
  have h9 := hk5.holds rfl h02
  have g10 : Siz wl w2 := gl.trans hg4
  have g11 := gg.trans hg4
  have g12 := g0.trans hg4
  have r13 : Wr _ _ w0 w2 := r0.grow hg4 (Nat.le_trans gz q0.size)
  have q14 : Siz w0 w2 := q0.trans hg4
  clear h00 h01 h02 gl gg g0 r0 q0 hf0 hk5 hn6
  refine then_ ?_
  refine wp_seq ?_
  refine wp_region_lit ?_
  refine wp_all [([0], []), ([1], []), ([], [0, 1])] [0, 1, 2] w0.heap.size hf3 g12.size (by kernel_rfl) (bund_cons (is_any h7) (bund_cons (is_any h8) bund_nil)) ?_
  refine ch rfl (ob_move (arg_free 0 rfl rfl)) ?_
  refine ch rfl (ob_move (arg_free 1 rfl rfl)) ?_
  refine ch rfl (ob_slice_from (ArgOK.sl (ArgOK.val (arg_op 0 1 rfl rfl rfl rfl) (hv0.up g11))) (arg_op 1 0 rfl rfl rfl rfl) (h1) ?_ Tryz.underlying22 szDelta) ?_
  · omega
  refine ch_nil ?_
  intro a15 w16 hf17 hg18 hk19 hn20
  have h21 := hk19.holds rfl h7
  have h22 := hk19.holds rfl h8
  have h23 := hk19.holds rfl h9
  have g24 : Siz wl w16 := g10.trans hg18
  have g25 := g11.trans hg18
  have g26 := g12.trans hg18
  have r27 : Wr _ _ w0 w16 := r13.grow hg18 (Nat.le_trans gz q14.size)
  have q28 : Siz w0 w16 := q14.trans hg18
  clear h7 h8 h9 g10 g11 g12 r13 q14 hf3 hk19 hn20 hg18
  refine then_ ?_
  refine wp_seq ?_
  refine wp_region_lit ?_
  refine wp_all [([2], []), ([], [0]), ([], [1])] [0, 1, 2] w0.heap.size hf17 g26.size (by kernel_rfl) (bund_cons (is_any h23) bund_nil) ?_
  refine ch rfl (ob_move (arg_free 0 rfl rfl)) ?_
  refine ch rfl (ob_len (ArgOK.sl (ArgOK.val (arg_op 0 0 rfl rfl rfl rfl) (hv2.up g26))) Tryz.underlying22) ?_
  refine ch rfl (ob_assign (arg_op 1 0 rfl rfl rfl rfl)) ?_
  refine ch_nil ?_
  intro a29 w30 hf31 hg32 hk33 hn34
  have h35 : Holds _ (a29.eval (.tmp 7)) w30 := hn34.at 2 0 rfl rfl rfl
  have h36 := hk33.holds rfl h21
  have h37 := hk33.holds rfl h22
  have h38 := hk33.holds rfl h23
  have g39 : Siz wl w30 := g24.trans hg32
  have g40 := g25.trans hg32
  have g41 := g26.trans hg32
  have r42 : Wr _ _ w0 w30 := r27.grow hg32 (Nat.le_trans gz q28.size)
  have q43 : Siz w0 w30 := q28.trans hg32
  clear h21 h22 h23 g24 g25 g26 r27 q28 hf17 hk33 hn34 hg32
  refine then_ ?_
  refine wp_seq ?_
  refine wp_seq ?_
  have h44 : Holds (Is (intV 1)) (a29.eval (.tmp 7)) w30 := is_cast h35 (rfl)
  refine wp_region_lit ?_
  refine wp_all [([7], []), ([], [0])] [0, 1, 2, 7] w0.heap.size hf31 g41.size (by kernel_rfl) (bund_cons h44 bund_nil) ?_
  refine ch rfl (ob_move (arg_free 0 rfl rfl)) ?_
  refine ch rfl (ob_eql (arg_op 0 0 rfl rfl rfl rfl) arg_c) ?_
  refine ch_nil ?_
  intro a45 w46 hf47 hg48 hk49 hn50
  have h51 : Holds _ (a45.eval (.tmp 16)) w46 := hn50.at 1 0 rfl rfl rfl
  have h52 := hk49.holds rfl (h44.up hg48)
  have h53 := hk49.holds rfl h36
  have h54 := hk49.holds rfl h37
  have h55 := hk49.holds rfl h38
  have g56 : Siz wl w46 := g39.trans hg48
  have g57 := g40.trans hg48
  have g58 := g41.trans hg48
  have r59 : Wr _ _ w0 w46 := r42.grow hg48 (Nat.le_trans gz q43.size)
  have q60 : Siz w0 w46 := q43.trans hg48
  clear h44 h36 h37 h38 g39 g40 g41 r42 q43 hf31 hk49 hn50 hg48
  refine then_ ?_
  refine wp_if h51 ?_ ?_
  · intro hc61
    try simp only [cond_norm] at hc61
    exact absurd hc61 (by omega)
  · intro hc61
    try simp only [cond_norm] at hc61
    refine wp_skip ?_
    refine then_ ?_
    refine wp_seq ?_
    refine wp_region_lit ?_
    refine wp_all [([0], []), ([], [0]), ([], [1])] [0, 1, 2, 7] w0.heap.size hf47 g58.size (by kernel_rfl) (bund_cons (is_any h53) bund_nil) ?_
    refine ch rfl (ob_move (arg_free 0 rfl rfl)) ?_
    refine ch rfl (ob_len (ArgOK.sl (ArgOK.val (arg_op 0 0 rfl rfl rfl rfl) (hv0.up g57))) Tryz.underlying22) ?_
    refine ch rfl (ob_assign (arg_op 1 0 rfl rfl rfl rfl)) ?_
    refine ch_nil ?_
    intro a62 w63 hf64 hg65 hk66 hn67
    have h68 : Holds _ (a62.eval (.tmp 8)) w63 := hn67.at 2 0 rfl rfl rfl
    have h69 := hk66.holds rfl (h52.up hg65)
    have h70 := hk66.holds rfl h53
    have h71 := hk66.holds rfl h54
    have h72 := hk66.holds rfl h55
    have g73 : Siz wl w63 := g56.trans hg65
    have g74 := g57.trans hg65
    have g75 := g58.trans hg65
    have r76 : Wr _ _ w0 w63 := r59.grow hg65 (Nat.le_trans gz q60.size)
    have q77 : Siz w0 w63 := q60.trans hg65
    clear h52 h53 h54 h55 g56 g57 g58 r59 q60 hf47 hk66 hn67 hg65
    refine then_ ?_
    refine wp_seq ?_
    refine wp_seq ?_
    refine wp_region_lit ?_
    refine wp_all [([1], []), ([8], []), ([], [0, 1])] [0, 1, 2, 7, 8] w0.heap.size hf64 g75.size (by kernel_rfl) (bund_cons (is_any h71) (bund_cons h68 bund_nil)) ?_
    refine ch rfl (ob_move (arg_free 0 rfl rfl)) ?_
    refine ch rfl (ob_move (arg_free 1 rfl rfl)) ?_
    refine ch rfl (ob_eql (arg_op 0 1 rfl rfl rfl rfl) (arg_op 1 0 rfl rfl rfl rfl)) ?_
    refine ch_nil ?_
    intro a78 w79 hf80 hg81 hk82 hn83
    have h84 : Holds _ (a78.eval (.tmp 22)) w79 := hn83.at 2 0 rfl rfl rfl
    have h85 := hk82.holds rfl (h68.up hg81)
    have h86 := hk82.holds rfl (h69.up hg81)
    have h87 := hk82.holds rfl h70
    have h88 := hk82.holds rfl h71
    have h89 := hk82.holds rfl h72
    have g90 : Siz wl w79 := g73.trans hg81
    have g91 := g74.trans hg81
    have g92 := g75.trans hg81
    have r93 : Wr _ _ w0 w79 := r76.grow hg81 (Nat.le_trans gz q77.size)
    have q94 : Siz w0 w79 := q77.trans hg81
    clear h68 h69 h70 h71 h72 g73 g74 g75 r76 q77 hf64 hk82 hn83 hg81
    refine then_ ?_
    refine wp_if h84 ?_ ?_
    · intro hc95
      try simp only [cond_norm] at hc95
      obtain rfl : i = l.length := by omega
      refine wp_seq ?_
      have g96 : Grow w79 w79 := Grow.refl _
      have hz97 : w0.heap.size ≤ w79.heap.size := g92.size
      refine wp_region_lit ?_
      refine wp_seg (l1 := [_, _]) [([0], []), ([2], [])] [] w79.heap.size hf80 g96.size (by kernel_rfl) (bund_cons (is_any h87) (bund_cons (is_any h89) bund_nil)) ?_
      refine ch rfl (ob_move (arg_free 0 rfl rfl)) ?_
      refine ch rfl (ob_move (arg_free 1 rfl rfl)) ?_
      refine ch_nil ?_
      intro a98 w99 hf100 hg101 hk102 hn103
      have h104 : Holds _ (a98.eval (.tmp 23)) w99 := hn103.at 0 1 rfl rfl rfl
      have h105 : Holds _ (a98.eval (.tmp 24)) w99 := hn103.at 1 0 rfl rfl rfl
      have g106 : Siz wl w99 := g90.trans hg101
      have g107 := g91.trans hg101
      have g108 := g92.trans hg101
      have g109 := g96.trans hg101
      have r110 : Wr _ _ w0 w99 := r93.grow hg101 (Nat.le_trans gz q94.size)
      have q111 : Siz w0 w99 := q94.trans hg101
      clear g90 g91 g92 g96 r93 q94 hf80 hk102 hn103
      refine wl_appendW elDeltaP [] hf100 (by kernel_rfl) rfl Tryz.underlying22 (unV h104 (hv0.up g107)) (OwnS.sl (unV h105 (hv2.up g108))) ?_ ?_ g106.size ?_
      · (simp only [List.length_append, List.length_take, List.length_drop, List.length_cons, List.length_nil, List.length_replicate, maxLen, elNm, elDelta, elLock]; omega)
      · (simp only [List.length_append, List.length_take, List.length_drop, List.length_cons, List.length_nil, List.length_replicate, maxLen, elNm, elDelta, elLock]; omega)
      intro a112 w113 hf114 hw115 hk116 h117
      have r118 : Wr _ _ w0 w113 := r110.trans hw115 (by omega)
      have q119 : Siz w0 w113 := Siz.below q111.size hw115.below
      have g120 : Siz wl w113 := Siz.below g106.size hw115.below
      have g121 : Siz wm w113 := Siz.below g107.size hw115.below
      obtain ⟨V122, h123, hV124⟩ := nameV h117
      clear h117
      refine wp_all [([25], [])] [] wm.heap.size hf114 g121.size (by kernel_rfl) (bund_cons h123 bund_nil) ?_
      refine ch rfl (ob_assign (arg_free 0 rfl rfl)) ?_
      refine ch_nil ?_
      intro a125 w126 hf127 hg128 hk129 hn130
      have h131 : Holds _ (a125.eval (.tmp 6)) w126 := hn130.at 0 0 rfl rfl rfl
      have g132 : Siz wl w126 := g120.trans hg128
      have g133 : Siz wm w126 := g121.trans hg128
      have r134 : Wr _ _ w0 w126 := r118.grow hg128 (Nat.le_trans gz q119.size)
      have q135 : Siz w0 w126 := q119.trans hg128
      have hV136 := hV124.up hg128
      clear g120 g121 r118 q119 hf114 hk129 hn130 hg128 hV124
      refine then_ ?_
      refine wp_ret ?_
      refine thenR ?_
      exact ret_wr rfl hf127 r134 (OwnS.mono (cast_own (by first | rfl | (rw [List.take_length, List.drop_length])) (unV h131 hV136)) (by omega))
    · intro hc95
      try simp only [cond_norm] at hc95
      have hi2 : i < l.length := by omega
      refine wp_skip ?_
      refine then_ ?_
      refine wp_seq ?_
      refine wp_seq ?_
      have g137 : Grow w79 w79 := Grow.refl _
      have hz138 : w0.heap.size ≤ w79.heap.size := g92.size
      refine wp_region_lit ?_
      refine wp_all [([8], []), ([7], []), ([], [0, 1]), ([0], []), ([], [3]), ([], [2, 4])] [0, 1, 2, 7, 8] w79.heap.size hf80 g137.size (by kernel_rfl) (bund_cons h85 (bund_cons h86 (bund_cons (is_any h87) bund_nil))) ?_
      refine ch rfl (ob_move (arg_free 0 rfl rfl)) ?_
      refine ch rfl (ob_move (arg_free 1 rfl rfl)) ?_
      first
        | (refine ch rfl (ob_add' (arg_op 0 1 rfl rfl rfl rfl) (arg_op 1 0 rfl rfl rfl rfl) ?_) ?_; · omega)
        | refine ch rfl (ob_add (arg_op 0 1 rfl rfl rfl rfl) (arg_op 1 0 rfl rfl rfl rfl)) ?_
      refine ch rfl (ob_move (arg_free 2 rfl rfl)) ?_
      refine ch rfl (ob_cap (arg_op 3 0 rfl rfl rfl rfl) (OwnS.sl (hv0.up g91)) Tryz.underlying22) ?_
      refine ch rfl (ob_gtr (arg_op 2 2 rfl rfl rfl rfl) (arg_op 4 0 rfl rfl rfl rfl)) ?_
      refine ch_nil ?_
      intro a139 w140 hf141 hg142 hk143 hn144
      have h145 : Holds _ (a139.eval (.tmp 31)) w140 := hn144.at 5 0 rfl rfl rfl
      have h146 := hk143.holds rfl h85
      have h147 := hk143.holds rfl h86
      have h148 := hk143.holds rfl h87
      have h149 := hk143.holds rfl h88
      have h150 := hk143.holds rfl h89
      have g151 : Siz wl w140 := g90.trans hg142
      have g152 := g91.trans hg142
      have g153 := g92.trans hg142
      have g154 := g137.trans hg142
      have r155 : Wr _ _ w0 w140 := r93.grow hg142 (Nat.le_trans gz q94.size)
      have q156 : Siz w0 w140 := q94.trans hg142
      clear h85 h86 h87 h88 h89 g90 g91 g92 g137 r93 q94 hf80 hk143 hn144
      refine then_ ?_
      refine wp_if h145 ?_ ?_
      · intro hc157
        try simp only [cond_norm] at hc157
        have hcap := hc157
        refine wp_seq ?_
        have g158 : Grow w140 w140 := Grow.refl _
        have hz159 : w79.heap.size ≤ w140.heap.size := g154.size
        refine wp_region_lit ?_
        refine wp_all [([0], []), ([1], []), ([], [0, 1]), ([8], []), ([7], []), ([], [3, 4]), ([1], []), ([], [5, 6]), ([], [2, 7]), ([], [8])] [0, 1, 2, 7] w140.heap.size hf141 g158.size (by kernel_rfl) (bund_cons (is_any h148) (bund_cons (is_any h149) (bund_cons (is_any h146) (bund_cons (is_any h147) bund_nil)))) ?_
        refine ch rfl (ob_move (arg_free 0 rfl rfl)) ?_
        refine ch rfl (ob_move (arg_free 1 rfl rfl)) ?_
        refine ch rfl (ob_slice_toK (arg_op 0 1 rfl rfl rfl rfl) (hv0.up g152) (arg_op 1 0 rfl rfl rfl rfl) (h1) ?_ ?_ Tryz.underlying22 szDelta) ?_
        · omega
        · omega
        refine ch rfl (ob_move (arg_free 2 rfl rfl)) ?_
        refine ch rfl (ob_move (arg_free 3 rfl rfl)) ?_
        first
          | (refine ch rfl (ob_add' (arg_op 3 1 rfl rfl rfl rfl) (arg_op 4 0 rfl rfl rfl rfl) ?_) ?_; · omega)
          | refine ch rfl (ob_add (arg_op 3 1 rfl rfl rfl rfl) (arg_op 4 0 rfl rfl rfl rfl)) ?_
        refine ch rfl (ob_move (arg_free 1 rfl rfl)) ?_
        first
          | (refine ch rfl (ob_sub' (arg_op 5 1 rfl rfl rfl rfl) (arg_op 6 0 rfl rfl rfl rfl) ?_) ?_; · omega)
          | refine ch rfl (ob_sub (arg_op 5 1 rfl rfl rfl rfl) (arg_op 6 0 rfl rfl rfl rfl)) ?_
        refine ch rfl (ob_append_zeros elDeltaP (k := (l.length + 1 - i)) (arg_op 2 5 rfl rfl rfl rfl) (arg_op 7 0 rfl rfl rfl rfl) ?_ ?_ ?_ ?_ ?_ Tryz.underlying22 Tryz.underlying3) ?_
        · omega
        · omega
        · (simp only [List.length_append, List.length_take, List.length_drop, List.length_cons, List.length_nil, List.length_replicate, maxLen, elNm, elDelta, elLock]; omega)
        · (simp only [List.length_append, List.length_take, List.length_drop, List.length_cons, List.length_nil, List.length_replicate, maxLen, elNm, elDelta, elLock]; omega)
        · (simp only [List.length_append, List.length_take, List.length_drop, List.length_cons, List.length_nil, List.length_replicate, maxLen, elNm, elDelta, elLock]; omega)
        refine ch rfl (ob_assign (arg_op 8 0 rfl rfl rfl rfl)) ?_
        refine ch_nil ?_
        intro a160 w161 hf162 hg163 hk164 hn165
        have h166 : Holds (OwnS w140.heap.size _ _) (a160.eval (.tmp 9)) w161 := hn165.at 9 0 rfl rfl rfl
        have h167 := hk164.holds rfl h147
        have h168 := hk164.holds rfl h148
        have h169 := hk164.holds rfl h149
        have h170 := hk164.holds rfl h150
        have g171 : Siz wl w161 := g151.trans hg163
        have g172 := g152.trans hg163
        have g173 := g153.trans hg163
        have g174 := g154.trans hg163
        have g175 := g158.trans hg163
        have r176 : Wr _ _ w0 w161 := r155.grow hg163 (Nat.le_trans gz q156.size)
        have q177 : Siz w0 w161 := q156.trans hg163
        clear h147 h148 h149 h150 g151 g152 g153 g154 g158 r155 q156 hf141 hk164 hn165
        obtain ⟨V178, h179, hV180⟩ := nameV h166
        clear h166
        refine then_ ?_
        refine wp_seq ?_
        have g181 : Grow w161 w161 := Grow.refl _
        have hz182 : w140.heap.size ≤ w161.heap.size := g175.size
        refine wp_region_lit ?_
        refine wp_seg (l1 := [_, _, _, _]) [([9], []), ([1], []), ([], [0, 1]), ([2], [])] [0, 1, 7, 9] w161.heap.size hf162 g181.size (by kernel_rfl) (bund_cons h179 (bund_cons (is_any h169) (bund_cons (is_any h170) bund_nil))) ?_
        refine ch rfl (ob_move (arg_free 0 rfl rfl)) ?_
        refine ch rfl (ob_move (arg_free 1 rfl rfl)) ?_
        refine ch rfl (ob_slice_sub (T := elDelta) (arg_op 0 1 rfl rfl rfl rfl) (own_shp hV180 (by (simp only [List.length_append, List.length_take, List.length_drop, List.length_cons, List.length_nil, List.length_replicate, maxLen, elNm, elDelta, elLock]; omega))) (arg_op 1 0 rfl rfl rfl rfl) (h1) ?_ Tryz.underlying22 szDelta) ?_
        · (simp only [List.length_append, List.length_take, List.length_drop, List.length_cons, List.length_nil, List.length_replicate, maxLen, elNm, elDelta, elLock]; omega)
        refine ch rfl (ob_move (arg_free 2 rfl rfl)) ?_
        refine ch_nil ?_
        intro a183 w184 hf185 hg186 hk187 hn188
        have h189 : Holds _ (a183.eval (.tmp 43)) w184 := hn188.at 2 1 rfl rfl rfl
        have h190 : Holds _ (a183.eval (.tmp 44)) w184 := hn188.at 3 0 rfl rfl rfl
        have h191 := hk187.holds rfl h179
        have h192 := hk187.holds rfl h167
        have h193 := hk187.holds rfl h168
        have h194 := hk187.holds rfl h169
        have g195 : Siz wl w184 := g171.trans hg186
        have g196 := g172.trans hg186
        have g197 := g173.trans hg186
        have g198 := g174.trans hg186
        have g199 := g175.trans hg186
        have g200 := g181.trans hg186
        have r201 : Wr _ _ w0 w184 := r176.grow hg186 (Nat.le_trans gz q177.size)
        have q202 : Siz w0 w184 := q177.trans hg186
        clear h179 h167 h168 h169 g171 g172 g173 g174 g175 g181 r176 q177 hf162 hk187 hn188
        refine wl_copyO (T := elDelta) [0, 1, 7, 9] hf185 (by kernel_rfl) rfl Tryz.underlying22 szDelta (hV180.up g200) (sub_any h189) (OwnS.sl (unV h190 (hv2.up g197))) ?_ g199.size ?_
        · (simp only [List.length_append, List.length_take, List.length_drop, List.length_cons, List.length_nil, List.length_replicate, maxLen, elNm, elDelta, elLock]; omega)
        intro a203 w204 hf205 hw206 hk207 hV208 h209
        have r210 : Wr _ _ w0 w204 := r201.trans hw206 (by omega)
        have q211 : Siz w0 w204 := Siz.below q202.size hw206.below
        have g212 : Siz wl w204 := Siz.below g195.size hw206.below
        have g213 : Grow wm w204 := g196.wr hw206 (by omega)
        have g214 : Grow w0 w204 := g197.wr hw206 (by omega)
        have g215 : Grow w79 w204 := g198.wr hw206 (by omega)
        have g216 : Grow w140 w204 := g199.wr hw206 (by omega)
        have h217 : Holds _ (a203.eval (.tmp 9)) w204 := is_any (hk207.holds rfl h191)
        have h218 : Holds _ (a203.eval (.tmp 7)) w204 := is_any (hk207.holds rfl h192)
        have h219 : Holds _ (a203.eval (.tmp 0)) w204 := is_any (hk207.holds rfl h193)
        have h220 : Holds _ (a203.eval (.tmp 1)) w204 := is_any (hk207.holds rfl h194)
        have hV221 : Holds (OwnS _ elDelta (l.take i ++ x :: List.replicate ((l.length + 1 - i) - 1) ⟨⟨0, 0, 0⟩, 0⟩)) V178 w204 := cast_own ((put1 _ _ _ _ (by (simp only [List.length_append, List.length_take, List.length_drop, List.length_cons, List.length_nil, List.length_replicate, maxLen, elNm, elDelta, elLock]; omega))).trans (ins_grow1 (by omega))) hV208
        have h222 : Holds _ (a203.eval (.tmp 9)) w204 := is_any (hk207.holds rfl h191)
        refine wpList_nil ?_
        refine then_ ?_
        refine wp_seq ?_
        have g223 : Grow w204 w204 := Grow.refl _
        have hz224 : w140.heap.size ≤ w204.heap.size := g216.size
        refine wp_calm_tail (l1 := [_, _, _, _, _, _, _, _]) [0, 0, 0, 6, 15, 0, 0, 96, 255] [([9], []), ([1], []), ([7], []), ([], [1, 2]), ([], [0, 3]), ([0], []), ([1], []), ([], [5, 6])] [9] w204.heap.size hf205 g223.size (by kernel_rfl) (bund_cons h222 (bund_cons h220 (bund_cons h218 (bund_cons h219 bund_nil)))) ?_
        intro ws225 hs226
        refine ch rfl (ob_move (arg_free 0 rfl rfl)) ?_
        refine ch rfl (ob_move (arg_free 1 rfl rfl)) ?_
        refine ch rfl (ob_move (arg_free 2 rfl rfl)) ?_
        first
          | (refine ch rfl (ob_add' (arg_op 1 1 rfl rfl rfl rfl) (arg_op 2 0 rfl rfl rfl rfl) ?_) ?_; · omega)
          | refine ch rfl (ob_add (arg_op 1 1 rfl rfl rfl rfl) (arg_op 2 0 rfl rfl rfl rfl)) ?_
        refine ch rfl (ob_slice_sub (T := elDelta) (arg_op 0 3 rfl rfl rfl rfl) (own_shp (hV221.up hs226) (by (simp only [List.length_append, List.length_take, List.length_drop, List.length_cons, List.length_nil, List.length_replicate, maxLen, elNm, elDelta, elLock]; omega))) (arg_op 3 0 rfl rfl rfl rfl) ((show _ = ((i + 1 : Nat) : Int) by omega)) ?_ Tryz.underlying22 szDelta) ?_
        · (simp only [List.length_append, List.length_take, List.length_drop, List.length_cons, List.length_nil, List.length_replicate, maxLen, elNm, elDelta, elLock]; omega)
        refine ch rfl (ob_move (arg_free 3 rfl rfl)) ?_
        refine ch rfl (ob_move (arg_free 1 rfl rfl)) ?_
        refine ch rfl (ob_slice_from (ArgOK.sl (ArgOK.val (arg_op 5 1 rfl rfl rfl rfl) ((hv0.up g213).up hs226))) (arg_op 6 0 rfl rfl rfl rfl) (h1) ?_ Tryz.underlying22 szDelta) ?_
        · omega
        refine ch_nil ?_
        intro a227 w228 hf229 hg230 hk231 hn232
        have h233 : Holds _ (a227.eval (.tmp 50)) w228 := hn232.at 4 3 rfl rfl rfl
        have h234 : Holds _ (a227.eval (.tmp 53)) w228 := hn232.at 7 0 rfl rfl rfl
        have h235 := hk231.holds rfl h222
        have g236 : Siz wl w228 := g212.trans hg230
        have g237 := g213.trans hg230
        have g238 := g214.trans hg230
        have g239 := g215.trans hg230
        have g240 := g216.trans hg230
        have g241 := g223.trans hg230
        have r242 : Wr _ _ w0 w228 := r210.grow hg230 (Nat.le_trans gz q211.size)
        have q243 : Siz w0 w228 := q211.trans hg230
        clear h222 g212 g213 g214 g215 g216 g223 r210 q211 hf205 hk231 hn232
        obtain ⟨V244, h245, hV246⟩ := nameV h234
        clear h234
        refine wl_copyO (T := elDelta) [9] hf229 (by kernel_rfl) rfl Tryz.underlying22 szDelta (hV221.up g241) (sub_any h233) (unV h245 hV246) ?_ g240.size ?_
        · (simp only [List.length_append, List.length_take, List.length_drop, List.length_cons, List.length_nil, List.length_replicate, maxLen, elNm, elDelta, elLock]; omega)
        intro a247 w248 hf249 hw250 hk251 hV252 h253
        have r254 : Wr _ _ w0 w248 := r242.trans hw250 (by omega)
        have q255 : Siz w0 w248 := Siz.below q243.size hw250.below
        have g256 : Siz wl w248 := Siz.below g236.size hw250.below
        have g257 : Grow wm w248 := g237.wr hw250 (by omega)
        have g258 : Grow w0 w248 := g238.wr hw250 (by omega)
        have g259 : Grow w79 w248 := g239.wr hw250 (by omega)
        have g260 : Grow w140 w248 := g240.wr hw250 (by omega)
        have g261 : Siz w204 w248 := Siz.below g241.size hw250.below
        have h262 : Holds _ (a247.eval (.tmp 9)) w248 := is_any (hk251.holds rfl h235)
        have hV263 : Holds (OwnS _ elDelta (l.take i ++ x :: l.drop i)) V178 w248 := cast_own (ins_grow2 (by omega) (by omega) (by (simp only [List.length_append, List.length_take, List.length_drop, List.length_cons, List.length_nil, List.length_replicate, maxLen, elNm, elDelta, elLock]; omega))) hV252
        have h264 : Holds _ (a247.eval (.tmp 9)) w248 := is_any (hk251.holds rfl h235)
        refine wpList_nil ?_
        refine then_ ?_
        refine wp_seq ?_
        refine wp_region_lit ?_
        refine wp_all [([9], []), ([], [0])] [] w204.heap.size hf249 g261.size (by kernel_rfl) (bund_cons h264 bund_nil) ?_
        refine ch rfl (ob_move (arg_free 0 rfl rfl)) ?_
        refine ch rfl (ob_assign (arg_op 0 0 rfl rfl rfl rfl)) ?_
        refine ch_nil ?_
        intro a265 w266 hf267 hg268 hk269 hn270
        have h271 : Holds _ (a265.eval (.tmp 6)) w266 := hn270.at 1 0 rfl rfl rfl
        have g272 : Siz wl w266 := g256.trans hg268
        have g273 := g257.trans hg268
        have g274 := g258.trans hg268
        have g275 := g259.trans hg268
        have g276 := g260.trans hg268
        have g277 : Siz w204 w266 := g261.trans hg268
        have r278 : Wr _ _ w0 w266 := r254.grow hg268 (Nat.le_trans gz q255.size)
        have q279 : Siz w0 w266 := q255.trans hg268
        have hV280 := hV263.up hg268
        clear g256 g257 g258 g259 g260 g261 r254 q255 hf249 hk269 hn270 hg268 hV263
        refine then_ ?_
        refine wp_ret ?_
        refine thenR ?_
        exact ret_wr rfl hf267 r278 (OwnS.mono (cast_own (by first | rfl | (rw [List.take_length, List.drop_length])) (unV h271 hV280)) (by omega))
      · intro hc157
        try simp only [cond_norm] at hc157
        have hcap := hc157
        refine wp_skip ?_
        refine then_ ?_
        refine wp_seq ?_
        refine wp_region_lit ?_
        refine wp_all [([0], []), ([8], []), ([7], []), ([], [1, 2]), ([], [0, 3]), ([], [4])] [1, 2, 7, 8] w79.heap.size hf141 g154.size (by kernel_rfl) (bund_cons (is_any h148) (bund_cons (is_any h146) (bund_cons (is_any h147) bund_nil))) ?_
        refine ch rfl (ob_move (arg_free 0 rfl rfl)) ?_
        refine ch rfl (ob_move (arg_free 1 rfl rfl)) ?_
        refine ch rfl (ob_move (arg_free 2 rfl rfl)) ?_
        first
          | (refine ch rfl (ob_add' (arg_op 1 1 rfl rfl rfl rfl) (arg_op 2 0 rfl rfl rfl rfl) ?_) ?_; · omega)
          | refine ch rfl (ob_add (arg_op 1 1 rfl rfl rfl rfl) (arg_op 2 0 rfl rfl rfl rfl)) ?_
        refine ch rfl (ob_slice_ext (k := 1) (arg_op 0 3 rfl rfl rfl rfl) (hv0.up g152) (arg_op 3 0 rfl rfl rfl rfl) ((show _ = ((l.length + 1 : Nat) : Int) by omega)) ?_ ?_ Tryz.underlying22 szDelta) ?_
        · omega
        · omega
        refine ch rfl (ob_assign (arg_op 4 0 rfl rfl rfl rfl)) ?_
        refine ch_nil ?_
        intro a281 w282 hf283 hg284 hk285 hn286
        have h287 : Holds _ (a281.eval (.tmp 0)) w282 := hn286.at 5 0 rfl rfl rfl
        have h288 := hk285.holds rfl h146
        have h289 := hk285.holds rfl h147
        have h290 := hk285.holds rfl h149
        have h291 := hk285.holds rfl h150
        have g292 : Siz wl w282 := g151.trans hg284
        have g293 := g152.trans hg284
        have g294 := g153.trans hg284
        have g295 := g154.trans hg284
        have r296 : Wr _ _ w0 w282 := r155.grow hg284 (Nat.le_trans gz q156.size)
        have q297 : Siz w0 w282 := q156.trans hg284
        clear h146 h147 h149 h150 g151 g152 g153 g154 r155 q156 hf141 hk285 hn286 hg284
        obtain ⟨V298, h299, hV300⟩ := nameV h287
        clear h287
        refine then_ ?_
        refine wp_seq ?_
        refine wp_seq ?_
        have g301 : Grow w282 w282 := Grow.refl _
        have hz302 : w79.heap.size ≤ w282.heap.size := g295.size
        refine wp_region_lit ?_
        refine wp_all [([2], []), ([0], []), ([1], []), ([7], []), ([], [2, 3]), ([], [1, 4]), ([], [0, 5]), ([], [6])] [0, 1, 2, 7, 8] w282.heap.size hf283 g301.size (by kernel_rfl) (bund_cons (is_any h291) (bund_cons h299 (bund_cons (is_any h290) (bund_cons (is_any h289) bund_nil)))) ?_
        refine ch rfl (ob_move (arg_free 0 rfl rfl)) ?_
        refine ch rfl (ob_move (arg_free 1 rfl rfl)) ?_
        refine ch rfl (ob_move (arg_free 2 rfl rfl)) ?_
        refine ch rfl (ob_move (arg_free 3 rfl rfl)) ?_
        first
          | (refine ch rfl (ob_add' (arg_op 2 1 rfl rfl rfl rfl) (arg_op 3 0 rfl rfl rfl rfl) ?_) ?_; · omega)
          | refine ch rfl (ob_add (arg_op 2 1 rfl rfl rfl rfl) (arg_op 3 0 rfl rfl rfl rfl)) ?_
        refine ch rfl (ob_slice_sub (T := elDelta) (arg_op 1 3 rfl rfl rfl rfl) (OwnJ.shp hV300) (arg_op 4 0 rfl rfl rfl rfl) ((show _ = ((i + 1 : Nat) : Int) by omega)) ?_ Tryz.underlying22 szDelta) ?_
        · omega
        refine ch rfl (ob_overlaps (T := elDelta) (tR := 4) Tryz.func115 (by kernel_rfl) (by kernel_rfl) (by kernel_rfl) (by kernel_rfl) Tryz.underlying22 szDelta (arg_op 0 5 rfl rfl rfl rfl) (hv2.up g294) (by simp) (arg_op 5 0 rfl rfl rfl rfl) hV300 ?_ ?_ (far_of hv0 (OwnJ.blk hV300))) ?_
        · omega
        · omega
        refine ch rfl (ob_not (arg_op 6 0 rfl rfl rfl rfl)) ?_
        refine ch_nil ?_
        intro a303 w304 hf305 hg306 hk307 hn308
        have h309 : Holds _ (a303.eval (.tmp 68)) w304 := hn308.at 7 0 rfl rfl rfl
        have h310 := hk307.holds rfl h299
        have h311 := hk307.holds rfl h288
        have h312 := hk307.holds rfl h289
        have h313 := hk307.holds rfl h290
        have h314 := hk307.holds rfl h291
        have g315 : Siz wl w304 := g292.trans hg306
        have g316 := g293.trans hg306
        have g317 := g294.trans hg306
        have g318 := g295.trans hg306
        have g319 := g301.trans hg306
        have r320 : Wr _ _ w0 w304 := r296.grow hg306 (Nat.le_trans gz q297.size)
        have q321 : Siz w0 w304 := q297.trans hg306
        clear h299 h288 h289 h290 h291 g292 g293 g294 g295 g301 r296 q297 hf283 hk307 hn308
        refine then_ ?_
        refine wp_if h309 ?_ ?_
        · intro hc322
          try simp only [cond_norm] at hc322
          refine wp_seq ?_
          have g323 : Grow w304 w304 := Grow.refl _
          have hz324 : w282.heap.size ≤ w304.heap.size := g319.size
          refine wp_calm_tail (l1 := [_, _, _, _, _, _, _, _]) [0, 0, 0, 6, 15, 0, 0, 96, 255] [([0], []), ([1], []), ([7], []), ([], [1, 2]), ([], [0, 3]), ([0], []), ([1], []), ([], [5, 6])] [0, 1, 2] w304.heap.size hf305 g323.size (by kernel_rfl) (bund_cons (is_any h310) (bund_cons (is_any h313) (bund_cons (is_any h312) bund_nil))) ?_
          intro ws325 hs326
          refine ch rfl (ob_move (arg_free 0 rfl rfl)) ?_
          refine ch rfl (ob_move (arg_free 1 rfl rfl)) ?_
          refine ch rfl (ob_move (arg_free 2 rfl rfl)) ?_
          first
            | (refine ch rfl (ob_add' (arg_op 1 1 rfl rfl rfl rfl) (arg_op 2 0 rfl rfl rfl rfl) ?_) ?_; · omega)
            | refine ch rfl (ob_add (arg_op 1 1 rfl rfl rfl rfl) (arg_op 2 0 rfl rfl rfl rfl)) ?_
          refine ch rfl (ob_slice_sub (T := elDelta) (arg_op 0 3 rfl rfl rfl rfl) (OwnJ.shp ((hV300.up g319).up hs326)) (arg_op 3 0 rfl rfl rfl rfl) ((show _ = ((i + 1 : Nat) : Int) by omega)) ?_ Tryz.underlying22 szDelta) ?_
          · omega
          refine ch rfl (ob_move (arg_free 0 rfl rfl)) ?_
          refine ch rfl (ob_move (arg_free 1 rfl rfl)) ?_
          refine ch rfl (ob_slice_sub (T := elDelta) (arg_op 5 1 rfl rfl rfl rfl) (OwnJ.shp ((hV300.up g319).up hs326)) (arg_op 6 0 rfl rfl rfl rfl) (h1) ?_ Tryz.underlying22 szDelta) ?_
          · omega
          refine ch_nil ?_
          intro a327 w328 hf329 hg330 hk331 hn332
          have h333 : Holds _ (a327.eval (.tmp 73)) w328 := hn332.at 4 3 rfl rfl rfl
          have h334 : Holds _ (a327.eval (.tmp 76)) w328 := hn332.at 7 0 rfl rfl rfl
          have h335 := hk331.holds rfl h310
          have h336 := hk331.holds rfl h313
          have h337 := hk331.holds rfl h314
          have g338 : Siz wl w328 := g315.trans hg330
          have g339 := g316.trans hg330
          have g340 := g317.trans hg330
          have g341 := g318.trans hg330
          have g342 := g319.trans hg330
          have g343 := g323.trans hg330
          have r344 : Wr _ _ w0 w328 := r320.grow hg330 (Nat.le_trans gz q321.size)
          have q345 : Siz w0 w328 := q321.trans hg330
          clear h310 h313 h314 g315 g316 g317 g318 g319 g323 r320 q321 hf305 hk331 hn332
          refine wl_copyJ (T := elDelta) [0, 1, 2] hf329 (by kernel_rfl) rfl Tryz.underlying22 szDelta (hV300.up g342) (sub_any h333) (sub_any h334) ?_ ?_ ?_ ?_
          · omega
          · rfl
          · rfl
          intro a346 w347 hf348 hw349 hk350 ho351 hV352
          have r353 : Wr _ _ w0 w347 := r344.trans hw349 (by omega)
          have q354 : Siz w0 w347 := Siz.below q345.size hw349.below
          have g355 : Siz wl w347 := Siz.below g338.size hw349.below
          have g356 : Siz wm w347 := Siz.below g339.size hw349.below
          have h357 : Holds _ (a346.eval (.tmp 0)) w347 := is_any (hk350.holds rfl h335)
          have h358 : Holds _ (a346.eval (.tmp 1)) w347 := is_any (hk350.holds rfl h336)
          have h359 : Holds _ (a346.eval (.tmp 2)) w347 := is_any (hk350.holds rfl h337)
          have hV360 : Holds _ v2 w347 := OwnS.apart (hv2.up g340) ho351 (far_of hv0 (OwnJ.blk hV300))
          have h361 : Holds _ (a346.eval (.tmp 0)) w347 := is_any (hk350.holds rfl h335)
          refine wpList_nil ?_
          refine then_ ?_
          refine wp_seq ?_
          have g362 : Grow w347 w347 := Grow.refl _
          have hz363 : wm.heap.size ≤ w347.heap.size := g356.size
          refine wp_region_lit ?_
          refine wp_seg (l1 := [_, _, _, _]) [([0], []), ([1], []), ([], [0, 1]), ([2], [])] [0] w347.heap.size hf348 g362.size (by kernel_rfl) (bund_cons h361 (bund_cons h358 (bund_cons h359 bund_nil))) ?_
          refine ch rfl (ob_move (arg_free 0 rfl rfl)) ?_
          refine ch rfl (ob_move (arg_free 1 rfl rfl)) ?_
          refine ch rfl (ob_slice_sub (T := elDelta) (arg_op 0 1 rfl rfl rfl rfl) (own_shp hV352 (by (simp only [List.length_append, List.length_take, List.length_drop, List.length_cons, List.length_nil, List.length_replicate, maxLen, elNm, elDelta, elLock]; omega))) (arg_op 1 0 rfl rfl rfl rfl) (h1) ?_ Tryz.underlying22 szDelta) ?_
          · (simp only [List.length_append, List.length_take, List.length_drop, List.length_cons, List.length_nil, List.length_replicate, maxLen, elNm, elDelta, elLock]; omega)
          refine ch rfl (ob_move (arg_free 2 rfl rfl)) ?_
          refine ch_nil ?_
          intro a364 w365 hf366 hg367 hk368 hn369
          have h370 : Holds _ (a364.eval (.tmp 80)) w365 := hn369.at 2 1 rfl rfl rfl
          have h371 : Holds _ (a364.eval (.tmp 81)) w365 := hn369.at 3 0 rfl rfl rfl
          have h372 := hk368.holds rfl h361
          have g373 : Siz wl w365 := g355.trans hg367
          have g374 : Siz wm w365 := g356.trans hg367
          have g375 := g362.trans hg367
          have r376 : Wr _ _ w0 w365 := r353.grow hg367 (Nat.le_trans gz q354.size)
          have q377 : Siz w0 w365 := q354.trans hg367
          clear h361 g355 g356 g362 r353 q354 hf348 hk368 hn369
          refine wl_copyO (T := elDelta) [0] hf366 (by kernel_rfl) rfl Tryz.underlying22 szDelta (hV352.up g375) (sub_any h370) (OwnS.sl (unV h371 (hV360.up g375))) ?_ g373.size ?_
          · (simp only [List.length_append, List.length_take, List.length_drop, List.length_cons, List.length_nil, List.length_replicate, maxLen, elNm, elDelta, elLock]; omega)
          intro a378 w379 hf380 hw381 hk382 hV383 h384
          have r385 : Wr _ _ w0 w379 := r376.trans hw381 (by omega)
          have q386 : Siz w0 w379 := Siz.below q377.size hw381.below
          have g387 : Siz wl w379 := Siz.below g373.size hw381.below
          have g388 : Siz wm w379 := Siz.below g374.size hw381.below
          have h389 : Holds _ (a378.eval (.tmp 0)) w379 := is_any (hk382.holds rfl h372)
          have hV390 : Holds (OwnS _ elDelta (l.take i ++ x :: l.drop i)) V298 w379 := cast_own ((put1 _ _ _ _ (by (simp only [List.length_append, List.length_take, List.length_drop, List.length_cons, List.length_nil, List.length_replicate, maxLen, elNm, elDelta, elLock]; omega))).trans (ins_place (by omega))) hV383
          have h391 : Holds _ (a378.eval (.tmp 0)) w379 := is_any (hk382.holds rfl h372)
          refine wpList_nil ?_
          refine then_ ?_
          refine wp_seq ?_
          refine wp_region_lit ?_
          refine wp_all [([0], []), ([], [0])] [] wm.heap.size hf380 g388.size (by kernel_rfl) (bund_cons h391 bund_nil) ?_
          refine ch rfl (ob_move (arg_free 0 rfl rfl)) ?_
          refine ch rfl (ob_assign (arg_op 0 0 rfl rfl rfl rfl)) ?_
          refine ch_nil ?_
          intro a392 w393 hf394 hg395 hk396 hn397
          have h398 : Holds _ (a392.eval (.tmp 6)) w393 := hn397.at 1 0 rfl rfl rfl
          have g399 : Siz wl w393 := g387.trans hg395
          have g400 : Siz wm w393 := g388.trans hg395
          have r401 : Wr _ _ w0 w393 := r385.grow hg395 (Nat.le_trans gz q386.size)
          have q402 : Siz w0 w393 := q386.trans hg395
          have hV403 := hV390.up hg395
          clear g387 g388 r385 q386 hf380 hk396 hn397 hg395 hV390
          refine then_ ?_
          refine wp_ret ?_
          refine thenR ?_
          exact ret_wr rfl hf394 r401 (OwnS.mono (cast_own (by first | rfl | (rw [List.take_length, List.drop_length])) (unV h398 hV403)) (by omega))
        · intro hc322
          try simp only [cond_norm] at hc322
          first | done | exact absurd hc322 (by decide)
end Ex
end Go.Proofs.YtnmfiiejhoafnaaGreat
