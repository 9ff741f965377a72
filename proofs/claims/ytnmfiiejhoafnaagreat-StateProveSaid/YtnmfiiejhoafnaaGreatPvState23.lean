/- The reference's leaves, root and inclusions; the statement on proofs, walked. -/
import Derived.Test.YtnmfiiejhoafnaaGreatPvState15
set_option linter.unusedSimpArgs false
set_option linter.unusedVariables false
namespace Go.Proofs.YtnmfiiejhoafnaaGreat
namespace Ex
open Go Calm Go.RowKit
theorem lv_seqR {s : GState} {p : List UInt64} {i : Nat} : (p ++ seqLf s.seqs i) ++ [tagged 83 (([] ++ be (i2u (i : Int)) 1) ++ be (i2u (s.seqs.getD i default)) 1)] = p ++ seqLf s.seqs (i + 1) := by
  rw [be_one, be_one]
  exact lv_seq
theorem leafK_R (k : GLock) : tagged 84 ((((([] ++ nmBytes k.name) ++ nmBytes k.hash) ++ be (i2u k.owner.toInt) 1) ++ be (i2u k.to.toInt) 1) ++ be (i2u k.till.toInt) 2) = leafK k := by
  unfold leafK lockBytes
  rw [be_one, be_one, List.nil_append, List.append_assoc (nmBytes k.name ++ nmBytes k.hash)]
  rfl
theorem prvI_path {s : GState} {i : Int} (hs : stOK s) : (prvI s i).path.length ≤ 1000000 := by
  have h1 := leaves_len s
  obtain ⟨h2, h3, h4, h5⟩ := hs
  have h6 := pathV_le (leaves s) i
  unfold prvI
  split
  · simp only; omega
  · simp
theorem appI_ge {s : GState} {n : UInt64} : -1 ≤ appI s n := by
  rcases appI_pos (s := s) (n := n) with h | h <;> omega
theorem prove_no {e g : Int} {p q : GInc} : (((decide (e ≠ e) || decide (g ≠ g)) || !((decide (p.index = p.index) && decide (p.count = p.count)) && decide (p.path = p.path))) || !((decide (q.index = q.index) && decide (q.count = q.count)) && decide (q.path = q.path))) = false := by simp
theorem prove_yes {s : GState} {c : GCell} {n : UInt64} : (((decide (prvE s (fnd s.cells c) ≠ 0) || verB (root (leaves s)) (leafC ⟨c, getL s.cells c⟩) (prvI s (fnd s.cells c)).index (prvI s (fnd s.cells c)).count (prvI s (fnd s.cells c)).path) &&
    (decide (prvE s (appI s n) ≠ 0) || verB (root (leaves s)) (leafA n) (prvI s (appI s n)).index (prvI s (appI s n)).count (prvI s (appI s n)).path)) && true) = true := by
  have h1 : (decide (prvE s (fnd s.cells c) ≠ 0) || verB (root (leaves s)) (leafC ⟨c, getL s.cells c⟩) (prvI s (fnd s.cells c)).index (prvI s (fnd s.cells c)).count (prvI s (fnd s.cells c)).path) = true := by
    by_cases h : 0 ≤ fnd s.cells c
    · rw [shown_cell h, Bool.or_true]
    · rw [← prvE_no (pathB_neg (l := leaves s) (i := fnd s.cells c) (by omega))]; rfl
  have h2 : (decide (prvE s (appI s n) ≠ 0) || verB (root (leaves s)) (leafA n) (prvI s (appI s n)).index (prvI s (appI s n)).count (prvI s (appI s n)).path) = true := by
    by_cases h : 0 ≤ appI s n
    · rw [shown_app h, Bool.or_true]
    · rw [← prvE_no (pathB_neg (l := leaves s) (i := appI s n) (by omega))]; rfl
  rw [h1, h2]
  rfl
set_option maxRecDepth 100000 in
theorem c_rLeaves {s : GState} (hs : stOK s) : Con1 50 (StF s) (fun lo => OwnS lo elNm (leaves s)) := by
  intro lo v0 w0 hlo hv0
  refine enter Tryz.func50 rfl Tryz.ntmps50 (by simp) ?_
  intro a0 hf0 ha
  obtain ⟨va0, vb0, vc0, vd0, he0, hva0, hvb0, hvc0, hvd0⟩ := openF hv0
  have h00 : Holds (Is _) (a0.eval (.tmp 0)) w0 := arg_holds ha rfl he0
  clear ha
  have g0 : Grow w0 w0 := Grow.refl _
  obtain ⟨hs1, hs2, hs3, hs4⟩ := id hs
  refine wp_seq ?_
  refine wp_region_lit ?_
  refine wp_all [([0], []), ([], [])] [] w0.heap.size hf0 g0.size (by kernel_rfl) (bund_cons h00 bund_nil) ?_
  refine ch rfl (ob_box_state (arg_free 0 rfl rfl)) ?_
  refine ch rfl (ob_assign (arg_cg (G := Any) (fun w => trivial))) ?_
  refine ch_nil ?_
  intro a1 w2 hf3 hg4 hk5 hn6
  have h7 : Holds _ (a1.eval (.tmp 1)) w2 := hn6.at 0 1 rfl rfl rfl
  have g8 := g0.trans hg4
  obtain ⟨bk9, hl10, hv11, hb12⟩ := OwnB.blk (lo := w0.heap.size) h7
  clear g0 hf0 hk5 hn6
  refine then_ ?_
  refine wp_seq ?_
  have g13 : Grow w2 w2 := Grow.refl _
  have hl14 : bk9 < w2.heap.size := hb12.lt
  have hz15 : w0.heap.size ≤ w2.heap.size := g8.size
  refine wp_region_lit ?_
  refine wp_all [([], [])] [1] w2.heap.size hf3 g13.size (by kernel_rfl) bund_nil ?_
  refine ch rfl (ob_assign (arg_cg (G := OwnS w2.heap.size elNm []) (fun w => own_nil))) ?_
  refine ch_nil ?_
  intro a16 w17 hf18 hg19 hk20 hn21
  have h22 : Holds (OwnS w2.heap.size _ _) (a16.eval (.tmp 3)) w17 := hn21.at 0 0 rfl rfl rfl
  have hv23 : Holds (Is (PtrV bk9)) (a16.eval (.tmp 1)) w17 := is_any (hk20.holds rfl hv11)
  have hb24 := hb12.up hg19
  have g25 := g8.trans hg19
  have g26 := g13.trans hg19
  clear hv11 hb12 g8 g13 hf3 hk20 hn21
  obtain ⟨V27, h28, hV29⟩ := nameV h22
  clear h22
  refine then_ ?_
  refine wp_seq ?_
  refine wp_seq ?_
  refine wp_region_lit ?_
  refine wp_all [([], [])] [1, 3] w2.heap.size hf18 g26.size (by kernel_rfl) bund_nil ?_
  refine ch rfl (ob_assign arg_c) ?_
  refine ch_nil ?_
  intro a30 w31 hf32 hg33 hk34 hn35
  have h36 : Holds _ (a30.eval (.tmp 4)) w31 := hn35.at 0 0 rfl rfl rfl
  have h37 := hk34.holds rfl (h28.up hg33)
  have hv38 : Holds (Is (PtrV bk9)) (a30.eval (.tmp 1)) w31 := is_any (hk34.holds rfl hv23)
  have hb39 := hb24.up hg33
  have g40 := g25.trans hg33
  have g41 := g26.trans hg33
  have hV42 := hV29.up hg33
  clear h28 hv23 hb24 g25 g26 hf18 hk34 hn35 hg33 hV29
  refine then_ ?_
  refine wp_block ?_
  refine wp_loopL (α := Nat) (fun i a' w' => Fr 98 a' ∧ (i ≤ s.cells.length) ∧ Grow w0 w' ∧ Grow w2 w' ∧ Keep [1] a30 a' ∧ Holds (OwnS w2.heap.size elNm (([]) ++ (s.cells.take i).map leafC)) (a'.eval (.tmp 3)) w' ∧ Holds (Is (intV (i : Int))) (a'.eval (.tmp 4)) w' ∧ Blk bk9 (_) w') (fun i => s.cells.length - i) (0) ⟨hf32, (by ((try dsimp only); omega)), g40, g41, Keep.refl _ _, (cast_own rfl (unV h37 hV42)), (is_cast h36 (by first | rfl | (refine congrArg intV ?_; (try dsimp only); omega))), hb39⟩ ?_
  intro i a43 w44 ⟨hf45, hi47, g48, g49, kk46, h50, h51, hb52⟩
  have hv53 : Holds (Is (PtrV bk9)) (a43.eval (.tmp 1)) w44 := is_any (kk46.holds rfl hv38)
  obtain ⟨V54, h55, hV56⟩ := nameV h50
  clear h50
  refine wp_seq ?_
  refine wp_seq ?_
  refine wp_region_lit ?_
  refine wp_all [([4], []), ([1], []), ([], [1]), ([], [2]), ([], [0, 3])] [1, 3, 4] w2.heap.size hf45 g49.size (by kernel_rfl) (bund_cons h51 (bund_cons (hb52.ownp hv53) bund_nil)) ?_
  refine ch rfl (ob_move (arg_free 0 rfl rfl)) ?_
  refine ch rfl (ob_faP (n := 0) (arg_free 1 rfl rfl) Tryz.underlying28 rfl (by kernel_rfl)) ?_
  refine ch rfl (ob_loadP (arg_op 1 0 rfl rfl rfl rfl) Tryz.underlying22 rfl rfl) ?_
  refine ch rfl (ob_len (ArgOK.val (arg_op 2 0 rfl rfl rfl rfl) (hva0.up g48)) Tryz.underlying22) ?_
  refine ch rfl (ob_lss (arg_op 0 3 rfl rfl rfl rfl) (arg_op 3 0 rfl rfl rfl rfl)) ?_
  refine ch_nil ?_
  intro a57 w58 hf59 hg60 hk61 hn62
  have h63 : Holds _ (a57.eval (.tmp 13)) w58 := hn62.at 4 0 rfl rfl rfl
  have h64 := hk61.holds rfl (h55.up hg60)
  have h65 := hk61.holds rfl (h51.up hg60)
  have hv66 : Holds (Is (PtrV bk9)) (a57.eval (.tmp 1)) w58 := is_any (hk61.holds rfl hv53)
  have hb67 := hb52.up hg60
  have g68 := g48.trans hg60
  have g69 := g49.trans hg60
  have kk70 : Keep _ a30 a57 := kk46.trans hk61 rfl
  have hV71 := hV56.up hg60
  clear h55 h51 hv53 hb52 g48 g49 kk46 hf45 hk61 hn62 hg60 hV56
  refine then_ ?_
  refine wp_if h63 ?_ ?_
  · intro hc72
    try simp only [cond_norm] at hc72
    refine wp_skip ?_
    refine then_ ?_
    refine wp_seq ?_
    refine wp_block ?_
    have g73 : Grow w58 w58 := Grow.refl _
    have hl74 : bk9 < w58.heap.size := hb67.lt
    have hz75 : w2.heap.size ≤ w58.heap.size := g69.size
    refine wp_region_lit ?_
    refine wp_seg (l1 := [_, _, _, _, _, _, _, _]) [([3], []), ([1], []), ([], [1]), ([4], []), ([], [2, 3]), ([], [4]), ([], [5]), ([], [6])] [1, 3, 4] w58.heap.size hf59 g73.size (by kernel_rfl) (bund_cons h64 (bund_cons (hb67.ownp hv66) (bund_cons h65 bund_nil))) ?_
    refine ch rfl (ob_move (arg_free 0 rfl rfl)) ?_
    refine ch rfl (ob_faP (n := 0) (arg_free 1 rfl rfl) Tryz.underlying28 rfl (by kernel_rfl)) ?_
    refine ch rfl (ob_loadP (arg_op 1 0 rfl rfl rfl rfl) Tryz.underlying22 rfl rfl) ?_
    refine ch rfl (ob_move (arg_free 2 rfl rfl)) ?_
    refine ch rfl (ob_ix (ArgOK.val (arg_op 2 1 rfl rfl rfl rfl) (hva0.up g68)) (arg_op 3 0 rfl rfl rfl rfl) (rfl) ?_ Tryz.underlying22 szDelta) ?_
    · omega
    refine ch rfl (ob_load_delta (arg_op 4 0 rfl rfl rfl rfl)) ?_
    refine ch rfl (ob_call1 (by kernel_rfl) (c_rCellLeaf) (arg_op 5 0 rfl rfl rfl rfl)) ?_
    refine ch rfl (ob_bs1_nm (arg_op 6 0 rfl rfl rfl rfl)) ?_
    refine ch_nil ?_
    intro a76 w77 hf78 hg79 hk80 hn81
    have h82 : Holds _ (a76.eval (.tmp 16)) w77 := hn81.at 0 7 rfl rfl rfl
    have h83 : Holds (OwnF w58.heap.size _ _) (a76.eval (.tmp 23)) w77 := hn81.at 7 0 rfl rfl rfl
    have h84 := hk80.holds rfl h64
    have h85 := hk80.holds rfl h65
    have hv86 : Holds (Is (PtrV bk9)) (a76.eval (.tmp 1)) w77 := is_any (hk80.holds rfl hv66)
    have hb87 := hb67.up hg79
    have g88 := g68.trans hg79
    have g89 := g69.trans hg79
    have g90 := g73.trans hg79
    have kk91 : Keep _ a30 a76 := kk70.trans hk80 rfl
    clear h64 h65 hv66 hb67 g68 g69 g73 kk70 hf59 hk80 hn81
    obtain ⟨V92, h93, hV94⟩ := nameV h83
    clear h83
    refine wl_appendW elNmP [1, 3, 4] hf78 (by kernel_rfl) rfl Tryz.underlying25 (unV h82 (hV71.up g90)) (OwnS.sl (OwnF.own (unV h93 hV94))) ?_ ?_ g89.size ?_
    · (simp only [List.length_append, List.length_cons, List.length_nil, List.length_map, List.length_take, seqLf_len, maxLen, elNm]; omega)
    · (simp only [List.length_append, List.length_cons, List.length_nil, List.length_map, List.length_take, seqLf_len, maxLen, elNm]; omega)
    intro a95 w96 hf97 hw98 hk99 h100
    have g101 : Grow w0 w96 := g88.wr hw98 (by omega)
    have g102 : Grow w2 w96 := g89.wr hw98 (by omega)
    have g103 : Siz w58 w96 := Siz.below g90.size hw98.below
    have h104 : Holds _ (a95.eval (.tmp 3)) w96 := is_any (hk99.holds rfl h84)
    have h105 : Holds _ (a95.eval (.tmp 4)) w96 := is_any (hk99.holds rfl h85)
    have hv106 : Holds (Is (PtrV bk9)) (a95.eval (.tmp 1)) w96 := is_any (hk99.holds rfl hv86)
    have hb107 : Blk bk9 _ w96 := hb87.wr hw98 (by omega)
    have kk108 : Keep _ a30 a95 := kk91.trans hk99 rfl
    obtain ⟨V109, h110, hV111⟩ := nameV h100
    clear h100
    refine wp_all [([24], [])] [1, 4] w58.heap.size hf97 g103.size (by kernel_rfl) (bund_cons h110 bund_nil) ?_
    refine ch rfl (ob_assign (arg_free 0 rfl rfl)) ?_
    refine ch_nil ?_
    intro a112 w113 hf114 hg115 hk116 hn117
    have h118 : Holds _ (a112.eval (.tmp 3)) w113 := hn117.at 0 0 rfl rfl rfl
    have h119 := hk116.holds rfl (h105.up hg115)
    have hv120 : Holds (Is (PtrV bk9)) (a112.eval (.tmp 1)) w113 := is_any (hk116.holds rfl hv106)
    have hb121 := hb107.up hg115
    have g122 := g101.trans hg115
    have g123 := g102.trans hg115
    have g124 : Siz w58 w113 := g103.trans hg115
    have kk125 : Keep _ a30 a112 := kk108.trans hk116 rfl
    have hV126 := hV111.up hg115
    clear h105 hv106 hb107 g101 g102 g103 kk108 hf97 hk116 hn117 hg115 hV111
    refine blockN ?_
    refine then_ ?_
    refine wp_region_lit ?_
    refine wp_all [([4], []), ([], [0]), ([], [1])] [1, 3] w58.heap.size hf114 g124.size (by kernel_rfl) (bund_cons h119 bund_nil) ?_
    refine ch rfl (ob_move (arg_free 0 rfl rfl)) ?_
    first
      | (refine ch rfl (ob_add' (arg_op 0 0 rfl rfl rfl rfl) arg_c ?_) ?_; · omega)
      | refine ch rfl (ob_add (arg_op 0 0 rfl rfl rfl rfl) arg_c) ?_
    refine ch rfl (ob_assign (arg_op 1 0 rfl rfl rfl rfl)) ?_
    refine ch_nil ?_
    intro a127 w128 hf129 hg130 hk131 hn132
    have h133 : Holds _ (a127.eval (.tmp 4)) w128 := hn132.at 2 0 rfl rfl rfl
    have h134 := hk131.holds rfl (h118.up hg130)
    have hv135 : Holds (Is (PtrV bk9)) (a127.eval (.tmp 1)) w128 := is_any (hk131.holds rfl hv120)
    have hb136 := hb121.up hg130
    have g137 := g122.trans hg130
    have g138 := g123.trans hg130
    have g139 : Siz w58 w128 := g124.trans hg130
    have kk140 : Keep _ a30 a127 := kk125.trans hk131 rfl
    have hV141 := hV126.up hg130
    clear h118 hv120 hb121 g122 g123 g124 kk125 hf114 hk131 hn132 hg130 hV126
    refine then_ ?_
    exact ⟨(i + 1), (by ((try dsimp only); omega)), hf129, (by ((try dsimp only); omega)), g137, g138, kk140, (cast_own (map_step (by omega)) (unV h134 hV141)), (is_cast h133 (by first | rfl | (refine congrArg intV ?_; (try dsimp only); omega))), hb136⟩
  · intro hc72
    try simp only [cond_norm] at hc72
    have he1 : s.cells.length ≤ i := by omega
    refine wp_exit ?_
    refine thenX ?_
    refine thenX ?_
    refine blockX ?_
    refine then_ ?_
    refine wp_seq ?_
    refine wp_seq ?_
    refine wp_region_lit ?_
    refine wp_all [([], [])] [1, 3] w2.heap.size hf59 g69.size (by kernel_rfl) bund_nil ?_
    refine ch rfl (ob_assign arg_c) ?_
    refine ch_nil ?_
    intro a142 w143 hf144 hg145 hk146 hn147
    have h148 : Holds _ (a142.eval (.tmp 5)) w143 := hn147.at 0 0 rfl rfl rfl
    have h149 := hk146.holds rfl (h64.up hg145)
    have hv150 : Holds (Is (PtrV bk9)) (a142.eval (.tmp 1)) w143 := is_any (hk146.holds rfl hv66)
    have hb151 := hb67.up hg145
    have g152 := g68.trans hg145
    have g153 := g69.trans hg145
    have hV154 := hV71.up hg145
    clear h64 hv66 hb67 g68 g69 hf59 hk146 hn147 hg145 hV71
    refine then_ ?_
    refine wp_block ?_
    refine wp_loopL (α := Nat) (fun i a' w' => Fr 98 a' ∧ (i ≤ s.seqs.length) ∧ Grow w0 w' ∧ Grow w2 w' ∧ Keep [1] a142 a' ∧ Holds (OwnS w2.heap.size elNm ((s.cells.map leafC) ++ seqLf s.seqs i)) (a'.eval (.tmp 3)) w' ∧ Holds (Is (intV (i : Int))) (a'.eval (.tmp 5)) w' ∧ Blk bk9 (_) w') (fun i => s.seqs.length - i) (0) ⟨hf144, (by ((try dsimp only); omega)), g152, g153, Keep.refl _ _, (cast_own (by rw [lv1 s (by omega)]; exact (List.append_nil _).symm) (unV h149 hV154)), (is_cast h148 (by first | rfl | (refine congrArg intV ?_; (try dsimp only); omega))), hb151⟩ ?_
    intro i a155 w156 ⟨hf157, hi159, g160, g161, kk158, h162, h163, hb164⟩
    have hv165 : Holds (Is (PtrV bk9)) (a155.eval (.tmp 1)) w156 := is_any (kk158.holds rfl hv150)
    obtain ⟨V166, h167, hV168⟩ := nameV h162
    clear h162
    refine wp_seq ?_
    refine wp_seq ?_
    refine wp_region_lit ?_
    refine wp_all [([5], []), ([1], []), ([], [1]), ([], [2]), ([], [0, 3])] [1, 3, 5] w2.heap.size hf157 g161.size (by kernel_rfl) (bund_cons h163 (bund_cons (hb164.ownp hv165) bund_nil)) ?_
    refine ch rfl (ob_move (arg_free 0 rfl rfl)) ?_
    refine ch rfl (ob_faP (n := 0) (arg_free 1 rfl rfl) Tryz.underlying28 rfl (by kernel_rfl)) ?_
    refine ch rfl (ob_loadP (arg_op 1 0 rfl rfl rfl rfl) Tryz.underlying23 rfl rfl) ?_
    refine ch rfl (ob_len (ArgOK.val (arg_op 2 0 rfl rfl rfl rfl) (hvb0.up g160)) Tryz.underlying23) ?_
    refine ch rfl (ob_lss (arg_op 0 3 rfl rfl rfl rfl) (arg_op 3 0 rfl rfl rfl rfl)) ?_
    refine ch_nil ?_
    intro a169 w170 hf171 hg172 hk173 hn174
    have h175 : Holds _ (a169.eval (.tmp 29)) w170 := hn174.at 4 0 rfl rfl rfl
    have h176 := hk173.holds rfl (h167.up hg172)
    have h177 := hk173.holds rfl (h163.up hg172)
    have hv178 : Holds (Is (PtrV bk9)) (a169.eval (.tmp 1)) w170 := is_any (hk173.holds rfl hv165)
    have hb179 := hb164.up hg172
    have g180 := g160.trans hg172
    have g181 := g161.trans hg172
    have kk182 : Keep _ a142 a169 := kk158.trans hk173 rfl
    have hV183 := hV168.up hg172
    clear h167 h163 hv165 hb164 g160 g161 kk158 hf157 hk173 hn174 hg172 hV168
    refine then_ ?_
    refine wp_if h175 ?_ ?_
    · intro hc184
      try simp only [cond_norm] at hc184
      refine wp_skip ?_
      refine then_ ?_
      refine wp_seq ?_
      refine wp_block ?_
      have g185 : Grow w170 w170 := Grow.refl _
      have hl186 : bk9 < w170.heap.size := hb179.lt
      have hz187 : w2.heap.size ≤ w170.heap.size := g181.size
      refine wp_calm_tail (l1 := [_, _, _, _, _, _, _, _, _, _, _]) [0, 0, 2, 0, 8, 0, 56, 120, 254, 510, 1022, 2047, 4095] [([3], []), ([5], []), ([], [1]), ([1], []), ([], [3]), ([5], []), ([], [4, 5]), ([], [6]), ([], [2, 7]), ([], [8]), ([], [9])] [1, 3, 5] w170.heap.size hf171 g185.size (by kernel_rfl) (bund_cons h176 (bund_cons h177 (bund_cons (hb179.ownp hv178) bund_nil))) ?_
      intro ws188 hs189
      refine ch rfl (ob_move (arg_free 0 rfl rfl)) ?_
      refine ch rfl (ob_move (arg_free 1 rfl rfl)) ?_
      refine ch rfl (ob_call3 (by kernel_rfl) (c_num 1 ?_ ?_ ?_) (arg_cg (fun w => sl_nil)) (arg_op 1 0 rfl rfl rfl rfl) arg_c) ?_
      · rfl
      · decide
      · (simp only [List.length_append, List.length_cons, List.length_nil, nmBytes_len, be_len]; omega)
      refine ch rfl (ob_faP (n := 0) (arg_free 2 rfl rfl) Tryz.underlying28 rfl (by kernel_rfl)) ?_
      refine ch rfl (ob_loadP (arg_op 3 0 rfl rfl rfl rfl) Tryz.underlying23 rfl rfl) ?_
      refine ch rfl (ob_move (arg_free 1 rfl rfl)) ?_
      refine ch rfl (ob_ix (ArgOK.val (arg_op 4 1 rfl rfl rfl rfl) ((hvb0.up g180).up hs189)) (arg_op 5 0 rfl rfl rfl rfl) (rfl) ?_ Tryz.underlying23 szInt) ?_
      · omega
      refine ch rfl (ob_load1 (arg_op 6 0 rfl rfl rfl rfl) Tryz.underlying3 rfl) ?_
      refine ch rfl (ob_call3 (by kernel_rfl) (c_num 1 ?_ ?_ ?_) (ArgOK.sl (arg_op 2 5 rfl rfl rfl rfl)) (arg_op 7 0 rfl rfl rfl rfl) arg_c) ?_
      · rfl
      · decide
      · (simp only [List.length_append, List.length_cons, List.length_nil, nmBytes_len, be_len]; omega)
      refine ch rfl (ob_call2 (by kernel_rfl) (c_rTagged ?_) (arg_cb 83 rfl) (ArgOK.sl (arg_op 8 0 rfl rfl rfl rfl))) ?_
      · (simp only [List.length_append, List.length_cons, List.length_nil, nmBytes_len, be_len]; omega)
      refine ch rfl (ob_bs1_nm (arg_op 9 0 rfl rfl rfl rfl)) ?_
      refine ch_nil ?_
      intro a190 w191 hf192 hg193 hk194 hn195
      have h196 : Holds _ (a190.eval (.tmp 32)) w191 := hn195.at 0 10 rfl rfl rfl
      have h197 : Holds (OwnF w170.heap.size _ _) (a190.eval (.tmp 42)) w191 := hn195.at 10 0 rfl rfl rfl
      have h198 := hk194.holds rfl h176
      have h199 := hk194.holds rfl h177
      have hv200 : Holds (Is (PtrV bk9)) (a190.eval (.tmp 1)) w191 := is_any (hk194.holds rfl hv178)
      have hb201 := hb179.up hg193
      have g202 := g180.trans hg193
      have g203 := g181.trans hg193
      have g204 := g185.trans hg193
      have kk205 : Keep _ a142 a190 := kk182.trans hk194 rfl
      clear h176 h177 hv178 hb179 g180 g181 g185 kk182 hf171 hk194 hn195
      obtain ⟨V206, h207, hV208⟩ := nameV h197
      clear h197
      refine wl_appendW elNmP [1, 3, 5] hf192 (by kernel_rfl) rfl Tryz.underlying25 (unV h196 (hV183.up g204)) (OwnS.sl (OwnF.own (unV h207 hV208))) ?_ ?_ g203.size ?_
      · (simp only [List.length_append, List.length_cons, List.length_nil, List.length_map, List.length_take, seqLf_len, maxLen, elNm]; omega)
      · (simp only [List.length_append, List.length_cons, List.length_nil, List.length_map, List.length_take, seqLf_len, maxLen, elNm]; omega)
      intro a209 w210 hf211 hw212 hk213 h214
      have g215 : Grow w0 w210 := g202.wr hw212 (by omega)
      have g216 : Grow w2 w210 := g203.wr hw212 (by omega)
      have g217 : Siz w170 w210 := Siz.below g204.size hw212.below
      have h218 : Holds _ (a209.eval (.tmp 3)) w210 := is_any (hk213.holds rfl h198)
      have h219 : Holds _ (a209.eval (.tmp 5)) w210 := is_any (hk213.holds rfl h199)
      have hv220 : Holds (Is (PtrV bk9)) (a209.eval (.tmp 1)) w210 := is_any (hk213.holds rfl hv200)
      have hb221 : Blk bk9 _ w210 := hb201.wr hw212 (by omega)
      have kk222 : Keep _ a142 a209 := kk205.trans hk213 rfl
      obtain ⟨V223, h224, hV225⟩ := nameV h214
      clear h214
      refine wp_all [([43], [])] [1, 5] w170.heap.size hf211 g217.size (by kernel_rfl) (bund_cons h224 bund_nil) ?_
      refine ch rfl (ob_assign (arg_free 0 rfl rfl)) ?_
      refine ch_nil ?_
      intro a226 w227 hf228 hg229 hk230 hn231
      have h232 : Holds _ (a226.eval (.tmp 3)) w227 := hn231.at 0 0 rfl rfl rfl
      have h233 := hk230.holds rfl (h219.up hg229)
      have hv234 : Holds (Is (PtrV bk9)) (a226.eval (.tmp 1)) w227 := is_any (hk230.holds rfl hv220)
      have hb235 := hb221.up hg229
      have g236 := g215.trans hg229
      have g237 := g216.trans hg229
      have g238 : Siz w170 w227 := g217.trans hg229
      have kk239 : Keep _ a142 a226 := kk222.trans hk230 rfl
      have hV240 := hV225.up hg229
      clear h219 hv220 hb221 g215 g216 g217 kk222 hf211 hk230 hn231 hg229 hV225
      refine blockN ?_
      refine then_ ?_
      refine wp_region_lit ?_
      refine wp_all [([5], []), ([], [0]), ([], [1])] [1, 3] w170.heap.size hf228 g238.size (by kernel_rfl) (bund_cons h233 bund_nil) ?_
      refine ch rfl (ob_move (arg_free 0 rfl rfl)) ?_
      first
        | (refine ch rfl (ob_add' (arg_op 0 0 rfl rfl rfl rfl) arg_c ?_) ?_; · omega)
        | refine ch rfl (ob_add (arg_op 0 0 rfl rfl rfl rfl) arg_c) ?_
      refine ch rfl (ob_assign (arg_op 1 0 rfl rfl rfl rfl)) ?_
      refine ch_nil ?_
      intro a241 w242 hf243 hg244 hk245 hn246
      have h247 : Holds _ (a241.eval (.tmp 5)) w242 := hn246.at 2 0 rfl rfl rfl
      have h248 := hk245.holds rfl (h232.up hg244)
      have hv249 : Holds (Is (PtrV bk9)) (a241.eval (.tmp 1)) w242 := is_any (hk245.holds rfl hv234)
      have hb250 := hb235.up hg244
      have g251 := g236.trans hg244
      have g252 := g237.trans hg244
      have g253 : Siz w170 w242 := g238.trans hg244
      have kk254 : Keep _ a142 a241 := kk239.trans hk245 rfl
      have hV255 := hV240.up hg244
      clear h232 hv234 hb235 g236 g237 g238 kk239 hf228 hk245 hn246 hg244 hV240
      refine then_ ?_
      exact ⟨(i + 1), (by ((try dsimp only); omega)), hf243, (by ((try dsimp only); omega)), g251, g252, kk254, (cast_own lv_seqR (unV h248 hV255)), (is_cast h247 (by first | rfl | (refine congrArg intV ?_; (try dsimp only); omega))), hb250⟩
    · intro hc184
      try simp only [cond_norm] at hc184
      obtain rfl : i = s.seqs.length := by omega
      refine wp_exit ?_
      refine thenX ?_
      refine thenX ?_
      refine blockX ?_
      refine then_ ?_
      refine wp_seq ?_
      refine wp_seq ?_
      refine wp_region_lit ?_
      refine wp_all [([], [])] [1, 3] w2.heap.size hf171 g181.size (by kernel_rfl) bund_nil ?_
      refine ch rfl (ob_assign arg_c) ?_
      refine ch_nil ?_
      intro a256 w257 hf258 hg259 hk260 hn261
      have h262 : Holds _ (a256.eval (.tmp 6)) w257 := hn261.at 0 0 rfl rfl rfl
      have h263 := hk260.holds rfl (h176.up hg259)
      have hv264 : Holds (Is (PtrV bk9)) (a256.eval (.tmp 1)) w257 := is_any (hk260.holds rfl hv178)
      have hb265 := hb179.up hg259
      have g266 := g180.trans hg259
      have g267 := g181.trans hg259
      have hV268 := hV183.up hg259
      clear h176 hv178 hb179 g180 g181 hf171 hk260 hn261 hg259 hV183
      refine then_ ?_
      refine wp_block ?_
      refine wp_loopL (α := Nat) (fun i a' w' => Fr 98 a' ∧ (i ≤ s.locks.length) ∧ Grow w0 w' ∧ Grow w2 w' ∧ Keep [1] a256 a' ∧ Holds (OwnS w2.heap.size elNm (((s.cells.map leafC) ++ seqLf s.seqs s.seqs.length) ++ (s.locks.take i).map leafK)) (a'.eval (.tmp 3)) w' ∧ Holds (Is (intV (i : Int))) (a'.eval (.tmp 6)) w' ∧ Blk bk9 (_) w') (fun i => s.locks.length - i) (0) ⟨hf258, (by ((try dsimp only); omega)), g266, g267, Keep.refl _ _, (cast_own (by rw [List.take_zero, List.map_nil, List.append_nil]) (unV h263 hV268)), (is_cast h262 (by first | rfl | (refine congrArg intV ?_; (try dsimp only); omega))), hb265⟩ ?_
      intro i a269 w270 ⟨hf271, hi273, g274, g275, kk272, h276, h277, hb278⟩
      have hv279 : Holds (Is (PtrV bk9)) (a269.eval (.tmp 1)) w270 := is_any (kk272.holds rfl hv264)
      obtain ⟨V280, h281, hV282⟩ := nameV h276
      clear h276
      refine wp_seq ?_
      refine wp_seq ?_
      refine wp_region_lit ?_
      refine wp_all [([6], []), ([1], []), ([], [1]), ([], [2]), ([], [0, 3])] [1, 3, 6] w2.heap.size hf271 g275.size (by kernel_rfl) (bund_cons h277 (bund_cons (hb278.ownp hv279) bund_nil)) ?_
      refine ch rfl (ob_move (arg_free 0 rfl rfl)) ?_
      refine ch rfl (ob_faP (n := 0) (arg_free 1 rfl rfl) Tryz.underlying28 rfl (by kernel_rfl)) ?_
      refine ch rfl (ob_loadP (arg_op 1 0 rfl rfl rfl rfl) Tryz.underlying24 rfl rfl) ?_
      refine ch rfl (ob_len (ArgOK.val (arg_op 2 0 rfl rfl rfl rfl) (hvc0.up g274)) Tryz.underlying24) ?_
      refine ch rfl (ob_lss (arg_op 0 3 rfl rfl rfl rfl) (arg_op 3 0 rfl rfl rfl rfl)) ?_
      refine ch_nil ?_
      intro a283 w284 hf285 hg286 hk287 hn288
      have h289 : Holds _ (a283.eval (.tmp 48)) w284 := hn288.at 4 0 rfl rfl rfl
      have h290 := hk287.holds rfl (h281.up hg286)
      have h291 := hk287.holds rfl (h277.up hg286)
      have hv292 : Holds (Is (PtrV bk9)) (a283.eval (.tmp 1)) w284 := is_any (hk287.holds rfl hv279)
      have hb293 := hb278.up hg286
      have g294 := g274.trans hg286
      have g295 := g275.trans hg286
      have kk296 : Keep _ a256 a283 := kk272.trans hk287 rfl
      have hV297 := hV282.up hg286
      clear h281 h277 hv279 hb278 g274 g275 kk272 hf271 hk287 hn288 hg286 hV282
      refine then_ ?_
      refine wp_if h289 ?_ ?_
      · intro hc298
        try simp only [cond_norm] at hc298
        refine wp_skip ?_
        refine then_ ?_
        refine wp_seq ?_
        refine wp_block ?_
        refine wp_seq ?_
        have g299 : Grow w284 w284 := Grow.refl _
        have hl300 : bk9 < w284.heap.size := hb293.lt
        have hz301 : w2.heap.size ≤ w284.heap.size := g295.size
        refine wp_region_lit ?_
        refine wp_seg (l1 := [_, _, _, _, _]) [([1], []), ([], [0]), ([6], []), ([], [1, 2]), ([], [3])] [1, 3, 6] w284.heap.size hf285 g299.size (by kernel_rfl) (bund_cons (hb293.ownp hv292) (bund_cons h291 bund_nil)) ?_
        refine ch rfl (ob_faP (n := 0) (arg_free 0 rfl rfl) Tryz.underlying28 rfl (by kernel_rfl)) ?_
        refine ch rfl (ob_loadP (arg_op 0 0 rfl rfl rfl rfl) Tryz.underlying24 rfl rfl) ?_
        refine ch rfl (ob_move (arg_free 1 rfl rfl)) ?_
        refine ch rfl (ob_ix (ArgOK.val (arg_op 1 1 rfl rfl rfl rfl) (hvc0.up g294)) (arg_op 2 0 rfl rfl rfl rfl) (rfl) ?_ Tryz.underlying24 szLock) ?_
        · omega
        refine ch rfl (ob_load_lock (arg_op 3 0 rfl rfl rfl rfl)) ?_
        refine ch_nil ?_
        intro a302 w303 hf304 hg305 hk306 hn307
        have h308 : Holds _ (a302.eval (.tmp 55)) w303 := hn307.at 4 0 rfl rfl rfl
        have h309 := hk306.holds rfl h290
        have h310 := hk306.holds rfl h291
        have hv311 : Holds (Is (PtrV bk9)) (a302.eval (.tmp 1)) w303 := is_any (hk306.holds rfl hv292)
        have hb312 := hb293.up hg305
        have g313 := g294.trans hg305
        have g314 := g295.trans hg305
        have g315 := g299.trans hg305
        have kk316 : Keep _ a256 a302 := kk296.trans hk306 rfl
        clear h290 h291 hv292 hb293 g294 g295 g299 kk296 hf285 hk306 hn307
        have g317 : Grow w303 w303 := Grow.refl _
        have hl318 : bk9 < w303.heap.size := hb312.lt
        have hz319 : w284.heap.size ≤ w303.heap.size := g315.size
        refine wp_seg (l1 := [_]) [([], [])] [1, 3, 6, 55] w303.heap.size hf304 g317.size (by kernel_rfl) bund_nil ?_
        refine ch rfl (ob_alloc_lock) ?_
        refine ch_nil ?_
        intro a320 w321 hf322 hg323 hk324 hn325
        have h326 : Holds _ (a320.eval (.tmp 7)) w321 := hn325.at 0 0 rfl rfl rfl
        have h327 := hk324.holds rfl h308
        have h328 := hk324.holds rfl h309
        have h329 := hk324.holds rfl h310
        have hv330 : Holds (Is (PtrV bk9)) (a320.eval (.tmp 1)) w321 := is_any (hk324.holds rfl hv311)
        have hb331 := hb312.up hg323
        have g332 := g313.trans hg323
        have g333 := g314.trans hg323
        have g334 := g315.trans hg323
        have g335 := g317.trans hg323
        have kk336 : Keep _ a256 a320 := kk316.trans hk324 rfl
        obtain ⟨bk337, hl338, hv339, hb340⟩ := OwnB.blk (lo := w303.heap.size) h326
        clear h308 h309 h310 hv311 hb312 g313 g314 g315 g317 kk316 hf304 hk324 hn325
        refine wl_store_lock hv339 hb340 rfl (is_any h327) ?_
        intro w341 ho342 hb343
        have g344 : Grow w0 w341 := g332.only ho342 (by omega)
        have g345 : Grow w2 w341 := g333.only ho342 (by omega)
        have g346 : Grow w284 w341 := g334.only ho342 (by omega)
        have g347 : Grow w303 w341 := g335.only ho342 (by omega)
        have hv348 : Holds (Is (PtrV bk9)) (a320.eval (.tmp 1)) w341 := is_any hv330
        have hb349 : Blk bk9 _ w341 := hb331.only ho342 (by omega)
        have hv350 : Holds (Is (PtrV bk337)) (a320.eval (.tmp 7)) w341 := is_any hv339
        refine wpList_nil ?_
        refine then_ ?_
        have g351 : Grow w341 w341 := Grow.refl _
        have hl352 : bk9 < w341.heap.size := hb349.lt
        have hl353 : bk337 < w341.heap.size := hb343.lt
        have hz354 : w303.heap.size ≤ w341.heap.size := g347.size
        refine wp_calm_tail (l1 := [_, _, _, _, _, _, _, _, _, _, _, _, _, _, _, _, _, _]) [0, 0, 2, 6, 0, 16, 62, 0, 128, 510, 0, 1024, 4094, 0, 8192, 32766, 65534, 131070, 262143, 524287] [([3], []), ([7], []), ([], [1]), ([], [2]), ([7], []), ([], [4]), ([], [3, 5]), ([7], []), ([], [7]), ([], [6, 8]), ([7], []), ([], [10]), ([], [9, 11]), ([7], []), ([], [13]), ([], [12, 14]), ([], [15]), ([], [16])] [1, 3, 6] w341.heap.size hf322 g351.size (by kernel_rfl) (bund_cons (is_any h328) (bund_cons (hb343.ownp hv350) bund_nil)) ?_
        intro ws355 hs356
        refine ch rfl (ob_move (arg_free 0 rfl rfl)) ?_
        refine ch rfl (ob_fa_lock0 (ArgOK.ownp (arg_free 1 rfl rfl))) ?_
        refine ch rfl (ob_load_nm (arg_op 1 0 rfl rfl rfl rfl)) ?_
        refine ch rfl (ob_call2 (by kernel_rfl) (c_name ?_) (arg_cg (fun w => sl_nil)) (arg_op 2 0 rfl rfl rfl rfl)) ?_
        · (simp only [List.length_append, List.length_cons, List.length_nil, nmBytes_len, be_len]; omega)
        refine ch rfl (ob_fa_lock1 (ArgOK.ownp (arg_free 1 rfl rfl))) ?_
        refine ch rfl (ob_load_nm (arg_op 4 0 rfl rfl rfl rfl)) ?_
        refine ch rfl (ob_call2 (by kernel_rfl) (c_name ?_) (ArgOK.sl (arg_op 3 2 rfl rfl rfl rfl)) (arg_op 5 0 rfl rfl rfl rfl)) ?_
        · (simp only [List.length_append, List.length_cons, List.length_nil, nmBytes_len, be_len]; omega)
        refine ch rfl (ob_fa_lock2 (ArgOK.ownp (arg_free 1 rfl rfl))) ?_
        refine ch rfl (ob_load1 (arg_op 7 0 rfl rfl rfl rfl) Tryz.underlying3 rfl) ?_
        refine ch rfl (ob_call3 (by kernel_rfl) (c_num 1 ?_ ?_ ?_) (ArgOK.sl (arg_op 6 2 rfl rfl rfl rfl)) (arg_op 8 0 rfl rfl rfl rfl) arg_c) ?_
        · rfl
        · decide
        · (simp only [List.length_append, List.length_cons, List.length_nil, nmBytes_len, be_len]; omega)
        refine ch rfl (ob_fa_lock3 (ArgOK.ownp (arg_free 1 rfl rfl))) ?_
        refine ch rfl (ob_load1 (arg_op 10 0 rfl rfl rfl rfl) Tryz.underlying3 rfl) ?_
        refine ch rfl (ob_call3 (by kernel_rfl) (c_num 1 ?_ ?_ ?_) (ArgOK.sl (arg_op 9 2 rfl rfl rfl rfl)) (arg_op 11 0 rfl rfl rfl rfl) arg_c) ?_
        · rfl
        · decide
        · (simp only [List.length_append, List.length_cons, List.length_nil, nmBytes_len, be_len]; omega)
        refine ch rfl (ob_fa_lock4 (ArgOK.ownp (arg_free 1 rfl rfl))) ?_
        refine ch rfl (ob_load1 (arg_op 13 0 rfl rfl rfl rfl) Tryz.underlying3 rfl) ?_
        refine ch rfl (ob_call3 (by kernel_rfl) (c_num 2 ?_ ?_ ?_) (ArgOK.sl (arg_op 12 2 rfl rfl rfl rfl)) (arg_op 14 0 rfl rfl rfl rfl) arg_c) ?_
        · rfl
        · decide
        · (simp only [List.length_append, List.length_cons, List.length_nil, nmBytes_len, be_len]; omega)
        refine ch rfl (ob_call2 (by kernel_rfl) (c_rTagged ?_) (arg_cb 84 rfl) (ArgOK.sl (arg_op 15 0 rfl rfl rfl rfl))) ?_
        · (simp only [List.length_append, List.length_cons, List.length_nil, nmBytes_len, be_len]; omega)
        refine ch rfl (ob_bs1_nm (arg_op 16 0 rfl rfl rfl rfl)) ?_
        refine ch_nil ?_
        intro a357 w358 hf359 hg360 hk361 hn362
        have h363 : Holds _ (a357.eval (.tmp 56)) w358 := hn362.at 0 17 rfl rfl rfl
        have h364 : Holds (OwnF w341.heap.size _ _) (a357.eval (.tmp 73)) w358 := hn362.at 17 0 rfl rfl rfl
        have h365 := hk361.holds rfl h328
        have h366 := hk361.holds rfl h329
        have hv367 : Holds (Is (PtrV bk9)) (a357.eval (.tmp 1)) w358 := is_any (hk361.holds rfl hv348)
        have hb368 := hb349.up hg360
        have g369 := g344.trans hg360
        have g370 := g345.trans hg360
        have g371 := g346.trans hg360
        have g372 := g347.trans hg360
        have g373 := g351.trans hg360
        have kk374 : Keep _ a256 a357 := kk336.trans hk361 rfl
        clear h328 h329 hv348 hb349 g344 g345 g346 g347 g351 kk336 hf322 hk361 hn362
        obtain ⟨V375, h376, hV377⟩ := nameV h364
        clear h364
        refine wl_appendW elNmP [1, 3, 6] hf359 (by kernel_rfl) rfl Tryz.underlying25 (unV h363 (hV297.up g371)) (OwnS.sl (OwnF.own (unV h376 hV377))) ?_ ?_ g370.size ?_
        · (simp only [List.length_append, List.length_cons, List.length_nil, List.length_map, List.length_take, seqLf_len, maxLen, elNm]; omega)
        · (simp only [List.length_append, List.length_cons, List.length_nil, List.length_map, List.length_take, seqLf_len, maxLen, elNm]; omega)
        intro a378 w379 hf380 hw381 hk382 h383
        have g384 : Grow w0 w379 := g369.wr hw381 (by omega)
        have g385 : Grow w2 w379 := g370.wr hw381 (by omega)
        have g386 : Siz w284 w379 := Siz.below g371.size hw381.below
        have g387 : Siz w303 w379 := Siz.below g372.size hw381.below
        have g388 : Siz w341 w379 := Siz.below g373.size hw381.below
        have h389 : Holds _ (a378.eval (.tmp 3)) w379 := is_any (hk382.holds rfl h365)
        have h390 : Holds _ (a378.eval (.tmp 6)) w379 := is_any (hk382.holds rfl h366)
        have hv391 : Holds (Is (PtrV bk9)) (a378.eval (.tmp 1)) w379 := is_any (hk382.holds rfl hv367)
        have hb392 : Blk bk9 _ w379 := hb368.wr hw381 (by omega)
        have kk393 : Keep _ a256 a378 := kk374.trans hk382 rfl
        obtain ⟨V394, h395, hV396⟩ := nameV h383
        clear h383
        refine wp_all [([74], [])] [1, 6] w341.heap.size hf380 g388.size (by kernel_rfl) (bund_cons h395 bund_nil) ?_
        refine ch rfl (ob_assign (arg_free 0 rfl rfl)) ?_
        refine ch_nil ?_
        intro a397 w398 hf399 hg400 hk401 hn402
        have h403 : Holds _ (a397.eval (.tmp 3)) w398 := hn402.at 0 0 rfl rfl rfl
        have h404 := hk401.holds rfl (h390.up hg400)
        have hv405 : Holds (Is (PtrV bk9)) (a397.eval (.tmp 1)) w398 := is_any (hk401.holds rfl hv391)
        have hb406 := hb392.up hg400
        have g407 := g384.trans hg400
        have g408 := g385.trans hg400
        have g409 : Siz w284 w398 := g386.trans hg400
        have g410 : Siz w303 w398 := g387.trans hg400
        have g411 : Siz w341 w398 := g388.trans hg400
        have kk412 : Keep _ a256 a397 := kk393.trans hk401 rfl
        have hV413 := hV396.up hg400
        clear h390 hv391 hb392 g384 g385 g386 g387 g388 kk393 hf380 hk401 hn402 hg400 hV396
        refine blockN ?_
        refine then_ ?_
        refine wp_region_lit ?_
        refine wp_all [([6], []), ([], [0]), ([], [1])] [1, 3] w341.heap.size hf399 g411.size (by kernel_rfl) (bund_cons h404 bund_nil) ?_
        refine ch rfl (ob_move (arg_free 0 rfl rfl)) ?_
        first
          | (refine ch rfl (ob_add' (arg_op 0 0 rfl rfl rfl rfl) arg_c ?_) ?_; · omega)
          | refine ch rfl (ob_add (arg_op 0 0 rfl rfl rfl rfl) arg_c) ?_
        refine ch rfl (ob_assign (arg_op 1 0 rfl rfl rfl rfl)) ?_
        refine ch_nil ?_
        intro a414 w415 hf416 hg417 hk418 hn419
        have h420 : Holds _ (a414.eval (.tmp 6)) w415 := hn419.at 2 0 rfl rfl rfl
        have h421 := hk418.holds rfl (h403.up hg417)
        have hv422 : Holds (Is (PtrV bk9)) (a414.eval (.tmp 1)) w415 := is_any (hk418.holds rfl hv405)
        have hb423 := hb406.up hg417
        have g424 := g407.trans hg417
        have g425 := g408.trans hg417
        have g426 : Siz w284 w415 := g409.trans hg417
        have g427 : Siz w303 w415 := g410.trans hg417
        have g428 : Siz w341 w415 := g411.trans hg417
        have kk429 : Keep _ a256 a414 := kk412.trans hk418 rfl
        have hV430 := hV413.up hg417
        clear h403 hv405 hb406 g407 g408 g409 g410 g411 kk412 hf399 hk418 hn419 hg417 hV413
        refine then_ ?_
        exact ⟨(i + 1), (by ((try dsimp only); omega)), hf416, (by ((try dsimp only); omega)), g424, g425, kk429, (cast_own (by rw [leafK_R]; exact map_step (by omega)) (unV h421 hV430)), (is_cast h420 (by first | rfl | (refine congrArg intV ?_; (try dsimp only); omega))), hb423⟩
      · intro hc298
        try simp only [cond_norm] at hc298
        have he3 : s.locks.length ≤ i := by omega
        refine wp_exit ?_
        refine thenX ?_
        refine thenX ?_
        refine blockX ?_
        refine then_ ?_
        refine wp_seq ?_
        refine wp_seq ?_
        refine wp_region_lit ?_
        refine wp_all [([], [])] [1, 3] w2.heap.size hf285 g295.size (by kernel_rfl) bund_nil ?_
        refine ch rfl (ob_assign arg_c) ?_
        refine ch_nil ?_
        intro a431 w432 hf433 hg434 hk435 hn436
        have h437 : Holds _ (a431.eval (.tmp 8)) w432 := hn436.at 0 0 rfl rfl rfl
        have h438 := hk435.holds rfl (h290.up hg434)
        have hv439 : Holds (Is (PtrV bk9)) (a431.eval (.tmp 1)) w432 := is_any (hk435.holds rfl hv292)
        have hb440 := hb293.up hg434
        have g441 := g294.trans hg434
        have g442 := g295.trans hg434
        have hV443 := hV297.up hg434
        clear h290 hv292 hb293 g294 g295 hf285 hk435 hn436 hg434 hV297
        refine then_ ?_
        refine wp_block ?_
        refine wp_loopL (α := Nat) (fun i a' w' => Fr 98 a' ∧ (i ≤ s.applied.length) ∧ Grow w0 w' ∧ Grow w2 w' ∧ Keep [1] a431 a' ∧ Holds (OwnS w2.heap.size elNm ((((s.cells.map leafC) ++ seqLf s.seqs s.seqs.length) ++ s.locks.map leafK) ++ (s.applied.take i).map leafA)) (a'.eval (.tmp 3)) w' ∧ Holds (Is (intV (i : Int))) (a'.eval (.tmp 8)) w' ∧ Blk bk9 (_) w') (fun i => s.applied.length - i) (0) ⟨hf433, (by ((try dsimp only); omega)), g441, g442, Keep.refl _ _, (cast_own (by rw [take_all (by omega), List.take_zero, List.map_nil, List.append_nil]) (unV h438 hV443)), (is_cast h437 (by first | rfl | (refine congrArg intV ?_; (try dsimp only); omega))), hb440⟩ ?_
        intro i a444 w445 ⟨hf446, hi448, g449, g450, kk447, h451, h452, hb453⟩
        have hv454 : Holds (Is (PtrV bk9)) (a444.eval (.tmp 1)) w445 := is_any (kk447.holds rfl hv439)
        obtain ⟨V455, h456, hV457⟩ := nameV h451
        clear h451
        refine wp_seq ?_
        refine wp_seq ?_
        refine wp_region_lit ?_
        refine wp_all [([8], []), ([1], []), ([], [1]), ([], [2]), ([], [0, 3])] [1, 3, 8] w2.heap.size hf446 g450.size (by kernel_rfl) (bund_cons h452 (bund_cons (hb453.ownp hv454) bund_nil)) ?_
        refine ch rfl (ob_move (arg_free 0 rfl rfl)) ?_
        refine ch rfl (ob_faP (n := 0) (arg_free 1 rfl rfl) Tryz.underlying28 rfl (by kernel_rfl)) ?_
        refine ch rfl (ob_loadP (arg_op 1 0 rfl rfl rfl rfl) Tryz.underlying25 rfl rfl) ?_
        refine ch rfl (ob_len (ArgOK.val (arg_op 2 0 rfl rfl rfl rfl) (hvd0.up g449)) Tryz.underlying25) ?_
        refine ch rfl (ob_lss (arg_op 0 3 rfl rfl rfl rfl) (arg_op 3 0 rfl rfl rfl rfl)) ?_
        refine ch_nil ?_
        intro a458 w459 hf460 hg461 hk462 hn463
        have h464 : Holds _ (a458.eval (.tmp 79)) w459 := hn463.at 4 0 rfl rfl rfl
        have h465 := hk462.holds rfl (h456.up hg461)
        have h466 := hk462.holds rfl (h452.up hg461)
        have hv467 : Holds (Is (PtrV bk9)) (a458.eval (.tmp 1)) w459 := is_any (hk462.holds rfl hv454)
        have hb468 := hb453.up hg461
        have g469 := g449.trans hg461
        have g470 := g450.trans hg461
        have kk471 : Keep _ a431 a458 := kk447.trans hk462 rfl
        have hV472 := hV457.up hg461
        clear h456 h452 hv454 hb453 g449 g450 kk447 hf446 hk462 hn463 hg461 hV457
        refine then_ ?_
        refine wp_if h464 ?_ ?_
        · intro hc473
          try simp only [cond_norm] at hc473
          refine wp_skip ?_
          refine then_ ?_
          refine wp_seq ?_
          refine wp_block ?_
          have g474 : Grow w459 w459 := Grow.refl _
          have hl475 : bk9 < w459.heap.size := hb468.lt
          have hz476 : w2.heap.size ≤ w459.heap.size := g470.size
          refine wp_region_lit ?_
          refine wp_seg (l1 := [_, _, _, _, _, _, _, _]) [([3], []), ([1], []), ([], [1]), ([8], []), ([], [2, 3]), ([], [4]), ([], [5]), ([], [6])] [1, 3, 8] w459.heap.size hf460 g474.size (by kernel_rfl) (bund_cons h465 (bund_cons (hb468.ownp hv467) (bund_cons h466 bund_nil))) ?_
          refine ch rfl (ob_move (arg_free 0 rfl rfl)) ?_
          refine ch rfl (ob_faP (n := 0) (arg_free 1 rfl rfl) Tryz.underlying28 rfl (by kernel_rfl)) ?_
          refine ch rfl (ob_loadP (arg_op 1 0 rfl rfl rfl rfl) Tryz.underlying25 rfl rfl) ?_
          refine ch rfl (ob_move (arg_free 2 rfl rfl)) ?_
          refine ch rfl (ob_ix (ArgOK.val (arg_op 2 1 rfl rfl rfl rfl) (hvd0.up g469)) (arg_op 3 0 rfl rfl rfl rfl) (rfl) ?_ Tryz.underlying25 szNm) ?_
          · omega
          refine ch rfl (ob_load_nm (arg_op 4 0 rfl rfl rfl rfl)) ?_
          refine ch rfl (ob_call1 (by kernel_rfl) (c_rAppliedLeaf) (arg_op 5 0 rfl rfl rfl rfl)) ?_
          refine ch rfl (ob_bs1_nm (arg_op 6 0 rfl rfl rfl rfl)) ?_
          refine ch_nil ?_
          intro a477 w478 hf479 hg480 hk481 hn482
          have h483 : Holds _ (a477.eval (.tmp 82)) w478 := hn482.at 0 7 rfl rfl rfl
          have h484 : Holds (OwnF w459.heap.size _ _) (a477.eval (.tmp 89)) w478 := hn482.at 7 0 rfl rfl rfl
          have h485 := hk481.holds rfl h465
          have h486 := hk481.holds rfl h466
          have hv487 : Holds (Is (PtrV bk9)) (a477.eval (.tmp 1)) w478 := is_any (hk481.holds rfl hv467)
          have hb488 := hb468.up hg480
          have g489 := g469.trans hg480
          have g490 := g470.trans hg480
          have g491 := g474.trans hg480
          have kk492 : Keep _ a431 a477 := kk471.trans hk481 rfl
          clear h465 h466 hv467 hb468 g469 g470 g474 kk471 hf460 hk481 hn482
          obtain ⟨V493, h494, hV495⟩ := nameV h484
          clear h484
          refine wl_appendW elNmP [1, 3, 8] hf479 (by kernel_rfl) rfl Tryz.underlying25 (unV h483 (hV472.up g491)) (OwnS.sl (OwnF.own (unV h494 hV495))) ?_ ?_ g490.size ?_
          · (simp only [List.length_append, List.length_cons, List.length_nil, List.length_map, List.length_take, seqLf_len, maxLen, elNm]; omega)
          · (simp only [List.length_append, List.length_cons, List.length_nil, List.length_map, List.length_take, seqLf_len, maxLen, elNm]; omega)
          intro a496 w497 hf498 hw499 hk500 h501
          have g502 : Grow w0 w497 := g489.wr hw499 (by omega)
          have g503 : Grow w2 w497 := g490.wr hw499 (by omega)
          have g504 : Siz w459 w497 := Siz.below g491.size hw499.below
          have h505 : Holds _ (a496.eval (.tmp 3)) w497 := is_any (hk500.holds rfl h485)
          have h506 : Holds _ (a496.eval (.tmp 8)) w497 := is_any (hk500.holds rfl h486)
          have hv507 : Holds (Is (PtrV bk9)) (a496.eval (.tmp 1)) w497 := is_any (hk500.holds rfl hv487)
          have hb508 : Blk bk9 _ w497 := hb488.wr hw499 (by omega)
          have kk509 : Keep _ a431 a496 := kk492.trans hk500 rfl
          obtain ⟨V510, h511, hV512⟩ := nameV h501
          clear h501
          refine wp_all [([90], [])] [1, 8] w459.heap.size hf498 g504.size (by kernel_rfl) (bund_cons h511 bund_nil) ?_
          refine ch rfl (ob_assign (arg_free 0 rfl rfl)) ?_
          refine ch_nil ?_
          intro a513 w514 hf515 hg516 hk517 hn518
          have h519 : Holds _ (a513.eval (.tmp 3)) w514 := hn518.at 0 0 rfl rfl rfl
          have h520 := hk517.holds rfl (h506.up hg516)
          have hv521 : Holds (Is (PtrV bk9)) (a513.eval (.tmp 1)) w514 := is_any (hk517.holds rfl hv507)
          have hb522 := hb508.up hg516
          have g523 := g502.trans hg516
          have g524 := g503.trans hg516
          have g525 : Siz w459 w514 := g504.trans hg516
          have kk526 : Keep _ a431 a513 := kk509.trans hk517 rfl
          have hV527 := hV512.up hg516
          clear h506 hv507 hb508 g502 g503 g504 kk509 hf498 hk517 hn518 hg516 hV512
          refine blockN ?_
          refine then_ ?_
          refine wp_region_lit ?_
          refine wp_all [([8], []), ([], [0]), ([], [1])] [1, 3] w459.heap.size hf515 g525.size (by kernel_rfl) (bund_cons h520 bund_nil) ?_
          refine ch rfl (ob_move (arg_free 0 rfl rfl)) ?_
          first
            | (refine ch rfl (ob_add' (arg_op 0 0 rfl rfl rfl rfl) arg_c ?_) ?_; · omega)
            | refine ch rfl (ob_add (arg_op 0 0 rfl rfl rfl rfl) arg_c) ?_
          refine ch rfl (ob_assign (arg_op 1 0 rfl rfl rfl rfl)) ?_
          refine ch_nil ?_
          intro a528 w529 hf530 hg531 hk532 hn533
          have h534 : Holds _ (a528.eval (.tmp 8)) w529 := hn533.at 2 0 rfl rfl rfl
          have h535 := hk532.holds rfl (h519.up hg531)
          have hv536 : Holds (Is (PtrV bk9)) (a528.eval (.tmp 1)) w529 := is_any (hk532.holds rfl hv521)
          have hb537 := hb522.up hg531
          have g538 := g523.trans hg531
          have g539 := g524.trans hg531
          have g540 : Siz w459 w529 := g525.trans hg531
          have kk541 : Keep _ a431 a528 := kk526.trans hk532 rfl
          have hV542 := hV527.up hg531
          clear h519 hv521 hb522 g523 g524 g525 kk526 hf515 hk532 hn533 hg531 hV527
          refine then_ ?_
          exact ⟨(i + 1), (by ((try dsimp only); omega)), hf530, (by ((try dsimp only); omega)), g538, g539, kk541, (cast_own (map_step (by omega)) (unV h535 hV542)), (is_cast h534 (by first | rfl | (refine congrArg intV ?_; (try dsimp only); omega))), hb537⟩
        · intro hc473
          try simp only [cond_norm] at hc473
          have he4 : s.applied.length ≤ i := by omega
          refine wp_exit ?_
          refine thenX ?_
          refine thenX ?_
          refine blockX ?_
          refine then_ ?_
          refine wp_seq ?_
          have g543 : Grow w459 w459 := Grow.refl _
          have hl544 : bk9 < w459.heap.size := hb468.lt
          have hz545 : w2.heap.size ≤ w459.heap.size := g470.size
          refine wp_region_lit ?_
          refine wp_seg (l1 := [_, _, _, _, _, _]) [([3], []), ([1], []), ([], [1]), ([], [2]), ([], [3]), ([], [4])] [] w459.heap.size hf460 g543.size (by kernel_rfl) (bund_cons h465 (bund_cons (hb468.ownp hv467) bund_nil)) ?_
          refine ch rfl (ob_move (arg_free 0 rfl rfl)) ?_
          refine ch rfl (ob_faP (n := 0) (arg_free 1 rfl rfl) Tryz.underlying28 rfl (by kernel_rfl)) ?_
          refine ch rfl (ob_loadP (arg_op 1 0 rfl rfl rfl rfl) Tryz.underlying26 rfl rfl) ?_
          refine ch rfl (ob_call3 (by kernel_rfl) (c_num 2 ?_ ?_ ?_) (arg_cg (fun w => sl_nil)) (arg_op 2 0 rfl rfl rfl rfl) arg_c) ?_
          · rfl
          · decide
          · (simp only [List.length_append, List.length_cons, List.length_nil, nmBytes_len, be_len]; omega)
          refine ch rfl (ob_call2 (by kernel_rfl) (c_rTagged ?_) (arg_cb 86 rfl) (ArgOK.sl (arg_op 3 0 rfl rfl rfl rfl))) ?_
          · (simp only [List.length_append, List.length_cons, List.length_nil, nmBytes_len, be_len]; omega)
          refine ch rfl (ob_bs1_nm (arg_op 4 0 rfl rfl rfl rfl)) ?_
          refine ch_nil ?_
          intro a546 w547 hf548 hg549 hk550 hn551
          have h552 : Holds _ (a546.eval (.tmp 91)) w547 := hn551.at 0 5 rfl rfl rfl
          have h553 : Holds (OwnF w459.heap.size _ _) (a546.eval (.tmp 96)) w547 := hn551.at 5 0 rfl rfl rfl
          have g554 := g469.trans hg549
          have g555 := g470.trans hg549
          have g556 := g543.trans hg549
          clear g469 g470 g543 hf460 hk550 hn551
          obtain ⟨V557, h558, hV559⟩ := nameV h553
          clear h553
          refine wl_appendW elNmP [] hf548 (by kernel_rfl) rfl Tryz.underlying25 (unV h552 (hV472.up g556)) (OwnS.sl (OwnF.own (unV h558 hV559))) ?_ ?_ g555.size ?_
          · (simp only [List.length_append, List.length_cons, List.length_nil, List.length_map, List.length_take, seqLf_len, maxLen, elNm]; omega)
          · (simp only [List.length_append, List.length_cons, List.length_nil, List.length_map, List.length_take, seqLf_len, maxLen, elNm]; omega)
          intro a560 w561 hf562 hw563 hk564 h565
          have g566 : Grow w0 w561 := g554.wr hw563 (by omega)
          have g567 : Grow w2 w561 := g555.wr hw563 (by omega)
          have g568 : Siz w459 w561 := Siz.below g556.size hw563.below
          obtain ⟨V569, h570, hV571⟩ := nameV h565
          clear h565
          refine wp_all [([97], [])] [] w459.heap.size hf562 g568.size (by kernel_rfl) (bund_cons h570 bund_nil) ?_
          refine ch rfl (ob_assign (arg_free 0 rfl rfl)) ?_
          refine ch_nil ?_
          intro a572 w573 hf574 hg575 hk576 hn577
          have h578 : Holds _ (a572.eval (.tmp 2)) w573 := hn577.at 0 0 rfl rfl rfl
          have g579 := g566.trans hg575
          have g580 := g567.trans hg575
          have g581 : Siz w459 w573 := g568.trans hg575
          have hV582 := hV571.up hg575
          clear g566 g567 g568 hf562 hk576 hn577 hg575 hV571
          refine then_ ?_
          refine wp_ret ?_
          exact ret_tmp rfl hf574 g579 (OwnS.mono (cast_own (by unfold leaves; rw [take_all (by omega)]; rfl) (unV h578 hV582)) (by omega))
set_option maxRecDepth 100000 in
theorem c_rRootS {s : GState} (hs : stOK s) : Con1 19 (StF s) (fun _ => Is (nmV (root (leaves s)))) := by
  intro lo v0 w0 hlo hv0
  refine enter Tryz.func19 rfl Tryz.ntmps19 (by simp) ?_
  intro a0 hf0 ha
  obtain ⟨va0, vb0, vc0, vd0, he0, hva0, hvb0, hvc0, hvd0⟩ := openF hv0
  have h00 : Holds (Is _) (a0.eval (.tmp 0)) w0 := arg_holds ha rfl he0
  clear ha
  have g0 : Grow w0 w0 := Grow.refl _
  obtain ⟨hs1, hs2, hs3, hs4⟩ := id hs
  refine wp_seq ?_
  refine wp_region_lit ?_
  refine wp_seg (l1 := [_]) [([0], [])] [] w0.heap.size hf0 g0.size (by kernel_rfl) (bund_cons h00 bund_nil) ?_
  refine ch rfl (ob_box_state (arg_free 0 rfl rfl)) ?_
  refine ch_nil ?_
  intro a1 w2 hf3 hg4 hk5 hn6
  have h7 : Holds _ (a1.eval (.tmp 1)) w2 := hn6.at 0 0 rfl rfl rfl
  have g8 := g0.trans hg4
  obtain ⟨bk9, hl10, hv11, hb12⟩ := OwnB.blk (lo := w0.heap.size) h7
  clear g0 hf0 hk5 hn6
  have g13 : Grow w2 w2 := Grow.refl _
  have hl14 : bk9 < w2.heap.size := hb12.lt
  have hz15 : w0.heap.size ≤ w2.heap.size := g8.size
  refine wp_all [([], [])] [1] w2.heap.size hf3 g13.size (by kernel_rfl) bund_nil ?_
  refine ch rfl (ob_alloc_nm) ?_
  refine ch_nil ?_
  intro a16 w17 hf18 hg19 hk20 hn21
  have h22 : Holds _ (a16.eval (.tmp 2)) w17 := hn21.at 0 0 rfl rfl rfl
  have hv23 : Holds (Is (PtrV bk9)) (a16.eval (.tmp 1)) w17 := is_any (hk20.holds rfl hv11)
  have hb24 := hb12.up hg19
  have g25 := g8.trans hg19
  have g26 := g13.trans hg19
  obtain ⟨bk27, hl28, hv29, hb30⟩ := OwnB.blk (lo := w2.heap.size) h22
  clear hv11 hb12 g8 g13 hf3 hk20 hn21
  refine then_ ?_
  refine wp_seq ?_
  have g31 : Grow w17 w17 := Grow.refl _
  have hl32 : bk9 < w17.heap.size := hb24.lt
  have hl33 : bk27 < w17.heap.size := hb30.lt
  have hz34 : w2.heap.size ≤ w17.heap.size := g26.size
  refine wp_region_lit ?_
  refine wp_seg (l1 := [_, _, _]) [([1], []), ([], [0]), ([], [1])] [2] w17.heap.size hf18 g31.size (by kernel_rfl) (bund_cons (hb24.ownp hv23) bund_nil) ?_
  refine ch rfl (ob_load_state (ArgOK.ownp (arg_free 0 rfl rfl))) ?_
  refine ch rfl (ob_call1 (by kernel_rfl) (c_rLeaves ?_) (ArgOK.val (arg_op 0 0 rfl rfl rfl rfl) (mkFs (s := s) (hva0.up g25) (hvb0.up g25) (hvc0.up g25) (hvd0.up g25)))) ?_
  · assumption
  refine ch rfl (ob_call1 (by kernel_rfl) (c_rRoot ?_) (ArgOK.sl (arg_op 1 0 rfl rfl rfl rfl))) ?_
  · (rw [leaves_len]; omega)
  refine ch_nil ?_
  intro a35 w36 hf37 hg38 hk39 hn40
  have h41 : Holds _ (a35.eval (.tmp 5)) w36 := hn40.at 2 0 rfl rfl rfl
  have hv42 : Holds (Is (PtrV bk27)) (a35.eval (.tmp 2)) w36 := is_any (hk39.holds rfl hv29)
  have hb43 := hb30.up hg38
  have g44 := g25.trans hg38
  have g45 := g26.trans hg38
  have g46 := g31.trans hg38
  clear hv29 hb30 g25 g26 g31 hf18 hk39 hn40
  refine wl_store_nm hv42 hb43 rfl h41 ?_
  intro w47 ho48 hb49
  have g50 : Grow w0 w47 := g44.only ho48 (by omega)
  have g51 : Grow w2 w47 := g45.only ho48 (by omega)
  have hv53 : Holds (Is (PtrV bk27)) (a35.eval (.tmp 2)) w47 := is_any hv42
  refine wpList_nil ?_
  refine then_ ?_
  refine wp_ret ?_
  refine ret_cell rfl Tryz.underlying30 rfl (by kernel_rfl) hf37 g50 (hb49.ptr hv53) ?_
  exact rfl
set_option maxRecDepth 100000 in
theorem c_rInc {s : GState} {i : Int} (hs : stOK s) (hi : -9223372036854775808 ≤ i) : Con2 47 (StF s) (Is (intV i)) (fun lo => IncO lo ⟨i, ((leaves s).length : Int), pathV (leaves s) i⟩) := by
  intro lo v0 v1 w0 hlo hv0 hv1
  refine enter Tryz.func47 rfl Tryz.ntmps47 (by simp) ?_
  intro a0 hf0 ha
  obtain ⟨va0, vb0, vc0, vd0, he0, hva0, hvb0, hvc0, hvd0⟩ := openF hv0
  have h00 : Holds (Is _) (a0.eval (.tmp 0)) w0 := arg_holds ha rfl he0
  have h01 : Holds _ (a0.eval (.tmp 1)) w0 := arg_holds ha rfl hv1
  clear ha
  have g0 : Grow w0 w0 := Grow.refl _
  obtain ⟨hs1, hs2, hs3, hs4⟩ := id hs
  refine wp_seq ?_
  refine wp_region_lit ?_
  refine wp_seg (l1 := [_]) [([0], [])] [1] w0.heap.size hf0 g0.size (by kernel_rfl) (bund_cons h00 bund_nil) ?_
  refine ch rfl (ob_box_state (arg_free 0 rfl rfl)) ?_
  refine ch_nil ?_
  intro a1 w2 hf3 hg4 hk5 hn6
  have h7 : Holds _ (a1.eval (.tmp 2)) w2 := hn6.at 0 0 rfl rfl rfl
  have h8 := hk5.holds rfl h01
  have g9 := g0.trans hg4
  obtain ⟨bk10, hl11, hv12, hb13⟩ := OwnB.blk (lo := w0.heap.size) h7
  clear h01 g0 hf0 hk5 hn6
  have g14 : Grow w2 w2 := Grow.refl _
  have hl15 : bk10 < w2.heap.size := hb13.lt
  have hz16 : w0.heap.size ≤ w2.heap.size := g9.size
  refine wp_all [([], [])] [1, 2] w2.heap.size hf3 g14.size (by kernel_rfl) bund_nil ?_
  refine ch rfl (ob_alloc_inc) ?_
  refine ch_nil ?_
  intro a17 w18 hf19 hg20 hk21 hn22
  have h23 : Holds _ (a17.eval (.tmp 4)) w18 := hn22.at 0 0 rfl rfl rfl
  have h24 := hk21.holds rfl h8
  have hv25 : Holds (Is (PtrV bk10)) (a17.eval (.tmp 2)) w18 := is_any (hk21.holds rfl hv12)
  have hb26 := hb13.up hg20
  have g27 := g9.trans hg20
  have g28 := g14.trans hg20
  obtain ⟨bk29, hl30, hv31, hb32⟩ := OwnB.blk (lo := w2.heap.size) h23
  clear h8 hv12 hb13 g9 g14 hf3 hk21 hn22
  refine then_ ?_
  refine wp_seq ?_
  have g33 : Grow w18 w18 := Grow.refl _
  have hl34 : bk10 < w18.heap.size := hb26.lt
  have hl35 : bk29 < w18.heap.size := hb32.lt
  have hz36 : w2.heap.size ≤ w18.heap.size := g28.size
  refine wp_region_lit ?_
  refine wp_all [([2], []), ([], [0]), ([], [1])] [1, 4] w18.heap.size hf19 g33.size (by kernel_rfl) (bund_cons (hb26.ownp hv25) bund_nil) ?_
  refine ch rfl (ob_load_state (ArgOK.ownp (arg_free 0 rfl rfl))) ?_
  refine ch rfl (ob_call1 (by kernel_rfl) (c_rLeaves ?_) (ArgOK.val (arg_op 0 0 rfl rfl rfl rfl) (mkFs (s := s) (hva0.up g27) (hvb0.up g27) (hvc0.up g27) (hvd0.up g27)))) ?_
  · assumption
  refine ch rfl (ob_assign (arg_op 1 0 rfl rfl rfl rfl)) ?_
  refine ch_nil ?_
  intro a37 w38 hf39 hg40 hk41 hn42
  have h43 : Holds (OwnS w18.heap.size _ _) (a37.eval (.tmp 5)) w38 := hn42.at 2 0 rfl rfl rfl
  have h44 := hk41.holds rfl h24
  have hv45 : Holds (Is (PtrV bk29)) (a37.eval (.tmp 4)) w38 := is_any (hk41.holds rfl hv31)
  have hb46 := hb32.up hg40
  have g47 := g27.trans hg40
  have g48 := g28.trans hg40
  have g49 := g33.trans hg40
  clear h24 hv31 hb32 g27 g28 g33 hf19 hk41 hn42
  obtain ⟨V50, h51, hV52⟩ := nameV h43
  clear h43
  refine then_ ?_
  refine wp_seq ?_
  have g53 : Grow w38 w38 := Grow.refl _
  have hl54 : bk29 < w38.heap.size := hb46.lt
  have hz55 : w18.heap.size ≤ w38.heap.size := g49.size
  refine wp_region_lit ?_
  refine wp_all [([5], []), ([1], []), ([], [0, 1]), ([], [2]), ([], [3]), ([], [3]), ([], [4]), ([], [5])] [1, 4, 5] w38.heap.size hf39 g53.size (by kernel_rfl) (bund_cons h51 (bund_cons (is_any h44) bund_nil)) ?_
  refine ch rfl (ob_move (arg_free 0 rfl rfl)) ?_
  refine ch rfl (ob_move (arg_free 1 rfl rfl)) ?_
  refine ch rfl (ob_call2 (by kernel_rfl) (c_rPath ?_ ?_) (ArgOK.sl (ArgOK.val (arg_op 0 1 rfl rfl rfl rfl) hV52)) (arg_op 1 0 rfl rfl rfl rfl)) ?_
  · (rw [leaves_len]; omega)
  · omega
  refine ch rfl (ob_move (arg_op 2 0 rfl rfl rfl rfl)) ?_
  refine ch rfl (ob_extract0 (arg_op 3 0 rfl rfl rfl rfl)) ?_
  refine ch rfl (ob_extract1 (arg_op 3 1 rfl rfl rfl rfl)) ?_
  refine ch rfl (ob_assign (arg_op 4 1 rfl rfl rfl rfl)) ?_
  refine ch rfl (ob_assign (arg_op 5 1 rfl rfl rfl rfl)) ?_
  refine ch_nil ?_
  intro a56 w57 hf58 hg59 hk60 hn61
  have h62 : Holds (OwnS w38.heap.size _ _) (a56.eval (.tmp 6)) w57 := hn61.at 6 1 rfl rfl rfl
  have h63 := hk60.holds rfl h51
  have h64 := hk60.holds rfl h44
  have hv65 : Holds (Is (PtrV bk29)) (a56.eval (.tmp 4)) w57 := is_any (hk60.holds rfl hv45)
  have hb66 := hb46.up hg59
  have g67 := g47.trans hg59
  have g68 := g48.trans hg59
  have g69 := g49.trans hg59
  have g70 := g53.trans hg59
  clear h51 h44 hv45 hb46 g47 g48 g49 g53 hf39 hk60 hn61
  obtain ⟨V71, h72, hV73⟩ := nameV h62
  clear h62
  refine then_ ?_
  refine wp_seq ?_
  have g74 : Grow w57 w57 := Grow.refl _
  have hl75 : bk29 < w57.heap.size := hb66.lt
  have hz76 : w38.heap.size ≤ w57.heap.size := g70.size
  refine wp_region_lit ?_
  refine wp_seg (l1 := [_, _, _, _, _]) [([1], []), ([5], []), ([], [1]), ([6], []), ([], [0, 2, 3])] [4] w57.heap.size hf58 g74.size (by kernel_rfl) (bund_cons (is_any h64) (bund_cons (is_any h63) (bund_cons h72 bund_nil))) ?_
  refine ch rfl (ob_move (arg_free 0 rfl rfl)) ?_
  refine ch rfl (ob_move (arg_free 1 rfl rfl)) ?_
  refine ch rfl (ob_len (ArgOK.sl (ArgOK.val (arg_op 1 0 rfl rfl rfl rfl) (hV52.up g70))) Tryz.underlying25) ?_
  refine ch rfl (ob_move (arg_free 2 rfl rfl)) ?_
  refine ch rfl (ob_build_inc (arg_op 0 3 rfl rfl rfl rfl) (arg_op 2 1 rfl rfl rfl rfl) (ArgOK.val (arg_op 3 0 rfl rfl rfl rfl) hV73)) ?_
  refine ch_nil ?_
  intro a77 w78 hf79 hg80 hk81 hn82
  have h83 : Holds _ (a77.eval (.tmp 20)) w78 := hn82.at 4 0 rfl rfl rfl
  have hv84 : Holds (Is (PtrV bk29)) (a77.eval (.tmp 4)) w78 := is_any (hk81.holds rfl hv65)
  have hb85 := hb66.up hg80
  have g86 := g67.trans hg80
  have g87 := g68.trans hg80
  have g88 := g69.trans hg80
  have g89 := g70.trans hg80
  have g90 := g74.trans hg80
  clear hv65 hb66 g67 g68 g69 g70 g74 hf58 hk81 hn82
  obtain ⟨V91, h92, hV93⟩ := openIO h83
  refine wl_store_inc hv84 hb85 rfl h92 (inc_one (OwnS.sl hV93)) ?_
  intro w94 ho95 hb96
  have g97 : Grow w0 w94 := g86.only ho95 (by omega)
  have g98 : Grow w2 w94 := g87.only ho95 (by omega)
  have g99 : Siz w18 w94 := Siz.below g88.size ho95.below
  have g100 : Siz w38 w94 := Siz.below g89.size ho95.below
  have hv102 : Holds (Is (PtrV bk29)) (a77.eval (.tmp 4)) w94 := is_any hv84
  have hV103 : Holds _ V91 w94 := OwnS.only hV93 ho95 (by omega)
  refine wpList_nil ?_
  refine then_ ?_
  refine wp_ret ?_
  refine ret_cell rfl Tryz.underlying44 rfl (by kernel_rfl) hf79 g97 (hb96.ptr hv102) ?_
  exact mkIO (OwnS.mono hV103 (by omega))
set_option maxRecDepth 100000 in
theorem c_rProveCell {s : GState} {c : GCell} (hs : stOK s) : Con2 15 (StF s) (Is (cellV c)) (fun lo => Two (IncO lo (prvI s (fnd s.cells c))) (Is (intV (prvE s (fnd s.cells c))))) := by
  intro lo v0 v1 w0 hlo hv0 hv1
  refine enter Tryz.func15 rfl Tryz.ntmps15 (by simp) ?_
  intro a0 hf0 ha
  obtain ⟨va0, vb0, vc0, vd0, he0, hva0, hvb0, hvc0, hvd0⟩ := openF hv0
  have h00 : Holds (Is _) (a0.eval (.tmp 0)) w0 := arg_holds ha rfl he0
  have h01 : Holds _ (a0.eval (.tmp 1)) w0 := arg_holds ha rfl hv1
  clear ha
  have g0 : Grow w0 w0 := Grow.refl _
  obtain ⟨hs1, hs2, hs3, hs4⟩ := id hs
  refine wp_seq ?_
  refine wp_region_lit ?_
  refine wp_seg (l1 := [_]) [([0], [])] [1] w0.heap.size hf0 g0.size (by kernel_rfl) (bund_cons h00 bund_nil) ?_
  refine ch rfl (ob_box_state (arg_free 0 rfl rfl)) ?_
  refine ch_nil ?_
  intro a1 w2 hf3 hg4 hk5 hn6
  have h7 : Holds _ (a1.eval (.tmp 2)) w2 := hn6.at 0 0 rfl rfl rfl
  have h8 := hk5.holds rfl h01
  have g9 := g0.trans hg4
  obtain ⟨bk10, hl11, hv12, hb13⟩ := OwnB.blk (lo := w0.heap.size) h7
  clear h01 g0 hf0 hk5 hn6
  have g14 : Grow w2 w2 := Grow.refl _
  have hl15 : bk10 < w2.heap.size := hb13.lt
  have hz16 : w0.heap.size ≤ w2.heap.size := g9.size
  refine wp_seg (l1 := [_]) [([1], [])] [2] w2.heap.size hf3 g14.size (by kernel_rfl) (bund_cons (is_any h8) bund_nil) ?_
  refine ch rfl (ob_box_cell (arg_free 0 rfl rfl)) ?_
  refine ch_nil ?_
  intro a17 w18 hf19 hg20 hk21 hn22
  have h23 : Holds _ (a17.eval (.tmp 3)) w18 := hn22.at 0 0 rfl rfl rfl
  have hv24 : Holds (Is (PtrV bk10)) (a17.eval (.tmp 2)) w18 := is_any (hk21.holds rfl hv12)
  have hb25 := hb13.up hg20
  have g26 := g9.trans hg20
  have g27 := g14.trans hg20
  obtain ⟨bk28, hl29, hv30, hb31⟩ := OwnB.blk (lo := w2.heap.size) h23
  clear hv12 hb13 g9 g14 hf3 hk21 hn22
  have g32 : Grow w18 w18 := Grow.refl _
  have hl33 : bk10 < w18.heap.size := hb25.lt
  have hl34 : bk28 < w18.heap.size := hb31.lt
  have hz35 : w2.heap.size ≤ w18.heap.size := g27.size
  refine wp_all [([], []), ([], [])] [2, 3] w18.heap.size hf19 g32.size (by kernel_rfl) bund_nil ?_
  refine ch rfl (ob_alloc_inc) ?_
  refine ch rfl (ob_assign arg_c) ?_
  refine ch_nil ?_
  intro a36 w37 hf38 hg39 hk40 hn41
  have h42 : Holds _ (a36.eval (.tmp 4)) w37 := hn41.at 0 1 rfl rfl rfl
  have hv43 : Holds (Is (PtrV bk10)) (a36.eval (.tmp 2)) w37 := is_any (hk40.holds rfl hv24)
  have hb44 := hb25.up hg39
  have hv45 : Holds (Is (PtrV bk28)) (a36.eval (.tmp 3)) w37 := is_any (hk40.holds rfl hv30)
  have hb46 := hb31.up hg39
  have g47 := g26.trans hg39
  have g48 := g27.trans hg39
  have g49 := g32.trans hg39
  obtain ⟨bk50, hl51, hv52, hb53⟩ := OwnB.blk (lo := w18.heap.size) h42
  clear hv24 hb25 hv30 hb31 g26 g27 g32 hf19 hk40 hn41
  refine then_ ?_
  refine wp_seq ?_
  have g54 : Grow w37 w37 := Grow.refl _
  have hl55 : bk10 < w37.heap.size := hb44.lt
  have hl56 : bk28 < w37.heap.size := hb46.lt
  have hl57 : bk50 < w37.heap.size := hb53.lt
  have hz58 : w18.heap.size ≤ w37.heap.size := g49.size
  refine wp_region_lit ?_
  refine wp_all [([2], []), ([3], []), ([], [0, 1]), ([], [2])] [2, 4] w37.heap.size hf38 g54.size (by kernel_rfl) (bund_cons (hb44.ownp hv43) (bund_cons (hb46.ownp hv45) bund_nil)) ?_
  refine ch rfl (ob_load_state (ArgOK.ownp (arg_free 0 rfl rfl))) ?_
  refine ch rfl (ob_load_cell (ArgOK.ownp (arg_free 1 rfl rfl))) ?_
  refine ch rfl (ob_call2 (by kernel_rfl) (c_at ?_) (ArgOK.val (arg_op 0 1 rfl rfl rfl rfl) (mkFs (s := s) (hva0.up g47) (hvb0.up g47) (hvc0.up g47) (hvd0.up g47))) (arg_op 1 0 rfl rfl rfl rfl)) ?_
  · assumption
  refine ch rfl (ob_assign (arg_op 2 0 rfl rfl rfl rfl)) ?_
  refine ch_nil ?_
  intro a59 w60 hf61 hg62 hk63 hn64
  have h65 : Holds _ (a59.eval (.tmp 6)) w60 := hn64.at 3 0 rfl rfl rfl
  have hv66 : Holds (Is (PtrV bk10)) (a59.eval (.tmp 2)) w60 := is_any (hk63.holds rfl hv43)
  have hb67 := hb44.up hg62
  have hv68 : Holds (Is (PtrV bk50)) (a59.eval (.tmp 4)) w60 := is_any (hk63.holds rfl hv52)
  have hb69 := hb53.up hg62
  have g70 := g47.trans hg62
  have g71 := g48.trans hg62
  have g72 := g49.trans hg62
  have g73 := g54.trans hg62
  clear hv43 hb44 hv52 hb53 g47 g48 g49 g54 hf38 hk63 hn64
  refine then_ ?_
  refine wp_seq ?_
  refine wp_seq ?_
  refine wp_region_lit ?_
  refine wp_all [([6], []), ([], [0])] [2, 4, 6] w37.heap.size hf61 g73.size (by kernel_rfl) (bund_cons h65 bund_nil) ?_
  refine ch rfl (ob_move (arg_free 0 rfl rfl)) ?_
  refine ch rfl (ob_lss (arg_op 0 0 rfl rfl rfl rfl) arg_c) ?_
  refine ch_nil ?_
  intro a74 w75 hf76 hg77 hk78 hn79
  have h80 : Holds _ (a74.eval (.tmp 11)) w75 := hn79.at 1 0 rfl rfl rfl
  have h81 := hk78.holds rfl (h65.up hg77)
  have hv82 : Holds (Is (PtrV bk10)) (a74.eval (.tmp 2)) w75 := is_any (hk78.holds rfl hv66)
  have hb83 := hb67.up hg77
  have hv84 : Holds (Is (PtrV bk50)) (a74.eval (.tmp 4)) w75 := is_any (hk78.holds rfl hv68)
  have hb85 := hb69.up hg77
  have g86 := g70.trans hg77
  have g87 := g71.trans hg77
  have g88 := g72.trans hg77
  have g89 := g73.trans hg77
  clear h65 hv66 hb67 hv68 hb69 g70 g71 g72 g73 hf61 hk78 hn79 hg77
  refine then_ ?_
  refine wp_if h80 ?_ ?_
  · intro hc90
    try simp only [cond_norm] at hc90
    have hp := pathB_neg (l := leaves s) hc90
    refine wp_seq ?_
    have g91 : Grow w75 w75 := Grow.refl _
    have hl92 : bk10 < w75.heap.size := hb83.lt
    have hl93 : bk50 < w75.heap.size := hb85.lt
    have hz94 : w37.heap.size ≤ w75.heap.size := g89.size
    refine wp_region_lit ?_
    refine wp_seg (l1 := [_]) [([], [])] [4] w75.heap.size hf76 g91.size (by kernel_rfl) bund_nil ?_
    refine ch rfl (ob_build_inc0 (lo := w75.heap.size)) ?_
    refine ch_nil ?_
    intro a95 w96 hf97 hg98 hk99 hn100
    have h101 : Holds (IncO w75.heap.size _) (a95.eval (.tmp 12)) w96 := hn100.at 0 0 rfl rfl rfl
    have hv102 : Holds (Is (PtrV bk50)) (a95.eval (.tmp 4)) w96 := is_any (hk99.holds rfl hv84)
    have hb103 := hb85.up hg98
    have g104 := g86.trans hg98
    have g105 := g87.trans hg98
    have g106 := g88.trans hg98
    have g107 := g89.trans hg98
    have g108 := g91.trans hg98
    clear hv84 hb85 g86 g87 g88 g89 g91 hf76 hk99 hn100
    obtain ⟨V109, h110, hV111⟩ := openIO h101
    refine wl_store_inc hv102 hb103 rfl h110 (inc_one (OwnS.sl hV111)) ?_
    intro w112 ho113 hb114
    have g115 : Grow w0 w112 := g104.only ho113 (by omega)
    have g116 : Grow w2 w112 := g105.only ho113 (by omega)
    have g117 : Grow w18 w112 := g106.only ho113 (by omega)
    have g118 : Siz w37 w112 := Siz.below g107.size ho113.below
    have g119 : Siz w75 w112 := Siz.below g108.size ho113.below
    have hv120 : Holds (Is (PtrV bk50)) (a95.eval (.tmp 4)) w112 := is_any hv102
    have hV121 : Holds _ V109 w112 := OwnS.only hV111 ho113 (by omega)
    refine wp_all [([], [])] [4] w75.heap.size hf97 g119.size (by kernel_rfl) bund_nil ?_
    refine ch rfl (ob_assign arg_c) ?_
    refine ch_nil ?_
    intro a122 w123 hf124 hg125 hk126 hn127
    have h128 : Holds _ (a122.eval (.tmp 5)) w123 := hn127.at 0 0 rfl rfl rfl
    have hv129 : Holds (Is (PtrV bk50)) (a122.eval (.tmp 4)) w123 := is_any (hk126.holds rfl hv120)
    have hb130 := hb114.up hg125
    have g131 := g115.trans hg125
    have g132 := g116.trans hg125
    have g133 := g117.trans hg125
    have g134 : Siz w37 w123 := g118.trans hg125
    have g135 : Siz w75 w123 := g119.trans hg125
    have hV136 := hV121.up hg125
    clear hv120 hb114 g115 g116 g117 g118 g119 hf97 hk126 hn127 hg125 hV121
    refine then_ ?_
    refine wp_ret ?_
    refine thenR ?_
    refine ret_cell_tmp rfl Tryz.underlying44 rfl (by kernel_rfl) hf124 g131 (hb130.ptr hv129) ?_ (is_cast h128 (congrArg intV (by first | exact prvE_no hp | exact prvE_yes hp)))
    exact inc_cast (mkIO (OwnS.mono hV136 (by omega))) (by exact prvI_no hp)
  · intro hc90
    try simp only [cond_norm] at hc90
    have hp := prvE_cell (s := s) (c := c) (by omega)
    refine wp_skip ?_
    refine then_ ?_
    refine wp_seq ?_
    have g137 : Grow w75 w75 := Grow.refl _
    have hl138 : bk10 < w75.heap.size := hb83.lt
    have hl139 : bk50 < w75.heap.size := hb85.lt
    have hz140 : w37.heap.size ≤ w75.heap.size := g89.size
    refine wp_region_lit ?_
    refine wp_seg (l1 := [_, _, _]) [([2], []), ([6], []), ([], [0, 1])] [4] w75.heap.size hf76 g137.size (by kernel_rfl) (bund_cons (hb83.ownp hv82) (bund_cons h81 bund_nil)) ?_
    refine ch rfl (ob_load_state (ArgOK.ownp (arg_free 0 rfl rfl))) ?_
    refine ch rfl (ob_move (arg_free 1 rfl rfl)) ?_
    refine ch rfl (ob_call2 (by kernel_rfl) (c_rInc ?_ ?_) (ArgOK.val (arg_op 0 1 rfl rfl rfl rfl) (mkFs (s := s) (hva0.up g86) (hvb0.up g86) (hvc0.up g86) (hvd0.up g86))) (arg_op 1 0 rfl rfl rfl rfl)) ?_
    · assumption
    · omega
    refine ch_nil ?_
    intro a141 w142 hf143 hg144 hk145 hn146
    have h147 : Holds (IncO w75.heap.size _) (a141.eval (.tmp 15)) w142 := hn146.at 2 0 rfl rfl rfl
    have hv148 : Holds (Is (PtrV bk50)) (a141.eval (.tmp 4)) w142 := is_any (hk145.holds rfl hv84)
    have hb149 := hb85.up hg144
    have g150 := g86.trans hg144
    have g151 := g87.trans hg144
    have g152 := g88.trans hg144
    have g153 := g89.trans hg144
    have g154 := g137.trans hg144
    clear hv84 hb85 g86 g87 g88 g89 g137 hf76 hk145 hn146
    obtain ⟨V155, h156, hV157⟩ := openIO h147
    refine wl_store_inc hv148 hb149 rfl h156 (inc_one (OwnS.sl hV157)) ?_
    intro w158 ho159 hb160
    have g161 : Grow w0 w158 := g150.only ho159 (by omega)
    have g162 : Grow w2 w158 := g151.only ho159 (by omega)
    have g163 : Grow w18 w158 := g152.only ho159 (by omega)
    have g164 : Siz w37 w158 := Siz.below g153.size ho159.below
    have g165 : Siz w75 w158 := Siz.below g154.size ho159.below
    have hv166 : Holds (Is (PtrV bk50)) (a141.eval (.tmp 4)) w158 := is_any hv148
    have hV167 : Holds _ V155 w158 := OwnS.only hV157 ho159 (by omega)
    refine wp_all [([], [])] [4] w75.heap.size hf143 g165.size (by kernel_rfl) bund_nil ?_
    refine ch rfl (ob_assign arg_c) ?_
    refine ch_nil ?_
    intro a168 w169 hf170 hg171 hk172 hn173
    have h174 : Holds _ (a168.eval (.tmp 5)) w169 := hn173.at 0 0 rfl rfl rfl
    have hv175 : Holds (Is (PtrV bk50)) (a168.eval (.tmp 4)) w169 := is_any (hk172.holds rfl hv166)
    have hb176 := hb160.up hg171
    have g177 := g161.trans hg171
    have g178 := g162.trans hg171
    have g179 := g163.trans hg171
    have g180 : Siz w37 w169 := g164.trans hg171
    have g181 : Siz w75 w169 := g165.trans hg171
    have hV182 := hV167.up hg171
    clear hv166 hb160 g161 g162 g163 g164 g165 hf143 hk172 hn173 hg171 hV167
    refine then_ ?_
    refine wp_ret ?_
    refine ret_cell_tmp rfl Tryz.underlying44 rfl (by kernel_rfl) hf170 g177 (hb176.ptr hv175) ?_ (is_cast h174 (congrArg intV (by first | exact prvE_no hp | exact prvE_yes hp)))
    exact inc_cast (mkIO (OwnS.mono hV182 (by omega))) (by exact prvI_yes hp)
set_option maxRecDepth 100000 in
theorem c_rProveApplied {s : GState} {n : UInt64} (hs : stOK s) : Con2 17 (StF s) (Is (nmV n)) (fun lo => Two (IncO lo (prvI s (appI s n))) (Is (intV (prvE s (appI s n))))) := by
  intro lo v0 v1 w0 hlo hv0 hv1
  refine enter Tryz.func17 rfl Tryz.ntmps17 (by simp) ?_
  intro a0 hf0 ha
  obtain ⟨va0, vb0, vc0, vd0, he0, hva0, hvb0, hvc0, hvd0⟩ := openF hv0
  have h00 : Holds (Is _) (a0.eval (.tmp 0)) w0 := arg_holds ha rfl he0
  have h01 : Holds _ (a0.eval (.tmp 1)) w0 := arg_holds ha rfl hv1
  clear ha
  have g0 : Grow w0 w0 := Grow.refl _
  obtain ⟨hs1, hs2, hs3, hs4⟩ := id hs
  refine wp_seq ?_
  refine wp_region_lit ?_
  refine wp_seg (l1 := [_]) [([0], [])] [1] w0.heap.size hf0 g0.size (by kernel_rfl) (bund_cons h00 bund_nil) ?_
  refine ch rfl (ob_box_state (arg_free 0 rfl rfl)) ?_
  refine ch_nil ?_
  intro a1 w2 hf3 hg4 hk5 hn6
  have h7 : Holds _ (a1.eval (.tmp 2)) w2 := hn6.at 0 0 rfl rfl rfl
  have h8 := hk5.holds rfl h01
  have g9 := g0.trans hg4
  obtain ⟨bk10, hl11, hv12, hb13⟩ := OwnB.blk (lo := w0.heap.size) h7
  clear h01 g0 hf0 hk5 hn6
  have g14 : Grow w2 w2 := Grow.refl _
  have hl15 : bk10 < w2.heap.size := hb13.lt
  have hz16 : w0.heap.size ≤ w2.heap.size := g9.size
  refine wp_seg (l1 := [_]) [([1], [])] [2] w2.heap.size hf3 g14.size (by kernel_rfl) (bund_cons (is_any h8) bund_nil) ?_
  refine ch rfl (ob_box_nm (arg_free 0 rfl rfl)) ?_
  refine ch_nil ?_
  intro a17 w18 hf19 hg20 hk21 hn22
  have h23 : Holds _ (a17.eval (.tmp 3)) w18 := hn22.at 0 0 rfl rfl rfl
  have hv24 : Holds (Is (PtrV bk10)) (a17.eval (.tmp 2)) w18 := is_any (hk21.holds rfl hv12)
  have hb25 := hb13.up hg20
  have g26 := g9.trans hg20
  have g27 := g14.trans hg20
  obtain ⟨bk28, hl29, hv30, hb31⟩ := OwnB.blk (lo := w2.heap.size) h23
  clear hv12 hb13 g9 g14 hf3 hk21 hn22
  have g32 : Grow w18 w18 := Grow.refl _
  have hl33 : bk10 < w18.heap.size := hb25.lt
  have hl34 : bk28 < w18.heap.size := hb31.lt
  have hz35 : w2.heap.size ≤ w18.heap.size := g27.size
  refine wp_all [([], []), ([], [])] [2, 3] w18.heap.size hf19 g32.size (by kernel_rfl) bund_nil ?_
  refine ch rfl (ob_alloc_inc) ?_
  refine ch rfl (ob_assign arg_c) ?_
  refine ch_nil ?_
  intro a36 w37 hf38 hg39 hk40 hn41
  have h42 : Holds _ (a36.eval (.tmp 4)) w37 := hn41.at 0 1 rfl rfl rfl
  have hv43 : Holds (Is (PtrV bk10)) (a36.eval (.tmp 2)) w37 := is_any (hk40.holds rfl hv24)
  have hb44 := hb25.up hg39
  have hv45 : Holds (Is (PtrV bk28)) (a36.eval (.tmp 3)) w37 := is_any (hk40.holds rfl hv30)
  have hb46 := hb31.up hg39
  have g47 := g26.trans hg39
  have g48 := g27.trans hg39
  have g49 := g32.trans hg39
  obtain ⟨bk50, hl51, hv52, hb53⟩ := OwnB.blk (lo := w18.heap.size) h42
  clear hv24 hb25 hv30 hb31 g26 g27 g32 hf19 hk40 hn41
  refine then_ ?_
  refine wp_seq ?_
  refine wp_seq ?_
  refine wp_region_lit ?_
  refine wp_all [([], [])] [2, 3, 4] w18.heap.size hf38 g49.size (by kernel_rfl) bund_nil ?_
  refine ch rfl (ob_assign arg_c) ?_
  refine ch_nil ?_
  intro a54 w55 hf56 hg57 hk58 hn59
  have h60 : Holds _ (a54.eval (.tmp 6)) w55 := hn59.at 0 0 rfl rfl rfl
  have hv61 : Holds (Is (PtrV bk10)) (a54.eval (.tmp 2)) w55 := is_any (hk58.holds rfl hv43)
  have hb62 := hb44.up hg57
  have hv63 : Holds (Is (PtrV bk28)) (a54.eval (.tmp 3)) w55 := is_any (hk58.holds rfl hv45)
  have hb64 := hb46.up hg57
  have hv65 : Holds (Is (PtrV bk50)) (a54.eval (.tmp 4)) w55 := is_any (hk58.holds rfl hv52)
  have hb66 := hb53.up hg57
  have g67 := g47.trans hg57
  have g68 := g48.trans hg57
  have g69 := g49.trans hg57
  clear hv43 hb44 hv45 hb46 hv52 hb53 g47 g48 g49 hf38 hk58 hn59 hg57
  refine then_ ?_
  refine wp_block ?_
  have g70 : Grow w55 w55 := Grow.refl _
  have hl71 : bk10 < w55.heap.size := hb62.lt
  have hl72 : bk28 < w55.heap.size := hb64.lt
  have hl73 : bk50 < w55.heap.size := hb66.lt
  have hz74 : w18.heap.size ≤ w55.heap.size := g69.size
  refine wp_loopL (α := Nat) (fun i a' w' => Fr 37 a' ∧ (i ≤ s.applied.length) ∧ (∀ j, j < i → (fun y : UInt64 => decide (n = y)) (s.applied.getD j default) = false) ∧ Grow w0 w' ∧ Grow w2 w' ∧ Grow w18 w' ∧ Grow w55 w' ∧ Keep [2, 3, 4] a54 a' ∧ Holds (Is (intV (i : Int))) (a'.eval (.tmp 6)) w' ∧ Blk bk10 (_) w' ∧ Blk bk28 (_) w' ∧ Blk bk50 (_) w') (fun i => s.applied.length - i) (0) ⟨hf56, (by omega), (by exact fun j hj => absurd hj (Nat.not_lt_zero j)), g67, g68, g69, g70, Keep.refl _ _, (is_cast h60 (by first | rfl | (refine congrArg intV ?_; (try dsimp only); omega))), hb62, hb64, hb66⟩ ?_
  intro i a75 w76 ⟨hf77, hi79, hi80, g81, g82, g83, g84, kk78, h85, hb86, hb87, hb88⟩
  have hv89 : Holds (Is (PtrV bk10)) (a75.eval (.tmp 2)) w76 := is_any (kk78.holds rfl hv61)
  have hv90 : Holds (Is (PtrV bk28)) (a75.eval (.tmp 3)) w76 := is_any (kk78.holds rfl hv63)
  have hv91 : Holds (Is (PtrV bk50)) (a75.eval (.tmp 4)) w76 := is_any (kk78.holds rfl hv65)
  refine wp_seq ?_
  refine wp_seq ?_
  refine wp_region_lit ?_
  refine wp_all [([6], []), ([2], []), ([], [1]), ([], [2]), ([], [0, 3])] [2, 3, 4, 6] w55.heap.size hf77 g84.size (by kernel_rfl) (bund_cons h85 (bund_cons (hb86.ownp hv89) bund_nil)) ?_
  refine ch rfl (ob_move (arg_free 0 rfl rfl)) ?_
  refine ch rfl (ob_faP (n := 0) (arg_free 1 rfl rfl) Tryz.underlying28 rfl (by kernel_rfl)) ?_
  refine ch rfl (ob_loadP (arg_op 1 0 rfl rfl rfl rfl) Tryz.underlying25 rfl rfl) ?_
  refine ch rfl (ob_len (ArgOK.val (arg_op 2 0 rfl rfl rfl rfl) (hvd0.up g81)) Tryz.underlying25) ?_
  refine ch rfl (ob_lss (arg_op 0 3 rfl rfl rfl rfl) (arg_op 3 0 rfl rfl rfl rfl)) ?_
  refine ch_nil ?_
  intro a92 w93 hf94 hg95 hk96 hn97
  have h98 : Holds _ (a92.eval (.tmp 11)) w93 := hn97.at 4 0 rfl rfl rfl
  have h99 := hk96.holds rfl (h85.up hg95)
  have hv100 : Holds (Is (PtrV bk10)) (a92.eval (.tmp 2)) w93 := is_any (hk96.holds rfl hv89)
  have hb101 := hb86.up hg95
  have hv102 : Holds (Is (PtrV bk28)) (a92.eval (.tmp 3)) w93 := is_any (hk96.holds rfl hv90)
  have hb103 := hb87.up hg95
  have hv104 : Holds (Is (PtrV bk50)) (a92.eval (.tmp 4)) w93 := is_any (hk96.holds rfl hv91)
  have hb105 := hb88.up hg95
  have g106 := g81.trans hg95
  have g107 := g82.trans hg95
  have g108 := g83.trans hg95
  have g109 := g84.trans hg95
  have kk110 : Keep _ a54 a92 := kk78.trans hk96 rfl
  clear h85 hv89 hb86 hv90 hb87 hv91 hb88 g81 g82 g83 g84 kk78 hf77 hk96 hn97 hg95
  refine then_ ?_
  refine wp_if h98 ?_ ?_
  · intro hc111
    try simp only [cond_norm] at hc111
    refine wp_skip ?_
    refine then_ ?_
    refine wp_seq ?_
    refine wp_block ?_
    refine wp_seq ?_
    refine wp_calm [0, 1, 0, 7, 15, 0, 63] [([2], []), ([], [0]), ([6], []), ([], [1, 2]), ([], [3]), ([3], []), ([], [4, 5])] [2, 3, 4, 6] w55.heap.size hf94 g109.size (by kernel_rfl) (bund_cons (hb101.ownp hv100) (bund_cons h99 (bund_cons (hb103.ownp hv102) bund_nil))) ?_
    intro ws112 hs113
    refine ch rfl (ob_faP (n := 0) (arg_free 0 rfl rfl) Tryz.underlying28 rfl (by kernel_rfl)) ?_
    refine ch rfl (ob_loadP (arg_op 0 0 rfl rfl rfl rfl) Tryz.underlying25 rfl rfl) ?_
    refine ch rfl (ob_move (arg_free 1 rfl rfl)) ?_
    refine ch rfl (ob_ix (ArgOK.val (arg_op 1 1 rfl rfl rfl rfl) ((hvd0.up g106).up hs113)) (arg_op 2 0 rfl rfl rfl rfl) (rfl) ?_ Tryz.underlying25 szNm) ?_
    · omega
    refine ch rfl (ob_load_nm (arg_op 3 0 rfl rfl rfl rfl)) ?_
    refine ch rfl (ob_load_nm (ArgOK.ownp (arg_free 2 rfl rfl))) ?_
    refine ch rfl (ob_eqnm (arg_op 4 1 rfl rfl rfl rfl) (arg_op 5 0 rfl rfl rfl rfl)) ?_
    refine ch_nil ?_
    intro a114 w115 hf116 hg117 hk118 hn119
    have h120 : Holds _ (a114.eval (.tmp 20)) w115 := hn119.at 6 0 rfl rfl rfl
    have h121 := hk118.holds rfl (h99.up hg117)
    have hv122 : Holds (Is (PtrV bk10)) (a114.eval (.tmp 2)) w115 := is_any (hk118.holds rfl hv100)
    have hb123 := hb101.up hg117
    have hv124 : Holds (Is (PtrV bk28)) (a114.eval (.tmp 3)) w115 := is_any (hk118.holds rfl hv102)
    have hb125 := hb103.up hg117
    have hv126 : Holds (Is (PtrV bk50)) (a114.eval (.tmp 4)) w115 := is_any (hk118.holds rfl hv104)
    have hb127 := hb105.up hg117
    have g128 := g106.trans hg117
    have g129 := g107.trans hg117
    have g130 := g108.trans hg117
    have g131 := g109.trans hg117
    have kk132 : Keep _ a54 a114 := kk110.trans hk118 rfl
    clear h99 hv100 hb101 hv102 hb103 hv104 hb105 g106 g107 g108 g109 kk110 hf94 hk118 hn119 hg117
    refine then_ ?_
    refine wp_if h120 ?_ ?_
    · intro hc133
      try simp only [cond_norm] at hc133
      have hz := idx_hit (p := fun y : UInt64 => decide (n = y)) (l := s.applied) (i := i) (by assumption) (by omega) (decide_eq_true hc133.symm); have ha := appI_yes (s := s) (n := n) (by omega); rw [← hz] at ha; have hp := prvE_app (s := s) (n := n) (by omega)
      refine wp_seq ?_
      have g134 : Grow w115 w115 := Grow.refl _
      have hl135 : bk10 < w115.heap.size := hb123.lt
      have hl136 : bk28 < w115.heap.size := hb125.lt
      have hl137 : bk50 < w115.heap.size := hb127.lt
      have hz138 : w55.heap.size ≤ w115.heap.size := g131.size
      refine wp_region_lit ?_
      refine wp_seg (l1 := [_, _, _, _, _, _, _, _, _, _, _, _, _, _, _]) [([2], []), ([2], []), ([], [1]), ([], [2]), ([2], []), ([], [4]), ([], [5]), ([], [3, 6]), ([2], []), ([], [8]), ([], [9]), ([], [7, 10]), ([6], []), ([], [11, 12]), ([], [0, 13])] [2, 3, 4] w115.heap.size hf116 g134.size (by kernel_rfl) (bund_cons (hb123.ownp hv122) (bund_cons h121 bund_nil)) ?_
      refine ch rfl (ob_load_state (ArgOK.ownp (arg_free 0 rfl rfl))) ?_
      refine ch rfl (ob_faP (n := 0) (arg_free 0 rfl rfl) Tryz.underlying28 rfl (by kernel_rfl)) ?_
      refine ch rfl (ob_loadP (arg_op 1 0 rfl rfl rfl rfl) Tryz.underlying22 rfl rfl) ?_
      refine ch rfl (ob_len (ArgOK.val (arg_op 2 0 rfl rfl rfl rfl) (hva0.up g128)) Tryz.underlying22) ?_
      refine ch rfl (ob_faP (n := 0) (arg_free 0 rfl rfl) Tryz.underlying28 rfl (by kernel_rfl)) ?_
      refine ch rfl (ob_loadP (arg_op 4 0 rfl rfl rfl rfl) Tryz.underlying23 rfl rfl) ?_
      refine ch rfl (ob_len (ArgOK.val (arg_op 5 0 rfl rfl rfl rfl) (hvb0.up g128)) Tryz.underlying23) ?_
      first
        | (refine ch rfl (ob_add' (arg_op 3 3 rfl rfl rfl rfl) (arg_op 6 0 rfl rfl rfl rfl) ?_) ?_; · omega)
        | refine ch rfl (ob_add (arg_op 3 3 rfl rfl rfl rfl) (arg_op 6 0 rfl rfl rfl rfl)) ?_
      refine ch rfl (ob_faP (n := 0) (arg_free 0 rfl rfl) Tryz.underlying28 rfl (by kernel_rfl)) ?_
      refine ch rfl (ob_loadP (arg_op 8 0 rfl rfl rfl rfl) Tryz.underlying24 rfl rfl) ?_
      refine ch rfl (ob_len (ArgOK.val (arg_op 9 0 rfl rfl rfl rfl) (hvc0.up g128)) Tryz.underlying24) ?_
      first
        | (refine ch rfl (ob_add' (arg_op 7 3 rfl rfl rfl rfl) (arg_op 10 0 rfl rfl rfl rfl) ?_) ?_; · omega)
        | refine ch rfl (ob_add (arg_op 7 3 rfl rfl rfl rfl) (arg_op 10 0 rfl rfl rfl rfl)) ?_
      refine ch rfl (ob_move (arg_free 1 rfl rfl)) ?_
      first
        | (refine ch rfl (ob_add' (arg_op 11 1 rfl rfl rfl rfl) (arg_op 12 0 rfl rfl rfl rfl) ?_) ?_; · omega)
        | refine ch rfl (ob_add (arg_op 11 1 rfl rfl rfl rfl) (arg_op 12 0 rfl rfl rfl rfl)) ?_
      refine ch rfl (ob_call2 (by kernel_rfl) (c_rInc ?_ ?_) (ArgOK.val (arg_op 0 13 rfl rfl rfl rfl) (mkFs (s := s) (hva0.up g128) (hvb0.up g128) (hvc0.up g128) (hvd0.up g128))) (arg_op 13 0 rfl rfl rfl rfl)) ?_
      · assumption
      · omega
      refine ch_nil ?_
      intro a139 w140 hf141 hg142 hk143 hn144
      have h145 : Holds (IncO w115.heap.size _) (a139.eval (.tmp 35)) w140 := hn144.at 14 0 rfl rfl rfl
      have hv146 : Holds (Is (PtrV bk10)) (a139.eval (.tmp 2)) w140 := is_any (hk143.holds rfl hv122)
      have hb147 := hb123.up hg142
      have hv148 : Holds (Is (PtrV bk28)) (a139.eval (.tmp 3)) w140 := is_any (hk143.holds rfl hv124)
      have hb149 := hb125.up hg142
      have hv150 : Holds (Is (PtrV bk50)) (a139.eval (.tmp 4)) w140 := is_any (hk143.holds rfl hv126)
      have hb151 := hb127.up hg142
      have g152 := g128.trans hg142
      have g153 := g129.trans hg142
      have g154 := g130.trans hg142
      have g155 := g131.trans hg142
      have g156 := g134.trans hg142
      have kk157 : Keep _ a54 a139 := kk132.trans hk143 rfl
      clear hv122 hb123 hv124 hb125 hv126 hb127 g128 g129 g130 g131 g134 kk132 hf116 hk143 hn144
      obtain ⟨V158, h159, hV160⟩ := openIO h145
      refine wl_store_inc hv150 hb151 rfl h159 (inc_one (OwnS.sl hV160)) ?_
      intro w161 ho162 hb163
      have g164 : Grow w0 w161 := g152.only ho162 (by omega)
      have g165 : Grow w2 w161 := g153.only ho162 (by omega)
      have g166 : Grow w18 w161 := g154.only ho162 (by omega)
      have g167 : Siz w55 w161 := Siz.below g155.size ho162.below
      have g168 : Siz w115 w161 := Siz.below g156.size ho162.below
      have hv169 : Holds (Is (PtrV bk10)) (a139.eval (.tmp 2)) w161 := is_any hv146
      have hb170 : Blk bk10 _ w161 := hb147.only ho162 (by omega)
      have hv171 : Holds (Is (PtrV bk28)) (a139.eval (.tmp 3)) w161 := is_any hv148
      have hb172 : Blk bk28 _ w161 := hb149.only ho162 (by omega)
      have hv173 : Holds (Is (PtrV bk50)) (a139.eval (.tmp 4)) w161 := is_any hv150
      have hV174 : Holds _ V158 w161 := OwnS.only hV160 ho162 (by omega)
      refine wp_all [([], [])] [2, 3, 4] w115.heap.size hf141 g168.size (by kernel_rfl) bund_nil ?_
      refine ch rfl (ob_assign arg_c) ?_
      refine ch_nil ?_
      intro a175 w176 hf177 hg178 hk179 hn180
      have h181 : Holds _ (a175.eval (.tmp 5)) w176 := hn180.at 0 0 rfl rfl rfl
      have hv182 : Holds (Is (PtrV bk10)) (a175.eval (.tmp 2)) w176 := is_any (hk179.holds rfl hv169)
      have hb183 := hb170.up hg178
      have hv184 : Holds (Is (PtrV bk28)) (a175.eval (.tmp 3)) w176 := is_any (hk179.holds rfl hv171)
      have hb185 := hb172.up hg178
      have hv186 : Holds (Is (PtrV bk50)) (a175.eval (.tmp 4)) w176 := is_any (hk179.holds rfl hv173)
      have hb187 := hb163.up hg178
      have g188 := g164.trans hg178
      have g189 := g165.trans hg178
      have g190 := g166.trans hg178
      have g191 : Siz w55 w176 := g167.trans hg178
      have g192 : Siz w115 w176 := g168.trans hg178
      have kk193 : Keep _ a54 a175 := kk157.trans hk179 rfl
      have hV194 := hV174.up hg178
      clear hv169 hb170 hv171 hb172 hv173 hb163 g164 g165 g166 g167 g168 kk157 hf141 hk179 hn180 hg178 hV174
      refine then_ ?_
      refine wp_ret ?_
      refine blockR ?_
      refine thenR ?_
      refine thenR ?_
      refine blockR ?_
      refine thenR ?_
      refine ret_cell_tmp rfl Tryz.underlying44 rfl (by kernel_rfl) hf177 g188 (hb187.ptr hv186) ?_ (is_cast h181 (congrArg intV (by first | exact prvE_no hp | exact prvE_yes hp)))
      exact inc_cast (mkIO (OwnS.mono hV194 (by omega))) (by rw [ha]; exact prvI_yes hp)
    · intro hc133
      try simp only [cond_norm] at hc133
      have hst := none_step (p := fun y : UInt64 => decide (n = y)) (l := s.applied) (i := i) (by assumption) (decide_eq_false fun e => hc133 e.symm)
      refine wp_skip ?_
      refine blockN ?_
      refine then_ ?_
      refine wp_region_lit ?_
      refine wp_all [([6], []), ([], [0]), ([], [1])] [2, 3, 4] w55.heap.size hf116 g131.size (by kernel_rfl) (bund_cons h121 bund_nil) ?_
      refine ch rfl (ob_move (arg_free 0 rfl rfl)) ?_
      first
        | (refine ch rfl (ob_add' (arg_op 0 0 rfl rfl rfl rfl) arg_c ?_) ?_; · omega)
        | refine ch rfl (ob_add (arg_op 0 0 rfl rfl rfl rfl) arg_c) ?_
      refine ch rfl (ob_assign (arg_op 1 0 rfl rfl rfl rfl)) ?_
      refine ch_nil ?_
      intro a195 w196 hf197 hg198 hk199 hn200
      have h201 : Holds _ (a195.eval (.tmp 6)) w196 := hn200.at 2 0 rfl rfl rfl
      have hv202 : Holds (Is (PtrV bk10)) (a195.eval (.tmp 2)) w196 := is_any (hk199.holds rfl hv122)
      have hb203 := hb123.up hg198
      have hv204 : Holds (Is (PtrV bk28)) (a195.eval (.tmp 3)) w196 := is_any (hk199.holds rfl hv124)
      have hb205 := hb125.up hg198
      have hv206 : Holds (Is (PtrV bk50)) (a195.eval (.tmp 4)) w196 := is_any (hk199.holds rfl hv126)
      have hb207 := hb127.up hg198
      have g208 := g128.trans hg198
      have g209 := g129.trans hg198
      have g210 := g130.trans hg198
      have g211 := g131.trans hg198
      have kk212 : Keep _ a54 a195 := kk132.trans hk199 rfl
      clear hv122 hb123 hv124 hb125 hv126 hb127 g128 g129 g130 g131 kk132 hf116 hk199 hn200 hg198
      refine then_ ?_
      exact ⟨(i + 1), (by ((try dsimp only); omega)), hf197, (by omega), (by exact hst), g208, g209, g210, g211, kk212, (is_cast h201 (by first | rfl | (refine congrArg intV ?_; (try dsimp only); omega))), hb203, hb205, hb207⟩
  · intro hc111
    try simp only [cond_norm] at hc111
    have hz := idx_none (p := fun y : UInt64 => decide (n = y)) (l := s.applied) (i := i) (by assumption) (by omega); have hp : pathB (leaves s) (appI s n) = false := pathB_neg (by rw [appI_no (by omega)]; decide)
    refine wp_exit ?_
    refine thenX ?_
    refine thenX ?_
    refine blockX ?_
    refine then_ ?_
    refine wp_seq ?_
    have g213 : Grow w93 w93 := Grow.refl _
    have hl214 : bk10 < w93.heap.size := hb101.lt
    have hl215 : bk28 < w93.heap.size := hb103.lt
    have hl216 : bk50 < w93.heap.size := hb105.lt
    have hz217 : w55.heap.size ≤ w93.heap.size := g109.size
    refine wp_region_lit ?_
    refine wp_seg (l1 := [_]) [([], [])] [4] w93.heap.size hf94 g213.size (by kernel_rfl) bund_nil ?_
    refine ch rfl (ob_build_inc0 (lo := w93.heap.size)) ?_
    refine ch_nil ?_
    intro a218 w219 hf220 hg221 hk222 hn223
    have h224 : Holds (IncO w93.heap.size _) (a218.eval (.tmp 36)) w219 := hn223.at 0 0 rfl rfl rfl
    have hv225 : Holds (Is (PtrV bk50)) (a218.eval (.tmp 4)) w219 := is_any (hk222.holds rfl hv104)
    have hb226 := hb105.up hg221
    have g227 := g106.trans hg221
    have g228 := g107.trans hg221
    have g229 := g108.trans hg221
    have g230 := g109.trans hg221
    have g231 := g213.trans hg221
    clear hv104 hb105 g106 g107 g108 g109 g213 hf94 hk222 hn223
    obtain ⟨V232, h233, hV234⟩ := openIO h224
    refine wl_store_inc hv225 hb226 rfl h233 (inc_one (OwnS.sl hV234)) ?_
    intro w235 ho236 hb237
    have g238 : Grow w0 w235 := g227.only ho236 (by omega)
    have g239 : Grow w2 w235 := g228.only ho236 (by omega)
    have g240 : Grow w18 w235 := g229.only ho236 (by omega)
    have g241 : Siz w55 w235 := Siz.below g230.size ho236.below
    have g242 : Siz w93 w235 := Siz.below g231.size ho236.below
    have hv243 : Holds (Is (PtrV bk50)) (a218.eval (.tmp 4)) w235 := is_any hv225
    have hV244 : Holds _ V232 w235 := OwnS.only hV234 ho236 (by omega)
    refine wp_all [([], [])] [4] w93.heap.size hf220 g242.size (by kernel_rfl) bund_nil ?_
    refine ch rfl (ob_assign arg_c) ?_
    refine ch_nil ?_
    intro a245 w246 hf247 hg248 hk249 hn250
    have h251 : Holds _ (a245.eval (.tmp 5)) w246 := hn250.at 0 0 rfl rfl rfl
    have hv252 : Holds (Is (PtrV bk50)) (a245.eval (.tmp 4)) w246 := is_any (hk249.holds rfl hv243)
    have hb253 := hb237.up hg248
    have g254 := g238.trans hg248
    have g255 := g239.trans hg248
    have g256 := g240.trans hg248
    have g257 : Siz w55 w246 := g241.trans hg248
    have g258 : Siz w93 w246 := g242.trans hg248
    have hV259 := hV244.up hg248
    clear hv243 hb237 g238 g239 g240 g241 g242 hf220 hk249 hn250 hg248 hV244
    refine then_ ?_
    refine wp_ret ?_
    refine ret_cell_tmp rfl Tryz.underlying44 rfl (by kernel_rfl) hf247 g254 (hb253.ptr hv252) ?_ (is_cast h251 (congrArg intV (by first | exact prvE_no hp | exact prvE_yes hp)))
    exact inc_cast (mkIO (OwnS.mono hV259 (by omega))) (by exact prvI_no hp)
set_option maxRecDepth 100000 in
theorem c_sameInc {x y : GInc} (hx : x.path.length ≤ 1000000) : Con2 18 (IncF x) (IncF y) (fun _ => Is (.bool ((decide (x.index = y.index) && decide (x.count = y.count)) && decide (x.path = y.path)))) := by
  intro lo v0 v1 w0 hlo hv0 hv1
  refine enter Tryz.func18 rfl Tryz.ntmps18 (by simp) ?_
  intro a0 hf0 ha
  obtain ⟨va0, he0, hva0⟩ := openIF hv0
  have h00 : Holds (Is _) (a0.eval (.tmp 0)) w0 := arg_holds ha rfl he0
  obtain ⟨va1, he1, hva1⟩ := openIF hv1
  have h01 : Holds (Is _) (a0.eval (.tmp 1)) w0 := arg_holds ha rfl he1
  clear ha
  have g0 : Grow w0 w0 := Grow.refl _
  refine wp_seq ?_
  refine wp_region_lit ?_
  refine wp_seg (l1 := [_]) [([0], [])] [1] w0.heap.size hf0 g0.size (by kernel_rfl) (bund_cons h00 bund_nil) ?_
  refine ch rfl (ob_box_inc (arg_free 0 rfl rfl)) ?_
  refine ch_nil ?_
  intro a1 w2 hf3 hg4 hk5 hn6
  have h7 : Holds _ (a1.eval (.tmp 2)) w2 := hn6.at 0 0 rfl rfl rfl
  have h8 := hk5.holds rfl h01
  have g9 := g0.trans hg4
  obtain ⟨bk10, hl11, hv12, hb13⟩ := OwnB.blk (lo := w0.heap.size) h7
  clear h01 g0 hf0 hk5 hn6
  have g14 : Grow w2 w2 := Grow.refl _
  have hl15 : bk10 < w2.heap.size := hb13.lt
  have hz16 : w0.heap.size ≤ w2.heap.size := g9.size
  refine wp_all [([1], []), ([], [])] [2] w2.heap.size hf3 g14.size (by kernel_rfl) (bund_cons (is_any h8) bund_nil) ?_
  refine ch rfl (ob_box_inc (arg_free 0 rfl rfl)) ?_
  refine ch rfl (ob_assign arg_c) ?_
  refine ch_nil ?_
  intro a17 w18 hf19 hg20 hk21 hn22
  have h23 : Holds _ (a17.eval (.tmp 3)) w18 := hn22.at 0 1 rfl rfl rfl
  have hv24 : Holds (Is (PtrV bk10)) (a17.eval (.tmp 2)) w18 := is_any (hk21.holds rfl hv12)
  have hb25 := hb13.up hg20
  have g26 := g9.trans hg20
  have g27 := g14.trans hg20
  obtain ⟨bk28, hl29, hv30, hb31⟩ := OwnB.blk (lo := w2.heap.size) h23
  clear hv12 hb13 g9 g14 hf3 hk21 hn22
  refine then_ ?_
  refine wp_seq ?_
  have g32 : Grow w18 w18 := Grow.refl _
  have hl33 : bk10 < w18.heap.size := hb25.lt
  have hl34 : bk28 < w18.heap.size := hb31.lt
  have hz35 : w2.heap.size ≤ w18.heap.size := g27.size
  refine wp_region_lit ?_
  refine wp_all [([2], []), ([], [0]), ([3], []), ([], [2]), ([], [1, 3]), ([], [4]), ([2], [5]), ([], [6, 5]), ([3], [5]), ([], [8, 5]), ([], [7, 9, 5]), ([], [5, 10]), ([], [11]), ([2], [12]), ([], [13, 12]), ([3], [12]), ([], [15, 12]), ([], [14, 16, 12]), ([], [12, 17]), ([], [18])] [] w18.heap.size hf19 g32.size (by kernel_rfl) (bund_cons (hb25.ownp hv24) (bund_cons (hb31.ownp hv30) bund_nil)) ?_
  refine ch rfl (ob_faP (n := 0) (arg_free 0 rfl rfl) Tryz.underlying44 rfl (by kernel_rfl)) ?_
  refine ch rfl (ob_loadP (arg_op 0 0 rfl rfl rfl rfl) Tryz.underlying3 rfl rfl) ?_
  refine ch rfl (ob_faP (n := 0) (arg_free 1 rfl rfl) Tryz.underlying44 rfl (by kernel_rfl)) ?_
  refine ch rfl (ob_loadP (arg_op 2 0 rfl rfl rfl rfl) Tryz.underlying3 rfl rfl) ?_
  refine ch rfl (ob_eql (arg_op 1 2 rfl rfl rfl rfl) (arg_op 3 0 rfl rfl rfl rfl)) ?_
  refine ch rfl (ob_move (arg_op 4 0 rfl rfl rfl rfl)) ?_
  refine chg (b := _) rfl rfl (arg_op 5 0 rfl rfl rfl rfl) (fun hb5 => ob_faP (n := 0) (arg_free 0 rfl rfl) Tryz.underlying44 rfl (by kernel_rfl)) ?_
  refine chg (b := _) rfl rfl (arg_op 5 1 rfl rfl rfl rfl) (fun hb5 => ob_loadP (ArgOK.when (arg_op 6 0 rfl rfl rfl rfl) hb5) Tryz.underlying3 rfl rfl) ?_
  refine chg (b := _) rfl rfl (arg_op 5 2 rfl rfl rfl rfl) (fun hb5 => ob_faP (n := 0) (arg_free 1 rfl rfl) Tryz.underlying44 rfl (by kernel_rfl)) ?_
  refine chg (b := _) rfl rfl (arg_op 5 3 rfl rfl rfl rfl) (fun hb5 => ob_loadP (ArgOK.when (arg_op 8 0 rfl rfl rfl rfl) hb5) Tryz.underlying3 rfl rfl) ?_
  refine chg (b := _) rfl rfl (arg_op 5 4 rfl rfl rfl rfl) (fun hb5 => ob_eql (ArgOK.when (arg_op 7 2 rfl rfl rfl rfl) hb5) (ArgOK.when (arg_op 9 0 rfl rfl rfl rfl) hb5)) ?_
  refine ch rfl (ob_and (arg_op 5 5 rfl rfl rfl rfl) (arg_op 10 0 rfl rfl rfl rfl)) ?_
  refine ch rfl (ob_move (arg_op 11 0 rfl rfl rfl rfl)) ?_
  refine chg (b := _) rfl rfl (arg_op 12 0 rfl rfl rfl rfl) (fun hb12 => ob_faP (n := 0) (arg_free 0 rfl rfl) Tryz.underlying44 rfl (by kernel_rfl)) ?_
  refine chg (b := _) rfl rfl (arg_op 12 1 rfl rfl rfl rfl) (fun hb12 => ob_loadP (ArgOK.when (arg_op 13 0 rfl rfl rfl rfl) hb12) Tryz.underlying25 rfl rfl) ?_
  refine chg (b := _) rfl rfl (arg_op 12 2 rfl rfl rfl rfl) (fun hb12 => ob_faP (n := 0) (arg_free 1 rfl rfl) Tryz.underlying44 rfl (by kernel_rfl)) ?_
  refine chg (b := _) rfl rfl (arg_op 12 3 rfl rfl rfl rfl) (fun hb12 => ob_loadP (ArgOK.when (arg_op 15 0 rfl rfl rfl rfl) hb12) Tryz.underlying25 rfl rfl) ?_
  refine chg (b := _) rfl rfl (arg_op 12 4 rfl rfl rfl rfl) (fun hb12 => ob_call2 (by kernel_rfl) (c_sameN ?_) (ArgOK.val (ArgOK.when (arg_op 14 2 rfl rfl rfl rfl) hb12) (hva0.up g26)) (ArgOK.val (ArgOK.when (arg_op 16 0 rfl rfl rfl rfl) hb12) (hva1.up g26))) ?_
  · omega
  refine ch rfl (ob_and (arg_op 12 5 rfl rfl rfl rfl) (arg_op 17 0 rfl rfl rfl rfl)) ?_
  refine ch rfl (ob_assign (arg_op 18 0 rfl rfl rfl rfl)) ?_
  refine ch_nil ?_
  intro a36 w37 hf38 hg39 hk40 hn41
  have h42 : Holds _ (a36.eval (.tmp 4)) w37 := hn41.at 19 0 rfl rfl rfl
  have g43 := g26.trans hg39
  have g44 := g27.trans hg39
  have g45 := g32.trans hg39
  clear g26 g27 g32 hf19 hk40 hn41
  refine then_ ?_
  refine wp_ret ?_
  exact ret_tmp rfl hf38 g43 h42
set_option maxRecDepth 100000 in
set_option maxHeartbeats 4000000 in
theorem c_StateProve {s : GState} {c : GCell} {n : UInt64} : Con3 4 (StF s) (Is (cellV c)) (Is (nmV n)) (fun _ => Is (.bool true)) := by
  intro lo v0 v1 v2 w0 hlo hv0 hv1 hv2
  refine enter Tryz.func4 rfl Tryz.ntmps4 (by simp) ?_
  intro a0 hf0 ha
  obtain ⟨va0, vb0, vc0, vd0, he0, hva0, hvb0, hvc0, hvd0⟩ := openF hv0
  have h00 : Holds (Is _) (a0.eval (.tmp 0)) w0 := arg_holds ha rfl he0
  have h01 : Holds _ (a0.eval (.tmp 1)) w0 := arg_holds ha rfl hv1
  have h02 : Holds _ (a0.eval (.tmp 2)) w0 := arg_holds ha rfl hv2
  clear ha
  have g0 : Grow w0 w0 := Grow.refl _
  refine wp_seq ?_
  refine wp_region_lit ?_
  refine wp_seg (l1 := [_]) [([0], [])] [1, 2] w0.heap.size hf0 g0.size (by kernel_rfl) (bund_cons h00 bund_nil) ?_
  refine ch rfl (ob_box_state (arg_free 0 rfl rfl)) ?_
  refine ch_nil ?_
  intro a1 w2 hf3 hg4 hk5 hn6
  have h7 : Holds _ (a1.eval (.tmp 3)) w2 := hn6.at 0 0 rfl rfl rfl
  have h8 := hk5.holds rfl h01
  have h9 := hk5.holds rfl h02
  have g10 := g0.trans hg4
  obtain ⟨bk11, hl12, hv13, hb14⟩ := OwnB.blk (lo := w0.heap.size) h7
  clear h01 h02 g0 hf0 hk5 hn6
  have g15 : Grow w2 w2 := Grow.refl _
  have hl16 : bk11 < w2.heap.size := hb14.lt
  have hz17 : w0.heap.size ≤ w2.heap.size := g10.size
  refine wp_seg (l1 := [_]) [([1], [])] [2, 3] w2.heap.size hf3 g15.size (by kernel_rfl) (bund_cons (is_any h8) bund_nil) ?_
  refine ch rfl (ob_box_cell (arg_free 0 rfl rfl)) ?_
  refine ch_nil ?_
  intro a18 w19 hf20 hg21 hk22 hn23
  have h24 : Holds _ (a18.eval (.tmp 4)) w19 := hn23.at 0 0 rfl rfl rfl
  have h25 := hk22.holds rfl h9
  have hv26 : Holds (Is (PtrV bk11)) (a18.eval (.tmp 3)) w19 := is_any (hk22.holds rfl hv13)
  have hb27 := hb14.up hg21
  have g28 := g10.trans hg21
  have g29 := g15.trans hg21
  obtain ⟨bk30, hl31, hv32, hb33⟩ := OwnB.blk (lo := w2.heap.size) h24
  clear h9 hv13 hb14 g10 g15 hf3 hk22 hn23
  have g34 : Grow w19 w19 := Grow.refl _
  have hl35 : bk11 < w19.heap.size := hb27.lt
  have hl36 : bk30 < w19.heap.size := hb33.lt
  have hz37 : w2.heap.size ≤ w19.heap.size := g29.size
  refine wp_all [([2], []), ([], [])] [3, 4] w19.heap.size hf20 g34.size (by kernel_rfl) (bund_cons (is_any h25) bund_nil) ?_
  refine ch rfl (ob_box_nm (arg_free 0 rfl rfl)) ?_
  refine ch rfl (ob_assign arg_c) ?_
  refine ch_nil ?_
  intro a38 w39 hf40 hg41 hk42 hn43
  have h44 : Holds _ (a38.eval (.tmp 5)) w39 := hn43.at 0 1 rfl rfl rfl
  have hv45 : Holds (Is (PtrV bk11)) (a38.eval (.tmp 3)) w39 := is_any (hk42.holds rfl hv26)
  have hb46 := hb27.up hg41
  have hv47 : Holds (Is (PtrV bk30)) (a38.eval (.tmp 4)) w39 := is_any (hk42.holds rfl hv32)
  have hb48 := hb33.up hg41
  have g49 := g28.trans hg41
  have g50 := g29.trans hg41
  have g51 := g34.trans hg41
  obtain ⟨bk52, hl53, hv54, hb55⟩ := OwnB.blk (lo := w19.heap.size) h44
  clear hv26 hb27 hv32 hb33 g28 g29 g34 hf20 hk42 hn43
  refine then_ ?_
  refine wp_seq ?_
  refine wp_seq ?_
  have g56 : Grow w39 w39 := Grow.refl _
  have hl57 : bk11 < w39.heap.size := hb46.lt
  have hl58 : bk30 < w39.heap.size := hb48.lt
  have hl59 : bk52 < w39.heap.size := hb55.lt
  have hz60 : w19.heap.size ≤ w39.heap.size := g51.size
  refine wp_region_lit ?_
  refine wp_all [([3], []), ([], [0])] [3, 4, 5] w39.heap.size hf40 g56.size (by kernel_rfl) (bund_cons (hb46.ownp hv45) bund_nil) ?_
  refine ch rfl (ob_load_state (ArgOK.ownp (arg_free 0 rfl rfl))) ?_
  refine ch rfl (ob_call1 (by kernel_rfl) (c_large) (ArgOK.val (arg_op 0 0 rfl rfl rfl rfl) (mkFs (s := s) (hva0.up g49) (hvb0.up g49) (hvc0.up g49) (hvd0.up g49)))) ?_
  refine ch_nil ?_
  intro a61 w62 hf63 hg64 hk65 hn66
  have h67 : Holds _ (a61.eval (.tmp 17)) w62 := hn66.at 1 0 rfl rfl rfl
  have hv68 : Holds (Is (PtrV bk11)) (a61.eval (.tmp 3)) w62 := is_any (hk65.holds rfl hv45)
  have hb69 := hb46.up hg64
  have hv70 : Holds (Is (PtrV bk30)) (a61.eval (.tmp 4)) w62 := is_any (hk65.holds rfl hv47)
  have hb71 := hb48.up hg64
  have hv72 : Holds (Is (PtrV bk52)) (a61.eval (.tmp 5)) w62 := is_any (hk65.holds rfl hv54)
  have hb73 := hb55.up hg64
  have g74 := g49.trans hg64
  have g75 := g50.trans hg64
  have g76 := g51.trans hg64
  have g77 := g56.trans hg64
  clear hv45 hb46 hv47 hb48 hv54 hb55 g49 g50 g51 g56 hf40 hk65 hn66
  refine then_ ?_
  refine wp_if h67 ?_ ?_
  · intro hc78
    refine wp_seq ?_
    have g79 : Grow w62 w62 := Grow.refl _
    have hl80 : bk11 < w62.heap.size := hb69.lt
    have hl81 : bk30 < w62.heap.size := hb71.lt
    have hl82 : bk52 < w62.heap.size := hb73.lt
    have hz83 : w39.heap.size ≤ w62.heap.size := g77.size
    refine wp_region_lit ?_
    refine wp_all [([], []), ([], [0])] [] w62.heap.size hf63 g79.size (by kernel_rfl) bund_nil ?_
    refine ch rfl (ob_call0 (by kernel_rfl) (c_awake21) ) ?_
    refine ch rfl (ob_assign (arg_op 0 0 rfl rfl rfl rfl)) ?_
    refine ch_nil ?_
    intro a84 w85 hf86 hg87 hk88 hn89
    have h90 : Holds _ (a84.eval (.tmp 6)) w85 := hn89.at 1 0 rfl rfl rfl
    have g91 := g74.trans hg87
    have g92 := g75.trans hg87
    have g93 := g76.trans hg87
    have g94 := g77.trans hg87
    have g95 := g79.trans hg87
    clear g74 g75 g76 g77 g79 hf63 hk88 hn89
    refine then_ ?_
    refine wp_ret ?_
    refine thenR ?_
    exact ret_tmp rfl hf86 g91 (is_cast h90 (congrArg Value.bool (by first | rfl | exact prove_yes)))
  · intro hc78
    have hb := big_no hc78; have hs := small_ok hb
    refine wp_skip ?_
    refine then_ ?_
    refine wp_seq ?_
    have g96 : Grow w62 w62 := Grow.refl _
    have hl97 : bk11 < w62.heap.size := hb69.lt
    have hl98 : bk30 < w62.heap.size := hb71.lt
    have hl99 : bk52 < w62.heap.size := hb73.lt
    have hz100 : w39.heap.size ≤ w62.heap.size := g77.size
    refine wp_region_lit ?_
    refine wp_seg (l1 := [_, _, _, _, _, _]) [([3], []), ([4], []), ([], [0, 1]), ([], [2]), ([], [3]), ([], [3])] [3, 4, 5] w62.heap.size hf63 g96.size (by kernel_rfl) (bund_cons (hb69.ownp hv68) (bund_cons (hb71.ownp hv70) bund_nil)) ?_
    refine ch rfl (ob_load_state (ArgOK.ownp (arg_free 0 rfl rfl))) ?_
    refine ch rfl (ob_load_cell (ArgOK.ownp (arg_free 1 rfl rfl))) ?_
    refine ch rfl (ob_call2 (by kernel_rfl) (c_ProveCell ?_) (ArgOK.val (arg_op 0 1 rfl rfl rfl rfl) (mkFs (s := s) (hva0.up g74) (hvb0.up g74) (hvc0.up g74) (hvd0.up g74))) (arg_op 1 0 rfl rfl rfl rfl)) ?_
    · assumption
    refine ch rfl (ob_move (arg_op 2 0 rfl rfl rfl rfl)) ?_
    refine ch rfl (ob_extract0 (arg_op 3 0 rfl rfl rfl rfl)) ?_
    refine ch rfl (ob_extract1 (arg_op 3 1 rfl rfl rfl rfl)) ?_
    refine ch_nil ?_
    intro a101 w102 hf103 hg104 hk105 hn106
    have h107 : Holds (IncO w62.heap.size _) (a101.eval (.tmp 23)) w102 := hn106.at 4 1 rfl rfl rfl
    have h108 : Holds _ (a101.eval (.tmp 24)) w102 := hn106.at 5 0 rfl rfl rfl
    have hv109 : Holds (Is (PtrV bk11)) (a101.eval (.tmp 3)) w102 := is_any (hk105.holds rfl hv68)
    have hb110 := hb69.up hg104
    have hv111 : Holds (Is (PtrV bk30)) (a101.eval (.tmp 4)) w102 := is_any (hk105.holds rfl hv70)
    have hb112 := hb71.up hg104
    have hv113 : Holds (Is (PtrV bk52)) (a101.eval (.tmp 5)) w102 := is_any (hk105.holds rfl hv72)
    have hb114 := hb73.up hg104
    have g115 := g74.trans hg104
    have g116 := g75.trans hg104
    have g117 := g76.trans hg104
    have g118 := g77.trans hg104
    have g119 := g96.trans hg104
    clear hv68 hb69 hv70 hb71 hv72 hb73 g74 g75 g76 g77 g96 hf63 hk105 hn106
    obtain ⟨V120, h121, hV122⟩ := openIO h107
    have g123 : Grow w102 w102 := Grow.refl _
    have hl124 : bk11 < w102.heap.size := hb110.lt
    have hl125 : bk30 < w102.heap.size := hb112.lt
    have hl126 : bk52 < w102.heap.size := hb114.lt
    have hz127 : w62.heap.size ≤ w102.heap.size := g119.size
    refine wp_seg (l1 := [_]) [([], [])] [3, 4, 5, 23, 24] w102.heap.size hf103 g123.size (by kernel_rfl) bund_nil ?_
    refine ch rfl (ob_alloc_inc) ?_
    refine ch_nil ?_
    intro a128 w129 hf130 hg131 hk132 hn133
    have h134 : Holds _ (a128.eval (.tmp 7)) w129 := hn133.at 0 0 rfl rfl rfl
    have h135 := hk132.holds rfl h121
    have h136 := hk132.holds rfl h108
    have hv137 : Holds (Is (PtrV bk11)) (a128.eval (.tmp 3)) w129 := is_any (hk132.holds rfl hv109)
    have hb138 := hb110.up hg131
    have hv139 : Holds (Is (PtrV bk30)) (a128.eval (.tmp 4)) w129 := is_any (hk132.holds rfl hv111)
    have hb140 := hb112.up hg131
    have hv141 : Holds (Is (PtrV bk52)) (a128.eval (.tmp 5)) w129 := is_any (hk132.holds rfl hv113)
    have hb142 := hb114.up hg131
    have g143 := g115.trans hg131
    have g144 := g116.trans hg131
    have g145 := g117.trans hg131
    have g146 := g118.trans hg131
    have g147 := g119.trans hg131
    have g148 := g123.trans hg131
    obtain ⟨bk149, hl150, hv151, hb152⟩ := OwnB.blk (lo := w102.heap.size) h134
    clear h121 h108 hv109 hb110 hv111 hb112 hv113 hb114 g115 g116 g117 g118 g119 g123 hf103 hk132 hn133
    refine wl_store_inc hv151 hb152 rfl (is_any h135) (inc_one (OwnS.sl (hV122.up g148))) ?_
    intro w153 ho154 hb155
    have g156 : Grow w0 w153 := g143.only ho154 (by omega)
    have g157 : Grow w2 w153 := g144.only ho154 (by omega)
    have g158 : Grow w19 w153 := g145.only ho154 (by omega)
    have g159 : Grow w39 w153 := g146.only ho154 (by omega)
    have g160 : Grow w62 w153 := g147.only ho154 (by omega)
    have g161 : Grow w102 w153 := g148.only ho154 (by omega)
    have hv162 : Holds (Is (PtrV bk11)) (a128.eval (.tmp 3)) w153 := is_any hv137
    have hb163 : Blk bk11 _ w153 := hb138.only ho154 (by omega)
    have hv164 : Holds (Is (PtrV bk30)) (a128.eval (.tmp 4)) w153 := is_any hv139
    have hb165 : Blk bk30 _ w153 := hb140.only ho154 (by omega)
    have hv166 : Holds (Is (PtrV bk52)) (a128.eval (.tmp 5)) w153 := is_any hv141
    have hb167 : Blk bk52 _ w153 := hb142.only ho154 (by omega)
    have hv168 : Holds (Is (PtrV bk149)) (a128.eval (.tmp 7)) w153 := is_any hv151
    refine wp_all [([24], [])] [3, 4, 5, 7] w102.heap.size hf130 g161.size (by kernel_rfl) (bund_cons (is_any h136) bund_nil) ?_
    refine ch rfl (ob_assign (arg_free 0 rfl rfl)) ?_
    refine ch_nil ?_
    intro a169 w170 hf171 hg172 hk173 hn174
    have h175 : Holds _ (a169.eval (.tmp 8)) w170 := hn174.at 0 0 rfl rfl rfl
    have hv176 : Holds (Is (PtrV bk11)) (a169.eval (.tmp 3)) w170 := is_any (hk173.holds rfl hv162)
    have hb177 := hb163.up hg172
    have hv178 : Holds (Is (PtrV bk30)) (a169.eval (.tmp 4)) w170 := is_any (hk173.holds rfl hv164)
    have hb179 := hb165.up hg172
    have hv180 : Holds (Is (PtrV bk52)) (a169.eval (.tmp 5)) w170 := is_any (hk173.holds rfl hv166)
    have hb181 := hb167.up hg172
    have hv182 : Holds (Is (PtrV bk149)) (a169.eval (.tmp 7)) w170 := is_any (hk173.holds rfl hv168)
    have hb183 := hb155.up hg172
    have g184 := g156.trans hg172
    have g185 := g157.trans hg172
    have g186 := g158.trans hg172
    have g187 := g159.trans hg172
    have g188 := g160.trans hg172
    have g189 := g161.trans hg172
    clear hv162 hb163 hv164 hb165 hv166 hb167 hv168 hb155 g156 g157 g158 g159 g160 g161 hf130 hk173 hn174 hg172
    refine then_ ?_
    refine wp_seq ?_
    have g190 : Grow w170 w170 := Grow.refl _
    have hl191 : bk11 < w170.heap.size := hb177.lt
    have hl192 : bk30 < w170.heap.size := hb179.lt
    have hl193 : bk52 < w170.heap.size := hb181.lt
    have hl194 : bk149 < w170.heap.size := hb183.lt
    have hz195 : w102.heap.size ≤ w170.heap.size := g189.size
    refine wp_region_lit ?_
    refine wp_seg (l1 := [_, _, _, _, _, _]) [([3], []), ([4], []), ([], [0, 1]), ([], [2]), ([], [3]), ([], [3])] [3, 4, 5, 7, 8] w170.heap.size hf171 g190.size (by kernel_rfl) (bund_cons (hb177.ownp hv176) (bund_cons (hb179.ownp hv178) bund_nil)) ?_
    refine ch rfl (ob_load_state (ArgOK.ownp (arg_free 0 rfl rfl))) ?_
    refine ch rfl (ob_load_cell (ArgOK.ownp (arg_free 1 rfl rfl))) ?_
    refine ch rfl (ob_call2 (by kernel_rfl) (c_rProveCell ?_) (ArgOK.val (arg_op 0 1 rfl rfl rfl rfl) (mkFs (s := s) (hva0.up g184) (hvb0.up g184) (hvc0.up g184) (hvd0.up g184))) (arg_op 1 0 rfl rfl rfl rfl)) ?_
    · assumption
    refine ch rfl (ob_move (arg_op 2 0 rfl rfl rfl rfl)) ?_
    refine ch rfl (ob_extract0 (arg_op 3 0 rfl rfl rfl rfl)) ?_
    refine ch rfl (ob_extract1 (arg_op 3 1 rfl rfl rfl rfl)) ?_
    refine ch_nil ?_
    intro a196 w197 hf198 hg199 hk200 hn201
    have h202 : Holds (IncO w170.heap.size _) (a196.eval (.tmp 29)) w197 := hn201.at 4 1 rfl rfl rfl
    have h203 : Holds _ (a196.eval (.tmp 30)) w197 := hn201.at 5 0 rfl rfl rfl
    have h204 := hk200.holds rfl h175
    have hv205 : Holds (Is (PtrV bk11)) (a196.eval (.tmp 3)) w197 := is_any (hk200.holds rfl hv176)
    have hb206 := hb177.up hg199
    have hv207 : Holds (Is (PtrV bk30)) (a196.eval (.tmp 4)) w197 := is_any (hk200.holds rfl hv178)
    have hb208 := hb179.up hg199
    have hv209 : Holds (Is (PtrV bk52)) (a196.eval (.tmp 5)) w197 := is_any (hk200.holds rfl hv180)
    have hb210 := hb181.up hg199
    have hv211 : Holds (Is (PtrV bk149)) (a196.eval (.tmp 7)) w197 := is_any (hk200.holds rfl hv182)
    have hb212 := hb183.up hg199
    have g213 := g184.trans hg199
    have g214 := g185.trans hg199
    have g215 := g186.trans hg199
    have g216 := g187.trans hg199
    have g217 := g188.trans hg199
    have g218 := g189.trans hg199
    have g219 := g190.trans hg199
    clear h175 hv176 hb177 hv178 hb179 hv180 hb181 hv182 hb183 g184 g185 g186 g187 g188 g189 g190 hf171 hk200 hn201
    obtain ⟨V220, h221, hV222⟩ := openIO h202
    have g223 : Grow w197 w197 := Grow.refl _
    have hl224 : bk11 < w197.heap.size := hb206.lt
    have hl225 : bk30 < w197.heap.size := hb208.lt
    have hl226 : bk52 < w197.heap.size := hb210.lt
    have hl227 : bk149 < w197.heap.size := hb212.lt
    have hz228 : w170.heap.size ≤ w197.heap.size := g219.size
    refine wp_seg (l1 := [_]) [([], [])] [3, 4, 5, 7, 8, 29, 30] w197.heap.size hf198 g223.size (by kernel_rfl) bund_nil ?_
    refine ch rfl (ob_alloc_inc) ?_
    refine ch_nil ?_
    intro a229 w230 hf231 hg232 hk233 hn234
    have h235 : Holds _ (a229.eval (.tmp 9)) w230 := hn234.at 0 0 rfl rfl rfl
    have h236 := hk233.holds rfl h221
    have h237 := hk233.holds rfl h203
    have h238 := hk233.holds rfl h204
    have hv239 : Holds (Is (PtrV bk11)) (a229.eval (.tmp 3)) w230 := is_any (hk233.holds rfl hv205)
    have hb240 := hb206.up hg232
    have hv241 : Holds (Is (PtrV bk30)) (a229.eval (.tmp 4)) w230 := is_any (hk233.holds rfl hv207)
    have hb242 := hb208.up hg232
    have hv243 : Holds (Is (PtrV bk52)) (a229.eval (.tmp 5)) w230 := is_any (hk233.holds rfl hv209)
    have hb244 := hb210.up hg232
    have hv245 : Holds (Is (PtrV bk149)) (a229.eval (.tmp 7)) w230 := is_any (hk233.holds rfl hv211)
    have hb246 := hb212.up hg232
    have g247 := g213.trans hg232
    have g248 := g214.trans hg232
    have g249 := g215.trans hg232
    have g250 := g216.trans hg232
    have g251 := g217.trans hg232
    have g252 := g218.trans hg232
    have g253 := g219.trans hg232
    have g254 := g223.trans hg232
    obtain ⟨bk255, hl256, hv257, hb258⟩ := OwnB.blk (lo := w197.heap.size) h235
    clear h221 h203 h204 hv205 hb206 hv207 hb208 hv209 hb210 hv211 hb212 g213 g214 g215 g216 g217 g218 g219 g223 hf198 hk233 hn234
    refine wl_store_inc hv257 hb258 rfl (is_any h236) (inc_one (OwnS.sl (hV222.up g254))) ?_
    intro w259 ho260 hb261
    have g262 : Grow w0 w259 := g247.only ho260 (by omega)
    have g263 : Grow w2 w259 := g248.only ho260 (by omega)
    have g264 : Grow w19 w259 := g249.only ho260 (by omega)
    have g265 : Grow w39 w259 := g250.only ho260 (by omega)
    have g266 : Grow w62 w259 := g251.only ho260 (by omega)
    have g267 : Grow w102 w259 := g252.only ho260 (by omega)
    have g268 : Grow w170 w259 := g253.only ho260 (by omega)
    have g269 : Grow w197 w259 := g254.only ho260 (by omega)
    have hv270 : Holds (Is (PtrV bk11)) (a229.eval (.tmp 3)) w259 := is_any hv239
    have hb271 : Blk bk11 _ w259 := hb240.only ho260 (by omega)
    have hv272 : Holds (Is (PtrV bk30)) (a229.eval (.tmp 4)) w259 := is_any hv241
    have hb273 : Blk bk30 _ w259 := hb242.only ho260 (by omega)
    have hv274 : Holds (Is (PtrV bk52)) (a229.eval (.tmp 5)) w259 := is_any hv243
    have hb275 : Blk bk52 _ w259 := hb244.only ho260 (by omega)
    have hv276 : Holds (Is (PtrV bk149)) (a229.eval (.tmp 7)) w259 := is_any hv245
    have hb277 : Blk bk149 _ w259 := hb246.only ho260 (by omega)
    have hv278 : Holds (Is (PtrV bk255)) (a229.eval (.tmp 9)) w259 := is_any hv257
    refine wp_all [([30], [])] [3, 4, 5, 7, 8, 9] w197.heap.size hf231 g269.size (by kernel_rfl) (bund_cons (is_any h237) bund_nil) ?_
    refine ch rfl (ob_assign (arg_free 0 rfl rfl)) ?_
    refine ch_nil ?_
    intro a279 w280 hf281 hg282 hk283 hn284
    have h285 : Holds _ (a279.eval (.tmp 10)) w280 := hn284.at 0 0 rfl rfl rfl
    have h286 := hk283.holds rfl h238
    have hv287 : Holds (Is (PtrV bk11)) (a279.eval (.tmp 3)) w280 := is_any (hk283.holds rfl hv270)
    have hb288 := hb271.up hg282
    have hv289 : Holds (Is (PtrV bk30)) (a279.eval (.tmp 4)) w280 := is_any (hk283.holds rfl hv272)
    have hb290 := hb273.up hg282
    have hv291 : Holds (Is (PtrV bk52)) (a279.eval (.tmp 5)) w280 := is_any (hk283.holds rfl hv274)
    have hb292 := hb275.up hg282
    have hv293 : Holds (Is (PtrV bk149)) (a279.eval (.tmp 7)) w280 := is_any (hk283.holds rfl hv276)
    have hb294 := hb277.up hg282
    have hv295 : Holds (Is (PtrV bk255)) (a279.eval (.tmp 9)) w280 := is_any (hk283.holds rfl hv278)
    have hb296 := hb261.up hg282
    have g297 := g262.trans hg282
    have g298 := g263.trans hg282
    have g299 := g264.trans hg282
    have g300 := g265.trans hg282
    have g301 := g266.trans hg282
    have g302 := g267.trans hg282
    have g303 := g268.trans hg282
    have g304 := g269.trans hg282
    clear h238 hv270 hb271 hv272 hb273 hv274 hb275 hv276 hb277 hv278 hb261 g262 g263 g264 g265 g266 g267 g268 g269 hf231 hk283 hn284 hg282
    refine then_ ?_
    refine wp_seq ?_
    have g305 : Grow w280 w280 := Grow.refl _
    have hl306 : bk11 < w280.heap.size := hb288.lt
    have hl307 : bk30 < w280.heap.size := hb290.lt
    have hl308 : bk52 < w280.heap.size := hb292.lt
    have hl309 : bk149 < w280.heap.size := hb294.lt
    have hl310 : bk255 < w280.heap.size := hb296.lt
    have hz311 : w197.heap.size ≤ w280.heap.size := g304.size
    refine wp_region_lit ?_
    refine wp_seg (l1 := [_, _, _, _, _, _]) [([3], []), ([5], []), ([], [0, 1]), ([], [2]), ([], [3]), ([], [3])] [3, 4, 5, 7, 8, 9, 10] w280.heap.size hf281 g305.size (by kernel_rfl) (bund_cons (hb288.ownp hv287) (bund_cons (hb292.ownp hv291) bund_nil)) ?_
    refine ch rfl (ob_load_state (ArgOK.ownp (arg_free 0 rfl rfl))) ?_
    refine ch rfl (ob_load_nm (ArgOK.ownp (arg_free 1 rfl rfl))) ?_
    refine ch rfl (ob_call2 (by kernel_rfl) (c_ProveApplied ?_) (ArgOK.val (arg_op 0 1 rfl rfl rfl rfl) (mkFs (s := s) (hva0.up g297) (hvb0.up g297) (hvc0.up g297) (hvd0.up g297))) (arg_op 1 0 rfl rfl rfl rfl)) ?_
    · assumption
    refine ch rfl (ob_move (arg_op 2 0 rfl rfl rfl rfl)) ?_
    refine ch rfl (ob_extract0 (arg_op 3 0 rfl rfl rfl rfl)) ?_
    refine ch rfl (ob_extract1 (arg_op 3 1 rfl rfl rfl rfl)) ?_
    refine ch_nil ?_
    intro a312 w313 hf314 hg315 hk316 hn317
    have h318 : Holds (IncO w280.heap.size _) (a312.eval (.tmp 35)) w313 := hn317.at 4 1 rfl rfl rfl
    have h319 : Holds _ (a312.eval (.tmp 36)) w313 := hn317.at 5 0 rfl rfl rfl
    have h320 := hk316.holds rfl h285
    have h321 := hk316.holds rfl h286
    have hv322 : Holds (Is (PtrV bk11)) (a312.eval (.tmp 3)) w313 := is_any (hk316.holds rfl hv287)
    have hb323 := hb288.up hg315
    have hv324 : Holds (Is (PtrV bk30)) (a312.eval (.tmp 4)) w313 := is_any (hk316.holds rfl hv289)
    have hb325 := hb290.up hg315
    have hv326 : Holds (Is (PtrV bk52)) (a312.eval (.tmp 5)) w313 := is_any (hk316.holds rfl hv291)
    have hb327 := hb292.up hg315
    have hv328 : Holds (Is (PtrV bk149)) (a312.eval (.tmp 7)) w313 := is_any (hk316.holds rfl hv293)
    have hb329 := hb294.up hg315
    have hv330 : Holds (Is (PtrV bk255)) (a312.eval (.tmp 9)) w313 := is_any (hk316.holds rfl hv295)
    have hb331 := hb296.up hg315
    have g332 := g297.trans hg315
    have g333 := g298.trans hg315
    have g334 := g299.trans hg315
    have g335 := g300.trans hg315
    have g336 := g301.trans hg315
    have g337 := g302.trans hg315
    have g338 := g303.trans hg315
    have g339 := g304.trans hg315
    have g340 := g305.trans hg315
    clear h285 h286 hv287 hb288 hv289 hb290 hv291 hb292 hv293 hb294 hv295 hb296 g297 g298 g299 g300 g301 g302 g303 g304 g305 hf281 hk316 hn317
    obtain ⟨V341, h342, hV343⟩ := openIO h318
    have g344 : Grow w313 w313 := Grow.refl _
    have hl345 : bk11 < w313.heap.size := hb323.lt
    have hl346 : bk30 < w313.heap.size := hb325.lt
    have hl347 : bk52 < w313.heap.size := hb327.lt
    have hl348 : bk149 < w313.heap.size := hb329.lt
    have hl349 : bk255 < w313.heap.size := hb331.lt
    have hz350 : w280.heap.size ≤ w313.heap.size := g340.size
    refine wp_seg (l1 := [_]) [([], [])] [3, 4, 5, 7, 8, 9, 10, 35, 36] w313.heap.size hf314 g344.size (by kernel_rfl) bund_nil ?_
    refine ch rfl (ob_alloc_inc) ?_
    refine ch_nil ?_
    intro a351 w352 hf353 hg354 hk355 hn356
    have h357 : Holds _ (a351.eval (.tmp 11)) w352 := hn356.at 0 0 rfl rfl rfl
    have h358 := hk355.holds rfl h342
    have h359 := hk355.holds rfl h319
    have h360 := hk355.holds rfl h320
    have h361 := hk355.holds rfl h321
    have hv362 : Holds (Is (PtrV bk11)) (a351.eval (.tmp 3)) w352 := is_any (hk355.holds rfl hv322)
    have hb363 := hb323.up hg354
    have hv364 : Holds (Is (PtrV bk30)) (a351.eval (.tmp 4)) w352 := is_any (hk355.holds rfl hv324)
    have hb365 := hb325.up hg354
    have hv366 : Holds (Is (PtrV bk52)) (a351.eval (.tmp 5)) w352 := is_any (hk355.holds rfl hv326)
    have hb367 := hb327.up hg354
    have hv368 : Holds (Is (PtrV bk149)) (a351.eval (.tmp 7)) w352 := is_any (hk355.holds rfl hv328)
    have hb369 := hb329.up hg354
    have hv370 : Holds (Is (PtrV bk255)) (a351.eval (.tmp 9)) w352 := is_any (hk355.holds rfl hv330)
    have hb371 := hb331.up hg354
    have g372 := g332.trans hg354
    have g373 := g333.trans hg354
    have g374 := g334.trans hg354
    have g375 := g335.trans hg354
    have g376 := g336.trans hg354
    have g377 := g337.trans hg354
    have g378 := g338.trans hg354
    have g379 := g339.trans hg354
    have g380 := g340.trans hg354
    have g381 := g344.trans hg354
    obtain ⟨bk382, hl383, hv384, hb385⟩ := OwnB.blk (lo := w313.heap.size) h357
    clear h342 h319 h320 h321 hv322 hb323 hv324 hb325 hv326 hb327 hv328 hb329 hv330 hb331 g332 g333 g334 g335 g336 g337 g338 g339 g340 g344 hf314 hk355 hn356
    refine wl_store_inc hv384 hb385 rfl (is_any h358) (inc_one (OwnS.sl (hV343.up g381))) ?_
    intro w386 ho387 hb388
    have g389 : Grow w0 w386 := g372.only ho387 (by omega)
    have g390 : Grow w2 w386 := g373.only ho387 (by omega)
    have g391 : Grow w19 w386 := g374.only ho387 (by omega)
    have g392 : Grow w39 w386 := g375.only ho387 (by omega)
    have g393 : Grow w62 w386 := g376.only ho387 (by omega)
    have g394 : Grow w102 w386 := g377.only ho387 (by omega)
    have g395 : Grow w170 w386 := g378.only ho387 (by omega)
    have g396 : Grow w197 w386 := g379.only ho387 (by omega)
    have g397 : Grow w280 w386 := g380.only ho387 (by omega)
    have g398 : Grow w313 w386 := g381.only ho387 (by omega)
    have hv399 : Holds (Is (PtrV bk11)) (a351.eval (.tmp 3)) w386 := is_any hv362
    have hb400 : Blk bk11 _ w386 := hb363.only ho387 (by omega)
    have hv401 : Holds (Is (PtrV bk30)) (a351.eval (.tmp 4)) w386 := is_any hv364
    have hb402 : Blk bk30 _ w386 := hb365.only ho387 (by omega)
    have hv403 : Holds (Is (PtrV bk52)) (a351.eval (.tmp 5)) w386 := is_any hv366
    have hb404 : Blk bk52 _ w386 := hb367.only ho387 (by omega)
    have hv405 : Holds (Is (PtrV bk149)) (a351.eval (.tmp 7)) w386 := is_any hv368
    have hb406 : Blk bk149 _ w386 := hb369.only ho387 (by omega)
    have hv407 : Holds (Is (PtrV bk255)) (a351.eval (.tmp 9)) w386 := is_any hv370
    have hb408 : Blk bk255 _ w386 := hb371.only ho387 (by omega)
    have hv409 : Holds (Is (PtrV bk382)) (a351.eval (.tmp 11)) w386 := is_any hv384
    refine wp_all [([36], [])] [3, 4, 5, 7, 8, 9, 10, 11] w313.heap.size hf353 g398.size (by kernel_rfl) (bund_cons (is_any h359) bund_nil) ?_
    refine ch rfl (ob_assign (arg_free 0 rfl rfl)) ?_
    refine ch_nil ?_
    intro a410 w411 hf412 hg413 hk414 hn415
    have h416 : Holds _ (a410.eval (.tmp 12)) w411 := hn415.at 0 0 rfl rfl rfl
    have h417 := hk414.holds rfl h360
    have h418 := hk414.holds rfl h361
    have hv419 : Holds (Is (PtrV bk11)) (a410.eval (.tmp 3)) w411 := is_any (hk414.holds rfl hv399)
    have hb420 := hb400.up hg413
    have hv421 : Holds (Is (PtrV bk30)) (a410.eval (.tmp 4)) w411 := is_any (hk414.holds rfl hv401)
    have hb422 := hb402.up hg413
    have hv423 : Holds (Is (PtrV bk52)) (a410.eval (.tmp 5)) w411 := is_any (hk414.holds rfl hv403)
    have hb424 := hb404.up hg413
    have hv425 : Holds (Is (PtrV bk149)) (a410.eval (.tmp 7)) w411 := is_any (hk414.holds rfl hv405)
    have hb426 := hb406.up hg413
    have hv427 : Holds (Is (PtrV bk255)) (a410.eval (.tmp 9)) w411 := is_any (hk414.holds rfl hv407)
    have hb428 := hb408.up hg413
    have hv429 : Holds (Is (PtrV bk382)) (a410.eval (.tmp 11)) w411 := is_any (hk414.holds rfl hv409)
    have hb430 := hb388.up hg413
    have g431 := g389.trans hg413
    have g432 := g390.trans hg413
    have g433 := g391.trans hg413
    have g434 := g392.trans hg413
    have g435 := g393.trans hg413
    have g436 := g394.trans hg413
    have g437 := g395.trans hg413
    have g438 := g396.trans hg413
    have g439 := g397.trans hg413
    have g440 := g398.trans hg413
    clear h360 h361 hv399 hb400 hv401 hb402 hv403 hb404 hv405 hb406 hv407 hb408 hv409 hb388 g389 g390 g391 g392 g393 g394 g395 g396 g397 g398 hf353 hk414 hn415 hg413
    refine then_ ?_
    refine wp_seq ?_
    have g441 : Grow w411 w411 := Grow.refl _
    have hl442 : bk11 < w411.heap.size := hb420.lt
    have hl443 : bk30 < w411.heap.size := hb422.lt
    have hl444 : bk52 < w411.heap.size := hb424.lt
    have hl445 : bk149 < w411.heap.size := hb426.lt
    have hl446 : bk255 < w411.heap.size := hb428.lt
    have hl447 : bk382 < w411.heap.size := hb430.lt
    have hz448 : w313.heap.size ≤ w411.heap.size := g440.size
    refine wp_region_lit ?_
    refine wp_seg (l1 := [_, _, _, _, _, _]) [([3], []), ([5], []), ([], [0, 1]), ([], [2]), ([], [3]), ([], [3])] [3, 4, 5, 7, 8, 9, 10, 11, 12] w411.heap.size hf412 g441.size (by kernel_rfl) (bund_cons (hb420.ownp hv419) (bund_cons (hb424.ownp hv423) bund_nil)) ?_
    refine ch rfl (ob_load_state (ArgOK.ownp (arg_free 0 rfl rfl))) ?_
    refine ch rfl (ob_load_nm (ArgOK.ownp (arg_free 1 rfl rfl))) ?_
    refine ch rfl (ob_call2 (by kernel_rfl) (c_rProveApplied ?_) (ArgOK.val (arg_op 0 1 rfl rfl rfl rfl) (mkFs (s := s) (hva0.up g431) (hvb0.up g431) (hvc0.up g431) (hvd0.up g431))) (arg_op 1 0 rfl rfl rfl rfl)) ?_
    · assumption
    refine ch rfl (ob_move (arg_op 2 0 rfl rfl rfl rfl)) ?_
    refine ch rfl (ob_extract0 (arg_op 3 0 rfl rfl rfl rfl)) ?_
    refine ch rfl (ob_extract1 (arg_op 3 1 rfl rfl rfl rfl)) ?_
    refine ch_nil ?_
    intro a449 w450 hf451 hg452 hk453 hn454
    have h455 : Holds (IncO w411.heap.size _) (a449.eval (.tmp 41)) w450 := hn454.at 4 1 rfl rfl rfl
    have h456 : Holds _ (a449.eval (.tmp 42)) w450 := hn454.at 5 0 rfl rfl rfl
    have h457 := hk453.holds rfl h416
    have h458 := hk453.holds rfl h417
    have h459 := hk453.holds rfl h418
    have hv460 : Holds (Is (PtrV bk11)) (a449.eval (.tmp 3)) w450 := is_any (hk453.holds rfl hv419)
    have hb461 := hb420.up hg452
    have hv462 : Holds (Is (PtrV bk30)) (a449.eval (.tmp 4)) w450 := is_any (hk453.holds rfl hv421)
    have hb463 := hb422.up hg452
    have hv464 : Holds (Is (PtrV bk52)) (a449.eval (.tmp 5)) w450 := is_any (hk453.holds rfl hv423)
    have hb465 := hb424.up hg452
    have hv466 : Holds (Is (PtrV bk149)) (a449.eval (.tmp 7)) w450 := is_any (hk453.holds rfl hv425)
    have hb467 := hb426.up hg452
    have hv468 : Holds (Is (PtrV bk255)) (a449.eval (.tmp 9)) w450 := is_any (hk453.holds rfl hv427)
    have hb469 := hb428.up hg452
    have hv470 : Holds (Is (PtrV bk382)) (a449.eval (.tmp 11)) w450 := is_any (hk453.holds rfl hv429)
    have hb471 := hb430.up hg452
    have g472 := g431.trans hg452
    have g473 := g432.trans hg452
    have g474 := g433.trans hg452
    have g475 := g434.trans hg452
    have g476 := g435.trans hg452
    have g477 := g436.trans hg452
    have g478 := g437.trans hg452
    have g479 := g438.trans hg452
    have g480 := g439.trans hg452
    have g481 := g440.trans hg452
    have g482 := g441.trans hg452
    clear h416 h417 h418 hv419 hb420 hv421 hb422 hv423 hb424 hv425 hb426 hv427 hb428 hv429 hb430 g431 g432 g433 g434 g435 g436 g437 g438 g439 g440 g441 hf412 hk453 hn454
    obtain ⟨V483, h484, hV485⟩ := openIO h455
    have g486 : Grow w450 w450 := Grow.refl _
    have hl487 : bk11 < w450.heap.size := hb461.lt
    have hl488 : bk30 < w450.heap.size := hb463.lt
    have hl489 : bk52 < w450.heap.size := hb465.lt
    have hl490 : bk149 < w450.heap.size := hb467.lt
    have hl491 : bk255 < w450.heap.size := hb469.lt
    have hl492 : bk382 < w450.heap.size := hb471.lt
    have hz493 : w411.heap.size ≤ w450.heap.size := g482.size
    refine wp_seg (l1 := [_]) [([], [])] [3, 4, 5, 7, 8, 9, 10, 11, 12, 41, 42] w450.heap.size hf451 g486.size (by kernel_rfl) bund_nil ?_
    refine ch rfl (ob_alloc_inc) ?_
    refine ch_nil ?_
    intro a494 w495 hf496 hg497 hk498 hn499
    have h500 : Holds _ (a494.eval (.tmp 13)) w495 := hn499.at 0 0 rfl rfl rfl
    have h501 := hk498.holds rfl h484
    have h502 := hk498.holds rfl h456
    have h503 := hk498.holds rfl h457
    have h504 := hk498.holds rfl h458
    have h505 := hk498.holds rfl h459
    have hv506 : Holds (Is (PtrV bk11)) (a494.eval (.tmp 3)) w495 := is_any (hk498.holds rfl hv460)
    have hb507 := hb461.up hg497
    have hv508 : Holds (Is (PtrV bk30)) (a494.eval (.tmp 4)) w495 := is_any (hk498.holds rfl hv462)
    have hb509 := hb463.up hg497
    have hv510 : Holds (Is (PtrV bk52)) (a494.eval (.tmp 5)) w495 := is_any (hk498.holds rfl hv464)
    have hb511 := hb465.up hg497
    have hv512 : Holds (Is (PtrV bk149)) (a494.eval (.tmp 7)) w495 := is_any (hk498.holds rfl hv466)
    have hb513 := hb467.up hg497
    have hv514 : Holds (Is (PtrV bk255)) (a494.eval (.tmp 9)) w495 := is_any (hk498.holds rfl hv468)
    have hb515 := hb469.up hg497
    have hv516 : Holds (Is (PtrV bk382)) (a494.eval (.tmp 11)) w495 := is_any (hk498.holds rfl hv470)
    have hb517 := hb471.up hg497
    have g518 := g472.trans hg497
    have g519 := g473.trans hg497
    have g520 := g474.trans hg497
    have g521 := g475.trans hg497
    have g522 := g476.trans hg497
    have g523 := g477.trans hg497
    have g524 := g478.trans hg497
    have g525 := g479.trans hg497
    have g526 := g480.trans hg497
    have g527 := g481.trans hg497
    have g528 := g482.trans hg497
    have g529 := g486.trans hg497
    obtain ⟨bk530, hl531, hv532, hb533⟩ := OwnB.blk (lo := w450.heap.size) h500
    clear h484 h456 h457 h458 h459 hv460 hb461 hv462 hb463 hv464 hb465 hv466 hb467 hv468 hb469 hv470 hb471 g472 g473 g474 g475 g476 g477 g478 g479 g480 g481 g482 g486 hf451 hk498 hn499
    refine wl_store_inc hv532 hb533 rfl (is_any h501) (inc_one (OwnS.sl (hV485.up g529))) ?_
    intro w534 ho535 hb536
    have g537 : Grow w0 w534 := g518.only ho535 (by omega)
    have g538 : Grow w2 w534 := g519.only ho535 (by omega)
    have g539 : Grow w19 w534 := g520.only ho535 (by omega)
    have g540 : Grow w39 w534 := g521.only ho535 (by omega)
    have g541 : Grow w62 w534 := g522.only ho535 (by omega)
    have g542 : Grow w102 w534 := g523.only ho535 (by omega)
    have g543 : Grow w170 w534 := g524.only ho535 (by omega)
    have g544 : Grow w197 w534 := g525.only ho535 (by omega)
    have g545 : Grow w280 w534 := g526.only ho535 (by omega)
    have g546 : Grow w313 w534 := g527.only ho535 (by omega)
    have g547 : Grow w411 w534 := g528.only ho535 (by omega)
    have g548 : Grow w450 w534 := g529.only ho535 (by omega)
    have hv549 : Holds (Is (PtrV bk11)) (a494.eval (.tmp 3)) w534 := is_any hv506
    have hb550 : Blk bk11 _ w534 := hb507.only ho535 (by omega)
    have hv551 : Holds (Is (PtrV bk30)) (a494.eval (.tmp 4)) w534 := is_any hv508
    have hb552 : Blk bk30 _ w534 := hb509.only ho535 (by omega)
    have hv553 : Holds (Is (PtrV bk52)) (a494.eval (.tmp 5)) w534 := is_any hv510
    have hb554 : Blk bk52 _ w534 := hb511.only ho535 (by omega)
    have hv555 : Holds (Is (PtrV bk149)) (a494.eval (.tmp 7)) w534 := is_any hv512
    have hb556 : Blk bk149 _ w534 := hb513.only ho535 (by omega)
    have hv557 : Holds (Is (PtrV bk255)) (a494.eval (.tmp 9)) w534 := is_any hv514
    have hb558 : Blk bk255 _ w534 := hb515.only ho535 (by omega)
    have hv559 : Holds (Is (PtrV bk382)) (a494.eval (.tmp 11)) w534 := is_any hv516
    have hb560 : Blk bk382 _ w534 := hb517.only ho535 (by omega)
    have hv561 : Holds (Is (PtrV bk530)) (a494.eval (.tmp 13)) w534 := is_any hv532
    refine wp_all [([42], [])] [3, 4, 5, 7, 8, 9, 10, 11, 12, 13] w450.heap.size hf496 g548.size (by kernel_rfl) (bund_cons (is_any h502) bund_nil) ?_
    refine ch rfl (ob_assign (arg_free 0 rfl rfl)) ?_
    refine ch_nil ?_
    intro a562 w563 hf564 hg565 hk566 hn567
    have h568 : Holds _ (a562.eval (.tmp 14)) w563 := hn567.at 0 0 rfl rfl rfl
    have h569 := hk566.holds rfl h503
    have h570 := hk566.holds rfl h504
    have h571 := hk566.holds rfl h505
    have hv572 : Holds (Is (PtrV bk11)) (a562.eval (.tmp 3)) w563 := is_any (hk566.holds rfl hv549)
    have hb573 := hb550.up hg565
    have hv574 : Holds (Is (PtrV bk30)) (a562.eval (.tmp 4)) w563 := is_any (hk566.holds rfl hv551)
    have hb575 := hb552.up hg565
    have hv576 : Holds (Is (PtrV bk52)) (a562.eval (.tmp 5)) w563 := is_any (hk566.holds rfl hv553)
    have hb577 := hb554.up hg565
    have hv578 : Holds (Is (PtrV bk149)) (a562.eval (.tmp 7)) w563 := is_any (hk566.holds rfl hv555)
    have hb579 := hb556.up hg565
    have hv580 : Holds (Is (PtrV bk255)) (a562.eval (.tmp 9)) w563 := is_any (hk566.holds rfl hv557)
    have hb581 := hb558.up hg565
    have hv582 : Holds (Is (PtrV bk382)) (a562.eval (.tmp 11)) w563 := is_any (hk566.holds rfl hv559)
    have hb583 := hb560.up hg565
    have hv584 : Holds (Is (PtrV bk530)) (a562.eval (.tmp 13)) w563 := is_any (hk566.holds rfl hv561)
    have hb585 := hb536.up hg565
    have g586 := g537.trans hg565
    have g587 := g538.trans hg565
    have g588 := g539.trans hg565
    have g589 := g540.trans hg565
    have g590 := g541.trans hg565
    have g591 := g542.trans hg565
    have g592 := g543.trans hg565
    have g593 := g544.trans hg565
    have g594 := g545.trans hg565
    have g595 := g546.trans hg565
    have g596 := g547.trans hg565
    have g597 := g548.trans hg565
    clear h503 h504 h505 hv549 hb550 hv551 hb552 hv553 hb554 hv555 hb556 hv557 hb558 hv559 hb560 hv561 hb536 g537 g538 g539 g540 g541 g542 g543 g544 g545 g546 g547 g548 hf496 hk566 hn567 hg565
    refine then_ ?_
    refine wp_seq ?_
    refine wp_seq ?_
    have g598 : Grow w563 w563 := Grow.refl _
    have hl599 : bk11 < w563.heap.size := hb573.lt
    have hl600 : bk30 < w563.heap.size := hb575.lt
    have hl601 : bk52 < w563.heap.size := hb577.lt
    have hl602 : bk149 < w563.heap.size := hb579.lt
    have hl603 : bk255 < w563.heap.size := hb581.lt
    have hl604 : bk382 < w563.heap.size := hb583.lt
    have hl605 : bk530 < w563.heap.size := hb585.lt
    have hz606 : w450.heap.size ≤ w563.heap.size := g597.size
    refine wp_region_lit ?_
    refine wp_all [([8], []), ([10], []), ([], [0, 1]), ([], [2]), ([12], [3]), ([14], [3]), ([], [4, 5, 3]), ([], [3, 6]), ([], [7]), ([7], [8]), ([9], [8]), ([], [9, 10, 8]), ([], [11, 8]), ([], [8, 12]), ([], [13]), ([11], [14]), ([13], [14]), ([], [15, 16, 14]), ([], [17, 14]), ([], [14, 18])] [3, 4, 5, 7, 8, 11, 12] w563.heap.size hf564 g598.size (by kernel_rfl) (bund_cons (is_any h571) (bund_cons (is_any h570) (bund_cons (is_any h569) (bund_cons h568 (bund_cons (hb579.ownp hv578) (bund_cons (hb581.ownp hv580) (bund_cons (hb583.ownp hv582) (bund_cons (hb585.ownp hv584) bund_nil)))))))) ?_
    refine ch rfl (ob_move (arg_free 0 rfl rfl)) ?_
    refine ch rfl (ob_move (arg_free 1 rfl rfl)) ?_
    refine ch rfl (ob_neq (arg_op 0 1 rfl rfl rfl rfl) (arg_op 1 0 rfl rfl rfl rfl)) ?_
    refine ch rfl (ob_move (arg_op 2 0 rfl rfl rfl rfl)) ?_
    refine chg (b := _) rfl rfl (arg_op 3 0 rfl rfl rfl rfl) (fun hb3 => ob_move (arg_free 2 rfl rfl)) ?_
    refine chg (b := _) rfl rfl (arg_op 3 1 rfl rfl rfl rfl) (fun hb3 => ob_move (arg_free 3 rfl rfl)) ?_
    refine chg (b := _) rfl rfl (arg_op 3 2 rfl rfl rfl rfl) (fun hb3 => ob_neq (ArgOK.when (arg_op 4 1 rfl rfl rfl rfl) hb3) (ArgOK.when (arg_op 5 0 rfl rfl rfl rfl) hb3)) ?_
    refine ch rfl (ob_or (arg_op 3 3 rfl rfl rfl rfl) (arg_op 6 0 rfl rfl rfl rfl)) ?_
    refine ch rfl (ob_move (arg_op 7 0 rfl rfl rfl rfl)) ?_
    refine chg (b := _) rfl rfl (arg_op 8 0 rfl rfl rfl rfl) (fun hb8 => ob_load_inc (ArgOK.ownp (arg_free 4 rfl rfl))) ?_
    refine chg (b := _) rfl rfl (arg_op 8 1 rfl rfl rfl rfl) (fun hb8 => ob_load_inc (ArgOK.ownp (arg_free 5 rfl rfl))) ?_
    refine chg (b := _) rfl rfl (arg_op 8 2 rfl rfl rfl rfl) (fun hb8 => ob_call2 (by kernel_rfl) (c_sameInc ?_) (ArgOK.val (ArgOK.when (arg_op 9 1 rfl rfl rfl rfl) hb8) (mkIF (OwnS.sl (hV122.up g591)))) (ArgOK.val (ArgOK.when (arg_op 10 0 rfl rfl rfl rfl) hb8) (mkIF (OwnS.sl (hV222.up g593))))) ?_
    · exact prvI_path hs
    refine chg (b := _) rfl rfl (arg_op 8 3 rfl rfl rfl rfl) (fun hb8 => ob_not (ArgOK.when (arg_op 11 0 rfl rfl rfl rfl) hb8)) ?_
    refine ch rfl (ob_or (arg_op 8 4 rfl rfl rfl rfl) (arg_op 12 0 rfl rfl rfl rfl)) ?_
    refine ch rfl (ob_move (arg_op 13 0 rfl rfl rfl rfl)) ?_
    refine chg (b := _) rfl rfl (arg_op 14 0 rfl rfl rfl rfl) (fun hb14 => ob_load_inc (ArgOK.ownp (arg_free 6 rfl rfl))) ?_
    refine chg (b := _) rfl rfl (arg_op 14 1 rfl rfl rfl rfl) (fun hb14 => ob_load_inc (ArgOK.ownp (arg_free 7 rfl rfl))) ?_
    refine chg (b := _) rfl rfl (arg_op 14 2 rfl rfl rfl rfl) (fun hb14 => ob_call2 (by kernel_rfl) (c_sameInc ?_) (ArgOK.val (ArgOK.when (arg_op 15 1 rfl rfl rfl rfl) hb14) (mkIF (OwnS.sl (hV343.up g595)))) (ArgOK.val (ArgOK.when (arg_op 16 0 rfl rfl rfl rfl) hb14) (mkIF (OwnS.sl (hV485.up g597))))) ?_
    · exact prvI_path hs
    refine chg (b := _) rfl rfl (arg_op 14 3 rfl rfl rfl rfl) (fun hb14 => ob_not (ArgOK.when (arg_op 17 0 rfl rfl rfl rfl) hb14)) ?_
    refine ch rfl (ob_or (arg_op 14 4 rfl rfl rfl rfl) (arg_op 18 0 rfl rfl rfl rfl)) ?_
    refine ch_nil ?_
    intro a607 w608 hf609 hg610 hk611 hn612
    have h613 : Holds _ (a607.eval (.tmp 62)) w608 := hn612.at 19 0 rfl rfl rfl
    have h614 := hk611.holds rfl h569
    have h615 := hk611.holds rfl h571
    have hv616 : Holds (Is (PtrV bk11)) (a607.eval (.tmp 3)) w608 := is_any (hk611.holds rfl hv572)
    have hb617 := hb573.up hg610
    have hv618 : Holds (Is (PtrV bk30)) (a607.eval (.tmp 4)) w608 := is_any (hk611.holds rfl hv574)
    have hb619 := hb575.up hg610
    have hv620 : Holds (Is (PtrV bk52)) (a607.eval (.tmp 5)) w608 := is_any (hk611.holds rfl hv576)
    have hb621 := hb577.up hg610
    have hv622 : Holds (Is (PtrV bk149)) (a607.eval (.tmp 7)) w608 := is_any (hk611.holds rfl hv578)
    have hb623 := hb579.up hg610
    have hv624 : Holds (Is (PtrV bk382)) (a607.eval (.tmp 11)) w608 := is_any (hk611.holds rfl hv582)
    have hb625 := hb583.up hg610
    have g626 := g586.trans hg610
    have g627 := g587.trans hg610
    have g628 := g588.trans hg610
    have g629 := g589.trans hg610
    have g630 := g590.trans hg610
    have g631 := g591.trans hg610
    have g632 := g592.trans hg610
    have g633 := g593.trans hg610
    have g634 := g594.trans hg610
    have g635 := g595.trans hg610
    have g636 := g596.trans hg610
    have g637 := g597.trans hg610
    have g638 := g598.trans hg610
    clear h569 h571 hv572 hb573 hv574 hb575 hv576 hb577 hv578 hb579 hv582 hb583 g586 g587 g588 g589 g590 g591 g592 g593 g594 g595 g596 g597 g598 hf564 hk611 hn612
    refine then_ ?_
    refine wp_if h613 ?_ ?_
    · intro hc639
      exact absurd (prove_no.symm.trans hc639) (by decide)
    · intro hc639
      refine wp_skip ?_
      refine then_ ?_
      refine wp_seq ?_
      have g640 : Grow w608 w608 := Grow.refl _
      have hl641 : bk11 < w608.heap.size := hb617.lt
      have hl642 : bk30 < w608.heap.size := hb619.lt
      have hl643 : bk52 < w608.heap.size := hb621.lt
      have hl644 : bk149 < w608.heap.size := hb623.lt
      have hl645 : bk382 < w608.heap.size := hb625.lt
      have hz646 : w563.heap.size ≤ w608.heap.size := g638.size
      refine wp_region_lit ?_
      refine wp_seg (l1 := [_, _]) [([3], []), ([], [0])] [3, 4, 5, 7, 8, 11, 12] w608.heap.size hf609 g640.size (by kernel_rfl) (bund_cons (hb617.ownp hv616) bund_nil) ?_
      refine ch rfl (ob_load_state (ArgOK.ownp (arg_free 0 rfl rfl))) ?_
      refine ch rfl (ob_call1 (by kernel_rfl) (c_rRootS ?_) (ArgOK.val (arg_op 0 0 rfl rfl rfl rfl) (mkFs (s := s) (hva0.up g626) (hvb0.up g626) (hvc0.up g626) (hvd0.up g626)))) ?_
      · assumption
      refine ch_nil ?_
      intro a647 w648 hf649 hg650 hk651 hn652
      have h653 : Holds _ (a647.eval (.tmp 64)) w648 := hn652.at 1 0 rfl rfl rfl
      have h654 := hk651.holds rfl h614
      have h655 := hk651.holds rfl h615
      have hv656 : Holds (Is (PtrV bk11)) (a647.eval (.tmp 3)) w648 := is_any (hk651.holds rfl hv616)
      have hb657 := hb617.up hg650
      have hv658 : Holds (Is (PtrV bk30)) (a647.eval (.tmp 4)) w648 := is_any (hk651.holds rfl hv618)
      have hb659 := hb619.up hg650
      have hv660 : Holds (Is (PtrV bk52)) (a647.eval (.tmp 5)) w648 := is_any (hk651.holds rfl hv620)
      have hb661 := hb621.up hg650
      have hv662 : Holds (Is (PtrV bk149)) (a647.eval (.tmp 7)) w648 := is_any (hk651.holds rfl hv622)
      have hb663 := hb623.up hg650
      have hv664 : Holds (Is (PtrV bk382)) (a647.eval (.tmp 11)) w648 := is_any (hk651.holds rfl hv624)
      have hb665 := hb625.up hg650
      have g666 := g626.trans hg650
      have g667 := g627.trans hg650
      have g668 := g628.trans hg650
      have g669 := g629.trans hg650
      have g670 := g630.trans hg650
      have g671 := g631.trans hg650
      have g672 := g632.trans hg650
      have g673 := g633.trans hg650
      have g674 := g634.trans hg650
      have g675 := g635.trans hg650
      have g676 := g636.trans hg650
      have g677 := g637.trans hg650
      have g678 := g638.trans hg650
      have g679 := g640.trans hg650
      clear h614 h615 hv616 hb617 hv618 hb619 hv620 hb621 hv622 hb623 hv624 hb625 g626 g627 g628 g629 g630 g631 g632 g633 g634 g635 g636 g637 g638 g640 hf609 hk651 hn652
      have g680 : Grow w648 w648 := Grow.refl _
      have hl681 : bk11 < w648.heap.size := hb657.lt
      have hl682 : bk30 < w648.heap.size := hb659.lt
      have hl683 : bk52 < w648.heap.size := hb661.lt
      have hl684 : bk149 < w648.heap.size := hb663.lt
      have hl685 : bk382 < w648.heap.size := hb665.lt
      have hz686 : w608.heap.size ≤ w648.heap.size := g679.size
      refine wp_seg (l1 := [_]) [([], [])] [3, 4, 5, 7, 8, 11, 12, 64] w648.heap.size hf649 g680.size (by kernel_rfl) bund_nil ?_
      refine ch rfl (ob_alloc_nm) ?_
      refine ch_nil ?_
      intro a687 w688 hf689 hg690 hk691 hn692
      have h693 : Holds _ (a687.eval (.tmp 15)) w688 := hn692.at 0 0 rfl rfl rfl
      have h694 := hk691.holds rfl h653
      have h695 := hk691.holds rfl h654
      have h696 := hk691.holds rfl h655
      have hv697 : Holds (Is (PtrV bk11)) (a687.eval (.tmp 3)) w688 := is_any (hk691.holds rfl hv656)
      have hb698 := hb657.up hg690
      have hv699 : Holds (Is (PtrV bk30)) (a687.eval (.tmp 4)) w688 := is_any (hk691.holds rfl hv658)
      have hb700 := hb659.up hg690
      have hv701 : Holds (Is (PtrV bk52)) (a687.eval (.tmp 5)) w688 := is_any (hk691.holds rfl hv660)
      have hb702 := hb661.up hg690
      have hv703 : Holds (Is (PtrV bk149)) (a687.eval (.tmp 7)) w688 := is_any (hk691.holds rfl hv662)
      have hb704 := hb663.up hg690
      have hv705 : Holds (Is (PtrV bk382)) (a687.eval (.tmp 11)) w688 := is_any (hk691.holds rfl hv664)
      have hb706 := hb665.up hg690
      have g707 := g666.trans hg690
      have g708 := g667.trans hg690
      have g709 := g668.trans hg690
      have g710 := g669.trans hg690
      have g711 := g670.trans hg690
      have g712 := g671.trans hg690
      have g713 := g672.trans hg690
      have g714 := g673.trans hg690
      have g715 := g674.trans hg690
      have g716 := g675.trans hg690
      have g717 := g676.trans hg690
      have g718 := g677.trans hg690
      have g719 := g678.trans hg690
      have g720 := g679.trans hg690
      have g721 := g680.trans hg690
      obtain ⟨bk722, hl723, hv724, hb725⟩ := OwnB.blk (lo := w648.heap.size) h693
      clear h653 h654 h655 hv656 hb657 hv658 hb659 hv660 hb661 hv662 hb663 hv664 hb665 g666 g667 g668 g669 g670 g671 g672 g673 g674 g675 g676 g677 g678 g679 g680 hf649 hk691 hn692
      refine wl_store_nm hv724 hb725 rfl (is_any h694) ?_
      intro w726 ho727 hb728
      have g729 : Grow w0 w726 := g707.only ho727 (by omega)
      have g730 : Grow w2 w726 := g708.only ho727 (by omega)
      have g731 : Grow w19 w726 := g709.only ho727 (by omega)
      have g732 : Grow w39 w726 := g710.only ho727 (by omega)
      have g733 : Grow w62 w726 := g711.only ho727 (by omega)
      have g734 : Grow w102 w726 := g712.only ho727 (by omega)
      have g735 : Grow w170 w726 := g713.only ho727 (by omega)
      have g736 : Grow w197 w726 := g714.only ho727 (by omega)
      have g737 : Grow w280 w726 := g715.only ho727 (by omega)
      have g738 : Grow w313 w726 := g716.only ho727 (by omega)
      have g739 : Grow w411 w726 := g717.only ho727 (by omega)
      have g740 : Grow w450 w726 := g718.only ho727 (by omega)
      have g741 : Grow w563 w726 := g719.only ho727 (by omega)
      have g742 : Grow w608 w726 := g720.only ho727 (by omega)
      have g743 : Grow w648 w726 := g721.only ho727 (by omega)
      have hv744 : Holds (Is (PtrV bk11)) (a687.eval (.tmp 3)) w726 := is_any hv697
      have hb745 : Blk bk11 _ w726 := hb698.only ho727 (by omega)
      have hv746 : Holds (Is (PtrV bk30)) (a687.eval (.tmp 4)) w726 := is_any hv699
      have hb747 : Blk bk30 _ w726 := hb700.only ho727 (by omega)
      have hv748 : Holds (Is (PtrV bk52)) (a687.eval (.tmp 5)) w726 := is_any hv701
      have hb749 : Blk bk52 _ w726 := hb702.only ho727 (by omega)
      have hv750 : Holds (Is (PtrV bk149)) (a687.eval (.tmp 7)) w726 := is_any hv703
      have hb751 : Blk bk149 _ w726 := hb704.only ho727 (by omega)
      have hv752 : Holds (Is (PtrV bk382)) (a687.eval (.tmp 11)) w726 := is_any hv705
      have hb753 : Blk bk382 _ w726 := hb706.only ho727 (by omega)
      have hv754 : Holds (Is (PtrV bk722)) (a687.eval (.tmp 15)) w726 := is_any hv724
      refine wpList_nil ?_
      refine then_ ?_
      refine wp_seq ?_
      have g755 : Grow w726 w726 := Grow.refl _
      have hl756 : bk11 < w726.heap.size := hb745.lt
      have hl757 : bk30 < w726.heap.size := hb747.lt
      have hl758 : bk52 < w726.heap.size := hb749.lt
      have hl759 : bk149 < w726.heap.size := hb751.lt
      have hl760 : bk382 < w726.heap.size := hb753.lt
      have hl761 : bk722 < w726.heap.size := hb728.lt
      have hz762 : w648.heap.size ≤ w726.heap.size := g743.size
      refine wp_calm [0, 1, 3, 7, 7, 7, 7, 103, 247, 7, 1023, 2047, 4095, 8191, 16383, 32767, 65535, 65535, 65535, 524287, 1048575, 2097151, 4194303, 8388607, 16777215, 33554431] [([8], []), ([], [0]), ([], [1]), ([15], [2]), ([4], [2]), ([3], [2]), ([4], [2]), ([], [5, 6, 2]), ([], [4, 7, 2]), ([7], [2]), ([], [3, 8, 9, 2]), ([], [2, 10]), ([], [11]), ([12], [12]), ([], [13, 12]), ([], [14, 12]), ([15], [15]), ([5], [15]), ([11], [15]), ([], [16, 17, 18, 15]), ([], [15, 19, 12]), ([], [12, 20]), ([], [21]), ([], [22]), ([], [22, 23]), ([], [24])] [] w726.heap.size hf689 g755.size (by kernel_rfl) (bund_cons (is_any h696) (bund_cons (hb728.ownp hv754) (bund_cons (hb747.ownp hv746) (bund_cons (hb745.ownp hv744) (bund_cons (hb751.ownp hv750) (bund_cons (is_any h695) (bund_cons (hb749.ownp hv748) (bund_cons (hb753.ownp hv752) bund_nil)))))))) ?_
      intro ws763 hs764
      refine ch rfl (ob_move (arg_free 0 rfl rfl)) ?_
      refine ch rfl (ob_neq (arg_op 0 0 rfl rfl rfl rfl) arg_c) ?_
      refine ch rfl (ob_move (arg_op 1 0 rfl rfl rfl rfl)) ?_
      refine chg (b := _) rfl rfl (arg_op 2 0 rfl rfl rfl rfl) (fun hb2 => ob_load_nm (ArgOK.ownp (arg_free 1 rfl rfl))) ?_
      refine chg (b := _) rfl rfl (arg_op 2 1 rfl rfl rfl rfl) (fun hb2 => ob_load_cell (ArgOK.ownp (arg_free 2 rfl rfl))) ?_
      refine chg (b := _) rfl rfl (arg_op 2 2 rfl rfl rfl rfl) (fun hb2 => ob_load_state (ArgOK.ownp (arg_free 3 rfl rfl))) ?_
      refine chg (b := _) rfl rfl (arg_op 2 3 rfl rfl rfl rfl) (fun hb2 => ob_load_cell (ArgOK.ownp (arg_free 2 rfl rfl))) ?_
      refine chg (b := _) rfl rfl (arg_op 2 4 rfl rfl rfl rfl) (fun hb2 => ob_call2 (by kernel_rfl) (c_rGet ?_) (ArgOK.val (ArgOK.when (arg_op 5 1 rfl rfl rfl rfl) hb2) (mkFs (s := s) ((hva0.up g729).up hs764) ((hvb0.up g729).up hs764) ((hvc0.up g729).up hs764) ((hvd0.up g729).up hs764))) (ArgOK.when (arg_op 6 0 rfl rfl rfl rfl) hb2)) ?_
      · assumption
      refine chg (b := _) rfl rfl (arg_op 2 5 rfl rfl rfl rfl) (fun hb2 => ob_build_delta (getL s.cells c) (ArgOK.when (arg_op 4 3 rfl rfl rfl rfl) hb2) (ArgOK.when (arg_op 7 0 rfl rfl rfl rfl) hb2) ?_) ?_
      · rfl
      refine chg (b := _) rfl rfl (arg_op 2 6 rfl rfl rfl rfl) (fun hb2 => ob_load_inc (ArgOK.ownp (arg_free 4 rfl rfl))) ?_
      refine chg (b := _) rfl rfl (arg_op 2 7 rfl rfl rfl rfl) (fun hb2 => ob_call3 (by kernel_rfl) (c_CheckCell ?_ ?_) (ArgOK.when (arg_op 3 6 rfl rfl rfl rfl) hb2) (ArgOK.when (arg_op 8 1 rfl rfl rfl rfl) hb2) (ArgOK.val (ArgOK.when (arg_op 9 0 rfl rfl rfl rfl) hb2) (mkIF ((OwnS.sl (hV122.up g734)).up hs764)))) ?_
      · exact (prvI_in hs fnd_ge).1
      · exact (prvI_in hs fnd_ge).2
      refine ch rfl (ob_or (arg_op 2 8 rfl rfl rfl rfl) (arg_op 10 0 rfl rfl rfl rfl)) ?_
      refine ch rfl (ob_move (arg_op 11 0 rfl rfl rfl rfl)) ?_
      refine chg (b := _) rfl rfl (arg_op 12 0 rfl rfl rfl rfl) (fun hb12 => ob_move (arg_free 5 rfl rfl)) ?_
      refine chg (b := _) rfl rfl (arg_op 12 1 rfl rfl rfl rfl) (fun hb12 => ob_neq (ArgOK.when (arg_op 13 0 rfl rfl rfl rfl) hb12) arg_c) ?_
      refine chg (b := _) rfl rfl (arg_op 12 2 rfl rfl rfl rfl) (fun hb12 => ob_move (ArgOK.when (arg_op 14 0 rfl rfl rfl rfl) hb12)) ?_
      refine chgn (b := _) rfl rfl (arg_op 15 0 rfl rfl rfl rfl) (fun ⟨hb12, hb15⟩ => ob_load_nm (ArgOK.ownp (arg_free 1 rfl rfl))) ?_
      refine chgn (b := _) rfl rfl (arg_op 15 1 rfl rfl rfl rfl) (fun ⟨hb12, hb15⟩ => ob_load_nm (ArgOK.ownp (arg_free 6 rfl rfl))) ?_
      refine chgn (b := _) rfl rfl (arg_op 15 2 rfl rfl rfl rfl) (fun ⟨hb12, hb15⟩ => ob_load_inc (ArgOK.ownp (arg_free 7 rfl rfl))) ?_
      refine chgn (b := _) rfl rfl (arg_op 15 3 rfl rfl rfl rfl) (fun ⟨hb12, hb15⟩ => ob_call3 (by kernel_rfl) (c_CheckApplied ?_ ?_) (ArgOK.when (arg_op 16 2 rfl rfl rfl rfl) ⟨hb12, hb15⟩) (ArgOK.when (arg_op 17 1 rfl rfl rfl rfl) ⟨hb12, hb15⟩) (ArgOK.val (ArgOK.when (arg_op 18 0 rfl rfl rfl rfl) ⟨hb12, hb15⟩) (mkIF ((OwnS.sl (hV343.up g738)).up hs764)))) ?_
      · exact (prvI_in hs appI_ge).1
      · exact (prvI_in hs appI_ge).2
      refine chg (b := _) rfl rfl (arg_op 12 7 rfl rfl rfl rfl) (fun hb12 => ob_or (ArgOK.when (arg_op 15 4 rfl rfl rfl rfl) hb12) (ArgOK.whenAnd (arg_op 19 0 rfl rfl rfl rfl) hb12)) ?_
      refine ch rfl (ob_and (arg_op 12 8 rfl rfl rfl rfl) (arg_op 20 0 rfl rfl rfl rfl)) ?_
      refine ch rfl (ob_move (arg_op 21 0 rfl rfl rfl rfl)) ?_
      refine chg (b := _) rfl rfl (arg_op 22 0 rfl rfl rfl rfl) (fun hb22 => ob_call0 (by kernel_rfl) (c_awake21) ) ?_
      refine ch rfl (ob_and (arg_op 22 1 rfl rfl rfl rfl) (arg_op 23 0 rfl rfl rfl rfl)) ?_
      refine ch rfl (ob_assign (arg_op 24 0 rfl rfl rfl rfl)) ?_
      refine ch_nil ?_
      intro a765 w766 hf767 hg768 hk769 hn770
      have h771 : Holds _ (a765.eval (.tmp 6)) w766 := hn770.at 25 0 rfl rfl rfl
      have g772 := g729.trans hg768
      have g773 := g730.trans hg768
      have g774 := g731.trans hg768
      have g775 := g732.trans hg768
      have g776 := g733.trans hg768
      have g777 := g734.trans hg768
      have g778 := g735.trans hg768
      have g779 := g736.trans hg768
      have g780 := g737.trans hg768
      have g781 := g738.trans hg768
      have g782 := g739.trans hg768
      have g783 := g740.trans hg768
      have g784 := g741.trans hg768
      have g785 := g742.trans hg768
      have g786 := g743.trans hg768
      have g787 := g755.trans hg768
      clear g729 g730 g731 g732 g733 g734 g735 g736 g737 g738 g739 g740 g741 g742 g743 g755 hf689 hk769 hn770
      refine then_ ?_
      refine wp_ret ?_
      exact ret_tmp rfl hf767 g772 (is_cast h771 (congrArg Value.bool (by first | rfl | exact prove_yes)))
end Ex
end Go.Proofs.YtnmfiiejhoafnaaGreat
