/- The leaves and the root of a state, what lies in it: of the program and of the reference. -/
import Derived.Test.YtnmfiiejhoafnaaGreatPvState4
import Derived.Test.YtnmfiiejhoafnaaGreatPvInc
set_option linter.unusedSimpArgs false
set_option linter.unusedVariables false
namespace Go.Proofs.YtnmfiiejhoafnaaGreat
namespace Ex
open Go Calm Go.RowKit
theorem lv1 (s : GState) {i : Nat} (h : s.cells.length ≤ i) : [] ++ (s.cells.take i).map leafC = s.cells.map leafC := by rw [List.take_of_length_le h]; rfl
theorem take_all {α β : Type} {f : α → β} {l : List α} {i : Nat} {p : List β} (h : l.length ≤ i) : p ++ (l.take i).map f = p ++ l.map f := by rw [List.take_of_length_le h]
theorem lv_seq {s : GState} {p : List UInt64} {i : Nat} : (p ++ seqLf s.seqs i) ++ [tagged 83 [i2b (i : Int), i2b (s.seqs.getD i default)]] = p ++ seqLf s.seqs (i + 1) := by rw [List.append_assoc]; rfl
set_option maxRecDepth 100000 in
theorem c_Leaves {s : GState} (hs : stOK s) : Con1 31 (StF s) (fun lo => OwnS lo elNm (leaves s)) := by
  intro lo v0 w0 hlo hv0
  refine enter Tryz.func31 rfl Tryz.ntmps31 (by simp) ?_
  intro a0 hf0 ha
  obtain ⟨va0, vb0, vc0, vd0, he0, hva0, hvb0, hvc0, hvd0⟩ := openF hv0
  have h00 : Holds (Is _) (a0.eval (.tmp 0)) w0 := arg_holds ha rfl he0
  clear ha
  have g0 : Grow w0 w0 := Grow.refl _
  obtain ⟨hs1, hs2, hs3, hs4⟩ := id hs
  refine wp_seq ?_
  refine wp_region_lit ?_
  refine wp_all [([0], []), ([], [])] [] w0.heap.size hf0 g0.size (by kernel_rfl) (bund_cons h00 bund_nil) ?_
  refine ch rfl (ob_box_state (arg_free 0 rfl rfl)) ?_
  refine ch rfl (ob_assign (arg_cg (G := Any) (fun w => trivial))) ?_
  refine ch_nil ?_
  intro a1 w2 hf3 hg4 hk5 hn6
  have h7 : Holds _ (a1.eval (.tmp 1)) w2 := hn6.at 0 1 rfl rfl rfl
  have g8 := g0.trans hg4
  obtain ⟨bk9, hl10, hv11, hb12⟩ := OwnB.blk (lo := w0.heap.size) h7
  clear g0 hf0 hk5 hn6
  refine then_ ?_
  refine wp_seq ?_
  have g13 : Grow w2 w2 := Grow.refl _
  have hl14 : bk9 < w2.heap.size := hb12.lt
  have hz15 : w0.heap.size ≤ w2.heap.size := g8.size
  refine wp_region_lit ?_
  refine wp_all [([], [])] [1] w2.heap.size hf3 g13.size (by kernel_rfl) bund_nil ?_
  refine ch rfl (ob_assign (arg_cg (G := OwnS w2.heap.size elNm []) (fun w => own_nil))) ?_
  refine ch_nil ?_
  intro a16 w17 hf18 hg19 hk20 hn21
  have h22 : Holds (OwnS w2.heap.size _ _) (a16.eval (.tmp 3)) w17 := hn21.at 0 0 rfl rfl rfl
  have hv23 : Holds (Is (PtrV bk9)) (a16.eval (.tmp 1)) w17 := is_any (hk20.holds rfl hv11)
  have hb24 := hb12.up hg19
  have g25 := g8.trans hg19
  have g26 := g13.trans hg19
  clear hv11 hb12 g8 g13 hf3 hk20 hn21
  obtain ⟨V27, h28, hV29⟩ := nameV h22
  clear h22
  refine then_ ?_
  refine wp_seq ?_
  refine wp_seq ?_
  refine wp_region_lit ?_
  refine wp_all [([1], []), ([], [0]), ([], [1]), ([], [])] [1, 3] w2.heap.size hf18 g26.size (by kernel_rfl) (bund_cons (hb24.ownp hv23) bund_nil) ?_
  refine ch rfl (ob_faP (n := 0) (arg_free 0 rfl rfl) Tryz.underlying28 rfl (by kernel_rfl)) ?_
  refine ch rfl (ob_loadP (arg_op 0 0 rfl rfl rfl rfl) Tryz.underlying22 rfl rfl) ?_
  refine ch rfl (ob_len (ArgOK.val (arg_op 1 0 rfl rfl rfl rfl) (hva0.up g25)) Tryz.underlying22) ?_
  refine ch rfl (ob_move arg_c) ?_
  refine ch_nil ?_
  intro a30 w31 hf32 hg33 hk34 hn35
  have h36 : Holds _ (a30.eval (.tmp 13)) w31 := hn35.at 1 2 rfl rfl rfl
  have h37 : Holds _ (a30.eval (.tmp 14)) w31 := hn35.at 2 1 rfl rfl rfl
  have h38 : Holds _ (a30.eval (.tmp 15)) w31 := hn35.at 3 0 rfl rfl rfl
  have h39 := hk34.holds rfl (h28.up hg33)
  have hv40 : Holds (Is (PtrV bk9)) (a30.eval (.tmp 1)) w31 := is_any (hk34.holds rfl hv23)
  have hb41 := hb24.up hg33
  have g42 := g25.trans hg33
  have g43 := g26.trans hg33
  have hV44 := hV29.up hg33
  clear h28 hv23 hb24 g25 g26 hf18 hk34 hn35 hg33 hV29
  refine then_ ?_
  refine wp_block ?_
  refine wp_loopL (α := Nat) (fun i a' w' => Fr 77 a' ∧ (i ≤ s.cells.length) ∧ Grow w0 w' ∧ Grow w2 w' ∧ Keep [1, 13, 14] a30 a' ∧ Holds (OwnS w2.heap.size elNm (([]) ++ (s.cells.take i).map leafC)) (a'.eval (.tmp 3)) w' ∧ Holds (Is (intV (i : Int))) (a'.eval (.tmp 15)) w' ∧ Blk bk9 (_) w') (fun i => s.cells.length - i) (0) ⟨hf32, (by ((try dsimp only); omega)), g42, g43, Keep.refl _ _, (cast_own rfl (unV h39 hV44)), (is_cast h38 (by first | rfl | (refine congrArg intV ?_; (try dsimp only); omega))), hb41⟩ ?_
  intro i a45 w46 ⟨hf47, hi49, g50, g51, kk48, h52, h53, hb54⟩
  have h55 : Holds _ (a45.eval (.tmp 13)) w46 := is_any (kk48.holds rfl h36)
  have h56 : Holds _ (a45.eval (.tmp 14)) w46 := is_any (kk48.holds rfl h37)
  have hv57 : Holds (Is (PtrV bk9)) (a45.eval (.tmp 1)) w46 := is_any (kk48.holds rfl hv40)
  obtain ⟨V58, h59, hV60⟩ := nameV h52
  clear h52
  refine wp_seq ?_
  refine wp_region_lit ?_
  refine wp_all [([15, 14], [])] [1, 3, 13, 14, 15] w2.heap.size hf47 g51.size (by kernel_rfl) (bund_cons h53 (bund_cons h56 bund_nil)) ?_
  refine ch rfl (ob_lss (arg_free 0 rfl rfl) (arg_free 1 rfl rfl)) ?_
  refine ch_nil ?_
  intro a61 w62 hf63 hg64 hk65 hn66
  have h67 : Holds _ (a61.eval (.tmp 16)) w62 := hn66.at 0 0 rfl rfl rfl
  have h68 := hk65.holds rfl (h59.up hg64)
  have h69 := hk65.holds rfl (h53.up hg64)
  have h70 := hk65.holds rfl (h55.up hg64)
  have h71 := hk65.holds rfl (h56.up hg64)
  have hv72 : Holds (Is (PtrV bk9)) (a61.eval (.tmp 1)) w62 := is_any (hk65.holds rfl hv57)
  have hb73 := hb54.up hg64
  have g74 := g50.trans hg64
  have g75 := g51.trans hg64
  have kk76 : Keep _ a30 a61 := kk48.trans hk65 rfl
  have hV77 := hV60.up hg64
  clear h59 h53 h55 h56 hv57 hb54 g50 g51 kk48 hf47 hk65 hn66 hg64 hV60
  refine then_ ?_
  refine wp_seq ?_
  refine wp_if h67 ?_ ?_
  · intro hc78
    try simp only [cond_norm] at hc78
    refine wp_skip ?_
    refine then_ ?_
    refine wp_seq ?_
    refine wp_block ?_
    refine wp_seq ?_
    have g79 : Grow w62 w62 := Grow.refl _
    have hl80 : bk9 < w62.heap.size := hb73.lt
    have hz81 : w2.heap.size ≤ w62.heap.size := g75.size
    refine wp_region_lit ?_
    refine wp_seg (l1 := [_, _, _]) [([13, 15], []), ([], [0]), ([], [])] [1, 3, 13, 14, 15] w62.heap.size hf63 g79.size (by kernel_rfl) (bund_cons h70 (bund_cons h69 bund_nil)) ?_
    refine ch rfl (ob_ix (ArgOK.val (arg_free 0 rfl rfl) (hva0.up g74)) (arg_free 1 rfl rfl) (rfl) ?_ Tryz.underlying22 szDelta) ?_
    · omega
    refine ch rfl (ob_load_delta (arg_op 0 0 rfl rfl rfl rfl)) ?_
    refine ch rfl (ob_alloc_delta) ?_
    refine ch_nil ?_
    intro a82 w83 hf84 hg85 hk86 hn87
    have h88 : Holds _ (a82.eval (.tmp 18)) w83 := hn87.at 1 1 rfl rfl rfl
    have h89 : Holds _ (a82.eval (.tmp 5)) w83 := hn87.at 2 0 rfl rfl rfl
    have h90 := hk86.holds rfl h68
    have h91 := hk86.holds rfl h69
    have h92 := hk86.holds rfl h70
    have h93 := hk86.holds rfl h71
    have hv94 : Holds (Is (PtrV bk9)) (a82.eval (.tmp 1)) w83 := is_any (hk86.holds rfl hv72)
    have hb95 := hb73.up hg85
    have g96 := g74.trans hg85
    have g97 := g75.trans hg85
    have g98 := g79.trans hg85
    have kk99 : Keep _ a30 a82 := kk76.trans hk86 rfl
    obtain ⟨bk100, hl101, hv102, hb103⟩ := OwnB.blk (lo := w62.heap.size) h89
    clear h68 h69 h70 h71 hv72 hb73 g74 g75 g79 kk76 hf63 hk86 hn87
    refine wl_store_delta hv102 hb103 rfl h88 ?_
    intro w104 ho105 hb106
    have g107 : Grow w0 w104 := g96.only ho105 (by omega)
    have g108 : Grow w2 w104 := g97.only ho105 (by omega)
    have g109 : Grow w62 w104 := g98.only ho105 (by omega)
    have hv110 : Holds (Is (PtrV bk9)) (a82.eval (.tmp 1)) w104 := is_any hv94
    have hb111 : Blk bk9 _ w104 := hb95.only ho105 (by omega)
    have hv112 : Holds (Is (PtrV bk100)) (a82.eval (.tmp 5)) w104 := is_any hv102
    refine wpList_nil ?_
    refine then_ ?_
    have g113 : Grow w104 w104 := Grow.refl _
    have hl114 : bk9 < w104.heap.size := hb111.lt
    have hl115 : bk100 < w104.heap.size := hb106.lt
    have hz116 : w62.heap.size ≤ w104.heap.size := g109.size
    refine wp_region_lit ?_
    refine wp_seg (l1 := [_, _, _, _]) [([3], []), ([5], []), ([], [1]), ([], [2])] [1, 3, 13, 14, 15] w104.heap.size hf84 g113.size (by kernel_rfl) (bund_cons (is_any h90) (bund_cons (hb106.ownp hv112) bund_nil)) ?_
    refine ch rfl (ob_move (arg_free 0 rfl rfl)) ?_
    refine ch rfl (ob_load_delta (ArgOK.ownp (arg_free 1 rfl rfl))) ?_
    refine ch rfl (ob_call1 (by kernel_rfl) (c_leafCell) (arg_op 1 0 rfl rfl rfl rfl)) ?_
    refine ch rfl (ob_bs1_nm (arg_op 2 0 rfl rfl rfl rfl)) ?_
    refine ch_nil ?_
    intro a117 w118 hf119 hg120 hk121 hn122
    have h123 : Holds _ (a117.eval (.tmp 19)) w118 := hn122.at 0 3 rfl rfl rfl
    have h124 : Holds (OwnF w104.heap.size _ _) (a117.eval (.tmp 22)) w118 := hn122.at 3 0 rfl rfl rfl
    have h125 := hk121.holds rfl h90
    have h126 := hk121.holds rfl h91
    have h127 := hk121.holds rfl h92
    have h128 := hk121.holds rfl h93
    have hv129 : Holds (Is (PtrV bk9)) (a117.eval (.tmp 1)) w118 := is_any (hk121.holds rfl hv110)
    have hb130 := hb111.up hg120
    have g131 := g107.trans hg120
    have g132 := g108.trans hg120
    have g133 := g109.trans hg120
    have g134 := g113.trans hg120
    have kk135 : Keep _ a30 a117 := kk99.trans hk121 rfl
    clear h90 h91 h92 h93 hv110 hb111 g107 g108 g109 g113 kk99 hf84 hk121 hn122
    obtain ⟨V136, h137, hV138⟩ := nameV h124
    clear h124
    refine wl_appendW elNmP [1, 3, 13, 14, 15] hf119 (by kernel_rfl) rfl Tryz.underlying25 (unV h123 (hV77.up g133)) (OwnS.sl (OwnF.own (unV h137 hV138))) ?_ ?_ g132.size ?_
    · (simp only [List.length_append, List.length_cons, List.length_nil, List.length_map, List.length_take, seqLf_len, maxLen, elNm]; omega)
    · (simp only [List.length_append, List.length_cons, List.length_nil, List.length_map, List.length_take, seqLf_len, maxLen, elNm]; omega)
    intro a139 w140 hf141 hw142 hk143 h144
    have g145 : Grow w0 w140 := g131.wr hw142 (by omega)
    have g146 : Grow w2 w140 := g132.wr hw142 (by omega)
    have g147 : Siz w62 w140 := Siz.below g133.size hw142.below
    have g148 : Siz w104 w140 := Siz.below g134.size hw142.below
    have h149 : Holds _ (a139.eval (.tmp 3)) w140 := is_any (hk143.holds rfl h125)
    have h150 : Holds _ (a139.eval (.tmp 15)) w140 := is_any (hk143.holds rfl h126)
    have h151 : Holds _ (a139.eval (.tmp 13)) w140 := is_any (hk143.holds rfl h127)
    have h152 : Holds _ (a139.eval (.tmp 14)) w140 := is_any (hk143.holds rfl h128)
    have hv153 : Holds (Is (PtrV bk9)) (a139.eval (.tmp 1)) w140 := is_any (hk143.holds rfl hv129)
    have hb154 : Blk bk9 _ w140 := hb130.wr hw142 (by omega)
    have kk155 : Keep _ a30 a139 := kk135.trans hk143 rfl
    obtain ⟨V156, h157, hV158⟩ := nameV h144
    clear h144
    refine wp_all [([23], [])] [1, 13, 14, 15] w104.heap.size hf141 g148.size (by kernel_rfl) (bund_cons h157 bund_nil) ?_
    refine ch rfl (ob_assign (arg_free 0 rfl rfl)) ?_
    refine ch_nil ?_
    intro a159 w160 hf161 hg162 hk163 hn164
    have h165 : Holds _ (a159.eval (.tmp 3)) w160 := hn164.at 0 0 rfl rfl rfl
    have h166 := hk163.holds rfl (h150.up hg162)
    have h167 := hk163.holds rfl (h151.up hg162)
    have h168 := hk163.holds rfl (h152.up hg162)
    have hv169 : Holds (Is (PtrV bk9)) (a159.eval (.tmp 1)) w160 := is_any (hk163.holds rfl hv153)
    have hb170 := hb154.up hg162
    have g171 := g145.trans hg162
    have g172 := g146.trans hg162
    have g173 : Siz w62 w160 := g147.trans hg162
    have g174 : Siz w104 w160 := g148.trans hg162
    have kk175 : Keep _ a30 a159 := kk155.trans hk163 rfl
    have hV176 := hV158.up hg162
    clear h150 h151 h152 hv153 hb154 g145 g146 g147 g148 kk155 hf141 hk163 hn164 hg162 hV158
    refine blockN ?_
    refine then_ ?_
    refine wp_region_lit ?_
    refine wp_all [([15], []), ([], [0])] [1, 3, 13, 14] w104.heap.size hf161 g174.size (by kernel_rfl) (bund_cons h166 bund_nil) ?_
    first
      | (refine ch rfl (ob_add' (arg_free 0 rfl rfl) arg_c ?_) ?_; · omega)
      | refine ch rfl (ob_add (arg_free 0 rfl rfl) arg_c) ?_
    refine ch rfl (ob_move (arg_op 0 0 rfl rfl rfl rfl)) ?_
    refine ch_nil ?_
    intro a177 w178 hf179 hg180 hk181 hn182
    have h183 : Holds _ (a177.eval (.tmp 15)) w178 := hn182.at 1 0 rfl rfl rfl
    have h184 := hk181.holds rfl (h165.up hg180)
    have h185 := hk181.holds rfl (h167.up hg180)
    have h186 := hk181.holds rfl (h168.up hg180)
    have hv187 : Holds (Is (PtrV bk9)) (a177.eval (.tmp 1)) w178 := is_any (hk181.holds rfl hv169)
    have hb188 := hb170.up hg180
    have g189 := g171.trans hg180
    have g190 := g172.trans hg180
    have g191 : Siz w62 w178 := g173.trans hg180
    have g192 : Siz w104 w178 := g174.trans hg180
    have kk193 : Keep _ a30 a177 := kk175.trans hk181 rfl
    have hV194 := hV176.up hg180
    clear h165 h167 h168 hv169 hb170 g171 g172 g173 g174 kk175 hf161 hk181 hn182 hg180 hV176
    refine then_ ?_
    exact ⟨(i + 1), (by ((try dsimp only); omega)), hf179, (by ((try dsimp only); omega)), g189, g190, kk193, (cast_own (map_step (by omega)) (unV h184 hV194)), (is_cast h183 (by first | rfl | (refine congrArg intV ?_; (try dsimp only); omega))), hb188⟩
  · intro hc78
    try simp only [cond_norm] at hc78
    have he1 : s.cells.length ≤ i := by omega
    refine wp_exit ?_
    refine thenX ?_
    refine thenX ?_
    refine blockX ?_
    refine then_ ?_
    refine wp_seq ?_
    refine wp_seq ?_
    refine wp_region_lit ?_
    refine wp_all [([1], []), ([], [0]), ([], [1]), ([], [])] [1, 3] w2.heap.size hf63 g75.size (by kernel_rfl) (bund_cons (hb73.ownp hv72) bund_nil) ?_
    refine ch rfl (ob_faP (n := 0) (arg_free 0 rfl rfl) Tryz.underlying28 rfl (by kernel_rfl)) ?_
    refine ch rfl (ob_loadP (arg_op 0 0 rfl rfl rfl rfl) Tryz.underlying23 rfl rfl) ?_
    refine ch rfl (ob_len (ArgOK.val (arg_op 1 0 rfl rfl rfl rfl) (hvb0.up g74)) Tryz.underlying23) ?_
    refine ch rfl (ob_move arg_c) ?_
    refine ch_nil ?_
    intro a195 w196 hf197 hg198 hk199 hn200
    have h201 : Holds _ (a195.eval (.tmp 26)) w196 := hn200.at 1 2 rfl rfl rfl
    have h202 : Holds _ (a195.eval (.tmp 27)) w196 := hn200.at 2 1 rfl rfl rfl
    have h203 : Holds _ (a195.eval (.tmp 28)) w196 := hn200.at 3 0 rfl rfl rfl
    have h204 := hk199.holds rfl (h68.up hg198)
    have hv205 : Holds (Is (PtrV bk9)) (a195.eval (.tmp 1)) w196 := is_any (hk199.holds rfl hv72)
    have hb206 := hb73.up hg198
    have g207 := g74.trans hg198
    have g208 := g75.trans hg198
    have hV209 := hV77.up hg198
    clear h68 hv72 hb73 g74 g75 hf63 hk199 hn200 hg198 hV77
    refine then_ ?_
    refine wp_block ?_
    refine wp_loopL (α := Nat) (fun i a' w' => Fr 77 a' ∧ (i ≤ s.seqs.length) ∧ Grow w0 w' ∧ Grow w2 w' ∧ Keep [1, 26, 27] a195 a' ∧ Holds (OwnS w2.heap.size elNm ((s.cells.map leafC) ++ seqLf s.seqs i)) (a'.eval (.tmp 3)) w' ∧ Holds (Is (intV (i : Int))) (a'.eval (.tmp 28)) w' ∧ Blk bk9 (_) w') (fun i => s.seqs.length - i) (0) ⟨hf197, (by ((try dsimp only); omega)), g207, g208, Keep.refl _ _, (cast_own (by rw [lv1 s (by omega)]; exact (List.append_nil _).symm) (unV h204 hV209)), (is_cast h203 (by first | rfl | (refine congrArg intV ?_; (try dsimp only); omega))), hb206⟩ ?_
    intro i a210 w211 ⟨hf212, hi214, g215, g216, kk213, h217, h218, hb219⟩
    have h220 : Holds _ (a210.eval (.tmp 26)) w211 := is_any (kk213.holds rfl h201)
    have h221 : Holds _ (a210.eval (.tmp 27)) w211 := is_any (kk213.holds rfl h202)
    have hv222 : Holds (Is (PtrV bk9)) (a210.eval (.tmp 1)) w211 := is_any (kk213.holds rfl hv205)
    obtain ⟨V223, h224, hV225⟩ := nameV h217
    clear h217
    refine wp_seq ?_
    refine wp_region_lit ?_
    refine wp_all [([28, 27], [])] [1, 3, 26, 27, 28] w2.heap.size hf212 g216.size (by kernel_rfl) (bund_cons h218 (bund_cons h221 bund_nil)) ?_
    refine ch rfl (ob_lss (arg_free 0 rfl rfl) (arg_free 1 rfl rfl)) ?_
    refine ch_nil ?_
    intro a226 w227 hf228 hg229 hk230 hn231
    have h232 : Holds _ (a226.eval (.tmp 29)) w227 := hn231.at 0 0 rfl rfl rfl
    have h233 := hk230.holds rfl (h224.up hg229)
    have h234 := hk230.holds rfl (h218.up hg229)
    have h235 := hk230.holds rfl (h220.up hg229)
    have h236 := hk230.holds rfl (h221.up hg229)
    have hv237 : Holds (Is (PtrV bk9)) (a226.eval (.tmp 1)) w227 := is_any (hk230.holds rfl hv222)
    have hb238 := hb219.up hg229
    have g239 := g215.trans hg229
    have g240 := g216.trans hg229
    have kk241 : Keep _ a195 a226 := kk213.trans hk230 rfl
    have hV242 := hV225.up hg229
    clear h224 h218 h220 h221 hv222 hb219 g215 g216 kk213 hf212 hk230 hn231 hg229 hV225
    refine then_ ?_
    refine wp_seq ?_
    refine wp_if h232 ?_ ?_
    · intro hc243
      try simp only [cond_norm] at hc243
      refine wp_skip ?_
      refine then_ ?_
      refine wp_seq ?_
      refine wp_block ?_
      refine wp_seq ?_
      refine wp_region_lit ?_
      refine wp_all [([28], []), ([26, 28], []), ([], [1]), ([], [0]), ([], [2])] [1, 3, 26, 27, 28] w2.heap.size hf228 g240.size (by kernel_rfl) (bund_cons h234 (bund_cons h235 bund_nil)) ?_
      refine ch rfl (ob_move (arg_free 0 rfl rfl)) ?_
      refine ch rfl (ob_ix (ArgOK.val (arg_free 1 rfl rfl) (hvb0.up g239)) (arg_free 0 rfl rfl) (rfl) ?_ Tryz.underlying23 szInt) ?_
      · omega
      refine ch rfl (ob_load1 (arg_op 1 0 rfl rfl rfl rfl) Tryz.underlying3 rfl) ?_
      refine ch rfl (ob_assign (arg_op 0 2 rfl rfl rfl rfl)) ?_
      refine ch rfl (ob_assign (arg_op 2 1 rfl rfl rfl rfl)) ?_
      refine ch_nil ?_
      intro a244 w245 hf246 hg247 hk248 hn249
      have h250 : Holds _ (a244.eval (.tmp 6)) w245 := hn249.at 3 1 rfl rfl rfl
      have h251 : Holds _ (a244.eval (.tmp 7)) w245 := hn249.at 4 0 rfl rfl rfl
      have h252 := hk248.holds rfl (h233.up hg247)
      have h253 := hk248.holds rfl (h234.up hg247)
      have h254 := hk248.holds rfl (h235.up hg247)
      have h255 := hk248.holds rfl (h236.up hg247)
      have hv256 : Holds (Is (PtrV bk9)) (a244.eval (.tmp 1)) w245 := is_any (hk248.holds rfl hv237)
      have hb257 := hb238.up hg247
      have g258 := g239.trans hg247
      have g259 := g240.trans hg247
      have kk260 : Keep _ a195 a244 := kk241.trans hk248 rfl
      have hV261 := hV242.up hg247
      clear h233 h234 h235 h236 hv237 hb238 g239 g240 kk241 hf228 hk248 hn249 hg247 hV242
      refine then_ ?_
      have g262 : Grow w245 w245 := Grow.refl _
      have hl263 : bk9 < w245.heap.size := hb257.lt
      have hz264 : w2.heap.size ≤ w245.heap.size := g259.size
      refine wp_region_lit ?_
      refine wp_seg (l1 := [_, _, _, _, _, _, _, _]) [([3], []), ([6], []), ([], [1]), ([7], []), ([], [3]), ([], [2, 4]), ([], [5]), ([], [6])] [1, 3, 26, 27, 28] w245.heap.size hf246 g262.size (by kernel_rfl) (bund_cons h252 (bund_cons h250 (bund_cons h251 bund_nil))) ?_
      refine ch rfl (ob_move (arg_free 0 rfl rfl)) ?_
      refine ch rfl (ob_move (arg_free 1 rfl rfl)) ?_
      refine ch rfl (ob_intbyte (m := i2b (i : Int)) (arg_op 1 0 rfl rfl rfl rfl) Tryz.underlying3 Tryz.underlying5 ?_) ?_
      · exact i2b_eq _
      refine ch rfl (ob_move (arg_free 2 rfl rfl)) ?_
      refine ch rfl (ob_intbyte (m := i2b (s.seqs.getD i default)) (arg_op 3 0 rfl rfl rfl rfl) Tryz.underlying3 Tryz.underlying5 ?_) ?_
      · exact i2b_eq _
      refine ch rfl (ob_bs2_byte (arg_op 2 2 rfl rfl rfl rfl) (arg_op 4 0 rfl rfl rfl rfl)) ?_
      refine ch rfl (ob_call2 (by kernel_rfl) (c_Tagged ?_) (arg_cb 83 rfl) (ArgOK.sl (ArgOK.ownf (arg_op 5 0 rfl rfl rfl rfl)))) ?_
      · (show 2 ≤ _; decide)
      refine ch rfl (ob_bs1_nm (arg_op 6 0 rfl rfl rfl rfl)) ?_
      refine ch_nil ?_
      intro a265 w266 hf267 hg268 hk269 hn270
      have h271 : Holds _ (a265.eval (.tmp 33)) w266 := hn270.at 0 7 rfl rfl rfl
      have h272 : Holds (OwnF w245.heap.size _ _) (a265.eval (.tmp 40)) w266 := hn270.at 7 0 rfl rfl rfl
      have h273 := hk269.holds rfl h252
      have h274 := hk269.holds rfl h253
      have h275 := hk269.holds rfl h254
      have h276 := hk269.holds rfl h255
      have hv277 : Holds (Is (PtrV bk9)) (a265.eval (.tmp 1)) w266 := is_any (hk269.holds rfl hv256)
      have hb278 := hb257.up hg268
      have g279 := g258.trans hg268
      have g280 := g259.trans hg268
      have g281 := g262.trans hg268
      have kk282 : Keep _ a195 a265 := kk260.trans hk269 rfl
      clear h252 h253 h254 h255 hv256 hb257 g258 g259 g262 kk260 hf246 hk269 hn270
      obtain ⟨V283, h284, hV285⟩ := nameV h272
      clear h272
      refine wl_appendW elNmP [1, 3, 26, 27, 28] hf267 (by kernel_rfl) rfl Tryz.underlying25 (unV h271 (hV261.up g281)) (OwnS.sl (OwnF.own (unV h284 hV285))) ?_ ?_ g280.size ?_
      · (simp only [List.length_append, List.length_cons, List.length_nil, List.length_map, List.length_take, seqLf_len, maxLen, elNm]; omega)
      · (simp only [List.length_append, List.length_cons, List.length_nil, List.length_map, List.length_take, seqLf_len, maxLen, elNm]; omega)
      intro a286 w287 hf288 hw289 hk290 h291
      have g292 : Grow w0 w287 := g279.wr hw289 (by omega)
      have g293 : Grow w2 w287 := g280.wr hw289 (by omega)
      have g294 : Siz w245 w287 := Siz.below g281.size hw289.below
      have h295 : Holds _ (a286.eval (.tmp 3)) w287 := is_any (hk290.holds rfl h273)
      have h296 : Holds _ (a286.eval (.tmp 28)) w287 := is_any (hk290.holds rfl h274)
      have h297 : Holds _ (a286.eval (.tmp 26)) w287 := is_any (hk290.holds rfl h275)
      have h298 : Holds _ (a286.eval (.tmp 27)) w287 := is_any (hk290.holds rfl h276)
      have hv299 : Holds (Is (PtrV bk9)) (a286.eval (.tmp 1)) w287 := is_any (hk290.holds rfl hv277)
      have hb300 : Blk bk9 _ w287 := hb278.wr hw289 (by omega)
      have kk301 : Keep _ a195 a286 := kk282.trans hk290 rfl
      obtain ⟨V302, h303, hV304⟩ := nameV h291
      clear h291
      refine wp_all [([41], [])] [1, 26, 27, 28] w245.heap.size hf288 g294.size (by kernel_rfl) (bund_cons h303 bund_nil) ?_
      refine ch rfl (ob_assign (arg_free 0 rfl rfl)) ?_
      refine ch_nil ?_
      intro a305 w306 hf307 hg308 hk309 hn310
      have h311 : Holds _ (a305.eval (.tmp 3)) w306 := hn310.at 0 0 rfl rfl rfl
      have h312 := hk309.holds rfl (h296.up hg308)
      have h313 := hk309.holds rfl (h297.up hg308)
      have h314 := hk309.holds rfl (h298.up hg308)
      have hv315 : Holds (Is (PtrV bk9)) (a305.eval (.tmp 1)) w306 := is_any (hk309.holds rfl hv299)
      have hb316 := hb300.up hg308
      have g317 := g292.trans hg308
      have g318 := g293.trans hg308
      have g319 : Siz w245 w306 := g294.trans hg308
      have kk320 : Keep _ a195 a305 := kk301.trans hk309 rfl
      have hV321 := hV304.up hg308
      clear h296 h297 h298 hv299 hb300 g292 g293 g294 kk301 hf288 hk309 hn310 hg308 hV304
      refine blockN ?_
      refine then_ ?_
      refine wp_region_lit ?_
      refine wp_all [([28], []), ([], [0])] [1, 3, 26, 27] w245.heap.size hf307 g319.size (by kernel_rfl) (bund_cons h312 bund_nil) ?_
      first
        | (refine ch rfl (ob_add' (arg_free 0 rfl rfl) arg_c ?_) ?_; · omega)
        | refine ch rfl (ob_add (arg_free 0 rfl rfl) arg_c) ?_
      refine ch rfl (ob_move (arg_op 0 0 rfl rfl rfl rfl)) ?_
      refine ch_nil ?_
      intro a322 w323 hf324 hg325 hk326 hn327
      have h328 : Holds _ (a322.eval (.tmp 28)) w323 := hn327.at 1 0 rfl rfl rfl
      have h329 := hk326.holds rfl (h311.up hg325)
      have h330 := hk326.holds rfl (h313.up hg325)
      have h331 := hk326.holds rfl (h314.up hg325)
      have hv332 : Holds (Is (PtrV bk9)) (a322.eval (.tmp 1)) w323 := is_any (hk326.holds rfl hv315)
      have hb333 := hb316.up hg325
      have g334 := g317.trans hg325
      have g335 := g318.trans hg325
      have g336 : Siz w245 w323 := g319.trans hg325
      have kk337 : Keep _ a195 a322 := kk320.trans hk326 rfl
      have hV338 := hV321.up hg325
      clear h311 h313 h314 hv315 hb316 g317 g318 g319 kk320 hf307 hk326 hn327 hg325 hV321
      refine then_ ?_
      exact ⟨(i + 1), (by ((try dsimp only); omega)), hf324, (by ((try dsimp only); omega)), g334, g335, kk337, (cast_own lv_seq (unV h329 hV338)), (is_cast h328 (by first | rfl | (refine congrArg intV ?_; (try dsimp only); omega))), hb333⟩
    · intro hc243
      try simp only [cond_norm] at hc243
      obtain rfl : i = s.seqs.length := by omega
      refine wp_exit ?_
      refine thenX ?_
      refine thenX ?_
      refine blockX ?_
      refine then_ ?_
      refine wp_seq ?_
      refine wp_seq ?_
      refine wp_region_lit ?_
      refine wp_all [([1], []), ([], [0]), ([], [1]), ([], [])] [1, 3] w2.heap.size hf228 g240.size (by kernel_rfl) (bund_cons (hb238.ownp hv237) bund_nil) ?_
      refine ch rfl (ob_faP (n := 0) (arg_free 0 rfl rfl) Tryz.underlying28 rfl (by kernel_rfl)) ?_
      refine ch rfl (ob_loadP (arg_op 0 0 rfl rfl rfl rfl) Tryz.underlying24 rfl rfl) ?_
      refine ch rfl (ob_len (ArgOK.val (arg_op 1 0 rfl rfl rfl rfl) (hvc0.up g239)) Tryz.underlying24) ?_
      refine ch rfl (ob_move arg_c) ?_
      refine ch_nil ?_
      intro a339 w340 hf341 hg342 hk343 hn344
      have h345 : Holds _ (a339.eval (.tmp 44)) w340 := hn344.at 1 2 rfl rfl rfl
      have h346 : Holds _ (a339.eval (.tmp 45)) w340 := hn344.at 2 1 rfl rfl rfl
      have h347 : Holds _ (a339.eval (.tmp 46)) w340 := hn344.at 3 0 rfl rfl rfl
      have h348 := hk343.holds rfl (h233.up hg342)
      have hv349 : Holds (Is (PtrV bk9)) (a339.eval (.tmp 1)) w340 := is_any (hk343.holds rfl hv237)
      have hb350 := hb238.up hg342
      have g351 := g239.trans hg342
      have g352 := g240.trans hg342
      have hV353 := hV242.up hg342
      clear h233 hv237 hb238 g239 g240 hf228 hk343 hn344 hg342 hV242
      refine then_ ?_
      refine wp_block ?_
      refine wp_loopL (α := Nat) (fun i a' w' => Fr 77 a' ∧ (i ≤ s.locks.length) ∧ Grow w0 w' ∧ Grow w2 w' ∧ Keep [1, 44, 45] a339 a' ∧ Holds (OwnS w2.heap.size elNm (((s.cells.map leafC) ++ seqLf s.seqs s.seqs.length) ++ (s.locks.take i).map leafK)) (a'.eval (.tmp 3)) w' ∧ Holds (Is (intV (i : Int))) (a'.eval (.tmp 46)) w' ∧ Blk bk9 (_) w') (fun i => s.locks.length - i) (0) ⟨hf341, (by ((try dsimp only); omega)), g351, g352, Keep.refl _ _, (cast_own (by rw [List.take_zero, List.map_nil, List.append_nil]) (unV h348 hV353)), (is_cast h347 (by first | rfl | (refine congrArg intV ?_; (try dsimp only); omega))), hb350⟩ ?_
      intro i a354 w355 ⟨hf356, hi358, g359, g360, kk357, h361, h362, hb363⟩
      have h364 : Holds _ (a354.eval (.tmp 44)) w355 := is_any (kk357.holds rfl h345)
      have h365 : Holds _ (a354.eval (.tmp 45)) w355 := is_any (kk357.holds rfl h346)
      have hv366 : Holds (Is (PtrV bk9)) (a354.eval (.tmp 1)) w355 := is_any (kk357.holds rfl hv349)
      obtain ⟨V367, h368, hV369⟩ := nameV h361
      clear h361
      refine wp_seq ?_
      refine wp_region_lit ?_
      refine wp_all [([46, 45], [])] [1, 3, 44, 45, 46] w2.heap.size hf356 g360.size (by kernel_rfl) (bund_cons h362 (bund_cons h365 bund_nil)) ?_
      refine ch rfl (ob_lss (arg_free 0 rfl rfl) (arg_free 1 rfl rfl)) ?_
      refine ch_nil ?_
      intro a370 w371 hf372 hg373 hk374 hn375
      have h376 : Holds _ (a370.eval (.tmp 47)) w371 := hn375.at 0 0 rfl rfl rfl
      have h377 := hk374.holds rfl (h368.up hg373)
      have h378 := hk374.holds rfl (h362.up hg373)
      have h379 := hk374.holds rfl (h364.up hg373)
      have h380 := hk374.holds rfl (h365.up hg373)
      have hv381 : Holds (Is (PtrV bk9)) (a370.eval (.tmp 1)) w371 := is_any (hk374.holds rfl hv366)
      have hb382 := hb363.up hg373
      have g383 := g359.trans hg373
      have g384 := g360.trans hg373
      have kk385 : Keep _ a339 a370 := kk357.trans hk374 rfl
      have hV386 := hV369.up hg373
      clear h368 h362 h364 h365 hv366 hb363 g359 g360 kk357 hf356 hk374 hn375 hg373 hV369
      refine then_ ?_
      refine wp_seq ?_
      refine wp_if h376 ?_ ?_
      · intro hc387
        try simp only [cond_norm] at hc387
        refine wp_skip ?_
        refine then_ ?_
        refine wp_seq ?_
        refine wp_block ?_
        refine wp_seq ?_
        have g388 : Grow w371 w371 := Grow.refl _
        have hl389 : bk9 < w371.heap.size := hb382.lt
        have hz390 : w2.heap.size ≤ w371.heap.size := g384.size
        refine wp_region_lit ?_
        refine wp_seg (l1 := [_, _, _]) [([44, 46], []), ([], [0]), ([], [])] [1, 3, 44, 45, 46] w371.heap.size hf372 g388.size (by kernel_rfl) (bund_cons h379 (bund_cons h378 bund_nil)) ?_
        refine ch rfl (ob_ix (ArgOK.val (arg_free 0 rfl rfl) (hvc0.up g383)) (arg_free 1 rfl rfl) (rfl) ?_ Tryz.underlying24 szLock) ?_
        · omega
        refine ch rfl (ob_load_lock (arg_op 0 0 rfl rfl rfl rfl)) ?_
        refine ch rfl (ob_alloc_lock) ?_
        refine ch_nil ?_
        intro a391 w392 hf393 hg394 hk395 hn396
        have h397 : Holds _ (a391.eval (.tmp 49)) w392 := hn396.at 1 1 rfl rfl rfl
        have h398 : Holds _ (a391.eval (.tmp 9)) w392 := hn396.at 2 0 rfl rfl rfl
        have h399 := hk395.holds rfl h377
        have h400 := hk395.holds rfl h378
        have h401 := hk395.holds rfl h379
        have h402 := hk395.holds rfl h380
        have hv403 : Holds (Is (PtrV bk9)) (a391.eval (.tmp 1)) w392 := is_any (hk395.holds rfl hv381)
        have hb404 := hb382.up hg394
        have g405 := g383.trans hg394
        have g406 := g384.trans hg394
        have g407 := g388.trans hg394
        have kk408 : Keep _ a339 a391 := kk385.trans hk395 rfl
        obtain ⟨bk409, hl410, hv411, hb412⟩ := OwnB.blk (lo := w371.heap.size) h398
        clear h377 h378 h379 h380 hv381 hb382 g383 g384 g388 kk385 hf372 hk395 hn396
        refine wl_store_lock hv411 hb412 rfl h397 ?_
        intro w413 ho414 hb415
        have g416 : Grow w0 w413 := g405.only ho414 (by omega)
        have g417 : Grow w2 w413 := g406.only ho414 (by omega)
        have g418 : Grow w371 w413 := g407.only ho414 (by omega)
        have hv419 : Holds (Is (PtrV bk9)) (a391.eval (.tmp 1)) w413 := is_any hv403
        have hb420 : Blk bk9 _ w413 := hb404.only ho414 (by omega)
        have hv421 : Holds (Is (PtrV bk409)) (a391.eval (.tmp 9)) w413 := is_any hv411
        refine wpList_nil ?_
        refine then_ ?_
        have g422 : Grow w413 w413 := Grow.refl _
        have hl423 : bk9 < w413.heap.size := hb420.lt
        have hl424 : bk409 < w413.heap.size := hb415.lt
        have hz425 : w371.heap.size ≤ w413.heap.size := g418.size
        refine wp_region_lit ?_
        refine wp_seg (l1 := [_, _, _, _]) [([3], []), ([9], []), ([], [1]), ([], [2])] [1, 3, 44, 45, 46] w413.heap.size hf393 g422.size (by kernel_rfl) (bund_cons (is_any h399) (bund_cons (hb415.ownp hv421) bund_nil)) ?_
        refine ch rfl (ob_move (arg_free 0 rfl rfl)) ?_
        refine ch rfl (ob_load_lock (ArgOK.ownp (arg_free 1 rfl rfl))) ?_
        refine ch rfl (ob_call1 (by kernel_rfl) (c_leafLock) (arg_op 1 0 rfl rfl rfl rfl)) ?_
        refine ch rfl (ob_bs1_nm (arg_op 2 0 rfl rfl rfl rfl)) ?_
        refine ch_nil ?_
        intro a426 w427 hf428 hg429 hk430 hn431
        have h432 : Holds _ (a426.eval (.tmp 50)) w427 := hn431.at 0 3 rfl rfl rfl
        have h433 : Holds (OwnF w413.heap.size _ _) (a426.eval (.tmp 53)) w427 := hn431.at 3 0 rfl rfl rfl
        have h434 := hk430.holds rfl h399
        have h435 := hk430.holds rfl h400
        have h436 := hk430.holds rfl h401
        have h437 := hk430.holds rfl h402
        have hv438 : Holds (Is (PtrV bk9)) (a426.eval (.tmp 1)) w427 := is_any (hk430.holds rfl hv419)
        have hb439 := hb420.up hg429
        have g440 := g416.trans hg429
        have g441 := g417.trans hg429
        have g442 := g418.trans hg429
        have g443 := g422.trans hg429
        have kk444 : Keep _ a339 a426 := kk408.trans hk430 rfl
        clear h399 h400 h401 h402 hv419 hb420 g416 g417 g418 g422 kk408 hf393 hk430 hn431
        obtain ⟨V445, h446, hV447⟩ := nameV h433
        clear h433
        refine wl_appendW elNmP [1, 3, 44, 45, 46] hf428 (by kernel_rfl) rfl Tryz.underlying25 (unV h432 (hV386.up g442)) (OwnS.sl (OwnF.own (unV h446 hV447))) ?_ ?_ g441.size ?_
        · (simp only [List.length_append, List.length_cons, List.length_nil, List.length_map, List.length_take, seqLf_len, maxLen, elNm]; omega)
        · (simp only [List.length_append, List.length_cons, List.length_nil, List.length_map, List.length_take, seqLf_len, maxLen, elNm]; omega)
        intro a448 w449 hf450 hw451 hk452 h453
        have g454 : Grow w0 w449 := g440.wr hw451 (by omega)
        have g455 : Grow w2 w449 := g441.wr hw451 (by omega)
        have g456 : Siz w371 w449 := Siz.below g442.size hw451.below
        have g457 : Siz w413 w449 := Siz.below g443.size hw451.below
        have h458 : Holds _ (a448.eval (.tmp 3)) w449 := is_any (hk452.holds rfl h434)
        have h459 : Holds _ (a448.eval (.tmp 46)) w449 := is_any (hk452.holds rfl h435)
        have h460 : Holds _ (a448.eval (.tmp 44)) w449 := is_any (hk452.holds rfl h436)
        have h461 : Holds _ (a448.eval (.tmp 45)) w449 := is_any (hk452.holds rfl h437)
        have hv462 : Holds (Is (PtrV bk9)) (a448.eval (.tmp 1)) w449 := is_any (hk452.holds rfl hv438)
        have hb463 : Blk bk9 _ w449 := hb439.wr hw451 (by omega)
        have kk464 : Keep _ a339 a448 := kk444.trans hk452 rfl
        obtain ⟨V465, h466, hV467⟩ := nameV h453
        clear h453
        refine wp_all [([54], [])] [1, 44, 45, 46] w413.heap.size hf450 g457.size (by kernel_rfl) (bund_cons h466 bund_nil) ?_
        refine ch rfl (ob_assign (arg_free 0 rfl rfl)) ?_
        refine ch_nil ?_
        intro a468 w469 hf470 hg471 hk472 hn473
        have h474 : Holds _ (a468.eval (.tmp 3)) w469 := hn473.at 0 0 rfl rfl rfl
        have h475 := hk472.holds rfl (h459.up hg471)
        have h476 := hk472.holds rfl (h460.up hg471)
        have h477 := hk472.holds rfl (h461.up hg471)
        have hv478 : Holds (Is (PtrV bk9)) (a468.eval (.tmp 1)) w469 := is_any (hk472.holds rfl hv462)
        have hb479 := hb463.up hg471
        have g480 := g454.trans hg471
        have g481 := g455.trans hg471
        have g482 : Siz w371 w469 := g456.trans hg471
        have g483 : Siz w413 w469 := g457.trans hg471
        have kk484 : Keep _ a339 a468 := kk464.trans hk472 rfl
        have hV485 := hV467.up hg471
        clear h459 h460 h461 hv462 hb463 g454 g455 g456 g457 kk464 hf450 hk472 hn473 hg471 hV467
        refine blockN ?_
        refine then_ ?_
        refine wp_region_lit ?_
        refine wp_all [([46], []), ([], [0])] [1, 3, 44, 45] w413.heap.size hf470 g483.size (by kernel_rfl) (bund_cons h475 bund_nil) ?_
        first
          | (refine ch rfl (ob_add' (arg_free 0 rfl rfl) arg_c ?_) ?_; · omega)
          | refine ch rfl (ob_add (arg_free 0 rfl rfl) arg_c) ?_
        refine ch rfl (ob_move (arg_op 0 0 rfl rfl rfl rfl)) ?_
        refine ch_nil ?_
        intro a486 w487 hf488 hg489 hk490 hn491
        have h492 : Holds _ (a486.eval (.tmp 46)) w487 := hn491.at 1 0 rfl rfl rfl
        have h493 := hk490.holds rfl (h474.up hg489)
        have h494 := hk490.holds rfl (h476.up hg489)
        have h495 := hk490.holds rfl (h477.up hg489)
        have hv496 : Holds (Is (PtrV bk9)) (a486.eval (.tmp 1)) w487 := is_any (hk490.holds rfl hv478)
        have hb497 := hb479.up hg489
        have g498 := g480.trans hg489
        have g499 := g481.trans hg489
        have g500 : Siz w371 w487 := g482.trans hg489
        have g501 : Siz w413 w487 := g483.trans hg489
        have kk502 : Keep _ a339 a486 := kk484.trans hk490 rfl
        have hV503 := hV485.up hg489
        clear h474 h476 h477 hv478 hb479 g480 g481 g482 g483 kk484 hf470 hk490 hn491 hg489 hV485
        refine then_ ?_
        exact ⟨(i + 1), (by ((try dsimp only); omega)), hf488, (by ((try dsimp only); omega)), g498, g499, kk502, (cast_own (map_step (by omega)) (unV h493 hV503)), (is_cast h492 (by first | rfl | (refine congrArg intV ?_; (try dsimp only); omega))), hb497⟩
      · intro hc387
        try simp only [cond_norm] at hc387
        have he3 : s.locks.length ≤ i := by omega
        refine wp_exit ?_
        refine thenX ?_
        refine thenX ?_
        refine blockX ?_
        refine then_ ?_
        refine wp_seq ?_
        refine wp_seq ?_
        refine wp_region_lit ?_
        refine wp_all [([1], []), ([], [0]), ([], [1]), ([], [])] [1, 3] w2.heap.size hf372 g384.size (by kernel_rfl) (bund_cons (hb382.ownp hv381) bund_nil) ?_
        refine ch rfl (ob_faP (n := 0) (arg_free 0 rfl rfl) Tryz.underlying28 rfl (by kernel_rfl)) ?_
        refine ch rfl (ob_loadP (arg_op 0 0 rfl rfl rfl rfl) Tryz.underlying25 rfl rfl) ?_
        refine ch rfl (ob_len (ArgOK.val (arg_op 1 0 rfl rfl rfl rfl) (hvd0.up g383)) Tryz.underlying25) ?_
        refine ch rfl (ob_move arg_c) ?_
        refine ch_nil ?_
        intro a504 w505 hf506 hg507 hk508 hn509
        have h510 : Holds _ (a504.eval (.tmp 57)) w505 := hn509.at 1 2 rfl rfl rfl
        have h511 : Holds _ (a504.eval (.tmp 58)) w505 := hn509.at 2 1 rfl rfl rfl
        have h512 : Holds _ (a504.eval (.tmp 59)) w505 := hn509.at 3 0 rfl rfl rfl
        have h513 := hk508.holds rfl (h377.up hg507)
        have hv514 : Holds (Is (PtrV bk9)) (a504.eval (.tmp 1)) w505 := is_any (hk508.holds rfl hv381)
        have hb515 := hb382.up hg507
        have g516 := g383.trans hg507
        have g517 := g384.trans hg507
        have hV518 := hV386.up hg507
        clear h377 hv381 hb382 g383 g384 hf372 hk508 hn509 hg507 hV386
        refine then_ ?_
        refine wp_block ?_
        refine wp_loopL (α := Nat) (fun i a' w' => Fr 77 a' ∧ (i ≤ s.applied.length) ∧ Grow w0 w' ∧ Grow w2 w' ∧ Keep [1, 57, 58] a504 a' ∧ Holds (OwnS w2.heap.size elNm ((((s.cells.map leafC) ++ seqLf s.seqs s.seqs.length) ++ s.locks.map leafK) ++ (s.applied.take i).map leafA)) (a'.eval (.tmp 3)) w' ∧ Holds (Is (intV (i : Int))) (a'.eval (.tmp 59)) w' ∧ Blk bk9 (_) w') (fun i => s.applied.length - i) (0) ⟨hf506, (by ((try dsimp only); omega)), g516, g517, Keep.refl _ _, (cast_own (by rw [take_all (by omega), List.take_zero, List.map_nil, List.append_nil]) (unV h513 hV518)), (is_cast h512 (by first | rfl | (refine congrArg intV ?_; (try dsimp only); omega))), hb515⟩ ?_
        intro i a519 w520 ⟨hf521, hi523, g524, g525, kk522, h526, h527, hb528⟩
        have h529 : Holds _ (a519.eval (.tmp 57)) w520 := is_any (kk522.holds rfl h510)
        have h530 : Holds _ (a519.eval (.tmp 58)) w520 := is_any (kk522.holds rfl h511)
        have hv531 : Holds (Is (PtrV bk9)) (a519.eval (.tmp 1)) w520 := is_any (kk522.holds rfl hv514)
        obtain ⟨V532, h533, hV534⟩ := nameV h526
        clear h526
        refine wp_seq ?_
        refine wp_region_lit ?_
        refine wp_all [([59, 58], [])] [1, 3, 57, 58, 59] w2.heap.size hf521 g525.size (by kernel_rfl) (bund_cons h527 (bund_cons h530 bund_nil)) ?_
        refine ch rfl (ob_lss (arg_free 0 rfl rfl) (arg_free 1 rfl rfl)) ?_
        refine ch_nil ?_
        intro a535 w536 hf537 hg538 hk539 hn540
        have h541 : Holds _ (a535.eval (.tmp 60)) w536 := hn540.at 0 0 rfl rfl rfl
        have h542 := hk539.holds rfl (h533.up hg538)
        have h543 := hk539.holds rfl (h527.up hg538)
        have h544 := hk539.holds rfl (h529.up hg538)
        have h545 := hk539.holds rfl (h530.up hg538)
        have hv546 : Holds (Is (PtrV bk9)) (a535.eval (.tmp 1)) w536 := is_any (hk539.holds rfl hv531)
        have hb547 := hb528.up hg538
        have g548 := g524.trans hg538
        have g549 := g525.trans hg538
        have kk550 : Keep _ a504 a535 := kk522.trans hk539 rfl
        have hV551 := hV534.up hg538
        clear h533 h527 h529 h530 hv531 hb528 g524 g525 kk522 hf521 hk539 hn540 hg538 hV534
        refine then_ ?_
        refine wp_seq ?_
        refine wp_if h541 ?_ ?_
        · intro hc552
          try simp only [cond_norm] at hc552
          refine wp_skip ?_
          refine then_ ?_
          refine wp_seq ?_
          refine wp_block ?_
          refine wp_seq ?_
          have g553 : Grow w536 w536 := Grow.refl _
          have hl554 : bk9 < w536.heap.size := hb547.lt
          have hz555 : w2.heap.size ≤ w536.heap.size := g549.size
          refine wp_region_lit ?_
          refine wp_seg (l1 := [_, _, _]) [([57, 59], []), ([], [0]), ([], [])] [1, 3, 57, 58, 59] w536.heap.size hf537 g553.size (by kernel_rfl) (bund_cons h544 (bund_cons h543 bund_nil)) ?_
          refine ch rfl (ob_ix (ArgOK.val (arg_free 0 rfl rfl) (hvd0.up g548)) (arg_free 1 rfl rfl) (rfl) ?_ Tryz.underlying25 szNm) ?_
          · omega
          refine ch rfl (ob_load_nm (arg_op 0 0 rfl rfl rfl rfl)) ?_
          refine ch rfl (ob_alloc_nm) ?_
          refine ch_nil ?_
          intro a556 w557 hf558 hg559 hk560 hn561
          have h562 : Holds _ (a556.eval (.tmp 62)) w557 := hn561.at 1 1 rfl rfl rfl
          have h563 : Holds _ (a556.eval (.tmp 11)) w557 := hn561.at 2 0 rfl rfl rfl
          have h564 := hk560.holds rfl h542
          have h565 := hk560.holds rfl h543
          have h566 := hk560.holds rfl h544
          have h567 := hk560.holds rfl h545
          have hv568 : Holds (Is (PtrV bk9)) (a556.eval (.tmp 1)) w557 := is_any (hk560.holds rfl hv546)
          have hb569 := hb547.up hg559
          have g570 := g548.trans hg559
          have g571 := g549.trans hg559
          have g572 := g553.trans hg559
          have kk573 : Keep _ a504 a556 := kk550.trans hk560 rfl
          obtain ⟨bk574, hl575, hv576, hb577⟩ := OwnB.blk (lo := w536.heap.size) h563
          clear h542 h543 h544 h545 hv546 hb547 g548 g549 g553 kk550 hf537 hk560 hn561
          refine wl_store_nm hv576 hb577 rfl h562 ?_
          intro w578 ho579 hb580
          have g581 : Grow w0 w578 := g570.only ho579 (by omega)
          have g582 : Grow w2 w578 := g571.only ho579 (by omega)
          have g583 : Grow w536 w578 := g572.only ho579 (by omega)
          have hv584 : Holds (Is (PtrV bk9)) (a556.eval (.tmp 1)) w578 := is_any hv568
          have hb585 : Blk bk9 _ w578 := hb569.only ho579 (by omega)
          have hv586 : Holds (Is (PtrV bk574)) (a556.eval (.tmp 11)) w578 := is_any hv576
          refine wpList_nil ?_
          refine then_ ?_
          have g587 : Grow w578 w578 := Grow.refl _
          have hl588 : bk9 < w578.heap.size := hb585.lt
          have hl589 : bk574 < w578.heap.size := hb580.lt
          have hz590 : w536.heap.size ≤ w578.heap.size := g583.size
          refine wp_region_lit ?_
          refine wp_seg (l1 := [_, _, _, _]) [([3], []), ([11], []), ([], [1]), ([], [2])] [1, 3, 57, 58, 59] w578.heap.size hf558 g587.size (by kernel_rfl) (bund_cons (is_any h564) (bund_cons (hb580.ownp hv586) bund_nil)) ?_
          refine ch rfl (ob_move (arg_free 0 rfl rfl)) ?_
          refine ch rfl (ob_load_nm (ArgOK.ownp (arg_free 1 rfl rfl))) ?_
          refine ch rfl (ob_call1 (by kernel_rfl) (c_leafApplied) (arg_op 1 0 rfl rfl rfl rfl)) ?_
          refine ch rfl (ob_bs1_nm (arg_op 2 0 rfl rfl rfl rfl)) ?_
          refine ch_nil ?_
          intro a591 w592 hf593 hg594 hk595 hn596
          have h597 : Holds _ (a591.eval (.tmp 63)) w592 := hn596.at 0 3 rfl rfl rfl
          have h598 : Holds (OwnF w578.heap.size _ _) (a591.eval (.tmp 66)) w592 := hn596.at 3 0 rfl rfl rfl
          have h599 := hk595.holds rfl h564
          have h600 := hk595.holds rfl h565
          have h601 := hk595.holds rfl h566
          have h602 := hk595.holds rfl h567
          have hv603 : Holds (Is (PtrV bk9)) (a591.eval (.tmp 1)) w592 := is_any (hk595.holds rfl hv584)
          have hb604 := hb585.up hg594
          have g605 := g581.trans hg594
          have g606 := g582.trans hg594
          have g607 := g583.trans hg594
          have g608 := g587.trans hg594
          have kk609 : Keep _ a504 a591 := kk573.trans hk595 rfl
          clear h564 h565 h566 h567 hv584 hb585 g581 g582 g583 g587 kk573 hf558 hk595 hn596
          obtain ⟨V610, h611, hV612⟩ := nameV h598
          clear h598
          refine wl_appendW elNmP [1, 3, 57, 58, 59] hf593 (by kernel_rfl) rfl Tryz.underlying25 (unV h597 (hV551.up g607)) (OwnS.sl (OwnF.own (unV h611 hV612))) ?_ ?_ g606.size ?_
          · (simp only [List.length_append, List.length_cons, List.length_nil, List.length_map, List.length_take, seqLf_len, maxLen, elNm]; omega)
          · (simp only [List.length_append, List.length_cons, List.length_nil, List.length_map, List.length_take, seqLf_len, maxLen, elNm]; omega)
          intro a613 w614 hf615 hw616 hk617 h618
          have g619 : Grow w0 w614 := g605.wr hw616 (by omega)
          have g620 : Grow w2 w614 := g606.wr hw616 (by omega)
          have g621 : Siz w536 w614 := Siz.below g607.size hw616.below
          have g622 : Siz w578 w614 := Siz.below g608.size hw616.below
          have h623 : Holds _ (a613.eval (.tmp 3)) w614 := is_any (hk617.holds rfl h599)
          have h624 : Holds _ (a613.eval (.tmp 59)) w614 := is_any (hk617.holds rfl h600)
          have h625 : Holds _ (a613.eval (.tmp 57)) w614 := is_any (hk617.holds rfl h601)
          have h626 : Holds _ (a613.eval (.tmp 58)) w614 := is_any (hk617.holds rfl h602)
          have hv627 : Holds (Is (PtrV bk9)) (a613.eval (.tmp 1)) w614 := is_any (hk617.holds rfl hv603)
          have hb628 : Blk bk9 _ w614 := hb604.wr hw616 (by omega)
          have kk629 : Keep _ a504 a613 := kk609.trans hk617 rfl
          obtain ⟨V630, h631, hV632⟩ := nameV h618
          clear h618
          refine wp_all [([67], [])] [1, 57, 58, 59] w578.heap.size hf615 g622.size (by kernel_rfl) (bund_cons h631 bund_nil) ?_
          refine ch rfl (ob_assign (arg_free 0 rfl rfl)) ?_
          refine ch_nil ?_
          intro a633 w634 hf635 hg636 hk637 hn638
          have h639 : Holds _ (a633.eval (.tmp 3)) w634 := hn638.at 0 0 rfl rfl rfl
          have h640 := hk637.holds rfl (h624.up hg636)
          have h641 := hk637.holds rfl (h625.up hg636)
          have h642 := hk637.holds rfl (h626.up hg636)
          have hv643 : Holds (Is (PtrV bk9)) (a633.eval (.tmp 1)) w634 := is_any (hk637.holds rfl hv627)
          have hb644 := hb628.up hg636
          have g645 := g619.trans hg636
          have g646 := g620.trans hg636
          have g647 : Siz w536 w634 := g621.trans hg636
          have g648 : Siz w578 w634 := g622.trans hg636
          have kk649 : Keep _ a504 a633 := kk629.trans hk637 rfl
          have hV650 := hV632.up hg636
          clear h624 h625 h626 hv627 hb628 g619 g620 g621 g622 kk629 hf615 hk637 hn638 hg636 hV632
          refine blockN ?_
          refine then_ ?_
          refine wp_region_lit ?_
          refine wp_all [([59], []), ([], [0])] [1, 3, 57, 58] w578.heap.size hf635 g648.size (by kernel_rfl) (bund_cons h640 bund_nil) ?_
          first
            | (refine ch rfl (ob_add' (arg_free 0 rfl rfl) arg_c ?_) ?_; · omega)
            | refine ch rfl (ob_add (arg_free 0 rfl rfl) arg_c) ?_
          refine ch rfl (ob_move (arg_op 0 0 rfl rfl rfl rfl)) ?_
          refine ch_nil ?_
          intro a651 w652 hf653 hg654 hk655 hn656
          have h657 : Holds _ (a651.eval (.tmp 59)) w652 := hn656.at 1 0 rfl rfl rfl
          have h658 := hk655.holds rfl (h639.up hg654)
          have h659 := hk655.holds rfl (h641.up hg654)
          have h660 := hk655.holds rfl (h642.up hg654)
          have hv661 : Holds (Is (PtrV bk9)) (a651.eval (.tmp 1)) w652 := is_any (hk655.holds rfl hv643)
          have hb662 := hb644.up hg654
          have g663 := g645.trans hg654
          have g664 := g646.trans hg654
          have g665 : Siz w536 w652 := g647.trans hg654
          have g666 : Siz w578 w652 := g648.trans hg654
          have kk667 : Keep _ a504 a651 := kk649.trans hk655 rfl
          have hV668 := hV650.up hg654
          clear h639 h641 h642 hv643 hb644 g645 g646 g647 g648 kk649 hf635 hk655 hn656 hg654 hV650
          refine then_ ?_
          exact ⟨(i + 1), (by ((try dsimp only); omega)), hf653, (by ((try dsimp only); omega)), g663, g664, kk667, (cast_own (map_step (by omega)) (unV h658 hV668)), (is_cast h657 (by first | rfl | (refine congrArg intV ?_; (try dsimp only); omega))), hb662⟩
        · intro hc552
          try simp only [cond_norm] at hc552
          have he4 : s.applied.length ≤ i := by omega
          refine wp_exit ?_
          refine thenX ?_
          refine thenX ?_
          refine blockX ?_
          refine then_ ?_
          refine wp_seq ?_
          have g669 : Grow w536 w536 := Grow.refl _
          have hl670 : bk9 < w536.heap.size := hb547.lt
          have hz671 : w2.heap.size ≤ w536.heap.size := g549.size
          refine wp_region_lit ?_
          refine wp_seg (l1 := [_, _, _, _, _, _, _]) [([3], []), ([1], []), ([], [1]), ([], [2]), ([], [3]), ([], [4]), ([], [5])] [] w536.heap.size hf537 g669.size (by kernel_rfl) (bund_cons h542 (bund_cons (hb547.ownp hv546) bund_nil)) ?_
          refine ch rfl (ob_move (arg_free 0 rfl rfl)) ?_
          refine ch rfl (ob_faP (n := 0) (arg_free 1 rfl rfl) Tryz.underlying28 rfl (by kernel_rfl)) ?_
          refine ch rfl (ob_loadP (arg_op 1 0 rfl rfl rfl rfl) Tryz.underlying26 rfl rfl) ?_
          refine ch rfl (ob_intu64 (m := i2u s.guilty.toInt) (arg_op 2 0 rfl rfl rfl rfl) Tryz.underlying26 Tryz.underlying102 ?_) ?_
          · exact i2u_eq _
          refine ch rfl (ob_call3 (by kernel_rfl) (c_AppendUint 2 ?_ ?_ ?_) (arg_cg (fun w => sl_nil)) (arg_op 3 0 rfl rfl rfl rfl) arg_c) ?_
          · rfl
          · decide
          · decide
          refine ch rfl (ob_call2 (by kernel_rfl) (c_Tagged ?_) (arg_cb 86 rfl) (ArgOK.sl (arg_op 4 0 rfl rfl rfl rfl))) ?_
          · (rw [List.nil_append, be_len]; decide)
          refine ch rfl (ob_bs1_nm (arg_op 5 0 rfl rfl rfl rfl)) ?_
          refine ch_nil ?_
          intro a672 w673 hf674 hg675 hk676 hn677
          have h678 : Holds _ (a672.eval (.tmp 69)) w673 := hn677.at 0 6 rfl rfl rfl
          have h679 : Holds (OwnF w536.heap.size _ _) (a672.eval (.tmp 75)) w673 := hn677.at 6 0 rfl rfl rfl
          have g680 := g548.trans hg675
          have g681 := g549.trans hg675
          have g682 := g669.trans hg675
          clear g548 g549 g669 hf537 hk676 hn677
          obtain ⟨V683, h684, hV685⟩ := nameV h679
          clear h679
          refine wl_appendW elNmP [] hf674 (by kernel_rfl) rfl Tryz.underlying25 (unV h678 (hV551.up g682)) (OwnS.sl (OwnF.own (unV h684 hV685))) ?_ ?_ g681.size ?_
          · (simp only [List.length_append, List.length_cons, List.length_nil, List.length_map, List.length_take, seqLf_len, maxLen, elNm]; omega)
          · (simp only [List.length_append, List.length_cons, List.length_nil, List.length_map, List.length_take, seqLf_len, maxLen, elNm]; omega)
          intro a686 w687 hf688 hw689 hk690 h691
          have g692 : Grow w0 w687 := g680.wr hw689 (by omega)
          have g693 : Grow w2 w687 := g681.wr hw689 (by omega)
          have g694 : Siz w536 w687 := Siz.below g682.size hw689.below
          obtain ⟨V695, h696, hV697⟩ := nameV h691
          clear h691
          refine wp_all [([76], [])] [] w536.heap.size hf688 g694.size (by kernel_rfl) (bund_cons h696 bund_nil) ?_
          refine ch rfl (ob_assign (arg_free 0 rfl rfl)) ?_
          refine ch_nil ?_
          intro a698 w699 hf700 hg701 hk702 hn703
          have h704 : Holds _ (a698.eval (.tmp 2)) w699 := hn703.at 0 0 rfl rfl rfl
          have g705 := g692.trans hg701
          have g706 := g693.trans hg701
          have g707 : Siz w536 w699 := g694.trans hg701
          have hV708 := hV697.up hg701
          clear g692 g693 g694 hf688 hk702 hn703 hg701 hV697
          refine then_ ?_
          refine wp_ret ?_
          exact ret_tmp rfl hf700 g705 (OwnS.mono (cast_own (by unfold leaves; rw [take_all (by omega)]; rfl) (unV h704 hV708)) (by omega))
def prvI (s : GState) (i : Int) : GInc := if pathB (leaves s) i then ⟨i, ((leaves s).length : Int), pathV (leaves s) i⟩ else ⟨0, 0, []⟩
def prvE (s : GState) (i : Int) : Int := if pathB (leaves s) i then 0 else 6
theorem prvI_no {s : GState} {i : Int} (h : pathB (leaves s) i = false) : (⟨0, 0, []⟩ : GInc) = prvI s i := by unfold prvI; rw [h]; rfl
theorem prvI_yes {s : GState} {i : Int} (h : pathB (leaves s) i = true) : (⟨i, ((leaves s).length : Int), pathV (leaves s) i⟩ : GInc) = prvI s i := by unfold prvI; rw [h]; rfl
theorem prvE_no {s : GState} {i : Int} (h : pathB (leaves s) i = false) : 6 = prvE s i := by unfold prvE; rw [h]; rfl
theorem prvE_yes {s : GState} {i : Int} (h : pathB (leaves s) i = true) : 0 = prvE s i := by unfold prvE; rw [h]; rfl
theorem pathB_neg {l : List UInt64} {i : Int} (h : i < 0) : pathB l i = false := (pathB_no (.inl h)).symm
def appI (s : GState) (n : UInt64) : Int := if 0 ≤ idx (fun y => decide (n = y)) s.applied then (s.cells.length : Int) + s.seqs.length + s.locks.length + idx (fun y => decide (n = y)) s.applied else -1
theorem appI_no {s : GState} {n : UInt64} (h : idx (fun y => decide (n = y)) s.applied < 0) : appI s n = -1 := by unfold appI; rw [if_neg (by omega)]
theorem appI_yes {s : GState} {n : UInt64} (h : ¬ idx (fun y => decide (n = y)) s.applied < 0) : (s.cells.length : Int) + s.seqs.length + s.locks.length + idx (fun y => decide (n = y)) s.applied = appI s n := by unfold appI; rw [if_pos (by omega)]
set_option maxRecDepth 100000 in
theorem c_RootS {s : GState} (hs : stOK s) : Con1 30 (StF s) (fun _ => Is (nmV (root (leaves s)))) := by
  intro lo v0 w0 hlo hv0
  refine enter Tryz.func30 rfl Tryz.ntmps30 (by simp) ?_
  intro a0 hf0 ha
  obtain ⟨va0, vb0, vc0, vd0, he0, hva0, hvb0, hvc0, hvd0⟩ := openF hv0
  have h00 : Holds (Is _) (a0.eval (.tmp 0)) w0 := arg_holds ha rfl he0
  clear ha
  have g0 : Grow w0 w0 := Grow.refl _
  obtain ⟨hs1, hs2, hs3, hs4⟩ := id hs
  refine wp_seq ?_
  refine wp_region_lit ?_
  refine wp_seg (l1 := [_]) [([0], [])] [] w0.heap.size hf0 g0.size (by kernel_rfl) (bund_cons h00 bund_nil) ?_
  refine ch rfl (ob_box_state (arg_free 0 rfl rfl)) ?_
  refine ch_nil ?_
  intro a1 w2 hf3 hg4 hk5 hn6
  have h7 : Holds _ (a1.eval (.tmp 1)) w2 := hn6.at 0 0 rfl rfl rfl
  have g8 := g0.trans hg4
  obtain ⟨bk9, hl10, hv11, hb12⟩ := OwnB.blk (lo := w0.heap.size) h7
  clear g0 hf0 hk5 hn6
  have g13 : Grow w2 w2 := Grow.refl _
  have hl14 : bk9 < w2.heap.size := hb12.lt
  have hz15 : w0.heap.size ≤ w2.heap.size := g8.size
  refine wp_all [([], [])] [1] w2.heap.size hf3 g13.size (by kernel_rfl) bund_nil ?_
  refine ch rfl (ob_alloc_nm) ?_
  refine ch_nil ?_
  intro a16 w17 hf18 hg19 hk20 hn21
  have h22 : Holds _ (a16.eval (.tmp 2)) w17 := hn21.at 0 0 rfl rfl rfl
  have hv23 : Holds (Is (PtrV bk9)) (a16.eval (.tmp 1)) w17 := is_any (hk20.holds rfl hv11)
  have hb24 := hb12.up hg19
  have g25 := g8.trans hg19
  have g26 := g13.trans hg19
  obtain ⟨bk27, hl28, hv29, hb30⟩ := OwnB.blk (lo := w2.heap.size) h22
  clear hv11 hb12 g8 g13 hf3 hk20 hn21
  refine then_ ?_
  refine wp_seq ?_
  have g31 : Grow w17 w17 := Grow.refl _
  have hl32 : bk9 < w17.heap.size := hb24.lt
  have hl33 : bk27 < w17.heap.size := hb30.lt
  have hz34 : w2.heap.size ≤ w17.heap.size := g26.size
  refine wp_region_lit ?_
  refine wp_seg (l1 := [_, _, _]) [([1], []), ([], [0]), ([], [1])] [2] w17.heap.size hf18 g31.size (by kernel_rfl) (bund_cons (hb24.ownp hv23) bund_nil) ?_
  refine ch rfl (ob_load_state (ArgOK.ownp (arg_free 0 rfl rfl))) ?_
  refine ch rfl (ob_call1 (by kernel_rfl) (c_Leaves ?_) (ArgOK.val (arg_op 0 0 rfl rfl rfl rfl) (mkFs (s := s) (hva0.up g25) (hvb0.up g25) (hvc0.up g25) (hvd0.up g25)))) ?_
  · assumption
  refine ch rfl (ob_call1 (by kernel_rfl) (c_Root ?_) (ArgOK.sl (arg_op 1 0 rfl rfl rfl rfl))) ?_
  · (rw [leaves_len]; omega)
  refine ch_nil ?_
  intro a35 w36 hf37 hg38 hk39 hn40
  have h41 : Holds _ (a35.eval (.tmp 5)) w36 := hn40.at 2 0 rfl rfl rfl
  have hv42 : Holds (Is (PtrV bk27)) (a35.eval (.tmp 2)) w36 := is_any (hk39.holds rfl hv29)
  have hb43 := hb30.up hg38
  have g44 := g25.trans hg38
  have g45 := g26.trans hg38
  have g46 := g31.trans hg38
  clear hv29 hb30 g25 g26 g31 hf18 hk39 hn40
  refine wl_store_nm hv42 hb43 rfl h41 ?_
  intro w47 ho48 hb49
  have g50 : Grow w0 w47 := g44.only ho48 (by omega)
  have g51 : Grow w2 w47 := g45.only ho48 (by omega)
  have hv53 : Holds (Is (PtrV bk27)) (a35.eval (.tmp 2)) w47 := is_any hv42
  refine wpList_nil ?_
  refine then_ ?_
  refine wp_ret ?_
  refine ret_cell rfl Tryz.underlying30 rfl (by kernel_rfl) hf37 g50 (hb49.ptr hv53) ?_
  exact rfl
set_option maxRecDepth 100000 in
theorem c_prove {s : GState} {i : Int} (hs : stOK s) (hi : -9223372036854775808 ≤ i) : Con2 45 (StF s) (Is (intV i)) (fun lo => Two (IncO lo (prvI s i)) (Is (intV (prvE s i)))) := by
  intro lo v0 v1 w0 hlo hv0 hv1
  refine enter Tryz.func45 rfl Tryz.ntmps45 (by simp) ?_
  intro a0 hf0 ha
  obtain ⟨va0, vb0, vc0, vd0, he0, hva0, hvb0, hvc0, hvd0⟩ := openF hv0
  have h00 : Holds (Is _) (a0.eval (.tmp 0)) w0 := arg_holds ha rfl he0
  have h01 : Holds _ (a0.eval (.tmp 1)) w0 := arg_holds ha rfl hv1
  clear ha
  have g0 : Grow w0 w0 := Grow.refl _
  obtain ⟨hs1, hs2, hs3, hs4⟩ := id hs
  refine wp_seq ?_
  refine wp_region_lit ?_
  refine wp_seg (l1 := [_]) [([0], [])] [1] w0.heap.size hf0 g0.size (by kernel_rfl) (bund_cons h00 bund_nil) ?_
  refine ch rfl (ob_box_state (arg_free 0 rfl rfl)) ?_
  refine ch_nil ?_
  intro a1 w2 hf3 hg4 hk5 hn6
  have h7 : Holds _ (a1.eval (.tmp 2)) w2 := hn6.at 0 0 rfl rfl rfl
  have h8 := hk5.holds rfl h01
  have g9 := g0.trans hg4
  obtain ⟨bk10, hl11, hv12, hb13⟩ := OwnB.blk (lo := w0.heap.size) h7
  clear h01 g0 hf0 hk5 hn6
  have g14 : Grow w2 w2 := Grow.refl _
  have hl15 : bk10 < w2.heap.size := hb13.lt
  have hz16 : w0.heap.size ≤ w2.heap.size := g9.size
  refine wp_all [([], []), ([], [])] [1, 2] w2.heap.size hf3 g14.size (by kernel_rfl) bund_nil ?_
  refine ch rfl (ob_alloc_inc) ?_
  refine ch rfl (ob_assign arg_c) ?_
  refine ch_nil ?_
  intro a17 w18 hf19 hg20 hk21 hn22
  have h23 : Holds _ (a17.eval (.tmp 4)) w18 := hn22.at 0 1 rfl rfl rfl
  have h24 := hk21.holds rfl h8
  have hv25 : Holds (Is (PtrV bk10)) (a17.eval (.tmp 2)) w18 := is_any (hk21.holds rfl hv12)
  have hb26 := hb13.up hg20
  have g27 := g9.trans hg20
  have g28 := g14.trans hg20
  obtain ⟨bk29, hl30, hv31, hb32⟩ := OwnB.blk (lo := w2.heap.size) h23
  clear h8 hv12 hb13 g9 g14 hf3 hk21 hn22
  refine then_ ?_
  refine wp_seq ?_
  have g33 : Grow w18 w18 := Grow.refl _
  have hl34 : bk10 < w18.heap.size := hb26.lt
  have hl35 : bk29 < w18.heap.size := hb32.lt
  have hz36 : w2.heap.size ≤ w18.heap.size := g28.size
  refine wp_region_lit ?_
  refine wp_all [([2], []), ([], [0]), ([], [1])] [1, 4] w18.heap.size hf19 g33.size (by kernel_rfl) (bund_cons (hb26.ownp hv25) bund_nil) ?_
  refine ch rfl (ob_load_state (ArgOK.ownp (arg_free 0 rfl rfl))) ?_
  refine ch rfl (ob_call1 (by kernel_rfl) (c_Leaves ?_) (ArgOK.val (arg_op 0 0 rfl rfl rfl rfl) (mkFs (s := s) (hva0.up g27) (hvb0.up g27) (hvc0.up g27) (hvd0.up g27)))) ?_
  · assumption
  refine ch rfl (ob_assign (arg_op 1 0 rfl rfl rfl rfl)) ?_
  refine ch_nil ?_
  intro a37 w38 hf39 hg40 hk41 hn42
  have h43 : Holds (OwnS w18.heap.size _ _) (a37.eval (.tmp 6)) w38 := hn42.at 2 0 rfl rfl rfl
  have h44 := hk41.holds rfl h24
  have hv45 : Holds (Is (PtrV bk29)) (a37.eval (.tmp 4)) w38 := is_any (hk41.holds rfl hv31)
  have hb46 := hb32.up hg40
  have g47 := g27.trans hg40
  have g48 := g28.trans hg40
  have g49 := g33.trans hg40
  clear h24 hv31 hb32 g27 g28 g33 hf19 hk41 hn42
  obtain ⟨V50, h51, hV52⟩ := nameV h43
  clear h43
  refine then_ ?_
  refine wp_seq ?_
  have g53 : Grow w38 w38 := Grow.refl _
  have hl54 : bk29 < w38.heap.size := hb46.lt
  have hz55 : w18.heap.size ≤ w38.heap.size := g49.size
  refine wp_region_lit ?_
  refine wp_all [([6], []), ([1], []), ([], [0, 1]), ([], [2]), ([], [3]), ([], [3]), ([], [4]), ([], [5])] [1, 4, 6] w38.heap.size hf39 g53.size (by kernel_rfl) (bund_cons h51 (bund_cons (is_any h44) bund_nil)) ?_
  refine ch rfl (ob_move (arg_free 0 rfl rfl)) ?_
  refine ch rfl (ob_move (arg_free 1 rfl rfl)) ?_
  refine ch rfl (ob_call2 (by kernel_rfl) (c_Path ?_ ?_) (ArgOK.sl (ArgOK.val (arg_op 0 1 rfl rfl rfl rfl) hV52)) (arg_op 1 0 rfl rfl rfl rfl)) ?_
  · (rw [leaves_len]; omega)
  · omega
  refine ch rfl (ob_move (arg_op 2 0 rfl rfl rfl rfl)) ?_
  refine ch rfl (ob_extract0 (arg_op 3 0 rfl rfl rfl rfl)) ?_
  refine ch rfl (ob_extract1 (arg_op 3 1 rfl rfl rfl rfl)) ?_
  refine ch rfl (ob_assign (arg_op 4 1 rfl rfl rfl rfl)) ?_
  refine ch rfl (ob_assign (arg_op 5 1 rfl rfl rfl rfl)) ?_
  refine ch_nil ?_
  intro a56 w57 hf58 hg59 hk60 hn61
  have h62 : Holds (OwnS w38.heap.size _ _) (a56.eval (.tmp 7)) w57 := hn61.at 6 1 rfl rfl rfl
  have h63 : Holds _ (a56.eval (.tmp 8)) w57 := hn61.at 7 0 rfl rfl rfl
  have h64 := hk60.holds rfl h51
  have h65 := hk60.holds rfl h44
  have hv66 : Holds (Is (PtrV bk29)) (a56.eval (.tmp 4)) w57 := is_any (hk60.holds rfl hv45)
  have hb67 := hb46.up hg59
  have g68 := g47.trans hg59
  have g69 := g48.trans hg59
  have g70 := g49.trans hg59
  have g71 := g53.trans hg59
  clear h51 h44 hv45 hb46 g47 g48 g49 g53 hf39 hk60 hn61
  obtain ⟨V72, h73, hV74⟩ := nameV h62
  clear h62
  refine then_ ?_
  refine wp_seq ?_
  refine wp_seq ?_
  refine wp_region_lit ?_
  refine wp_all [([8], []), ([], [0])] [1, 4, 6, 7] w38.heap.size hf58 g71.size (by kernel_rfl) (bund_cons h63 bund_nil) ?_
  refine ch rfl (ob_move (arg_free 0 rfl rfl)) ?_
  refine ch rfl (ob_not (arg_op 0 0 rfl rfl rfl rfl)) ?_
  refine ch_nil ?_
  intro a75 w76 hf77 hg78 hk79 hn80
  have h81 : Holds _ (a75.eval (.tmp 18)) w76 := hn80.at 1 0 rfl rfl rfl
  have h82 := hk79.holds rfl (h73.up hg78)
  have h83 := hk79.holds rfl h64
  have h84 := hk79.holds rfl h65
  have hv85 : Holds (Is (PtrV bk29)) (a75.eval (.tmp 4)) w76 := is_any (hk79.holds rfl hv66)
  have hb86 := hb67.up hg78
  have g87 := g68.trans hg78
  have g88 := g69.trans hg78
  have g89 := g70.trans hg78
  have g90 := g71.trans hg78
  have hV91 := hV74.up hg78
  clear h73 h64 h65 hv66 hb67 g68 g69 g70 g71 hf58 hk79 hn80 hg78 hV74
  refine then_ ?_
  refine wp_if h81 ?_ ?_
  · intro hc92
    have hp : pathB (leaves s) i = false := by simpa using hc92
    refine wp_seq ?_
    have g93 : Grow w76 w76 := Grow.refl _
    have hl94 : bk29 < w76.heap.size := hb86.lt
    have hz95 : w38.heap.size ≤ w76.heap.size := g90.size
    refine wp_region_lit ?_
    refine wp_seg (l1 := [_]) [([], [])] [4] w76.heap.size hf77 g93.size (by kernel_rfl) bund_nil ?_
    refine ch rfl (ob_build_inc0 (lo := w76.heap.size)) ?_
    refine ch_nil ?_
    intro a96 w97 hf98 hg99 hk100 hn101
    have h102 : Holds (IncO w76.heap.size _) (a96.eval (.tmp 19)) w97 := hn101.at 0 0 rfl rfl rfl
    have hv103 : Holds (Is (PtrV bk29)) (a96.eval (.tmp 4)) w97 := is_any (hk100.holds rfl hv85)
    have hb104 := hb86.up hg99
    have g105 := g87.trans hg99
    have g106 := g88.trans hg99
    have g107 := g89.trans hg99
    have g108 := g90.trans hg99
    have g109 := g93.trans hg99
    clear hv85 hb86 g87 g88 g89 g90 g93 hf77 hk100 hn101
    obtain ⟨V110, h111, hV112⟩ := openIO h102
    refine wl_store_inc hv103 hb104 rfl h111 (inc_one (OwnS.sl hV112)) ?_
    intro w113 ho114 hb115
    have g116 : Grow w0 w113 := g105.only ho114 (by omega)
    have g117 : Grow w2 w113 := g106.only ho114 (by omega)
    have g118 : Siz w18 w113 := Siz.below g107.size ho114.below
    have g119 : Siz w38 w113 := Siz.below g108.size ho114.below
    have g120 : Siz w76 w113 := Siz.below g109.size ho114.below
    have hv121 : Holds (Is (PtrV bk29)) (a96.eval (.tmp 4)) w113 := is_any hv103
    have hV122 : Holds _ V110 w113 := OwnS.only hV112 ho114 (by omega)
    refine wp_all [([], [])] [4] w76.heap.size hf98 g120.size (by kernel_rfl) bund_nil ?_
    refine ch rfl (ob_assign arg_c) ?_
    refine ch_nil ?_
    intro a123 w124 hf125 hg126 hk127 hn128
    have h129 : Holds _ (a123.eval (.tmp 5)) w124 := hn128.at 0 0 rfl rfl rfl
    have hv130 : Holds (Is (PtrV bk29)) (a123.eval (.tmp 4)) w124 := is_any (hk127.holds rfl hv121)
    have hb131 := hb115.up hg126
    have g132 := g116.trans hg126
    have g133 := g117.trans hg126
    have g134 : Siz w18 w124 := g118.trans hg126
    have g135 : Siz w38 w124 := g119.trans hg126
    have g136 : Siz w76 w124 := g120.trans hg126
    have hV137 := hV122.up hg126
    clear hv121 hb115 g116 g117 g118 g119 g120 hf98 hk127 hn128 hg126 hV122
    refine then_ ?_
    refine wp_ret ?_
    refine thenR ?_
    refine ret_cell_tmp rfl Tryz.underlying44 rfl (by kernel_rfl) hf125 g132 (hb131.ptr hv130) ?_ (is_cast h129 (congrArg intV (by first | exact prvE_no hp | exact prvE_yes hp)))
    exact inc_cast (mkIO (OwnS.mono hV137 (by omega))) (by first | exact prvI_no hp | exact prvI_yes hp)
  · intro hc92
    have hp : pathB (leaves s) i = true := by simpa using hc92
    refine wp_skip ?_
    refine then_ ?_
    refine wp_seq ?_
    have g138 : Grow w76 w76 := Grow.refl _
    have hl139 : bk29 < w76.heap.size := hb86.lt
    have hz140 : w38.heap.size ≤ w76.heap.size := g90.size
    refine wp_region_lit ?_
    refine wp_seg (l1 := [_, _, _, _, _]) [([1], []), ([6], []), ([], [1]), ([7], []), ([], [0, 2, 3])] [4] w76.heap.size hf77 g138.size (by kernel_rfl) (bund_cons (is_any h84) (bund_cons (is_any h83) (bund_cons h82 bund_nil))) ?_
    refine ch rfl (ob_move (arg_free 0 rfl rfl)) ?_
    refine ch rfl (ob_move (arg_free 1 rfl rfl)) ?_
    refine ch rfl (ob_len (ArgOK.sl (ArgOK.val (arg_op 1 0 rfl rfl rfl rfl) (hV52.up g90))) Tryz.underlying25) ?_
    refine ch rfl (ob_move (arg_free 2 rfl rfl)) ?_
    refine ch rfl (ob_build_inc (arg_op 0 3 rfl rfl rfl rfl) (arg_op 2 1 rfl rfl rfl rfl) (ArgOK.val (arg_op 3 0 rfl rfl rfl rfl) hV91)) ?_
    refine ch_nil ?_
    intro a141 w142 hf143 hg144 hk145 hn146
    have h147 : Holds _ (a141.eval (.tmp 24)) w142 := hn146.at 4 0 rfl rfl rfl
    have hv148 : Holds (Is (PtrV bk29)) (a141.eval (.tmp 4)) w142 := is_any (hk145.holds rfl hv85)
    have hb149 := hb86.up hg144
    have g150 := g87.trans hg144
    have g151 := g88.trans hg144
    have g152 := g89.trans hg144
    have g153 := g90.trans hg144
    have g154 := g138.trans hg144
    clear hv85 hb86 g87 g88 g89 g90 g138 hf77 hk145 hn146
    obtain ⟨V155, h156, hV157⟩ := openIO h147
    refine wl_store_inc hv148 hb149 rfl h156 (inc_one (OwnS.sl hV157)) ?_
    intro w158 ho159 hb160
    have g161 : Grow w0 w158 := g150.only ho159 (by omega)
    have g162 : Grow w2 w158 := g151.only ho159 (by omega)
    have g163 : Siz w18 w158 := Siz.below g152.size ho159.below
    have g164 : Siz w38 w158 := Siz.below g153.size ho159.below
    have hv166 : Holds (Is (PtrV bk29)) (a141.eval (.tmp 4)) w158 := is_any hv148
    have hV167 : Holds _ V155 w158 := OwnS.only hV157 ho159 (by omega)
    refine wp_all [([], [])] [4] w38.heap.size hf143 g164.size (by kernel_rfl) bund_nil ?_
    refine ch rfl (ob_assign arg_c) ?_
    refine ch_nil ?_
    intro a168 w169 hf170 hg171 hk172 hn173
    have h174 : Holds _ (a168.eval (.tmp 5)) w169 := hn173.at 0 0 rfl rfl rfl
    have hv175 : Holds (Is (PtrV bk29)) (a168.eval (.tmp 4)) w169 := is_any (hk172.holds rfl hv166)
    have hb176 := hb160.up hg171
    have g177 := g161.trans hg171
    have g178 := g162.trans hg171
    have g179 : Siz w18 w169 := g163.trans hg171
    have g180 : Siz w38 w169 := g164.trans hg171
    have hV181 := hV167.up hg171
    clear hv166 hb160 g161 g162 g163 g164 hf143 hk172 hn173 hg171 hV167
    refine then_ ?_
    refine wp_ret ?_
    refine ret_cell_tmp rfl Tryz.underlying44 rfl (by kernel_rfl) hf170 g177 (hb176.ptr hv175) ?_ (is_cast h174 (congrArg intV (by first | exact prvE_no hp | exact prvE_yes hp)))
    exact inc_cast (mkIO (OwnS.mono hV181 (by omega))) (by first | exact prvI_no hp | exact prvI_yes hp)
set_option maxRecDepth 100000 in
theorem c_ProveCell {s : GState} {c : GCell} (hs : stOK s) : Con2 14 (StF s) (Is (cellV c)) (fun lo => Two (IncO lo (prvI s (fnd s.cells c))) (Is (intV (prvE s (fnd s.cells c))))) := by
  intro lo v0 v1 w0 hlo hv0 hv1
  refine enter Tryz.func14 rfl Tryz.ntmps14 (by simp) ?_
  intro a0 hf0 ha
  obtain ⟨va0, vb0, vc0, vd0, he0, hva0, hvb0, hvc0, hvd0⟩ := openF hv0
  have h00 : Holds (Is _) (a0.eval (.tmp 0)) w0 := arg_holds ha rfl he0
  have h01 : Holds _ (a0.eval (.tmp 1)) w0 := arg_holds ha rfl hv1
  clear ha
  have g0 : Grow w0 w0 := Grow.refl _
  obtain ⟨hs1, hs2, hs3, hs4⟩ := id hs
  refine wp_seq ?_
  refine wp_region_lit ?_
  refine wp_seg (l1 := [_]) [([0], [])] [1] w0.heap.size hf0 g0.size (by kernel_rfl) (bund_cons h00 bund_nil) ?_
  refine ch rfl (ob_box_state (arg_free 0 rfl rfl)) ?_
  refine ch_nil ?_
  intro a1 w2 hf3 hg4 hk5 hn6
  have h7 : Holds _ (a1.eval (.tmp 2)) w2 := hn6.at 0 0 rfl rfl rfl
  have h8 := hk5.holds rfl h01
  have g9 := g0.trans hg4
  obtain ⟨bk10, hl11, hv12, hb13⟩ := OwnB.blk (lo := w0.heap.size) h7
  clear h01 g0 hf0 hk5 hn6
  have g14 : Grow w2 w2 := Grow.refl _
  have hl15 : bk10 < w2.heap.size := hb13.lt
  have hz16 : w0.heap.size ≤ w2.heap.size := g9.size
  refine wp_seg (l1 := [_]) [([1], [])] [2] w2.heap.size hf3 g14.size (by kernel_rfl) (bund_cons (is_any h8) bund_nil) ?_
  refine ch rfl (ob_box_cell (arg_free 0 rfl rfl)) ?_
  refine ch_nil ?_
  intro a17 w18 hf19 hg20 hk21 hn22
  have h23 : Holds _ (a17.eval (.tmp 3)) w18 := hn22.at 0 0 rfl rfl rfl
  have hv24 : Holds (Is (PtrV bk10)) (a17.eval (.tmp 2)) w18 := is_any (hk21.holds rfl hv12)
  have hb25 := hb13.up hg20
  have g26 := g9.trans hg20
  have g27 := g14.trans hg20
  obtain ⟨bk28, hl29, hv30, hb31⟩ := OwnB.blk (lo := w2.heap.size) h23
  clear hv12 hb13 g9 g14 hf3 hk21 hn22
  have g32 : Grow w18 w18 := Grow.refl _
  have hl33 : bk10 < w18.heap.size := hb25.lt
  have hl34 : bk28 < w18.heap.size := hb31.lt
  have hz35 : w2.heap.size ≤ w18.heap.size := g27.size
  refine wp_all [([], []), ([], [])] [2, 3] w18.heap.size hf19 g32.size (by kernel_rfl) bund_nil ?_
  refine ch rfl (ob_alloc_inc) ?_
  refine ch rfl (ob_assign arg_c) ?_
  refine ch_nil ?_
  intro a36 w37 hf38 hg39 hk40 hn41
  have h42 : Holds _ (a36.eval (.tmp 4)) w37 := hn41.at 0 1 rfl rfl rfl
  have hv43 : Holds (Is (PtrV bk10)) (a36.eval (.tmp 2)) w37 := is_any (hk40.holds rfl hv24)
  have hb44 := hb25.up hg39
  have hv45 : Holds (Is (PtrV bk28)) (a36.eval (.tmp 3)) w37 := is_any (hk40.holds rfl hv30)
  have hb46 := hb31.up hg39
  have g47 := g26.trans hg39
  have g48 := g27.trans hg39
  have g49 := g32.trans hg39
  obtain ⟨bk50, hl51, hv52, hb53⟩ := OwnB.blk (lo := w18.heap.size) h42
  clear hv24 hb25 hv30 hb31 g26 g27 g32 hf19 hk40 hn41
  refine then_ ?_
  refine wp_seq ?_
  have g54 : Grow w37 w37 := Grow.refl _
  have hl55 : bk10 < w37.heap.size := hb44.lt
  have hl56 : bk28 < w37.heap.size := hb46.lt
  have hl57 : bk50 < w37.heap.size := hb53.lt
  have hz58 : w18.heap.size ≤ w37.heap.size := g49.size
  refine wp_region_lit ?_
  refine wp_all [([2], []), ([3], []), ([], [0, 1]), ([], [2])] [2, 4] w37.heap.size hf38 g54.size (by kernel_rfl) (bund_cons (hb44.ownp hv43) (bund_cons (hb46.ownp hv45) bund_nil)) ?_
  refine ch rfl (ob_load_state (ArgOK.ownp (arg_free 0 rfl rfl))) ?_
  refine ch rfl (ob_load_cell (ArgOK.ownp (arg_free 1 rfl rfl))) ?_
  refine ch rfl (ob_call2 (by kernel_rfl) (c_find ?_) (ArgOK.val (arg_op 0 1 rfl rfl rfl rfl) (mkFs (s := s) (hva0.up g47) (hvb0.up g47) (hvc0.up g47) (hvd0.up g47))) (arg_op 1 0 rfl rfl rfl rfl)) ?_
  · assumption
  refine ch rfl (ob_assign (arg_op 2 0 rfl rfl rfl rfl)) ?_
  refine ch_nil ?_
  intro a59 w60 hf61 hg62 hk63 hn64
  have h65 : Holds _ (a59.eval (.tmp 6)) w60 := hn64.at 3 0 rfl rfl rfl
  have hv66 : Holds (Is (PtrV bk10)) (a59.eval (.tmp 2)) w60 := is_any (hk63.holds rfl hv43)
  have hb67 := hb44.up hg62
  have hv68 : Holds (Is (PtrV bk50)) (a59.eval (.tmp 4)) w60 := is_any (hk63.holds rfl hv52)
  have hb69 := hb53.up hg62
  have g70 := g47.trans hg62
  have g71 := g48.trans hg62
  have g72 := g49.trans hg62
  have g73 := g54.trans hg62
  clear hv43 hb44 hv52 hb53 g47 g48 g49 g54 hf38 hk63 hn64
  refine then_ ?_
  refine wp_seq ?_
  refine wp_seq ?_
  refine wp_region_lit ?_
  refine wp_all [([6], []), ([], [0])] [2, 4, 6] w37.heap.size hf61 g73.size (by kernel_rfl) (bund_cons h65 bund_nil) ?_
  refine ch rfl (ob_move (arg_free 0 rfl rfl)) ?_
  refine ch rfl (ob_lss (arg_op 0 0 rfl rfl rfl rfl) arg_c) ?_
  refine ch_nil ?_
  intro a74 w75 hf76 hg77 hk78 hn79
  have h80 : Holds _ (a74.eval (.tmp 11)) w75 := hn79.at 1 0 rfl rfl rfl
  have h81 := hk78.holds rfl (h65.up hg77)
  have hv82 : Holds (Is (PtrV bk10)) (a74.eval (.tmp 2)) w75 := is_any (hk78.holds rfl hv66)
  have hb83 := hb67.up hg77
  have hv84 : Holds (Is (PtrV bk50)) (a74.eval (.tmp 4)) w75 := is_any (hk78.holds rfl hv68)
  have hb85 := hb69.up hg77
  have g86 := g70.trans hg77
  have g87 := g71.trans hg77
  have g88 := g72.trans hg77
  have g89 := g73.trans hg77
  clear h65 hv66 hb67 hv68 hb69 g70 g71 g72 g73 hf61 hk78 hn79 hg77
  refine then_ ?_
  refine wp_if h80 ?_ ?_
  · intro hc90
    try simp only [cond_norm] at hc90
    have hp := pathB_neg (l := leaves s) hc90
    refine wp_seq ?_
    have g91 : Grow w75 w75 := Grow.refl _
    have hl92 : bk10 < w75.heap.size := hb83.lt
    have hl93 : bk50 < w75.heap.size := hb85.lt
    have hz94 : w37.heap.size ≤ w75.heap.size := g89.size
    refine wp_region_lit ?_
    refine wp_seg (l1 := [_]) [([], [])] [4] w75.heap.size hf76 g91.size (by kernel_rfl) bund_nil ?_
    refine ch rfl (ob_build_inc0 (lo := w75.heap.size)) ?_
    refine ch_nil ?_
    intro a95 w96 hf97 hg98 hk99 hn100
    have h101 : Holds (IncO w75.heap.size _) (a95.eval (.tmp 12)) w96 := hn100.at 0 0 rfl rfl rfl
    have hv102 : Holds (Is (PtrV bk50)) (a95.eval (.tmp 4)) w96 := is_any (hk99.holds rfl hv84)
    have hb103 := hb85.up hg98
    have g104 := g86.trans hg98
    have g105 := g87.trans hg98
    have g106 := g88.trans hg98
    have g107 := g89.trans hg98
    have g108 := g91.trans hg98
    clear hv84 hb85 g86 g87 g88 g89 g91 hf76 hk99 hn100
    obtain ⟨V109, h110, hV111⟩ := openIO h101
    refine wl_store_inc hv102 hb103 rfl h110 (inc_one (OwnS.sl hV111)) ?_
    intro w112 ho113 hb114
    have g115 : Grow w0 w112 := g104.only ho113 (by omega)
    have g116 : Grow w2 w112 := g105.only ho113 (by omega)
    have g117 : Grow w18 w112 := g106.only ho113 (by omega)
    have g118 : Siz w37 w112 := Siz.below g107.size ho113.below
    have g119 : Siz w75 w112 := Siz.below g108.size ho113.below
    have hv120 : Holds (Is (PtrV bk50)) (a95.eval (.tmp 4)) w112 := is_any hv102
    have hV121 : Holds _ V109 w112 := OwnS.only hV111 ho113 (by omega)
    refine wp_all [([], [])] [4] w75.heap.size hf97 g119.size (by kernel_rfl) bund_nil ?_
    refine ch rfl (ob_assign arg_c) ?_
    refine ch_nil ?_
    intro a122 w123 hf124 hg125 hk126 hn127
    have h128 : Holds _ (a122.eval (.tmp 5)) w123 := hn127.at 0 0 rfl rfl rfl
    have hv129 : Holds (Is (PtrV bk50)) (a122.eval (.tmp 4)) w123 := is_any (hk126.holds rfl hv120)
    have hb130 := hb114.up hg125
    have g131 := g115.trans hg125
    have g132 := g116.trans hg125
    have g133 := g117.trans hg125
    have g134 : Siz w37 w123 := g118.trans hg125
    have g135 : Siz w75 w123 := g119.trans hg125
    have hV136 := hV121.up hg125
    clear hv120 hb114 g115 g116 g117 g118 g119 hf97 hk126 hn127 hg125 hV121
    refine then_ ?_
    refine wp_ret ?_
    refine thenR ?_
    refine ret_cell_tmp rfl Tryz.underlying44 rfl (by kernel_rfl) hf124 g131 (hb130.ptr hv129) ?_ (is_cast h128 (congrArg intV (by first | rfl | exact prvE_no hp)))
    exact inc_cast (mkIO (OwnS.mono hV136 (by omega))) (by first | rfl | exact prvI_no hp)
  · intro hc90
    try simp only [cond_norm] at hc90
    have hp := hc90
    refine wp_skip ?_
    refine then_ ?_
    refine wp_seq ?_
    have g137 : Grow w75 w75 := Grow.refl _
    have hl138 : bk10 < w75.heap.size := hb83.lt
    have hl139 : bk50 < w75.heap.size := hb85.lt
    have hz140 : w37.heap.size ≤ w75.heap.size := g89.size
    refine wp_region_lit ?_
    refine wp_seg (l1 := [_, _, _, _, _]) [([2], []), ([6], []), ([], [0, 1]), ([], [2]), ([], [2])] [4] w75.heap.size hf76 g137.size (by kernel_rfl) (bund_cons (hb83.ownp hv82) (bund_cons h81 bund_nil)) ?_
    refine ch rfl (ob_load_state (ArgOK.ownp (arg_free 0 rfl rfl))) ?_
    refine ch rfl (ob_move (arg_free 1 rfl rfl)) ?_
    refine ch rfl (ob_call2 (by kernel_rfl) (c_prove ?_ ?_) (ArgOK.val (arg_op 0 1 rfl rfl rfl rfl) (mkFs (s := s) (hva0.up g86) (hvb0.up g86) (hvc0.up g86) (hvd0.up g86))) (arg_op 1 0 rfl rfl rfl rfl)) ?_
    · assumption
    · omega
    refine ch rfl (ob_extract0 (arg_op 2 0 rfl rfl rfl rfl)) ?_
    refine ch rfl (ob_extract1 (arg_op 2 1 rfl rfl rfl rfl)) ?_
    refine ch_nil ?_
    intro a141 w142 hf143 hg144 hk145 hn146
    have h147 : Holds (IncO w75.heap.size _) (a141.eval (.tmp 16)) w142 := hn146.at 3 1 rfl rfl rfl
    have h148 : Holds _ (a141.eval (.tmp 17)) w142 := hn146.at 4 0 rfl rfl rfl
    have hv149 : Holds (Is (PtrV bk50)) (a141.eval (.tmp 4)) w142 := is_any (hk145.holds rfl hv84)
    have hb150 := hb85.up hg144
    have g151 := g86.trans hg144
    have g152 := g87.trans hg144
    have g153 := g88.trans hg144
    have g154 := g89.trans hg144
    have g155 := g137.trans hg144
    clear hv84 hb85 g86 g87 g88 g89 g137 hf76 hk145 hn146
    obtain ⟨V156, h157, hV158⟩ := openIO h147
    refine wl_store_inc hv149 hb150 rfl h157 (inc_one (OwnS.sl hV158)) ?_
    intro w159 ho160 hb161
    have g162 : Grow w0 w159 := g151.only ho160 (by omega)
    have g163 : Grow w2 w159 := g152.only ho160 (by omega)
    have g164 : Grow w18 w159 := g153.only ho160 (by omega)
    have g165 : Siz w37 w159 := Siz.below g154.size ho160.below
    have g166 : Siz w75 w159 := Siz.below g155.size ho160.below
    have h167 : Holds _ (a141.eval (.tmp 17)) w159 := is_any h148
    have hv168 : Holds (Is (PtrV bk50)) (a141.eval (.tmp 4)) w159 := is_any hv149
    have hV169 : Holds _ V156 w159 := OwnS.only hV158 ho160 (by omega)
    refine wp_all [([17], [])] [4] w75.heap.size hf143 g166.size (by kernel_rfl) (bund_cons h167 bund_nil) ?_
    refine ch rfl (ob_assign (arg_free 0 rfl rfl)) ?_
    refine ch_nil ?_
    intro a170 w171 hf172 hg173 hk174 hn175
    have h176 : Holds _ (a170.eval (.tmp 5)) w171 := hn175.at 0 0 rfl rfl rfl
    have hv177 : Holds (Is (PtrV bk50)) (a170.eval (.tmp 4)) w171 := is_any (hk174.holds rfl hv168)
    have hb178 := hb161.up hg173
    have g179 := g162.trans hg173
    have g180 := g163.trans hg173
    have g181 := g164.trans hg173
    have g182 : Siz w37 w171 := g165.trans hg173
    have g183 : Siz w75 w171 := g166.trans hg173
    have hV184 := hV169.up hg173
    clear hv168 hb161 g162 g163 g164 g165 g166 hf143 hk174 hn175 hg173 hV169
    refine then_ ?_
    refine wp_ret ?_
    refine ret_cell_tmp rfl Tryz.underlying44 rfl (by kernel_rfl) hf172 g179 (hb178.ptr hv177) ?_ (is_cast h176 (congrArg intV (by first | rfl | exact prvE_no hp)))
    exact inc_cast (mkIO (OwnS.mono hV184 (by omega))) (by first | rfl | exact prvI_no hp)
set_option maxRecDepth 100000 in
theorem c_ProveApplied {s : GState} {n : UInt64} (hs : stOK s) : Con2 16 (StF s) (Is (nmV n)) (fun lo => Two (IncO lo (prvI s (appI s n))) (Is (intV (prvE s (appI s n))))) := by
  intro lo v0 v1 w0 hlo hv0 hv1
  refine enter Tryz.func16 rfl Tryz.ntmps16 (by simp) ?_
  intro a0 hf0 ha
  obtain ⟨va0, vb0, vc0, vd0, he0, hva0, hvb0, hvc0, hvd0⟩ := openF hv0
  have h00 : Holds (Is _) (a0.eval (.tmp 0)) w0 := arg_holds ha rfl he0
  have h01 : Holds _ (a0.eval (.tmp 1)) w0 := arg_holds ha rfl hv1
  clear ha
  have g0 : Grow w0 w0 := Grow.refl _
  obtain ⟨hs1, hs2, hs3, hs4⟩ := id hs
  refine wp_seq ?_
  refine wp_region_lit ?_
  refine wp_seg (l1 := [_]) [([0], [])] [1] w0.heap.size hf0 g0.size (by kernel_rfl) (bund_cons h00 bund_nil) ?_
  refine ch rfl (ob_box_state (arg_free 0 rfl rfl)) ?_
  refine ch_nil ?_
  intro a1 w2 hf3 hg4 hk5 hn6
  have h7 : Holds _ (a1.eval (.tmp 2)) w2 := hn6.at 0 0 rfl rfl rfl
  have h8 := hk5.holds rfl h01
  have g9 := g0.trans hg4
  obtain ⟨bk10, hl11, hv12, hb13⟩ := OwnB.blk (lo := w0.heap.size) h7
  clear h01 g0 hf0 hk5 hn6
  have g14 : Grow w2 w2 := Grow.refl _
  have hl15 : bk10 < w2.heap.size := hb13.lt
  have hz16 : w0.heap.size ≤ w2.heap.size := g9.size
  refine wp_seg (l1 := [_]) [([1], [])] [2] w2.heap.size hf3 g14.size (by kernel_rfl) (bund_cons (is_any h8) bund_nil) ?_
  refine ch rfl (ob_box_nm (arg_free 0 rfl rfl)) ?_
  refine ch_nil ?_
  intro a17 w18 hf19 hg20 hk21 hn22
  have h23 : Holds _ (a17.eval (.tmp 3)) w18 := hn22.at 0 0 rfl rfl rfl
  have hv24 : Holds (Is (PtrV bk10)) (a17.eval (.tmp 2)) w18 := is_any (hk21.holds rfl hv12)
  have hb25 := hb13.up hg20
  have g26 := g9.trans hg20
  have g27 := g14.trans hg20
  obtain ⟨bk28, hl29, hv30, hb31⟩ := OwnB.blk (lo := w2.heap.size) h23
  clear hv12 hb13 g9 g14 hf3 hk21 hn22
  have g32 : Grow w18 w18 := Grow.refl _
  have hl33 : bk10 < w18.heap.size := hb25.lt
  have hl34 : bk28 < w18.heap.size := hb31.lt
  have hz35 : w2.heap.size ≤ w18.heap.size := g27.size
  refine wp_all [([], []), ([], [])] [2, 3] w18.heap.size hf19 g32.size (by kernel_rfl) bund_nil ?_
  refine ch rfl (ob_alloc_inc) ?_
  refine ch rfl (ob_assign arg_c) ?_
  refine ch_nil ?_
  intro a36 w37 hf38 hg39 hk40 hn41
  have h42 : Holds _ (a36.eval (.tmp 4)) w37 := hn41.at 0 1 rfl rfl rfl
  have hv43 : Holds (Is (PtrV bk10)) (a36.eval (.tmp 2)) w37 := is_any (hk40.holds rfl hv24)
  have hb44 := hb25.up hg39
  have hv45 : Holds (Is (PtrV bk28)) (a36.eval (.tmp 3)) w37 := is_any (hk40.holds rfl hv30)
  have hb46 := hb31.up hg39
  have g47 := g26.trans hg39
  have g48 := g27.trans hg39
  have g49 := g32.trans hg39
  obtain ⟨bk50, hl51, hv52, hb53⟩ := OwnB.blk (lo := w18.heap.size) h42
  clear hv24 hb25 hv30 hb31 g26 g27 g32 hf19 hk40 hn41
  refine then_ ?_
  refine wp_seq ?_
  have g54 : Grow w37 w37 := Grow.refl _
  have hl55 : bk10 < w37.heap.size := hb44.lt
  have hl56 : bk28 < w37.heap.size := hb46.lt
  have hl57 : bk50 < w37.heap.size := hb53.lt
  have hz58 : w18.heap.size ≤ w37.heap.size := g49.size
  refine wp_region_lit ?_
  refine wp_all [([2], []), ([], [0]), ([3], []), ([], [1, 2]), ([], [3])] [2, 4] w37.heap.size hf38 g54.size (by kernel_rfl) (bund_cons (hb44.ownp hv43) (bund_cons (hb46.ownp hv45) bund_nil)) ?_
  refine ch rfl (ob_faP (n := 0) (arg_free 0 rfl rfl) Tryz.underlying28 rfl (by kernel_rfl)) ?_
  refine ch rfl (ob_loadP (arg_op 0 0 rfl rfl rfl rfl) Tryz.underlying25 rfl rfl) ?_
  refine ch rfl (ob_load_nm (ArgOK.ownp (arg_free 1 rfl rfl))) ?_
  refine ch rfl (ob_call2 (by kernel_rfl) (c_index ?_) (ArgOK.val (arg_op 1 1 rfl rfl rfl rfl) (hvd0.up g47)) (arg_op 2 0 rfl rfl rfl rfl)) ?_
  · omega
  refine ch rfl (ob_assign (arg_op 3 0 rfl rfl rfl rfl)) ?_
  refine ch_nil ?_
  intro a59 w60 hf61 hg62 hk63 hn64
  have h65 : Holds _ (a59.eval (.tmp 6)) w60 := hn64.at 4 0 rfl rfl rfl
  have hv66 : Holds (Is (PtrV bk10)) (a59.eval (.tmp 2)) w60 := is_any (hk63.holds rfl hv43)
  have hb67 := hb44.up hg62
  have hv68 : Holds (Is (PtrV bk50)) (a59.eval (.tmp 4)) w60 := is_any (hk63.holds rfl hv52)
  have hb69 := hb53.up hg62
  have g70 := g47.trans hg62
  have g71 := g48.trans hg62
  have g72 := g49.trans hg62
  have g73 := g54.trans hg62
  clear hv43 hb44 hv52 hb53 g47 g48 g49 g54 hf38 hk63 hn64
  refine then_ ?_
  refine wp_seq ?_
  refine wp_seq ?_
  refine wp_region_lit ?_
  refine wp_all [([6], []), ([], [0])] [2, 4, 6] w37.heap.size hf61 g73.size (by kernel_rfl) (bund_cons h65 bund_nil) ?_
  refine ch rfl (ob_move (arg_free 0 rfl rfl)) ?_
  refine ch rfl (ob_lss (arg_op 0 0 rfl rfl rfl rfl) arg_c) ?_
  refine ch_nil ?_
  intro a74 w75 hf76 hg77 hk78 hn79
  have h80 : Holds _ (a74.eval (.tmp 12)) w75 := hn79.at 1 0 rfl rfl rfl
  have h81 := hk78.holds rfl (h65.up hg77)
  have hv82 : Holds (Is (PtrV bk10)) (a74.eval (.tmp 2)) w75 := is_any (hk78.holds rfl hv66)
  have hb83 := hb67.up hg77
  have hv84 : Holds (Is (PtrV bk50)) (a74.eval (.tmp 4)) w75 := is_any (hk78.holds rfl hv68)
  have hb85 := hb69.up hg77
  have g86 := g70.trans hg77
  have g87 := g71.trans hg77
  have g88 := g72.trans hg77
  have g89 := g73.trans hg77
  clear h65 hv66 hb67 hv68 hb69 g70 g71 g72 g73 hf61 hk78 hn79 hg77
  refine then_ ?_
  refine wp_if h80 ?_ ?_
  · intro hc90
    try simp only [cond_norm] at hc90
    have hp : pathB (leaves s) (appI s n) = false := pathB_neg (by rw [appI_no hc90]; decide)
    refine wp_seq ?_
    have g91 : Grow w75 w75 := Grow.refl _
    have hl92 : bk10 < w75.heap.size := hb83.lt
    have hl93 : bk50 < w75.heap.size := hb85.lt
    have hz94 : w37.heap.size ≤ w75.heap.size := g89.size
    refine wp_region_lit ?_
    refine wp_seg (l1 := [_]) [([], [])] [4] w75.heap.size hf76 g91.size (by kernel_rfl) bund_nil ?_
    refine ch rfl (ob_build_inc0 (lo := w75.heap.size)) ?_
    refine ch_nil ?_
    intro a95 w96 hf97 hg98 hk99 hn100
    have h101 : Holds (IncO w75.heap.size _) (a95.eval (.tmp 13)) w96 := hn100.at 0 0 rfl rfl rfl
    have hv102 : Holds (Is (PtrV bk50)) (a95.eval (.tmp 4)) w96 := is_any (hk99.holds rfl hv84)
    have hb103 := hb85.up hg98
    have g104 := g86.trans hg98
    have g105 := g87.trans hg98
    have g106 := g88.trans hg98
    have g107 := g89.trans hg98
    have g108 := g91.trans hg98
    clear hv84 hb85 g86 g87 g88 g89 g91 hf76 hk99 hn100
    obtain ⟨V109, h110, hV111⟩ := openIO h101
    refine wl_store_inc hv102 hb103 rfl h110 (inc_one (OwnS.sl hV111)) ?_
    intro w112 ho113 hb114
    have g115 : Grow w0 w112 := g104.only ho113 (by omega)
    have g116 : Grow w2 w112 := g105.only ho113 (by omega)
    have g117 : Grow w18 w112 := g106.only ho113 (by omega)
    have g118 : Siz w37 w112 := Siz.below g107.size ho113.below
    have g119 : Siz w75 w112 := Siz.below g108.size ho113.below
    have hv120 : Holds (Is (PtrV bk50)) (a95.eval (.tmp 4)) w112 := is_any hv102
    have hV121 : Holds _ V109 w112 := OwnS.only hV111 ho113 (by omega)
    refine wp_all [([], [])] [4] w75.heap.size hf97 g119.size (by kernel_rfl) bund_nil ?_
    refine ch rfl (ob_assign arg_c) ?_
    refine ch_nil ?_
    intro a122 w123 hf124 hg125 hk126 hn127
    have h128 : Holds _ (a122.eval (.tmp 5)) w123 := hn127.at 0 0 rfl rfl rfl
    have hv129 : Holds (Is (PtrV bk50)) (a122.eval (.tmp 4)) w123 := is_any (hk126.holds rfl hv120)
    have hb130 := hb114.up hg125
    have g131 := g115.trans hg125
    have g132 := g116.trans hg125
    have g133 := g117.trans hg125
    have g134 : Siz w37 w123 := g118.trans hg125
    have g135 : Siz w75 w123 := g119.trans hg125
    have hV136 := hV121.up hg125
    clear hv120 hb114 g115 g116 g117 g118 g119 hf97 hk126 hn127 hg125 hV121
    refine then_ ?_
    refine wp_ret ?_
    refine thenR ?_
    refine ret_cell_tmp rfl Tryz.underlying44 rfl (by kernel_rfl) hf124 g131 (hb130.ptr hv129) ?_ (is_cast h128 (congrArg intV (by first | exact prvE_no hp | exact congrArg (prvE s) hp)))
    exact inc_cast (mkIO (OwnS.mono hV136 (by omega))) (by first | exact prvI_no hp | exact congrArg (prvI s) hp)
  · intro hc90
    try simp only [cond_norm] at hc90
    have hp := appI_yes hc90
    refine wp_skip ?_
    refine then_ ?_
    refine wp_seq ?_
    have hlt := idx_lt (p := fun y => decide (n = y)) (l := s.applied) (by omega)
    have g137 : Grow w75 w75 := Grow.refl _
    have hl138 : bk10 < w75.heap.size := hb83.lt
    have hl139 : bk50 < w75.heap.size := hb85.lt
    have hz140 : w37.heap.size ≤ w75.heap.size := g89.size
    refine wp_region_lit ?_
    refine wp_seg (l1 := [_, _, _, _, _, _, _, _, _, _, _, _, _, _, _, _, _]) [([2], []), ([2], []), ([], [1]), ([], [2]), ([2], []), ([], [4]), ([], [5]), ([], [3, 6]), ([2], []), ([], [8]), ([], [9]), ([], [7, 10]), ([6], []), ([], [11, 12]), ([], [0, 13]), ([], [14]), ([], [14])] [4] w75.heap.size hf76 g137.size (by kernel_rfl) (bund_cons (hb83.ownp hv82) (bund_cons h81 bund_nil)) ?_
    refine ch rfl (ob_load_state (ArgOK.ownp (arg_free 0 rfl rfl))) ?_
    refine ch rfl (ob_faP (n := 0) (arg_free 0 rfl rfl) Tryz.underlying28 rfl (by kernel_rfl)) ?_
    refine ch rfl (ob_loadP (arg_op 1 0 rfl rfl rfl rfl) Tryz.underlying22 rfl rfl) ?_
    refine ch rfl (ob_len (ArgOK.val (arg_op 2 0 rfl rfl rfl rfl) (hva0.up g86)) Tryz.underlying22) ?_
    refine ch rfl (ob_faP (n := 0) (arg_free 0 rfl rfl) Tryz.underlying28 rfl (by kernel_rfl)) ?_
    refine ch rfl (ob_loadP (arg_op 4 0 rfl rfl rfl rfl) Tryz.underlying23 rfl rfl) ?_
    refine ch rfl (ob_len (ArgOK.val (arg_op 5 0 rfl rfl rfl rfl) (hvb0.up g86)) Tryz.underlying23) ?_
    first
      | (refine ch rfl (ob_add' (arg_op 3 3 rfl rfl rfl rfl) (arg_op 6 0 rfl rfl rfl rfl) ?_) ?_; · omega)
      | refine ch rfl (ob_add (arg_op 3 3 rfl rfl rfl rfl) (arg_op 6 0 rfl rfl rfl rfl)) ?_
    refine ch rfl (ob_faP (n := 0) (arg_free 0 rfl rfl) Tryz.underlying28 rfl (by kernel_rfl)) ?_
    refine ch rfl (ob_loadP (arg_op 8 0 rfl rfl rfl rfl) Tryz.underlying24 rfl rfl) ?_
    refine ch rfl (ob_len (ArgOK.val (arg_op 9 0 rfl rfl rfl rfl) (hvc0.up g86)) Tryz.underlying24) ?_
    first
      | (refine ch rfl (ob_add' (arg_op 7 3 rfl rfl rfl rfl) (arg_op 10 0 rfl rfl rfl rfl) ?_) ?_; · omega)
      | refine ch rfl (ob_add (arg_op 7 3 rfl rfl rfl rfl) (arg_op 10 0 rfl rfl rfl rfl)) ?_
    refine ch rfl (ob_move (arg_free 1 rfl rfl)) ?_
    first
      | (refine ch rfl (ob_add' (arg_op 11 1 rfl rfl rfl rfl) (arg_op 12 0 rfl rfl rfl rfl) ?_) ?_; · omega)
      | refine ch rfl (ob_add (arg_op 11 1 rfl rfl rfl rfl) (arg_op 12 0 rfl rfl rfl rfl)) ?_
    refine ch rfl (ob_call2 (by kernel_rfl) (c_prove ?_ ?_) (ArgOK.val (arg_op 0 13 rfl rfl rfl rfl) (mkFs (s := s) (hva0.up g86) (hvb0.up g86) (hvc0.up g86) (hvd0.up g86))) (arg_op 13 0 rfl rfl rfl rfl)) ?_
    · assumption
    · omega
    refine ch rfl (ob_extract0 (arg_op 14 0 rfl rfl rfl rfl)) ?_
    refine ch rfl (ob_extract1 (arg_op 14 1 rfl rfl rfl rfl)) ?_
    refine ch_nil ?_
    intro a141 w142 hf143 hg144 hk145 hn146
    have h147 : Holds (IncO w75.heap.size _) (a141.eval (.tmp 29)) w142 := hn146.at 15 1 rfl rfl rfl
    have h148 : Holds _ (a141.eval (.tmp 30)) w142 := hn146.at 16 0 rfl rfl rfl
    have hv149 : Holds (Is (PtrV bk50)) (a141.eval (.tmp 4)) w142 := is_any (hk145.holds rfl hv84)
    have hb150 := hb85.up hg144
    have g151 := g86.trans hg144
    have g152 := g87.trans hg144
    have g153 := g88.trans hg144
    have g154 := g89.trans hg144
    have g155 := g137.trans hg144
    clear hv84 hb85 g86 g87 g88 g89 g137 hf76 hk145 hn146
    obtain ⟨V156, h157, hV158⟩ := openIO h147
    refine wl_store_inc hv149 hb150 rfl h157 (inc_one (OwnS.sl hV158)) ?_
    intro w159 ho160 hb161
    have g162 : Grow w0 w159 := g151.only ho160 (by omega)
    have g163 : Grow w2 w159 := g152.only ho160 (by omega)
    have g164 : Grow w18 w159 := g153.only ho160 (by omega)
    have g165 : Siz w37 w159 := Siz.below g154.size ho160.below
    have g166 : Siz w75 w159 := Siz.below g155.size ho160.below
    have h167 : Holds _ (a141.eval (.tmp 30)) w159 := is_any h148
    have hv168 : Holds (Is (PtrV bk50)) (a141.eval (.tmp 4)) w159 := is_any hv149
    have hV169 : Holds _ V156 w159 := OwnS.only hV158 ho160 (by omega)
    refine wp_all [([30], [])] [4] w75.heap.size hf143 g166.size (by kernel_rfl) (bund_cons h167 bund_nil) ?_
    refine ch rfl (ob_assign (arg_free 0 rfl rfl)) ?_
    refine ch_nil ?_
    intro a170 w171 hf172 hg173 hk174 hn175
    have h176 : Holds _ (a170.eval (.tmp 5)) w171 := hn175.at 0 0 rfl rfl rfl
    have hv177 : Holds (Is (PtrV bk50)) (a170.eval (.tmp 4)) w171 := is_any (hk174.holds rfl hv168)
    have hb178 := hb161.up hg173
    have g179 := g162.trans hg173
    have g180 := g163.trans hg173
    have g181 := g164.trans hg173
    have g182 : Siz w37 w171 := g165.trans hg173
    have g183 : Siz w75 w171 := g166.trans hg173
    have hV184 := hV169.up hg173
    clear hv168 hb161 g162 g163 g164 g165 g166 hf143 hk174 hn175 hg173 hV169
    refine then_ ?_
    refine wp_ret ?_
    refine ret_cell_tmp rfl Tryz.underlying44 rfl (by kernel_rfl) hf172 g179 (hb178.ptr hv177) ?_ (is_cast h176 (congrArg intV (by first | exact prvE_no hp | exact congrArg (prvE s) hp)))
    exact inc_cast (mkIO (OwnS.mono hV184 (by omega))) (by first | exact prvI_no hp | exact congrArg (prvI s) hp)
set_option maxRecDepth 100000 in
theorem c_CheckCell {r : UInt64} {d : GDelta} {x : GInc} (h1 : -9223372036854775808 ≤ x.index) (h2 : x.count ≤ 9223372036854775807) : Con3 20 (Is (nmV r)) (Is (deltaV d)) (IncF x) (fun _ => Is (.bool (verB r (leafC d) x.index x.count x.path))) := by
  intro lo v0 v1 v2 w0 hlo hv0 hv1 hv2
  refine enter Tryz.func20 rfl Tryz.ntmps20 (by simp) ?_
  intro a0 hf0 ha
  have h00 : Holds _ (a0.eval (.tmp 0)) w0 := arg_holds ha rfl hv0
  have h01 : Holds _ (a0.eval (.tmp 1)) w0 := arg_holds ha rfl hv1
  obtain ⟨va2, he2, hva2⟩ := openIF hv2
  have h02 : Holds (Is _) (a0.eval (.tmp 2)) w0 := arg_holds ha rfl he2
  clear ha
  have g0 : Grow w0 w0 := Grow.refl _
  refine wp_seq ?_
  refine wp_region_lit ?_
  refine wp_seg (l1 := [_]) [([0], [])] [1, 2] w0.heap.size hf0 g0.size (by kernel_rfl) (bund_cons h00 bund_nil) ?_
  refine ch rfl (ob_box_nm (arg_free 0 rfl rfl)) ?_
  refine ch_nil ?_
  intro a1 w2 hf3 hg4 hk5 hn6
  have h7 : Holds _ (a1.eval (.tmp 3)) w2 := hn6.at 0 0 rfl rfl rfl
  have h8 := hk5.holds rfl h01
  have h9 := hk5.holds rfl h02
  have g10 := g0.trans hg4
  obtain ⟨bk11, hl12, hv13, hb14⟩ := OwnB.blk (lo := w0.heap.size) h7
  clear h01 h02 g0 hf0 hk5 hn6
  have g15 : Grow w2 w2 := Grow.refl _
  have hl16 : bk11 < w2.heap.size := hb14.lt
  have hz17 : w0.heap.size ≤ w2.heap.size := g10.size
  refine wp_seg (l1 := [_]) [([1], [])] [2, 3] w2.heap.size hf3 g15.size (by kernel_rfl) (bund_cons (is_any h8) bund_nil) ?_
  refine ch rfl (ob_box_delta (arg_free 0 rfl rfl)) ?_
  refine ch_nil ?_
  intro a18 w19 hf20 hg21 hk22 hn23
  have h24 : Holds _ (a18.eval (.tmp 4)) w19 := hn23.at 0 0 rfl rfl rfl
  have h25 := hk22.holds rfl h9
  have hv26 : Holds (Is (PtrV bk11)) (a18.eval (.tmp 3)) w19 := is_any (hk22.holds rfl hv13)
  have hb27 := hb14.up hg21
  have g28 := g10.trans hg21
  have g29 := g15.trans hg21
  obtain ⟨bk30, hl31, hv32, hb33⟩ := OwnB.blk (lo := w2.heap.size) h24
  clear h9 hv13 hb14 g10 g15 hf3 hk22 hn23
  have g34 : Grow w19 w19 := Grow.refl _
  have hl35 : bk11 < w19.heap.size := hb27.lt
  have hl36 : bk30 < w19.heap.size := hb33.lt
  have hz37 : w2.heap.size ≤ w19.heap.size := g29.size
  refine wp_all [([2], []), ([], [])] [3, 4] w19.heap.size hf20 g34.size (by kernel_rfl) (bund_cons (is_any h25) bund_nil) ?_
  refine ch rfl (ob_box_inc (arg_free 0 rfl rfl)) ?_
  refine ch rfl (ob_assign arg_c) ?_
  refine ch_nil ?_
  intro a38 w39 hf40 hg41 hk42 hn43
  have h44 : Holds _ (a38.eval (.tmp 5)) w39 := hn43.at 0 1 rfl rfl rfl
  have hv45 : Holds (Is (PtrV bk11)) (a38.eval (.tmp 3)) w39 := is_any (hk42.holds rfl hv26)
  have hb46 := hb27.up hg41
  have hv47 : Holds (Is (PtrV bk30)) (a38.eval (.tmp 4)) w39 := is_any (hk42.holds rfl hv32)
  have hb48 := hb33.up hg41
  have g49 := g28.trans hg41
  have g50 := g29.trans hg41
  have g51 := g34.trans hg41
  obtain ⟨bk52, hl53, hv54, hb55⟩ := OwnB.blk (lo := w19.heap.size) h44
  clear hv26 hb27 hv32 hb33 g28 g29 g34 hf20 hk42 hn43
  refine then_ ?_
  refine wp_seq ?_
  have g56 : Grow w39 w39 := Grow.refl _
  have hl57 : bk11 < w39.heap.size := hb46.lt
  have hl58 : bk30 < w39.heap.size := hb48.lt
  have hl59 : bk52 < w39.heap.size := hb55.lt
  have hz60 : w19.heap.size ≤ w39.heap.size := g51.size
  refine wp_calm [0, 0, 2, 0, 8, 0, 32, 0, 128, 511, 1023] [([3], []), ([4], []), ([], [1]), ([5], []), ([], [3]), ([5], []), ([], [5]), ([5], []), ([], [7]), ([], [0, 2, 4, 6, 8]), ([], [9])] [] w39.heap.size hf40 g56.size (by kernel_rfl) (bund_cons (hb46.ownp hv45) (bund_cons (hb48.ownp hv47) (bund_cons (hb55.ownp hv54) bund_nil))) ?_
  intro ws61 hs62
  refine ch rfl (ob_load_nm (ArgOK.ownp (arg_free 0 rfl rfl))) ?_
  refine ch rfl (ob_load_delta (ArgOK.ownp (arg_free 1 rfl rfl))) ?_
  refine ch rfl (ob_call1 (by kernel_rfl) (c_leafCell) (arg_op 1 0 rfl rfl rfl rfl)) ?_
  refine ch rfl (ob_faP (n := 0) (arg_free 2 rfl rfl) Tryz.underlying44 rfl (by kernel_rfl)) ?_
  refine ch rfl (ob_loadP (arg_op 3 0 rfl rfl rfl rfl) Tryz.underlying3 rfl rfl) ?_
  refine ch rfl (ob_faP (n := 0) (arg_free 2 rfl rfl) Tryz.underlying44 rfl (by kernel_rfl)) ?_
  refine ch rfl (ob_loadP (arg_op 5 0 rfl rfl rfl rfl) Tryz.underlying3 rfl rfl) ?_
  refine ch rfl (ob_faP (n := 0) (arg_free 2 rfl rfl) Tryz.underlying44 rfl (by kernel_rfl)) ?_
  refine ch rfl (ob_loadP (arg_op 7 0 rfl rfl rfl rfl) Tryz.underlying25 rfl rfl) ?_
  refine ch rfl (ob_call5 (by kernel_rfl) (c_Verify ?_ ?_) (arg_op 0 8 rfl rfl rfl rfl) (arg_op 2 6 rfl rfl rfl rfl) (arg_op 4 4 rfl rfl rfl rfl) (arg_op 6 2 rfl rfl rfl rfl) (ArgOK.val (arg_op 8 0 rfl rfl rfl rfl) ((hva2.up g49).up hs62))) ?_
  · omega
  · omega
  refine ch rfl (ob_assign (arg_op 9 0 rfl rfl rfl rfl)) ?_
  refine ch_nil ?_
  intro a63 w64 hf65 hg66 hk67 hn68
  have h69 : Holds _ (a63.eval (.tmp 6)) w64 := hn68.at 10 0 rfl rfl rfl
  have g70 := g49.trans hg66
  have g71 := g50.trans hg66
  have g72 := g51.trans hg66
  have g73 := g56.trans hg66
  clear g49 g50 g51 g56 hf40 hk67 hn68
  refine then_ ?_
  refine wp_ret ?_
  exact ret_tmp rfl hf65 g70 h69
set_option maxRecDepth 100000 in
theorem c_CheckApplied {r n : UInt64} {x : GInc} (h1 : -9223372036854775808 ≤ x.index) (h2 : x.count ≤ 9223372036854775807) : Con3 22 (Is (nmV r)) (Is (nmV n)) (IncF x) (fun _ => Is (.bool (verB r (leafA n) x.index x.count x.path))) := by
  intro lo v0 v1 v2 w0 hlo hv0 hv1 hv2
  refine enter Tryz.func22 rfl Tryz.ntmps22 (by simp) ?_
  intro a0 hf0 ha
  have h00 : Holds _ (a0.eval (.tmp 0)) w0 := arg_holds ha rfl hv0
  have h01 : Holds _ (a0.eval (.tmp 1)) w0 := arg_holds ha rfl hv1
  obtain ⟨va2, he2, hva2⟩ := openIF hv2
  have h02 : Holds (Is _) (a0.eval (.tmp 2)) w0 := arg_holds ha rfl he2
  clear ha
  have g0 : Grow w0 w0 := Grow.refl _
  refine wp_seq ?_
  refine wp_region_lit ?_
  refine wp_seg (l1 := [_]) [([0], [])] [1, 2] w0.heap.size hf0 g0.size (by kernel_rfl) (bund_cons h00 bund_nil) ?_
  refine ch rfl (ob_box_nm (arg_free 0 rfl rfl)) ?_
  refine ch_nil ?_
  intro a1 w2 hf3 hg4 hk5 hn6
  have h7 : Holds _ (a1.eval (.tmp 3)) w2 := hn6.at 0 0 rfl rfl rfl
  have h8 := hk5.holds rfl h01
  have h9 := hk5.holds rfl h02
  have g10 := g0.trans hg4
  obtain ⟨bk11, hl12, hv13, hb14⟩ := OwnB.blk (lo := w0.heap.size) h7
  clear h01 h02 g0 hf0 hk5 hn6
  have g15 : Grow w2 w2 := Grow.refl _
  have hl16 : bk11 < w2.heap.size := hb14.lt
  have hz17 : w0.heap.size ≤ w2.heap.size := g10.size
  refine wp_seg (l1 := [_]) [([1], [])] [2, 3] w2.heap.size hf3 g15.size (by kernel_rfl) (bund_cons (is_any h8) bund_nil) ?_
  refine ch rfl (ob_box_nm (arg_free 0 rfl rfl)) ?_
  refine ch_nil ?_
  intro a18 w19 hf20 hg21 hk22 hn23
  have h24 : Holds _ (a18.eval (.tmp 4)) w19 := hn23.at 0 0 rfl rfl rfl
  have h25 := hk22.holds rfl h9
  have hv26 : Holds (Is (PtrV bk11)) (a18.eval (.tmp 3)) w19 := is_any (hk22.holds rfl hv13)
  have hb27 := hb14.up hg21
  have g28 := g10.trans hg21
  have g29 := g15.trans hg21
  obtain ⟨bk30, hl31, hv32, hb33⟩ := OwnB.blk (lo := w2.heap.size) h24
  clear h9 hv13 hb14 g10 g15 hf3 hk22 hn23
  have g34 : Grow w19 w19 := Grow.refl _
  have hl35 : bk11 < w19.heap.size := hb27.lt
  have hl36 : bk30 < w19.heap.size := hb33.lt
  have hz37 : w2.heap.size ≤ w19.heap.size := g29.size
  refine wp_all [([2], []), ([], [])] [3, 4] w19.heap.size hf20 g34.size (by kernel_rfl) (bund_cons (is_any h25) bund_nil) ?_
  refine ch rfl (ob_box_inc (arg_free 0 rfl rfl)) ?_
  refine ch rfl (ob_assign arg_c) ?_
  refine ch_nil ?_
  intro a38 w39 hf40 hg41 hk42 hn43
  have h44 : Holds _ (a38.eval (.tmp 5)) w39 := hn43.at 0 1 rfl rfl rfl
  have hv45 : Holds (Is (PtrV bk11)) (a38.eval (.tmp 3)) w39 := is_any (hk42.holds rfl hv26)
  have hb46 := hb27.up hg41
  have hv47 : Holds (Is (PtrV bk30)) (a38.eval (.tmp 4)) w39 := is_any (hk42.holds rfl hv32)
  have hb48 := hb33.up hg41
  have g49 := g28.trans hg41
  have g50 := g29.trans hg41
  have g51 := g34.trans hg41
  obtain ⟨bk52, hl53, hv54, hb55⟩ := OwnB.blk (lo := w19.heap.size) h44
  clear hv26 hb27 hv32 hb33 g28 g29 g34 hf20 hk42 hn43
  refine then_ ?_
  refine wp_seq ?_
  have g56 : Grow w39 w39 := Grow.refl _
  have hl57 : bk11 < w39.heap.size := hb46.lt
  have hl58 : bk30 < w39.heap.size := hb48.lt
  have hl59 : bk52 < w39.heap.size := hb55.lt
  have hz60 : w19.heap.size ≤ w39.heap.size := g51.size
  refine wp_calm [0, 0, 2, 0, 8, 0, 32, 0, 128, 511, 1023] [([3], []), ([4], []), ([], [1]), ([5], []), ([], [3]), ([5], []), ([], [5]), ([5], []), ([], [7]), ([], [0, 2, 4, 6, 8]), ([], [9])] [] w39.heap.size hf40 g56.size (by kernel_rfl) (bund_cons (hb46.ownp hv45) (bund_cons (hb48.ownp hv47) (bund_cons (hb55.ownp hv54) bund_nil))) ?_
  intro ws61 hs62
  refine ch rfl (ob_load_nm (ArgOK.ownp (arg_free 0 rfl rfl))) ?_
  refine ch rfl (ob_load_nm (ArgOK.ownp (arg_free 1 rfl rfl))) ?_
  refine ch rfl (ob_call1 (by kernel_rfl) (c_leafApplied) (arg_op 1 0 rfl rfl rfl rfl)) ?_
  refine ch rfl (ob_faP (n := 0) (arg_free 2 rfl rfl) Tryz.underlying44 rfl (by kernel_rfl)) ?_
  refine ch rfl (ob_loadP (arg_op 3 0 rfl rfl rfl rfl) Tryz.underlying3 rfl rfl) ?_
  refine ch rfl (ob_faP (n := 0) (arg_free 2 rfl rfl) Tryz.underlying44 rfl (by kernel_rfl)) ?_
  refine ch rfl (ob_loadP (arg_op 5 0 rfl rfl rfl rfl) Tryz.underlying3 rfl rfl) ?_
  refine ch rfl (ob_faP (n := 0) (arg_free 2 rfl rfl) Tryz.underlying44 rfl (by kernel_rfl)) ?_
  refine ch rfl (ob_loadP (arg_op 7 0 rfl rfl rfl rfl) Tryz.underlying25 rfl rfl) ?_
  refine ch rfl (ob_call5 (by kernel_rfl) (c_Verify ?_ ?_) (arg_op 0 8 rfl rfl rfl rfl) (arg_op 2 6 rfl rfl rfl rfl) (arg_op 4 4 rfl rfl rfl rfl) (arg_op 6 2 rfl rfl rfl rfl) (ArgOK.val (arg_op 8 0 rfl rfl rfl rfl) ((hva2.up g49).up hs62))) ?_
  · omega
  · omega
  refine ch rfl (ob_assign (arg_op 9 0 rfl rfl rfl rfl)) ?_
  refine ch_nil ?_
  intro a63 w64 hf65 hg66 hk67 hn68
  have h69 : Holds _ (a63.eval (.tmp 6)) w64 := hn68.at 10 0 rfl rfl rfl
  have g70 := g49.trans hg66
  have g71 := g50.trans hg66
  have g72 := g51.trans hg66
  have g73 := g56.trans hg66
  clear g49 g50 g51 g56 hf40 hk67 hn68
  refine then_ ?_
  refine wp_ret ?_
  exact ret_tmp rfl hf65 g70 h69
end Ex
end Go.Proofs.YtnmfiiejhoafnaaGreat
