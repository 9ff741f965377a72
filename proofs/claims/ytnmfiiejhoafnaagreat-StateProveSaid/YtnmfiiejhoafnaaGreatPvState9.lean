/- Changes of amounts. -/
import Derived.Test.YtnmfiiejhoafnaaGreatPvState8
import Derived.Test.YtnmfiiejhoafnaaGreatPvRow6
set_option linter.unusedSimpArgs false
set_option linter.unusedVariables false
namespace Go.Proofs.YtnmfiiejhoafnaaGreat
namespace Ex
open Go Calm Go.RowKit
def putL (l : List GDelta) (d : GDelta) : List GDelta :=
  if 0 ≤ fnd l d.cell then
    if getL l d.cell + d.amount ≠ 0 then l.set (fnd l d.cell).toNat ⟨(l.getD (fnd l d.cell).toNat default).cell, getL l d.cell + d.amount⟩ else l.take (fnd l d.cell).toNat ++ l.drop ((fnd l d.cell).toNat + 1)
  else if getL l d.cell + d.amount ≠ 0 then insL cmpD l d else l
def putAll (l : List GDelta) (ds : List GDelta) : List GDelta := ds.foldl putL l
theorem putAll_step {l ds : List GDelta} {i : Nat} (h : i < ds.length) : putL (putAll l (ds.take i)) (ds.getD i default) = putAll l (ds.take (i + 1)) := by
  unfold putAll
  rw [List.take_add_one, List.getElem?_eq_getElem h, List.getD_eq_getElem?_getD, List.getElem?_eq_getElem h]
  simp only [Option.toList_some, List.foldl_append, List.foldl_cons, List.foldl_nil, Option.getD_some]
theorem putL_len (l : List GDelta) (d : GDelta) : (putL l d).length ≤ l.length + 1 := by
  unfold putL
  split
  · split
    · rw [List.length_set]; omega
    · simp only [List.length_append, List.length_take, List.length_drop]; omega
  · split
    · unfold insL
      simp only [List.length_append, List.length_take, List.length_cons, List.length_drop]; omega
    · omega
theorem putAll_len : ∀ (ds l : List GDelta), (putAll l ds).length ≤ l.length + ds.length
  | [], l => Nat.le_refl _
  | d :: ds, l => by
    have h1 := putAll_len ds (putL l d)
    have h2 := putL_len l d
    simp only [putAll, List.foldl_cons, List.length_cons] at h1 ⊢
    omega
def addS (s : GState) (ds : List GDelta) : GState := { s with cells := putAll s.cells ds }
theorem put_set {l : List GDelta} {d : GDelta} (h1 : 0 ≤ fnd l d.cell) (h2 : getL l d.cell + d.amount ≠ 0) : l.set (fnd l d.cell).toNat ⟨(l.getD (fnd l d.cell).toNat default).cell, getL l d.cell + d.amount⟩ = putL l d := by unfold putL; rw [if_pos h1, if_pos h2]
theorem put_del {l : List GDelta} {d : GDelta} (h1 : 0 ≤ fnd l d.cell) (h2 : ¬ getL l d.cell + d.amount ≠ 0) : l.take (fnd l d.cell).toNat ++ l.drop ((fnd l d.cell).toNat + 1) = putL l d := by unfold putL; rw [if_pos h1, if_neg h2]
theorem put_ins {l : List GDelta} {d : GDelta} (h1 : ¬ 0 ≤ fnd l d.cell) (h2 : getL l d.cell + d.amount ≠ 0) : l.take (bef cmpD l d).toNat ++ d :: l.drop (bef cmpD l d).toNat = putL l d := by unfold putL; rw [if_neg h1, if_pos h2]; rfl
theorem put_none {l : List GDelta} {d : GDelta} (h1 : ¬ 0 ≤ fnd l d.cell) (h2 : ¬ getL l d.cell + d.amount ≠ 0) : l = putL l d := by unfold putL; rw [if_neg h1, if_neg h2]
theorem amt_ne {a : Int64} : (a.toInt ≠ 0) = (a ≠ 0) := propext ⟨fun h e => h (by rw [e]; rfl), fun h e => h (Int64.toInt_inj.1 (by rw [e]; rfl))⟩
theorem getD_some {α : Type} [Inhabited α] {l : List α} {k : Nat} (h : k < l.length) : l[k]? = some (l.getD k default) := by
  rw [List.getD_eq_getElem?_getD, List.getElem?_eq_getElem h]; rfl
set_option maxRecDepth 100000 in
theorem c_Add {s : GState} {l : List GDelta} (hs : stOK s) (hc : s.cells.length ≤ 50000) (hl : l.length ≤ 40000) : Con2 55 (StF s) (Sl elDelta l) (fun lo => StO lo (addS s l)) := by
  intro lo v0 v1 w0 hlo hv0 hv1
  refine enter Tryz.func55 rfl Tryz.ntmps55 (by simp) ?_
  intro a0 hf0 ha
  obtain ⟨va0, vb0, vc0, vd0, he0, hva0, hvb0, hvc0, hvd0⟩ := openF hv0
  have h00 : Holds (Is _) (a0.eval (.tmp 0)) w0 := arg_holds ha rfl he0
  have h01 : Holds (Is v1) (a0.eval (.tmp 1)) w0 := arg_holds ha rfl rfl
  clear ha
  have g0 : Grow w0 w0 := Grow.refl _
  obtain ⟨hs1, hs2, hs3, hs4⟩ := id hs
  refine wp_seq ?_
  refine wp_region_lit ?_
  refine wp_seg (l1 := [_]) [([0], [])] [1] w0.heap.size hf0 g0.size (by kernel_rfl) (bund_cons h00 bund_nil) ?_
  refine ch rfl (ob_box_state (arg_free 0 rfl rfl)) ?_
  refine ch_nil ?_
  intro a1 w2 hf3 hg4 hk5 hn6
  have h7 : Holds _ (a1.eval (.tmp 2)) w2 := hn6.at 0 0 rfl rfl rfl
  have h8 := hk5.holds rfl h01
  have g9 := g0.trans hg4
  obtain ⟨bk10, hl11, hv12, hb13⟩ := OwnB.blk (lo := w0.heap.size) h7
  clear h01 g0 hf0 hk5 hn6
  have g14 : Grow w2 w2 := Grow.refl _
  have hl15 : bk10 < w2.heap.size := hb13.lt
  have hz16 : w0.heap.size ≤ w2.heap.size := g9.size
  refine wp_all [([], [])] [1, 2] w2.heap.size hf3 g14.size (by kernel_rfl) bund_nil ?_
  refine ch rfl (ob_alloc_state) ?_
  refine ch_nil ?_
  intro a17 w18 hf19 hg20 hk21 hn22
  have h23 : Holds _ (a17.eval (.tmp 4)) w18 := hn22.at 0 0 rfl rfl rfl
  have h24 := hk21.holds rfl h8
  have hv25 : Holds (Is (PtrV bk10)) (a17.eval (.tmp 2)) w18 := is_any (hk21.holds rfl hv12)
  have hb26 := hb13.up hg20
  have g27 := g9.trans hg20
  have g28 := g14.trans hg20
  obtain ⟨bk29, hl30, hv31, hb32⟩ := OwnB.blk (lo := w2.heap.size) h23
  clear h8 hv12 hb13 g9 g14 hf3 hk21 hn22
  refine then_ ?_
  refine wp_seq ?_
  have g33 : Grow w18 w18 := Grow.refl _
  have hl34 : bk10 < w18.heap.size := hb26.lt
  have hl35 : bk29 < w18.heap.size := hb32.lt
  have hz36 : w2.heap.size ≤ w18.heap.size := g28.size
  refine wp_region_lit ?_
  refine wp_seg (l1 := [_, _]) [([2], []), ([], [0])] [1, 2, 4] w18.heap.size hf19 g33.size (by kernel_rfl) (bund_cons (hb26.ownp hv25) bund_nil) ?_
  refine ch rfl (ob_load_state (ArgOK.ownp (arg_free 0 rfl rfl))) ?_
  refine ch rfl (ob_call1 (by kernel_rfl) (c_Clone (s := _) ?_) (ArgOK.val (arg_op 0 0 rfl rfl rfl rfl) (mkFs (s := s) (hva0.up g27) (hvb0.up g27) (hvc0.up g27) (hvd0.up g27)))) ?_
  · assumption
  refine ch_nil ?_
  intro a37 w38 hf39 hg40 hk41 hn42
  have h43 : Holds (StO w18.heap.size _) (a37.eval (.tmp 10)) w38 := hn42.at 1 0 rfl rfl rfl
  have h44 := hk41.holds rfl h24
  have hv45 : Holds (Is (PtrV bk10)) (a37.eval (.tmp 2)) w38 := is_any (hk41.holds rfl hv25)
  have hb46 := hb26.up hg40
  have hv47 : Holds (Is (PtrV bk29)) (a37.eval (.tmp 4)) w38 := is_any (hk41.holds rfl hv31)
  have hb48 := hb32.up hg40
  have g49 := g27.trans hg40
  have g50 := g28.trans hg40
  have g51 := g33.trans hg40
  clear h24 hv25 hb26 hv31 hb32 g27 g28 g33 hf19 hk41 hn42
  obtain ⟨V52, V53, V54, V55, h56, hV57, hV58, hV59, hV60⟩ := openO h43
  refine wl_store_state hv45 hb46 rfl h56 (st_oneS (OwnS.sl hV57) (OwnS.sl hV58) (OwnS.sl hV59) (OwnS.sl hV60)) ?_
  intro w61 ho62 hb63
  have g64 : Grow w0 w61 := g49.only ho62 (by omega)
  have g65 : Siz w2 w61 := Siz.below g50.size ho62.below
  have g66 : Siz w18 w61 := Siz.below g51.size ho62.below
  have hv67 : Holds (Is (PtrV bk10)) (a37.eval (.tmp 2)) w61 := is_any hv45
  have hv68 : Holds (Is (PtrV bk29)) (a37.eval (.tmp 4)) w61 := is_any hv47
  have hb69 : Blk bk29 _ w61 := hb48.only ho62 (by omega)
  have hV70 : Holds _ V52 w61 := OwnS.only hV57 ho62 (by omega)
  have hV71 : Holds _ V53 w61 := OwnS.only hV58 ho62 (by omega)
  have hV72 : Holds _ V54 w61 := OwnS.only hV59 ho62 (by omega)
  have hV73 : Holds _ V55 w61 := OwnS.only hV60 ho62 (by omega)
  refine wpList_nil ?_
  refine then_ ?_
  refine wp_seq ?_
  refine wp_seq ?_
  refine wp_region_lit ?_
  refine wp_all [([1], []), ([], [0]), ([], [])] [2, 4] w18.heap.size hf39 g66.size (by kernel_rfl) (bund_cons (is_any h44) bund_nil) ?_
  refine ch rfl (ob_move (arg_free 0 rfl rfl)) ?_
  refine ch rfl (ob_len (ArgOK.val (arg_op 0 0 rfl rfl rfl rfl) (hv1.up g64)) Tryz.underlying22) ?_
  refine ch rfl (ob_move arg_c) ?_
  refine ch_nil ?_
  intro a74 w75 hf76 hg77 hk78 hn79
  have h80 : Holds _ (a74.eval (.tmp 11)) w75 := hn79.at 0 2 rfl rfl rfl
  have h81 : Holds _ (a74.eval (.tmp 12)) w75 := hn79.at 1 1 rfl rfl rfl
  have h82 : Holds _ (a74.eval (.tmp 13)) w75 := hn79.at 2 0 rfl rfl rfl
  have hv83 : Holds (Is (PtrV bk10)) (a74.eval (.tmp 2)) w75 := is_any (hk78.holds rfl hv67)
  have hb84 := hb63.up hg77
  have hv85 : Holds (Is (PtrV bk29)) (a74.eval (.tmp 4)) w75 := is_any (hk78.holds rfl hv68)
  have hb86 := hb69.up hg77
  have g87 := g64.trans hg77
  have g88 : Siz w2 w75 := g65.trans hg77
  have g89 : Siz w18 w75 := g66.trans hg77
  have hV90 := hV70.up hg77
  have hV91 := hV71.up hg77
  have hV92 := hV72.up hg77
  have hV93 := hV73.up hg77
  clear hv67 hb63 hv68 hb69 g64 g65 g66 hf39 hk78 hn79 hg77 hV70 hV71 hV72 hV73
  refine then_ ?_
  refine wp_block ?_
  refine wp_loopL (α := Nat) (fun i a' w' => Fr 66 a' ∧ (i ≤ l.length) ∧ Grow w0 w' ∧ Siz w2 w' ∧ Siz w18 w' ∧ Keep [2, 4, 11, 12] a74 a' ∧ Holds (Is (intV (i : Int))) (a'.eval (.tmp 13)) w' ∧ StB bk10 w18.heap.size (addS s (l.take i)) w' ∧ Blk bk29 (_) w') (fun i => l.length - i) (0) ⟨hf76, (by ((try dsimp only); omega)), g87, g88.size, g89.size, Keep.refl _ _, (is_cast h82 (by first | rfl | (refine congrArg intV ?_; (try dsimp only); omega))), (stb_cast (mkB hb84 hV90 hV91 hV92 hV93) (by rfl)), hb86⟩ ?_
  intro i a94 w95 ⟨hf96, hi98, g99, g100, g101, kk97, h102, hb103, hb104⟩
  have h105 : Holds _ (a94.eval (.tmp 11)) w95 := is_any (kk97.holds rfl h80)
  have h106 : Holds _ (a94.eval (.tmp 12)) w95 := is_any (kk97.holds rfl h81)
  have hv107 : Holds (Is (PtrV bk10)) (a94.eval (.tmp 2)) w95 := is_any (kk97.holds rfl hv83)
  have hv108 : Holds (Is (PtrV bk29)) (a94.eval (.tmp 4)) w95 := is_any (kk97.holds rfl hv85)
  obtain ⟨V109, V110, V111, V112, hb113, hV114, hV115, hV116, hV117⟩ := openB hb103
  have hst : stOK (addS s (l.take i)) := ⟨(by have := putAll_len (l.take i) s.cells; rw [List.length_take] at this; show (putAll _ _).length ≤ _; omega), hs2, hs3, hs4⟩
  refine wp_seq ?_
  refine wp_region_lit ?_
  refine wp_all [([13, 12], [])] [2, 4, 11, 12, 13] w18.heap.size hf96 g101.size (by kernel_rfl) (bund_cons h102 (bund_cons h106 bund_nil)) ?_
  refine ch rfl (ob_lss (arg_free 0 rfl rfl) (arg_free 1 rfl rfl)) ?_
  refine ch_nil ?_
  intro a118 w119 hf120 hg121 hk122 hn123
  have h124 : Holds _ (a118.eval (.tmp 14)) w119 := hn123.at 0 0 rfl rfl rfl
  have h125 := hk122.holds rfl (h102.up hg121)
  have h126 := hk122.holds rfl (h105.up hg121)
  have h127 := hk122.holds rfl (h106.up hg121)
  have hv128 : Holds (Is (PtrV bk10)) (a118.eval (.tmp 2)) w119 := is_any (hk122.holds rfl hv107)
  have hb129 := hb113.up hg121
  have hv130 : Holds (Is (PtrV bk29)) (a118.eval (.tmp 4)) w119 := is_any (hk122.holds rfl hv108)
  have hb131 := hb104.up hg121
  have g132 := g99.trans hg121
  have g133 : Siz w2 w119 := g100.trans hg121
  have g134 : Siz w18 w119 := g101.trans hg121
  have kk135 : Keep _ a74 a118 := kk97.trans hk122 rfl
  have hV136 := hV114.up hg121
  have hV137 := hV115.up hg121
  have hV138 := hV116.up hg121
  have hV139 := hV117.up hg121
  clear h102 h105 h106 hv107 hb113 hv108 hb104 g99 g100 g101 kk97 hf96 hk122 hn123 hg121 hV114 hV115 hV116 hV117
  refine then_ ?_
  refine wp_seq ?_
  refine wp_if h124 ?_ ?_
  · intro hc140
    try simp only [cond_norm] at hc140
    refine wp_skip ?_
    refine then_ ?_
    refine wp_seq ?_
    refine wp_block ?_
    refine wp_seq ?_
    have g141 : Grow w119 w119 := Grow.refl _
    have hl142 : bk10 < w119.heap.size := hb129.lt
    have hl143 : bk29 < w119.heap.size := hb131.lt
    have hz144 : w18.heap.size ≤ w119.heap.size := g134.size
    refine wp_region_lit ?_
    refine wp_seg (l1 := [_, _, _]) [([11, 13], []), ([], [0]), ([], [])] [2, 4, 11, 12, 13] w119.heap.size hf120 g141.size (by kernel_rfl) (bund_cons h126 (bund_cons h125 bund_nil)) ?_
    refine ch rfl (ob_ix (ArgOK.val (arg_free 0 rfl rfl) (hv1.up g132)) (arg_free 1 rfl rfl) (rfl) ?_ Tryz.underlying22 szDelta) ?_
    · omega
    refine ch rfl (ob_load_delta (arg_op 0 0 rfl rfl rfl rfl)) ?_
    refine ch rfl (ob_alloc_delta) ?_
    refine ch_nil ?_
    intro a145 w146 hf147 hg148 hk149 hn150
    have h151 : Holds _ (a145.eval (.tmp 16)) w146 := hn150.at 1 1 rfl rfl rfl
    have h152 : Holds _ (a145.eval (.tmp 6)) w146 := hn150.at 2 0 rfl rfl rfl
    have h153 := hk149.holds rfl h125
    have h154 := hk149.holds rfl h126
    have h155 := hk149.holds rfl h127
    have hv156 : Holds (Is (PtrV bk10)) (a145.eval (.tmp 2)) w146 := is_any (hk149.holds rfl hv128)
    have hb157 := hb129.up hg148
    have hv158 : Holds (Is (PtrV bk29)) (a145.eval (.tmp 4)) w146 := is_any (hk149.holds rfl hv130)
    have hb159 := hb131.up hg148
    have g160 := g132.trans hg148
    have g161 : Siz w2 w146 := g133.trans hg148
    have g162 : Siz w18 w146 := g134.trans hg148
    have g163 := g141.trans hg148
    have kk164 : Keep _ a74 a145 := kk135.trans hk149 rfl
    obtain ⟨bk165, hl166, hv167, hb168⟩ := OwnB.blk (lo := w119.heap.size) h152
    clear h125 h126 h127 hv128 hb129 hv130 hb131 g132 g133 g134 g141 kk135 hf120 hk149 hn150
    refine wl_store_delta hv167 hb168 rfl h151 ?_
    intro w169 ho170 hb171
    have g172 : Grow w0 w169 := g160.only ho170 (by omega)
    have g173 : Siz w2 w169 := Siz.below g161.size ho170.below
    have g174 : Siz w18 w169 := Siz.below g162.size ho170.below
    have g175 : Grow w119 w169 := g163.only ho170 (by omega)
    have hv176 : Holds (Is (PtrV bk10)) (a145.eval (.tmp 2)) w169 := is_any hv156
    have hb177 : Blk bk10 _ w169 := hb157.only ho170 (by omega)
    have hv178 : Holds (Is (PtrV bk29)) (a145.eval (.tmp 4)) w169 := is_any hv158
    have hb179 : Blk bk29 _ w169 := hb159.only ho170 (by omega)
    have hv180 : Holds (Is (PtrV bk165)) (a145.eval (.tmp 6)) w169 := is_any hv167
    refine wpList_nil ?_
    refine then_ ?_
    refine wp_seq ?_
    have g181 : Grow w169 w169 := Grow.refl _
    have hl182 : bk10 < w169.heap.size := hb177.lt
    have hl183 : bk29 < w169.heap.size := hb179.lt
    have hl184 : bk165 < w169.heap.size := hb171.lt
    have hz185 : w119.heap.size ≤ w169.heap.size := g175.size
    refine wp_region_lit ?_
    refine wp_all [([2], []), ([6], []), ([], [1]), ([], [0, 2]), ([], [3])] [2, 4, 6, 11, 12, 13] w169.heap.size hf147 g181.size (by kernel_rfl) (bund_cons (hb177.ownp hv176) (bund_cons (hb171.ownp hv180) bund_nil)) ?_
    refine ch rfl (ob_load_state (ArgOK.ownp (arg_free 0 rfl rfl))) ?_
    refine ch rfl (ob_fa_delta0 (ArgOK.ownp (arg_free 1 rfl rfl))) ?_
    refine ch rfl (ob_load_cell (arg_op 1 0 rfl rfl rfl rfl)) ?_
    refine ch rfl (ob_call2 (by kernel_rfl) (c_find ?_) (ArgOK.val (arg_op 0 2 rfl rfl rfl rfl) (mkF (OwnS.sl (hV136.up g175)) (OwnS.sl (hV137.up g175)) (OwnS.sl (hV138.up g175)) (OwnS.sl (hV139.up g175)))) (arg_op 2 0 rfl rfl rfl rfl)) ?_
    · assumption
    refine ch rfl (ob_assign (arg_op 3 0 rfl rfl rfl rfl)) ?_
    refine ch_nil ?_
    intro a186 w187 hf188 hg189 hk190 hn191
    have h192 : Holds _ (a186.eval (.tmp 7)) w187 := hn191.at 4 0 rfl rfl rfl
    have h193 := hk190.holds rfl h153
    have h194 := hk190.holds rfl h154
    have h195 := hk190.holds rfl h155
    have hv196 : Holds (Is (PtrV bk10)) (a186.eval (.tmp 2)) w187 := is_any (hk190.holds rfl hv176)
    have hb197 := hb177.up hg189
    have hv198 : Holds (Is (PtrV bk29)) (a186.eval (.tmp 4)) w187 := is_any (hk190.holds rfl hv178)
    have hb199 := hb179.up hg189
    have hv200 : Holds (Is (PtrV bk165)) (a186.eval (.tmp 6)) w187 := is_any (hk190.holds rfl hv180)
    have hb201 := hb171.up hg189
    have g202 := g172.trans hg189
    have g203 : Siz w2 w187 := g173.trans hg189
    have g204 : Siz w18 w187 := g174.trans hg189
    have g205 := g175.trans hg189
    have g206 := g181.trans hg189
    have kk207 : Keep _ a74 a186 := kk164.trans hk190 rfl
    clear h153 h154 h155 hv176 hb177 hv178 hb179 hv180 hb171 g172 g173 g174 g175 g181 kk164 hf147 hk190 hn191
    refine then_ ?_
    refine wp_seq ?_
    have g208 : Grow w187 w187 := Grow.refl _
    have hl209 : bk10 < w187.heap.size := hb197.lt
    have hl210 : bk29 < w187.heap.size := hb199.lt
    have hl211 : bk165 < w187.heap.size := hb201.lt
    have hz212 : w169.heap.size ≤ w187.heap.size := g206.size
    refine wp_calm [0, 0, 2, 7, 0, 16, 63, 127] [([2], []), ([6], []), ([], [1]), ([], [0, 2]), ([6], []), ([], [4]), ([], [3, 5]), ([], [6])] [2, 4, 6, 7, 11, 12, 13] w187.heap.size hf188 g208.size (by kernel_rfl) (bund_cons (hb197.ownp hv196) (bund_cons (hb201.ownp hv200) bund_nil)) ?_
    intro ws213 hs214
    refine ch rfl (ob_load_state (ArgOK.ownp (arg_free 0 rfl rfl))) ?_
    refine ch rfl (ob_fa_delta0 (ArgOK.ownp (arg_free 1 rfl rfl))) ?_
    refine ch rfl (ob_load_cell (arg_op 1 0 rfl rfl rfl rfl)) ?_
    refine ch rfl (ob_call2 (by kernel_rfl) (c_Get ?_) (ArgOK.val (arg_op 0 2 rfl rfl rfl rfl) (mkF ((OwnS.sl (hV136.up g205)).up hs214) ((OwnS.sl (hV137.up g205)).up hs214) ((OwnS.sl (hV138.up g205)).up hs214) ((OwnS.sl (hV139.up g205)).up hs214))) (arg_op 2 0 rfl rfl rfl rfl)) ?_
    · assumption
    refine ch rfl (ob_fa_delta1 (ArgOK.ownp (arg_free 1 rfl rfl))) ?_
    refine ch rfl (ob_load1 (arg_op 4 0 rfl rfl rfl rfl) Tryz.underlying3 rfl) ?_
    first
      | (refine ch rfl (ob_add' (arg_op 3 2 rfl rfl rfl rfl) (arg_op 5 0 rfl rfl rfl rfl) ?_) ?_; · omega)
      | refine ch rfl (ob_add (arg_op 3 2 rfl rfl rfl rfl) (arg_op 5 0 rfl rfl rfl rfl)) ?_
    refine ch rfl (ob_assign (arg_op 6 0 rfl rfl rfl rfl)) ?_
    refine ch_nil ?_
    intro a215 w216 hf217 hg218 hk219 hn220
    have h221 : Holds _ (a215.eval (.tmp 8)) w216 := hn220.at 7 0 rfl rfl rfl
    have h222 := hk219.holds rfl h192
    have h223 := hk219.holds rfl h193
    have h224 := hk219.holds rfl h194
    have h225 := hk219.holds rfl h195
    have hv226 : Holds (Is (PtrV bk10)) (a215.eval (.tmp 2)) w216 := is_any (hk219.holds rfl hv196)
    have hb227 := hb197.up hg218
    have hv228 : Holds (Is (PtrV bk29)) (a215.eval (.tmp 4)) w216 := is_any (hk219.holds rfl hv198)
    have hb229 := hb199.up hg218
    have hv230 : Holds (Is (PtrV bk165)) (a215.eval (.tmp 6)) w216 := is_any (hk219.holds rfl hv200)
    have hb231 := hb201.up hg218
    have g232 := g202.trans hg218
    have g233 : Siz w2 w216 := g203.trans hg218
    have g234 : Siz w18 w216 := g204.trans hg218
    have g235 := g205.trans hg218
    have g236 := g206.trans hg218
    have g237 := g208.trans hg218
    have kk238 : Keep _ a74 a215 := kk207.trans hk219 rfl
    clear h192 h193 h194 h195 hv196 hb197 hv198 hb199 hv200 hb201 g202 g203 g204 g205 g206 g208 kk207 hf188 hk219 hn220
    refine then_ ?_
    refine wp_block ?_
    refine wp_seq ?_
    have h239 : Holds (Is (intV (fnd (addS s (l.take i)).cells (l.getD i default).cell))) (a215.eval (.tmp 7)) w216 := is_cast h222 (rfl)
    have h240 : Holds (Is (intV (getL (addS s (l.take i)).cells (l.getD i default).cell + (l.getD i default).amount).toInt)) (a215.eval (.tmp 8)) w216 := is_cast h221 (congrArg intV (add_i64 _ _))
    refine wp_region_lit ?_
    refine wp_all [([7], []), ([], [0]), ([], [1]), ([8], [2]), ([], [3, 2]), ([], [2, 4]), ([], [5])] [2, 4, 6, 7, 8, 11, 12, 13] w187.heap.size hf217 g237.size (by kernel_rfl) (bund_cons h239 (bund_cons h240 bund_nil)) ?_
    refine ch rfl (ob_move (arg_free 0 rfl rfl)) ?_
    refine ch rfl (ob_geq (arg_op 0 0 rfl rfl rfl rfl) arg_c) ?_
    refine ch rfl (ob_move (arg_op 1 0 rfl rfl rfl rfl)) ?_
    refine chg (b := _) rfl rfl (arg_op 2 0 rfl rfl rfl rfl) (fun hb2 => ob_move (arg_free 1 rfl rfl)) ?_
    refine chg (b := _) rfl rfl (arg_op 2 1 rfl rfl rfl rfl) (fun hb2 => ob_neq (ArgOK.when (arg_op 3 0 rfl rfl rfl rfl) hb2) arg_c) ?_
    refine ch rfl (ob_and (arg_op 2 2 rfl rfl rfl rfl) (arg_op 4 0 rfl rfl rfl rfl)) ?_
    refine ch rfl (ob_assign (arg_op 5 0 rfl rfl rfl rfl)) ?_
    refine ch_nil ?_
    intro a241 w242 hf243 hg244 hk245 hn246
    have h247 : Holds _ (a241.eval (.tmp 28)) w242 := hn246.at 6 0 rfl rfl rfl
    have h248 := hk245.holds rfl (h240.up hg244)
    have h249 := hk245.holds rfl (h239.up hg244)
    have h250 := hk245.holds rfl h223
    have h251 := hk245.holds rfl h224
    have h252 := hk245.holds rfl h225
    have hv253 : Holds (Is (PtrV bk10)) (a241.eval (.tmp 2)) w242 := is_any (hk245.holds rfl hv226)
    have hb254 := hb227.up hg244
    have hv255 : Holds (Is (PtrV bk29)) (a241.eval (.tmp 4)) w242 := is_any (hk245.holds rfl hv228)
    have hb256 := hb229.up hg244
    have hv257 : Holds (Is (PtrV bk165)) (a241.eval (.tmp 6)) w242 := is_any (hk245.holds rfl hv230)
    have hb258 := hb231.up hg244
    have g259 := g232.trans hg244
    have g260 : Siz w2 w242 := g233.trans hg244
    have g261 : Siz w18 w242 := g234.trans hg244
    have g262 := g235.trans hg244
    have g263 := g236.trans hg244
    have g264 := g237.trans hg244
    have kk265 : Keep _ a74 a241 := kk238.trans hk245 rfl
    clear h240 h239 h223 h224 h225 hv226 hb227 hv228 hb229 hv230 hb231 g232 g233 g234 g235 g236 g237 kk238 hf217 hk245 hn246 hg244
    refine then_ ?_
    refine wp_if h247 ?_ ?_
    · intro hc266
      try simp only [cond_norm] at hc266
      have hf : 0 ≤ fnd (addS s (l.take i)).cells (l.getD i default).cell := (by omega); have hn : getL (addS s (l.take i)).cells (l.getD i default).cell + (l.getD i default).amount ≠ 0 := (by rw [← amt_ne]; omega); have hp := @fnd_lt (addS s (l.take i)).cells (l.getD i default).cell; have hq := hst.1
      have g267 : Grow w242 w242 := Grow.refl _
      have hl268 : bk10 < w242.heap.size := hb254.lt
      have hl269 : bk29 < w242.heap.size := hb256.lt
      have hl270 : bk165 < w242.heap.size := hb258.lt
      have hz271 : w187.heap.size ≤ w242.heap.size := g264.size
      refine wp_region_lit ?_
      refine wp_seg (l1 := [_, _, _, _, _, _]) [([2], []), ([], [0]), ([7], []), ([8], []), ([], [1, 2]), ([], [4])] [2, 4, 11, 12, 13] w242.heap.size hf243 g267.size (by kernel_rfl) (bund_cons (hb254.ownp hv253) (bund_cons h249 (bund_cons h248 bund_nil))) ?_
      refine ch rfl (ob_faP (n := 0) (arg_free 0 rfl rfl) Tryz.underlying28 rfl (by kernel_rfl)) ?_
      refine ch rfl (ob_loadP (arg_op 0 0 rfl rfl rfl rfl) Tryz.underlying22 rfl rfl) ?_
      refine ch rfl (ob_move (arg_free 1 rfl rfl)) ?_
      refine ch rfl (ob_move (arg_free 2 rfl rfl)) ?_
      refine ch rfl (ob_ixv (arg_op 1 2 rfl rfl rfl rfl) (OwnS.sl (hV136.up g262)) (arg_op 2 1 rfl rfl rfl rfl) ((hp hf).2.symm) ?_ Tryz.underlying22 szDelta) ?_
      · exact (hp hf).1
      refine ch rfl (ob_fa_el (arg_op 4 0 rfl rfl rfl rfl) (hV136.up g262) (by omega) Tryz.underlying54 rfl szInt) ?_
      refine ch_nil ?_
      intro a272 w273 hf274 hg275 hk276 hn277
      have h278 : Holds _ (a272.eval (.tmp 38)) w273 := hn277.at 3 2 rfl rfl rfl
      have h279 : Holds _ (a272.eval (.tmp 40)) w273 := hn277.at 5 0 rfl rfl rfl
      have h280 := hk276.holds rfl h250
      have h281 := hk276.holds rfl h251
      have h282 := hk276.holds rfl h252
      have hv283 : Holds (Is (PtrV bk10)) (a272.eval (.tmp 2)) w273 := is_any (hk276.holds rfl hv253)
      have hb284 := hb254.up hg275
      have hv285 : Holds (Is (PtrV bk29)) (a272.eval (.tmp 4)) w273 := is_any (hk276.holds rfl hv255)
      have hb286 := hb256.up hg275
      have g287 := g259.trans hg275
      have g288 : Siz w2 w273 := g260.trans hg275
      have g289 : Siz w18 w273 := g261.trans hg275
      have g290 := g262.trans hg275
      have g291 := g263.trans hg275
      have g292 := g264.trans hg275
      have g293 := g267.trans hg275
      have kk294 : Keep _ a74 a272 := kk265.trans hk276 rfl
      clear h250 h251 h252 hv253 hb254 hv255 hb256 g259 g260 g261 g262 g263 g264 g267 kk265 hf243 hk276 hn277
      refine wl_store_fld (T := elDelta) (y := ⟨((addS s (l.take i)).cells.getD (fnd (addS s (l.take i)).cells (l.getD i default).cell).toNat default).cell, getL (addS s (l.take i)).cells (l.getD i default).cell + (l.getD i default).amount⟩) (x0 := (addS s (l.take i)).cells.getD (fnd (addS s (l.take i)).cells (l.getD i default).cell).toNat default) h279 (hV136.up g290) ?_ (by decide) h278 rfl rfl ?_ szInt ?_
      · exact getD_some (hp hf).1
      · rfl
      intro w295 hw296 hV297
      have g298 : Grow w0 w295 := g287.wr hw296 (by omega)
      have g299 : Siz w2 w295 := Siz.below g288.size hw296.below
      have g300 : Siz w18 w295 := Siz.below g289.size hw296.below
      have h301 : Holds _ (a272.eval (.tmp 13)) w295 := is_any h280
      have h302 : Holds _ (a272.eval (.tmp 11)) w295 := is_any h281
      have h303 : Holds _ (a272.eval (.tmp 12)) w295 := is_any h282
      have hv304 : Holds (Is (PtrV bk10)) (a272.eval (.tmp 2)) w295 := is_any hv283
      have hb305 : Blk bk10 _ w295 := hb284.wr hw296 (by omega)
      have hv306 : Holds (Is (PtrV bk29)) (a272.eval (.tmp 4)) w295 := is_any hv285
      have hb307 : Blk bk29 _ w295 := hb286.wr hw296 (by omega)
      have hV308 : Holds _ V110 w295 := OwnS.wr (hV137.up g290) hw296 rfl
      have hV309 : Holds _ V111 w295 := OwnS.wr (hV138.up g290) hw296 rfl
      have hV310 : Holds _ V112 w295 := OwnS.wr (hV139.up g290) hw296 rfl
      refine wpList_nil ?_
      refine blockN ?_
      refine blockN ?_
      refine then_ ?_
      refine wp_region_lit ?_
      refine wp_all [([13], []), ([], [0])] [2, 4, 11, 12] w18.heap.size hf274 g300.size (by kernel_rfl) (bund_cons h301 bund_nil) ?_
      first
        | (refine ch rfl (ob_add' (arg_free 0 rfl rfl) arg_c ?_) ?_; · omega)
        | refine ch rfl (ob_add (arg_free 0 rfl rfl) arg_c) ?_
      refine ch rfl (ob_move (arg_op 0 0 rfl rfl rfl rfl)) ?_
      refine ch_nil ?_
      intro a311 w312 hf313 hg314 hk315 hn316
      have h317 : Holds _ (a311.eval (.tmp 13)) w312 := hn316.at 1 0 rfl rfl rfl
      have h318 := hk315.holds rfl (h302.up hg314)
      have h319 := hk315.holds rfl (h303.up hg314)
      have hv320 : Holds (Is (PtrV bk10)) (a311.eval (.tmp 2)) w312 := is_any (hk315.holds rfl hv304)
      have hb321 := hb305.up hg314
      have hv322 : Holds (Is (PtrV bk29)) (a311.eval (.tmp 4)) w312 := is_any (hk315.holds rfl hv306)
      have hb323 := hb307.up hg314
      have g324 := g298.trans hg314
      have g325 : Siz w2 w312 := g299.trans hg314
      have g326 : Siz w18 w312 := g300.trans hg314
      have kk327 : Keep _ a74 a311 := kk294.trans hk315 rfl
      have hV328 := hV308.up hg314
      have hV329 := hV309.up hg314
      have hV330 := hV310.up hg314
      have hV331 := hV297.up hg314
      clear h302 h303 hv304 hb305 hv306 hb307 g298 g299 g300 kk294 hf274 hk315 hn316 hg314 hV308 hV309 hV310 hV297
      refine then_ ?_
      exact ⟨(i + 1), (by ((try dsimp only); omega)), hf313, (by ((try dsimp only); omega)), g324, g325.size, g326.size, kk327, (is_cast h317 (by first | rfl | (refine congrArg intV ?_; (try dsimp only); omega))), (stb_cast (mkB hb321 hV331 hV328 hV329 hV330) (by exact congrArg (fun c => (⟨c, s.seqs, s.locks, s.applied, s.guilty⟩ : GState)) ((put_set hf hn).trans (putAll_step (by omega))))), hb323⟩
    · intro hc266
      try simp only [cond_norm] at hc266
      refine wp_seq ?_
      refine wp_region_lit ?_
      refine wp_all [([7], []), ([], [0]), ([], [1])] [2, 4, 6, 7, 8, 11, 12, 13] w187.heap.size hf243 g264.size (by kernel_rfl) (bund_cons h249 bund_nil) ?_
      refine ch rfl (ob_move (arg_free 0 rfl rfl)) ?_
      refine ch rfl (ob_geq (arg_op 0 0 rfl rfl rfl rfl) arg_c) ?_
      refine ch rfl (ob_assign (arg_op 1 0 rfl rfl rfl rfl)) ?_
      refine ch_nil ?_
      intro a332 w333 hf334 hg335 hk336 hn337
      have h338 : Holds _ (a332.eval (.tmp 41)) w333 := hn337.at 2 0 rfl rfl rfl
      have h339 := hk336.holds rfl (h248.up hg335)
      have h340 := hk336.holds rfl (h249.up hg335)
      have h341 := hk336.holds rfl h250
      have h342 := hk336.holds rfl h251
      have h343 := hk336.holds rfl h252
      have hv344 : Holds (Is (PtrV bk10)) (a332.eval (.tmp 2)) w333 := is_any (hk336.holds rfl hv253)
      have hb345 := hb254.up hg335
      have hv346 : Holds (Is (PtrV bk29)) (a332.eval (.tmp 4)) w333 := is_any (hk336.holds rfl hv255)
      have hb347 := hb256.up hg335
      have hv348 : Holds (Is (PtrV bk165)) (a332.eval (.tmp 6)) w333 := is_any (hk336.holds rfl hv257)
      have hb349 := hb258.up hg335
      have g350 := g259.trans hg335
      have g351 : Siz w2 w333 := g260.trans hg335
      have g352 : Siz w18 w333 := g261.trans hg335
      have g353 := g262.trans hg335
      have g354 := g263.trans hg335
      have g355 := g264.trans hg335
      have kk356 : Keep _ a74 a332 := kk265.trans hk336 rfl
      clear h248 h249 h250 h251 h252 hv253 hb254 hv255 hb256 hv257 hb258 g259 g260 g261 g262 g263 g264 kk265 hf243 hk336 hn337 hg335
      refine then_ ?_
      refine wp_if h338 ?_ ?_
      · intro hc357
        try simp only [cond_norm] at hc357
        have hf : 0 ≤ fnd (addS s (l.take i)).cells (l.getD i default).cell := (by omega); have hn : ¬ getL (addS s (l.take i)).cells (l.getD i default).cell + (l.getD i default).amount ≠ 0 := (by rw [← amt_ne]; omega); have hp := @fnd_lt (addS s (l.take i)).cells (l.getD i default).cell; have hq := hst.1
        have hb2 := (hp hf).1
        have hb3 := (hp hf).2
        have g358 : Grow w333 w333 := Grow.refl _
        have hl359 : bk10 < w333.heap.size := hb345.lt
        have hl360 : bk29 < w333.heap.size := hb347.lt
        have hl361 : bk165 < w333.heap.size := hb349.lt
        have hz362 : w187.heap.size ≤ w333.heap.size := g355.size
        have hV363 : Holds _ v1 w333 := (hv1.up g350)
        have hV364 : Holds _ V109 w333 := (hV136.up g353)
        have hV365 : Holds _ V110 w333 := (hV137.up g353)
        have hV366 : Holds _ V111 w333 := (hV138.up g353)
        have hV367 : Holds _ V112 w333 := (hV139.up g353)
        refine wp_region_lit ?_
        refine wp_seg (l1 := [_, _, _, _, _]) [([2], []), ([], [0]), ([7], []), ([7], []), ([], [3])] [2, 4, 11, 12, 13] w333.heap.size hf334 g358.size (by kernel_rfl) (bund_cons (hb345.ownp hv344) (bund_cons h340 bund_nil)) ?_
        refine ch rfl (ob_faP (n := 0) (arg_free 0 rfl rfl) Tryz.underlying28 rfl (by kernel_rfl)) ?_
        refine ch rfl (ob_loadP (arg_op 0 0 rfl rfl rfl rfl) Tryz.underlying22 rfl rfl) ?_
        refine ch rfl (ob_move (arg_free 1 rfl rfl)) ?_
        refine ch rfl (ob_move (arg_free 1 rfl rfl)) ?_
        first
          | (refine ch rfl (ob_add' (arg_op 3 0 rfl rfl rfl rfl) arg_c ?_) ?_; · omega)
          | refine ch rfl (ob_add (arg_op 3 0 rfl rfl rfl rfl) arg_c) ?_
        refine ch_nil ?_
        intro a368 w369 hf370 hg371 hk372 hn373
        have h374 : Holds _ (a368.eval (.tmp 45)) w369 := hn373.at 1 3 rfl rfl rfl
        have h375 : Holds _ (a368.eval (.tmp 46)) w369 := hn373.at 2 2 rfl rfl rfl
        have h376 : Holds _ (a368.eval (.tmp 48)) w369 := hn373.at 4 0 rfl rfl rfl
        have h377 := hk372.holds rfl h341
        have h378 := hk372.holds rfl h342
        have h379 := hk372.holds rfl h343
        have hv380 : Holds (Is (PtrV bk10)) (a368.eval (.tmp 2)) w369 := is_any (hk372.holds rfl hv344)
        have hb381 := hb345.up hg371
        have hv382 : Holds (Is (PtrV bk29)) (a368.eval (.tmp 4)) w369 := is_any (hk372.holds rfl hv346)
        have hb383 := hb347.up hg371
        have g384 := g350.trans hg371
        have g385 : Siz w2 w369 := g351.trans hg371
        have g386 : Siz w18 w369 := g352.trans hg371
        have g387 := g353.trans hg371
        have g388 := g354.trans hg371
        have g389 := g355.trans hg371
        have g390 := g358.trans hg371
        have kk391 : Keep _ a74 a368 := kk356.trans hk372 rfl
        clear h341 h342 h343 hv344 hb345 hv346 hb347 g350 g351 g352 g353 g354 g355 g358 kk356 hf334 hk372 hn373
        refine wl_callD (wl := w18) [2, 4, 11, 12, 13] hf370 (by kernel_rfl) rfl (by kernel_rfl) (c_delD (fnd (addS s (l.take i)).cells (l.getD i default).cell).toNat ?_ ?_ ?_ ?_) g386.size h374 (hV364.up g390) h375 h376 ?_
        · (have := (hp hf).2; omega)
        · (have := (hp hf).2; omega)
        · exact (hp hf).1
        · exact hq
        intro a392 w393 hf394 hw395 hk396 h397
        have g398 : Grow w0 w393 := g384.wr hw395 (by omega)
        have g399 : Siz w2 w393 := Siz.below g385.size hw395.below
        have g400 : Siz w18 w393 := Siz.below g386.size hw395.below
        have h401 : Holds _ (a392.eval (.tmp 13)) w393 := is_any (hk396.holds rfl h377)
        have h402 : Holds _ (a392.eval (.tmp 11)) w393 := is_any (hk396.holds rfl h378)
        have h403 : Holds _ (a392.eval (.tmp 12)) w393 := is_any (hk396.holds rfl h379)
        have hv404 : Holds (Is (PtrV bk10)) (a392.eval (.tmp 2)) w393 := is_any (hk396.holds rfl hv380)
        have hb405 : Blk bk10 _ w393 := hb381.wr hw395 (by omega)
        have hv406 : Holds (Is (PtrV bk29)) (a392.eval (.tmp 4)) w393 := is_any (hk396.holds rfl hv382)
        have hb407 : Blk bk29 _ w393 := hb383.wr hw395 (by omega)
        have hV408 : Holds _ V110 w393 := OwnS.wr (hV365.up g390) hw395 rfl
        have hV409 : Holds _ V111 w393 := OwnS.wr (hV366.up g390) hw395 rfl
        have hV410 : Holds _ V112 w393 := OwnS.wr (hV367.up g390) hw395 rfl
        have kk411 : Keep _ a74 a392 := kk391.trans hk396 rfl
        obtain ⟨V412, h413, hV414⟩ := nameV h397
        clear h397
        refine wp_seg (l1 := [_]) [([2], [])] [2, 4, 11, 12, 13, 49] w18.heap.size hf394 g400.size (by kernel_rfl) (bund_cons (hb405.ownp hv404) bund_nil) ?_
        refine ch rfl (ob_faP (n := 0) (arg_free 0 rfl rfl) Tryz.underlying28 rfl (by kernel_rfl)) ?_
        refine ch_nil ?_
        intro a415 w416 hf417 hg418 hk419 hn420
        have h421 : Holds _ (a415.eval (.tmp 50)) w416 := hn420.at 0 0 rfl rfl rfl
        have h422 := hk419.holds rfl (h401.up hg418)
        have h423 := hk419.holds rfl (h403.up hg418)
        have h424 := hk419.holds rfl (h413.up hg418)
        have hv425 : Holds (Is (PtrV bk10)) (a415.eval (.tmp 2)) w416 := is_any (hk419.holds rfl hv404)
        have hb426 := hb405.up hg418
        have hv427 : Holds (Is (PtrV bk29)) (a415.eval (.tmp 4)) w416 := is_any (hk419.holds rfl hv406)
        have hb428 := hb407.up hg418
        have g429 := g398.trans hg418
        have g430 : Siz w2 w416 := g399.trans hg418
        have g431 : Siz w18 w416 := g400.trans hg418
        have kk432 : Keep _ a74 a415 := kk411.trans hk419 rfl
        have hV433 := hV408.up hg418
        have hV434 := hV409.up hg418
        have hV435 := hV410.up hg418
        have hV436 := hV414.up hg418
        clear h401 h403 h413 hv404 hb405 hv406 hb407 g398 g399 g400 kk411 hf394 hk419 hn420 hg418 hV408 hV409 hV410 hV414
        refine wl_store_sl h421 h424 hV436 (show 0 < 5 by decide) szDeltas ?_
        intro w437 ho438 hb439
        have hb440 : Blk bk10 (stVals V412 V110 V111 V112 _) w437 := hb439
        clear hb439
        have g441 : Grow w0 w437 := g429.only ho438 (by omega)
        have g442 : Siz w2 w437 := Siz.below g430.size ho438.below
        have g443 : Siz w18 w437 := Siz.below g431.size ho438.below
        have h444 : Holds _ (a415.eval (.tmp 13)) w437 := is_any h422
        have h445 : Holds _ (a415.eval (.tmp 12)) w437 := is_any h423
        have hv446 : Holds (Is (PtrV bk10)) (a415.eval (.tmp 2)) w437 := is_any hv425
        have hv447 : Holds (Is (PtrV bk29)) (a415.eval (.tmp 4)) w437 := is_any hv427
        have hb448 : Blk bk29 _ w437 := hb428.only ho438 (by omega)
        have hV449 : Holds _ V110 w437 := OwnS.only hV433 ho438 (by omega)
        have hV450 : Holds _ V111 w437 := OwnS.only hV434 ho438 (by omega)
        have hV451 : Holds _ V112 w437 := OwnS.only hV435 ho438 (by omega)
        have hV452 : Holds _ V412 w437 := OwnS.only hV436 ho438 (by omega)
        refine wpList_nil ?_
        refine blockN ?_
        refine blockN ?_
        refine then_ ?_
        refine wp_region_lit ?_
        refine wp_all [([13], []), ([], [0])] [2, 4, 11, 12] w18.heap.size hf417 g443.size (by kernel_rfl) (bund_cons h444 bund_nil) ?_
        first
          | (refine ch rfl (ob_add' (arg_free 0 rfl rfl) arg_c ?_) ?_; · omega)
          | refine ch rfl (ob_add (arg_free 0 rfl rfl) arg_c) ?_
        refine ch rfl (ob_move (arg_op 0 0 rfl rfl rfl rfl)) ?_
        refine ch_nil ?_
        intro a453 w454 hf455 hg456 hk457 hn458
        have h459 : Holds _ (a453.eval (.tmp 13)) w454 := hn458.at 1 0 rfl rfl rfl
        have h460 := hk457.holds rfl (h445.up hg456)
        have hv461 : Holds (Is (PtrV bk10)) (a453.eval (.tmp 2)) w454 := is_any (hk457.holds rfl hv446)
        have hb462 := hb440.up hg456
        have hv463 : Holds (Is (PtrV bk29)) (a453.eval (.tmp 4)) w454 := is_any (hk457.holds rfl hv447)
        have hb464 := hb448.up hg456
        have g465 := g441.trans hg456
        have g466 : Siz w2 w454 := g442.trans hg456
        have g467 : Siz w18 w454 := g443.trans hg456
        have kk468 : Keep _ a74 a453 := kk432.trans hk457 rfl
        have hV469 := hV449.up hg456
        have hV470 := hV450.up hg456
        have hV471 := hV451.up hg456
        have hV472 := hV452.up hg456
        clear h445 hv446 hb440 hv447 hb448 g441 g442 g443 kk432 hf417 hk457 hn458 hg456 hV449 hV450 hV451 hV452
        refine then_ ?_
        exact ⟨(i + 1), (by ((try dsimp only); omega)), hf455, (by ((try dsimp only); omega)), g465, g466.size, g467.size, kk468, (is_cast h459 (by first | rfl | (refine congrArg intV ?_; (try dsimp only); omega))), (stb_cast (mkB hb462 hV472 hV469 hV470 hV471) (by exact congrArg (fun c => (⟨c, s.seqs, s.locks, s.applied, s.guilty⟩ : GState)) ((put_del hf hn).trans (putAll_step (by omega))))), hb464⟩
      · intro hc357
        try simp only [cond_norm] at hc357
        refine wp_seq ?_
        refine wp_region_lit ?_
        refine wp_all [([8], []), ([], [0]), ([], [1])] [2, 4, 6, 11, 12, 13] w187.heap.size hf334 g355.size (by kernel_rfl) (bund_cons h339 bund_nil) ?_
        refine ch rfl (ob_move (arg_free 0 rfl rfl)) ?_
        refine ch rfl (ob_neq (arg_op 0 0 rfl rfl rfl rfl) arg_c) ?_
        refine ch rfl (ob_assign (arg_op 1 0 rfl rfl rfl rfl)) ?_
        refine ch_nil ?_
        intro a473 w474 hf475 hg476 hk477 hn478
        have h479 : Holds _ (a473.eval (.tmp 51)) w474 := hn478.at 2 0 rfl rfl rfl
        have h480 := hk477.holds rfl h341
        have h481 := hk477.holds rfl h342
        have h482 := hk477.holds rfl h343
        have hv483 : Holds (Is (PtrV bk10)) (a473.eval (.tmp 2)) w474 := is_any (hk477.holds rfl hv344)
        have hb484 := hb345.up hg476
        have hv485 : Holds (Is (PtrV bk29)) (a473.eval (.tmp 4)) w474 := is_any (hk477.holds rfl hv346)
        have hb486 := hb347.up hg476
        have hv487 : Holds (Is (PtrV bk165)) (a473.eval (.tmp 6)) w474 := is_any (hk477.holds rfl hv348)
        have hb488 := hb349.up hg476
        have g489 := g350.trans hg476
        have g490 : Siz w2 w474 := g351.trans hg476
        have g491 : Siz w18 w474 := g352.trans hg476
        have g492 := g353.trans hg476
        have g493 := g354.trans hg476
        have g494 := g355.trans hg476
        have kk495 : Keep _ a74 a473 := kk356.trans hk477 rfl
        clear h341 h342 h343 hv344 hb345 hv346 hb347 hv348 hb349 g350 g351 g352 g353 g354 g355 kk356 hf334 hk477 hn478 hg476
        refine then_ ?_
        refine wp_if h479 ?_ ?_
        · intro hc496
          try simp only [cond_norm] at hc496
          have hf : ¬ 0 ≤ fnd (addS s (l.take i)).cells (l.getD i default).cell := (by omega); have hn : getL (addS s (l.take i)).cells (l.getD i default).cell + (l.getD i default).amount ≠ 0 := (by rw [← amt_ne]; omega); have hp := @fnd_lt (addS s (l.take i)).cells (l.getD i default).cell; have hq := hst.1
          have g497 : Grow w474 w474 := Grow.refl _
          have hl498 : bk10 < w474.heap.size := hb484.lt
          have hl499 : bk29 < w474.heap.size := hb486.lt
          have hl500 : bk165 < w474.heap.size := hb488.lt
          have hz501 : w187.heap.size ≤ w474.heap.size := g494.size
          have hV502 : Holds _ v1 w474 := (hv1.up g489)
          have hV503 : Holds _ V109 w474 := (hV136.up g492)
          have hV504 : Holds _ V110 w474 := (hV137.up g492)
          have hV505 : Holds _ V111 w474 := (hV138.up g492)
          have hV506 : Holds _ V112 w474 := (hV139.up g492)
          refine wp_calm_tail (l1 := [_, _, _, _, _, _, _, _]) [0, 1, 0, 4, 0, 28, 0, 64, 255, 511, 1023] [([2], []), ([], [0]), ([2], []), ([], [2]), ([6], []), ([], [3, 4]), ([6], []), ([], [6])] [2, 4, 11, 12, 13] w474.heap.size hf475 g497.size (by kernel_rfl) (bund_cons (hb484.ownp hv483) (bund_cons (hb488.ownp hv487) bund_nil)) ?_
          intro ws507 hs508
          refine ch rfl (ob_faP (n := 0) (arg_free 0 rfl rfl) Tryz.underlying28 rfl (by kernel_rfl)) ?_
          refine ch rfl (ob_loadP (arg_op 0 0 rfl rfl rfl rfl) Tryz.underlying22 rfl rfl) ?_
          refine ch rfl (ob_faP (n := 0) (arg_free 0 rfl rfl) Tryz.underlying28 rfl (by kernel_rfl)) ?_
          refine ch rfl (ob_loadP (arg_op 2 0 rfl rfl rfl rfl) Tryz.underlying22 rfl rfl) ?_
          refine ch rfl (ob_load_delta (ArgOK.ownp (arg_free 1 rfl rfl))) ?_
          refine ch rfl (ob_call3 (by kernel_rfl) (c_befD ?_) (ArgOK.sl (ArgOK.val (arg_op 3 1 rfl rfl rfl rfl) (hV503.up hs508))) (arg_op 4 0 rfl rfl rfl rfl) (arg_fn2 (by kernel_rfl) (fun _ _ => c_cmpD))) ?_
          · omega
          refine ch rfl (ob_load_delta (ArgOK.ownp (arg_free 1 rfl rfl))) ?_
          refine ch rfl (ob_bs1_delta (arg_op 6 0 rfl rfl rfl rfl)) ?_
          refine ch_nil ?_
          intro a509 w510 hf511 hg512 hk513 hn514
          have h515 : Holds _ (a509.eval (.tmp 55)) w510 := hn514.at 1 6 rfl rfl rfl
          have h516 : Holds _ (a509.eval (.tmp 59)) w510 := hn514.at 5 2 rfl rfl rfl
          have h517 : Holds (OwnF w474.heap.size _ _) (a509.eval (.tmp 61)) w510 := hn514.at 7 0 rfl rfl rfl
          have h518 := hk513.holds rfl h480
          have h519 := hk513.holds rfl h481
          have h520 := hk513.holds rfl h482
          have hv521 : Holds (Is (PtrV bk10)) (a509.eval (.tmp 2)) w510 := is_any (hk513.holds rfl hv483)
          have hb522 := hb484.up hg512
          have hv523 : Holds (Is (PtrV bk29)) (a509.eval (.tmp 4)) w510 := is_any (hk513.holds rfl hv485)
          have hb524 := hb486.up hg512
          have g525 := g489.trans hg512
          have g526 : Siz w2 w510 := g490.trans hg512
          have g527 : Siz w18 w510 := g491.trans hg512
          have g528 := g492.trans hg512
          have g529 := g493.trans hg512
          have g530 := g494.trans hg512
          have g531 := g497.trans hg512
          have kk532 : Keep _ a74 a509 := kk495.trans hk513 rfl
          clear h480 h481 h482 hv483 hb484 hv485 hb486 g489 g490 g491 g492 g493 g494 g497 kk495 hf475 hk513 hn514
          obtain ⟨V533, h534, hV535⟩ := nameV h517
          clear h517
          refine wl_callI (wl := w18) (wm := w474) [2, 4, 11, 12, 13] hf511 (by kernel_rfl) rfl (by kernel_rfl) (c_insD (bef cmpD (addS s (l.take i)).cells (l.getD i default)).toNat ?_ ?_ ?_) (by omega) h515 hV503 g531 h516 (OwnF.own (unV h534 hV535)) ?_
          · (have hb := bef_le (c := cmpD) (l := (addS s (l.take i)).cells) (x := (l.getD i default)); omega)
          · (have hb := bef_le (c := cmpD) (l := (addS s (l.take i)).cells) (x := (l.getD i default)); omega)
          · exact hst.1
          intro a536 w537 hf538 hw539 hk540 h541
          have g542 : Grow w0 w537 := g525.wr hw539 (by omega)
          have g543 : Siz w2 w537 := Siz.below g526.size hw539.below
          have g544 : Siz w18 w537 := Siz.below g527.size hw539.below
          have g545 : Siz w119 w537 := Siz.below g528.size hw539.below
          have g546 : Siz w169 w537 := Siz.below g529.size hw539.below
          have g547 : Siz w187 w537 := Siz.below g530.size hw539.below
          have g548 : Siz w474 w537 := Siz.below g531.size hw539.below
          have h549 : Holds _ (a536.eval (.tmp 13)) w537 := is_any (hk540.holds rfl h518)
          have h550 : Holds _ (a536.eval (.tmp 11)) w537 := is_any (hk540.holds rfl h519)
          have h551 : Holds _ (a536.eval (.tmp 12)) w537 := is_any (hk540.holds rfl h520)
          have hv552 : Holds (Is (PtrV bk10)) (a536.eval (.tmp 2)) w537 := is_any (hk540.holds rfl hv521)
          have hb553 : Blk bk10 _ w537 := hb522.wr hw539 (by omega)
          have hv554 : Holds (Is (PtrV bk29)) (a536.eval (.tmp 4)) w537 := is_any (hk540.holds rfl hv523)
          have hb555 : Blk bk29 _ w537 := hb524.wr hw539 (by omega)
          have hV556 : Holds _ V110 w537 := OwnS.wr (hV504.up g531) hw539 rfl
          have hV557 : Holds _ V111 w537 := OwnS.wr (hV505.up g531) hw539 rfl
          have hV558 : Holds _ V112 w537 := OwnS.wr (hV506.up g531) hw539 rfl
          have kk559 : Keep _ a74 a536 := kk532.trans hk540 rfl
          obtain ⟨V560, h561, hV562⟩ := nameV h541
          clear h541
          refine wp_seg (l1 := [_]) [([2], [])] [2, 4, 11, 12, 13, 62] w474.heap.size hf538 g548.size (by kernel_rfl) (bund_cons (hb553.ownp hv552) bund_nil) ?_
          refine ch rfl (ob_faP (n := 0) (arg_free 0 rfl rfl) Tryz.underlying28 rfl (by kernel_rfl)) ?_
          refine ch_nil ?_
          intro a563 w564 hf565 hg566 hk567 hn568
          have h569 : Holds _ (a563.eval (.tmp 63)) w564 := hn568.at 0 0 rfl rfl rfl
          have h570 := hk567.holds rfl (h549.up hg566)
          have h571 := hk567.holds rfl (h551.up hg566)
          have h572 := hk567.holds rfl (h561.up hg566)
          have hv573 : Holds (Is (PtrV bk10)) (a563.eval (.tmp 2)) w564 := is_any (hk567.holds rfl hv552)
          have hb574 := hb553.up hg566
          have hv575 : Holds (Is (PtrV bk29)) (a563.eval (.tmp 4)) w564 := is_any (hk567.holds rfl hv554)
          have hb576 := hb555.up hg566
          have g577 := g542.trans hg566
          have g578 : Siz w2 w564 := g543.trans hg566
          have g579 : Siz w18 w564 := g544.trans hg566
          have g580 : Siz w119 w564 := g545.trans hg566
          have g581 : Siz w169 w564 := g546.trans hg566
          have g582 : Siz w187 w564 := g547.trans hg566
          have g583 : Siz w474 w564 := g548.trans hg566
          have kk584 : Keep _ a74 a563 := kk559.trans hk567 rfl
          have hV585 := hV556.up hg566
          have hV586 := hV557.up hg566
          have hV587 := hV558.up hg566
          have hV588 := hV562.up hg566
          clear h549 h551 h561 hv552 hb553 hv554 hb555 g542 g543 g544 g545 g546 g547 g548 kk559 hf538 hk567 hn568 hg566 hV556 hV557 hV558 hV562
          refine wl_store_sl h569 h572 hV588 (show 0 < 5 by decide) szDeltas ?_
          intro w589 ho590 hb591
          have hb592 : Blk bk10 (stVals V560 V110 V111 V112 _) w589 := hb591
          clear hb591
          have g593 : Grow w0 w589 := g577.only ho590 (by omega)
          have g594 : Siz w2 w589 := Siz.below g578.size ho590.below
          have g595 : Siz w18 w589 := Siz.below g579.size ho590.below
          have h600 : Holds _ (a563.eval (.tmp 13)) w589 := is_any h570
          have h601 : Holds _ (a563.eval (.tmp 12)) w589 := is_any h571
          have hv602 : Holds (Is (PtrV bk10)) (a563.eval (.tmp 2)) w589 := is_any hv573
          have hv603 : Holds (Is (PtrV bk29)) (a563.eval (.tmp 4)) w589 := is_any hv575
          have hb604 : Blk bk29 _ w589 := hb576.only ho590 (by omega)
          have hV605 : Holds _ V110 w589 := OwnS.only hV585 ho590 (by omega)
          have hV606 : Holds _ V111 w589 := OwnS.only hV586 ho590 (by omega)
          have hV607 : Holds _ V112 w589 := OwnS.only hV587 ho590 (by omega)
          have hV608 : Holds _ V560 w589 := OwnS.only hV588 ho590 (by omega)
          refine wpList_nil ?_
          refine blockN ?_
          refine blockN ?_
          refine then_ ?_
          refine wp_region_lit ?_
          refine wp_all [([13], []), ([], [0])] [2, 4, 11, 12] w18.heap.size hf565 g595.size (by kernel_rfl) (bund_cons h600 bund_nil) ?_
          first
            | (refine ch rfl (ob_add' (arg_free 0 rfl rfl) arg_c ?_) ?_; · omega)
            | refine ch rfl (ob_add (arg_free 0 rfl rfl) arg_c) ?_
          refine ch rfl (ob_move (arg_op 0 0 rfl rfl rfl rfl)) ?_
          refine ch_nil ?_
          intro a609 w610 hf611 hg612 hk613 hn614
          have h615 : Holds _ (a609.eval (.tmp 13)) w610 := hn614.at 1 0 rfl rfl rfl
          have h616 := hk613.holds rfl (h601.up hg612)
          have hv617 : Holds (Is (PtrV bk10)) (a609.eval (.tmp 2)) w610 := is_any (hk613.holds rfl hv602)
          have hb618 := hb592.up hg612
          have hv619 : Holds (Is (PtrV bk29)) (a609.eval (.tmp 4)) w610 := is_any (hk613.holds rfl hv603)
          have hb620 := hb604.up hg612
          have g621 := g593.trans hg612
          have g622 : Siz w2 w610 := g594.trans hg612
          have g623 : Siz w18 w610 := g595.trans hg612
          have kk624 : Keep _ a74 a609 := kk584.trans hk613 rfl
          have hV625 := hV605.up hg612
          have hV626 := hV606.up hg612
          have hV627 := hV607.up hg612
          have hV628 := hV608.up hg612
          clear h601 hv602 hb592 hv603 hb604 g593 g594 g595 kk584 hf565 hk613 hn614 hg612 hV605 hV606 hV607 hV608
          refine then_ ?_
          exact ⟨(i + 1), (by ((try dsimp only); omega)), hf611, (by ((try dsimp only); omega)), g621, g622.size, g623.size, kk624, (is_cast h615 (by first | rfl | (refine congrArg intV ?_; (try dsimp only); omega))), (stb_cast (mkB hb618 hV628 hV625 hV626 hV627) (by exact congrArg (fun c => (⟨c, s.seqs, s.locks, s.applied, s.guilty⟩ : GState)) ((put_ins hf hn).trans (putAll_step (by omega))))), hb620⟩
        · intro hc496
          try simp only [cond_norm] at hc496
          have hf : ¬ 0 ≤ fnd (addS s (l.take i)).cells (l.getD i default).cell := (by omega); have hn : ¬ getL (addS s (l.take i)).cells (l.getD i default).cell + (l.getD i default).amount ≠ 0 := (by rw [← amt_ne]; omega); have hp := @fnd_lt (addS s (l.take i)).cells (l.getD i default).cell; have hq := hst.1
          refine wp_skip ?_
          refine blockN ?_
          refine blockN ?_
          refine then_ ?_
          refine wp_region_lit ?_
          refine wp_all [([13], []), ([], [0])] [2, 4, 11, 12] w187.heap.size hf475 g494.size (by kernel_rfl) (bund_cons (is_any h480) bund_nil) ?_
          first
            | (refine ch rfl (ob_add' (arg_free 0 rfl rfl) arg_c ?_) ?_; · omega)
            | refine ch rfl (ob_add (arg_free 0 rfl rfl) arg_c) ?_
          refine ch rfl (ob_move (arg_op 0 0 rfl rfl rfl rfl)) ?_
          refine ch_nil ?_
          intro a629 w630 hf631 hg632 hk633 hn634
          have h635 : Holds _ (a629.eval (.tmp 13)) w630 := hn634.at 1 0 rfl rfl rfl
          have h636 := hk633.holds rfl h481
          have h637 := hk633.holds rfl h482
          have hv638 : Holds (Is (PtrV bk10)) (a629.eval (.tmp 2)) w630 := is_any (hk633.holds rfl hv483)
          have hb639 := hb484.up hg632
          have hv640 : Holds (Is (PtrV bk29)) (a629.eval (.tmp 4)) w630 := is_any (hk633.holds rfl hv485)
          have hb641 := hb486.up hg632
          have g642 := g489.trans hg632
          have g643 : Siz w2 w630 := g490.trans hg632
          have g644 : Siz w18 w630 := g491.trans hg632
          have g645 := g492.trans hg632
          have g646 := g493.trans hg632
          have g647 := g494.trans hg632
          have kk648 : Keep _ a74 a629 := kk495.trans hk633 rfl
          clear h481 h482 hv483 hb484 hv485 hb486 g489 g490 g491 g492 g493 g494 kk495 hf475 hk633 hn634 hg632
          refine then_ ?_
          exact ⟨(i + 1), (by ((try dsimp only); omega)), hf631, (by ((try dsimp only); omega)), g642, g643.size, g644.size, kk648, (is_cast h635 (by first | rfl | (refine congrArg intV ?_; (try dsimp only); omega))), (stb_cast (mkB hb639 (hV136.up g645) (hV137.up g645) (hV138.up g645) (hV139.up g645)) (by exact congrArg (fun c => (⟨c, s.seqs, s.locks, s.applied, s.guilty⟩ : GState)) ((put_none hf hn).trans (putAll_step (by omega))))), hb641⟩
  · intro hc140
    try simp only [cond_norm] at hc140
    obtain rfl : i = l.length := by omega
    refine wp_exit ?_
    refine thenX ?_
    refine thenX ?_
    refine blockX ?_
    refine then_ ?_
    refine wp_seq ?_
    have g649 : Grow w119 w119 := Grow.refl _
    have hl650 : bk10 < w119.heap.size := hb129.lt
    have hl651 : bk29 < w119.heap.size := hb131.lt
    have hz652 : w18.heap.size ≤ w119.heap.size := g134.size
    refine wp_region_lit ?_
    refine wp_seg (l1 := [_]) [([2], [])] [4] w119.heap.size hf120 g649.size (by kernel_rfl) (bund_cons (hb129.ownp hv128) bund_nil) ?_
    refine ch rfl (ob_load_state (ArgOK.ownp (arg_free 0 rfl rfl))) ?_
    refine ch_nil ?_
    intro a653 w654 hf655 hg656 hk657 hn658
    have h659 : Holds _ (a653.eval (.tmp 65)) w654 := hn658.at 0 0 rfl rfl rfl
    have hv660 : Holds (Is (PtrV bk29)) (a653.eval (.tmp 4)) w654 := is_any (hk657.holds rfl hv130)
    have hb661 := hb131.up hg656
    have g662 := g132.trans hg656
    have g663 : Siz w2 w654 := g133.trans hg656
    have g664 : Siz w18 w654 := g134.trans hg656
    have g665 := g649.trans hg656
    clear hv130 hb131 g132 g133 g134 g649 hf120 hk657 hn658
    refine wl_store_state hv660 hb661 rfl h659 (st_oneS (OwnS.sl (hV136.up g665)) (OwnS.sl (hV137.up g665)) (OwnS.sl (hV138.up g665)) (OwnS.sl (hV139.up g665))) ?_
    intro w666 ho667 hb668
    have g669 : Grow w0 w666 := g662.only ho667 (by omega)
    have g670 : Siz w2 w666 := Siz.below g663.size ho667.below
    have g671 : Siz w18 w666 := Siz.below g664.size ho667.below
    have hv673 : Holds (Is (PtrV bk29)) (a653.eval (.tmp 4)) w666 := is_any hv660
    have hV674 : Holds _ V109 w666 := OwnS.only (hV136.up g665) ho667 (by omega)
    have hV675 : Holds _ V110 w666 := OwnS.only (hV137.up g665) ho667 (by omega)
    have hV676 : Holds _ V111 w666 := OwnS.only (hV138.up g665) ho667 (by omega)
    have hV677 : Holds _ V112 w666 := OwnS.only (hV139.up g665) ho667 (by omega)
    refine wpList_nil ?_
    refine then_ ?_
    refine wp_ret ?_
    refine ret_cell rfl Tryz.underlying28 rfl (by kernel_rfl) hf655 g669 (hb668.ptr hv673) ?_
    exact sto_cast (mkO (OwnS.mono hV674 (by omega)) (OwnS.mono hV675 (by omega)) (OwnS.mono hV676 (by omega)) (OwnS.mono hV677 (by omega))) (by rw [List.take_length])
end Ex
end Go.Proofs.YtnmfiiejhoafnaaGreat
