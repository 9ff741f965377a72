/- Marks. -/
import Derived.Test.YtnmfiiejhoafnaaMkState7
import Derived.Test.YtnmfiiejhoafnaaMkRow5
set_option linter.unusedSimpArgs false
set_option linter.unusedVariables false
namespace Go.Proofs.Ytnmfiiejhoafnaa
namespace Ex
open Go Calm Go.RowKit
def insL {α : Type} (c : α → α → Int) (l : List α) (x : α) : List α := l.take (bef c l x).toNat ++ x :: l.drop (bef c l x).toNat
def markS (s : GState) (n : UInt64) : GState := if s.applied.any (fun y => decide (n = y)) then s else { s with applied := insL cmpN s.applied n }
theorem mark_yes {s : GState} {n : UInt64} (h : s.applied.any (fun y => decide (n = y)) = true) : s = markS s n := by unfold markS; rw [if_pos h]
theorem mark_no {s : GState} {n : UInt64} (h : s.applied.any (fun y => decide (n = y)) = false) : (⟨s.cells, s.seqs, s.locks, s.applied.take (bef cmpN s.applied n).toNat ++ n :: s.applied.drop (bef cmpN s.applied n).toNat, s.guilty⟩ : GState) = markS s n := by unfold markS; rw [h]; rfl
set_option maxRecDepth 100000 in
theorem c_Mark {s : GState} {n : UInt64} (hs : stOK s) : Con2 41 (StF s) (Is (nmV n)) (fun lo => StO lo (markS s n)) := by
  intro lo v0 v1 w0 hlo hv0 hv1
  refine enter Try.func41 rfl Try.ntmps41 (by simp) ?_
  intro a0 hf0 ha
  obtain ⟨va0, vb0, vc0, vd0, he0, hva0, hvb0, hvc0, hvd0⟩ := openF hv0
  have h00 : Holds (Is _) (a0.eval (.tmp 0)) w0 := arg_holds ha rfl he0
  have h01 : Holds _ (a0.eval (.tmp 1)) w0 := arg_holds ha rfl hv1
  clear ha
  have g0 : Grow w0 w0 := Grow.refl _
  obtain ⟨hs1, hs2, hs3, hs4⟩ := id hs
  refine wp_seq ?_
  refine wp_region_lit ?_
  refine wp_seg (l1 := [_]) [([0], [])] [1] w0.heap.size hf0 g0.size (by kernel_rfl) (bund_cons h00 bund_nil) ?_
  refine ch rfl (ob_box_state (arg_free 0 rfl rfl)) ?_
  refine ch_nil ?_
  intro a1 w2 hf3 hg4 hk5 hn6
  have h7 : Holds _ (a1.eval (.tmp 2)) w2 := hn6.at 0 0 rfl rfl rfl
  have h8 := hk5.holds rfl h01
  have g9 := g0.trans hg4
  obtain ⟨bk10, hl11, hv12, hb13⟩ := OwnB.blk (lo := w0.heap.size) h7
  clear h01 g0 hf0 hk5 hn6
  have g14 : Grow w2 w2 := Grow.refl _
  have hl15 : bk10 < w2.heap.size := hb13.lt
  have hz16 : w0.heap.size ≤ w2.heap.size := g9.size
  refine wp_seg (l1 := [_]) [([1], [])] [2] w2.heap.size hf3 g14.size (by kernel_rfl) (bund_cons (is_any h8) bund_nil) ?_
  refine ch rfl (ob_box_nm (arg_free 0 rfl rfl)) ?_
  refine ch_nil ?_
  intro a17 w18 hf19 hg20 hk21 hn22
  have h23 : Holds _ (a17.eval (.tmp 3)) w18 := hn22.at 0 0 rfl rfl rfl
  have hv24 : Holds (Is (PtrV bk10)) (a17.eval (.tmp 2)) w18 := is_any (hk21.holds rfl hv12)
  have hb25 := hb13.up hg20
  have g26 := g9.trans hg20
  have g27 := g14.trans hg20
  obtain ⟨bk28, hl29, hv30, hb31⟩ := OwnB.blk (lo := w2.heap.size) h23
  clear hv12 hb13 g9 g14 hf3 hk21 hn22
  have g32 : Grow w18 w18 := Grow.refl _
  have hl33 : bk10 < w18.heap.size := hb25.lt
  have hl34 : bk28 < w18.heap.size := hb31.lt
  have hz35 : w2.heap.size ≤ w18.heap.size := g27.size
  refine wp_all [([], [])] [2, 3] w18.heap.size hf19 g32.size (by kernel_rfl) bund_nil ?_
  refine ch rfl (ob_alloc_state) ?_
  refine ch_nil ?_
  intro a36 w37 hf38 hg39 hk40 hn41
  have h42 : Holds _ (a36.eval (.tmp 4)) w37 := hn41.at 0 0 rfl rfl rfl
  have hv43 : Holds (Is (PtrV bk10)) (a36.eval (.tmp 2)) w37 := is_any (hk40.holds rfl hv24)
  have hb44 := hb25.up hg39
  have hv45 : Holds (Is (PtrV bk28)) (a36.eval (.tmp 3)) w37 := is_any (hk40.holds rfl hv30)
  have hb46 := hb31.up hg39
  have g47 := g26.trans hg39
  have g48 := g27.trans hg39
  have g49 := g32.trans hg39
  obtain ⟨bk50, hl51, hv52, hb53⟩ := OwnB.blk (lo := w18.heap.size) h42
  clear hv24 hb25 hv30 hb31 g26 g27 g32 hf19 hk40 hn41
  refine then_ ?_
  refine wp_seq ?_
  have g54 : Grow w37 w37 := Grow.refl _
  have hl55 : bk10 < w37.heap.size := hb44.lt
  have hl56 : bk28 < w37.heap.size := hb46.lt
  have hl57 : bk50 < w37.heap.size := hb53.lt
  have hz58 : w18.heap.size ≤ w37.heap.size := g49.size
  refine wp_region_lit ?_
  refine wp_seg (l1 := [_, _]) [([2], []), ([], [0])] [2, 3, 4] w37.heap.size hf38 g54.size (by kernel_rfl) (bund_cons (hb44.ownp hv43) bund_nil) ?_
  refine ch rfl (ob_load_state (ArgOK.ownp (arg_free 0 rfl rfl))) ?_
  refine ch rfl (ob_call1 (by kernel_rfl) (c_Clone (s := _) ?_) (ArgOK.val (arg_op 0 0 rfl rfl rfl rfl) (mkFs (s := s) (hva0.up g47) (hvb0.up g47) (hvc0.up g47) (hvd0.up g47)))) ?_
  · assumption
  refine ch_nil ?_
  intro a59 w60 hf61 hg62 hk63 hn64
  have h65 : Holds (StO w37.heap.size _) (a59.eval (.tmp 6)) w60 := hn64.at 1 0 rfl rfl rfl
  have hv66 : Holds (Is (PtrV bk10)) (a59.eval (.tmp 2)) w60 := is_any (hk63.holds rfl hv43)
  have hb67 := hb44.up hg62
  have hv68 : Holds (Is (PtrV bk28)) (a59.eval (.tmp 3)) w60 := is_any (hk63.holds rfl hv45)
  have hb69 := hb46.up hg62
  have hv70 : Holds (Is (PtrV bk50)) (a59.eval (.tmp 4)) w60 := is_any (hk63.holds rfl hv52)
  have hb71 := hb53.up hg62
  have g72 := g47.trans hg62
  have g73 := g48.trans hg62
  have g74 := g49.trans hg62
  have g75 := g54.trans hg62
  clear hv43 hb44 hv45 hb46 hv52 hb53 g47 g48 g49 g54 hf38 hk63 hn64
  obtain ⟨V76, V77, V78, V79, h80, hV81, hV82, hV83, hV84⟩ := openO h65
  refine wl_store_state hv66 hb67 rfl h80 (st_oneS (OwnS.sl hV81) (OwnS.sl hV82) (OwnS.sl hV83) (OwnS.sl hV84)) ?_
  intro w85 ho86 hb87
  have g88 : Grow w0 w85 := g72.only ho86 (by omega)
  have g89 : Siz w2 w85 := Siz.below g73.size ho86.below
  have g90 : Siz w18 w85 := Siz.below g74.size ho86.below
  have g91 : Siz w37 w85 := Siz.below g75.size ho86.below
  have hv92 : Holds (Is (PtrV bk10)) (a59.eval (.tmp 2)) w85 := is_any hv66
  have hv93 : Holds (Is (PtrV bk28)) (a59.eval (.tmp 3)) w85 := is_any hv68
  have hb94 : Blk bk28 _ w85 := hb69.only ho86 (by omega)
  have hv95 : Holds (Is (PtrV bk50)) (a59.eval (.tmp 4)) w85 := is_any hv70
  have hb96 : Blk bk50 _ w85 := hb71.only ho86 (by omega)
  have hV97 : Holds _ V76 w85 := OwnS.only hV81 ho86 (by omega)
  have hV98 : Holds _ V77 w85 := OwnS.only hV82 ho86 (by omega)
  have hV99 : Holds _ V78 w85 := OwnS.only hV83 ho86 (by omega)
  have hV100 : Holds _ V79 w85 := OwnS.only hV84 ho86 (by omega)
  refine wpList_nil ?_
  refine then_ ?_
  refine wp_seq ?_
  refine wp_seq ?_
  have g101 : Grow w85 w85 := Grow.refl _
  have hl102 : bk10 < w85.heap.size := hb87.lt
  have hl103 : bk28 < w85.heap.size := hb94.lt
  have hl104 : bk50 < w85.heap.size := hb96.lt
  have hz105 : w37.heap.size ≤ w85.heap.size := g91.size
  refine wp_region_lit ?_
  refine wp_all [([2], []), ([3], []), ([], [0, 1]), ([], [2])] [2, 3, 4] w85.heap.size hf61 g101.size (by kernel_rfl) (bund_cons (hb87.ownp hv92) (bund_cons (hb94.ownp hv93) bund_nil)) ?_
  refine ch rfl (ob_load_state (ArgOK.ownp (arg_free 0 rfl rfl))) ?_
  refine ch rfl (ob_load_nm (ArgOK.ownp (arg_free 1 rfl rfl))) ?_
  refine ch rfl (ob_call2 (by kernel_rfl) (c_applied ?_) (ArgOK.val (arg_op 0 1 rfl rfl rfl rfl) (mkF (OwnS.sl hV97) (OwnS.sl hV98) (OwnS.sl hV99) (OwnS.sl hV100))) (arg_op 1 0 rfl rfl rfl rfl)) ?_
  · assumption
  refine ch rfl (ob_not (arg_op 2 0 rfl rfl rfl rfl)) ?_
  refine ch_nil ?_
  intro a106 w107 hf108 hg109 hk110 hn111
  have h112 : Holds _ (a106.eval (.tmp 10)) w107 := hn111.at 3 0 rfl rfl rfl
  have hv113 : Holds (Is (PtrV bk10)) (a106.eval (.tmp 2)) w107 := is_any (hk110.holds rfl hv92)
  have hb114 := hb87.up hg109
  have hv115 : Holds (Is (PtrV bk28)) (a106.eval (.tmp 3)) w107 := is_any (hk110.holds rfl hv93)
  have hb116 := hb94.up hg109
  have hv117 : Holds (Is (PtrV bk50)) (a106.eval (.tmp 4)) w107 := is_any (hk110.holds rfl hv95)
  have hb118 := hb96.up hg109
  have g119 := g88.trans hg109
  have g120 : Siz w2 w107 := g89.trans hg109
  have g121 : Siz w18 w107 := g90.trans hg109
  have g122 : Siz w37 w107 := g91.trans hg109
  have g123 := g101.trans hg109
  clear hv92 hb87 hv93 hb94 hv95 hb96 g88 g89 g90 g91 g101 hf61 hk110 hn111
  refine then_ ?_
  refine wp_if h112 ?_ ?_
  · intro hc124
    have hp : s.applied.any (fun y => decide (n = y)) = false := by simpa using hc124
    have g125 : Grow w107 w107 := Grow.refl _
    have hl126 : bk10 < w107.heap.size := hb114.lt
    have hl127 : bk28 < w107.heap.size := hb116.lt
    have hl128 : bk50 < w107.heap.size := hb118.lt
    have hz129 : w85.heap.size ≤ w107.heap.size := g123.size
    have hV130 : Holds _ V76 w107 := (hV97.up g123)
    have hV131 : Holds _ V77 w107 := (hV98.up g123)
    have hV132 : Holds _ V78 w107 := (hV99.up g123)
    have hV133 : Holds _ V79 w107 := (hV100.up g123)
    refine wp_calm_tail (l1 := [_, _, _, _, _, _, _, _]) [0, 1, 0, 4, 0, 28, 0, 64, 255, 511, 1023] [([2], []), ([], [0]), ([2], []), ([], [2]), ([3], []), ([], [3, 4]), ([3], []), ([], [6])] [2, 4] w107.heap.size hf108 g125.size (by kernel_rfl) (bund_cons (hb114.ownp hv113) (bund_cons (hb116.ownp hv115) bund_nil)) ?_
    intro ws134 hs135
    refine ch rfl (ob_faP (n := 0) (arg_free 0 rfl rfl) Try.underlying42 rfl (by kernel_rfl)) ?_
    refine ch rfl (ob_loadP (arg_op 0 0 rfl rfl rfl rfl) Try.underlying39 rfl rfl) ?_
    refine ch rfl (ob_faP (n := 0) (arg_free 0 rfl rfl) Try.underlying42 rfl (by kernel_rfl)) ?_
    refine ch rfl (ob_loadP (arg_op 2 0 rfl rfl rfl rfl) Try.underlying39 rfl rfl) ?_
    refine ch rfl (ob_load_nm (ArgOK.ownp (arg_free 1 rfl rfl))) ?_
    refine ch rfl (ob_call3 (by kernel_rfl) (c_befN ?_) (ArgOK.sl (ArgOK.val (arg_op 3 1 rfl rfl rfl rfl) (hV133.up hs135))) (arg_op 4 0 rfl rfl rfl rfl) (arg_fn2 (by kernel_rfl) (fun _ _ => c_cmpNm))) ?_
    · omega
    refine ch rfl (ob_load_nm (ArgOK.ownp (arg_free 1 rfl rfl))) ?_
    refine ch rfl (ob_bs1_nm (arg_op 6 0 rfl rfl rfl rfl)) ?_
    refine ch_nil ?_
    intro a136 w137 hf138 hg139 hk140 hn141
    have h142 : Holds _ (a136.eval (.tmp 12)) w137 := hn141.at 1 6 rfl rfl rfl
    have h143 : Holds _ (a136.eval (.tmp 16)) w137 := hn141.at 5 2 rfl rfl rfl
    have h144 : Holds (OwnF w107.heap.size _ _) (a136.eval (.tmp 18)) w137 := hn141.at 7 0 rfl rfl rfl
    have hv145 : Holds (Is (PtrV bk10)) (a136.eval (.tmp 2)) w137 := is_any (hk140.holds rfl hv113)
    have hb146 := hb114.up hg139
    have hv147 : Holds (Is (PtrV bk50)) (a136.eval (.tmp 4)) w137 := is_any (hk140.holds rfl hv117)
    have hb148 := hb118.up hg139
    have g149 := g119.trans hg139
    have g150 : Siz w2 w137 := g120.trans hg139
    have g151 : Siz w18 w137 := g121.trans hg139
    have g152 : Siz w37 w137 := g122.trans hg139
    have g153 := g123.trans hg139
    have g154 := g125.trans hg139
    clear hv113 hb114 hv117 hb118 g119 g120 g121 g122 g123 g125 hf108 hk140 hn141
    obtain ⟨V155, h156, hV157⟩ := nameV h144
    clear h144
    refine wl_callI (wl := w37) (wm := w107) [2, 4] hf138 (by kernel_rfl) rfl (by kernel_rfl) (c_insN (bef cmpN s.applied n).toNat ?_ ?_ ?_) (by omega) h142 hV133 g154 h143 (OwnF.own (unV h156 hV157)) ?_
    · (have hb := bef_le (c := cmpN) (l := s.applied) (x := n); omega)
    · (have hb := bef_le (c := cmpN) (l := s.applied) (x := n); omega)
    · (have hb := bef_le (c := cmpN) (l := s.applied) (x := n); omega)
    intro a158 w159 hf160 hw161 hk162 h163
    have g164 : Grow w0 w159 := g149.wr hw161 (by omega)
    have g165 : Siz w2 w159 := Siz.below g150.size hw161.below
    have g166 : Siz w18 w159 := Siz.below g151.size hw161.below
    have g167 : Siz w37 w159 := Siz.below g152.size hw161.below
    have g168 : Siz w85 w159 := Siz.below g153.size hw161.below
    have g169 : Siz w107 w159 := Siz.below g154.size hw161.below
    have hv170 : Holds (Is (PtrV bk10)) (a158.eval (.tmp 2)) w159 := is_any (hk162.holds rfl hv145)
    have hb171 : Blk bk10 _ w159 := hb146.wr hw161 (by omega)
    have hv172 : Holds (Is (PtrV bk50)) (a158.eval (.tmp 4)) w159 := is_any (hk162.holds rfl hv147)
    have hb173 : Blk bk50 _ w159 := hb148.wr hw161 (by omega)
    have hV174 : Holds _ V76 w159 := OwnS.wr (hV130.up g154) hw161 rfl
    have hV175 : Holds _ V77 w159 := OwnS.wr (hV131.up g154) hw161 rfl
    have hV176 : Holds _ V78 w159 := OwnS.wr (hV132.up g154) hw161 rfl
    obtain ⟨V177, h178, hV179⟩ := nameV h163
    clear h163
    refine wp_seg (l1 := [_]) [([2], [])] [2, 4, 19] w107.heap.size hf160 g169.size (by kernel_rfl) (bund_cons (hb171.ownp hv170) bund_nil) ?_
    refine ch rfl (ob_faP (n := 0) (arg_free 0 rfl rfl) Try.underlying42 rfl (by kernel_rfl)) ?_
    refine ch_nil ?_
    intro a180 w181 hf182 hg183 hk184 hn185
    have h186 : Holds _ (a180.eval (.tmp 20)) w181 := hn185.at 0 0 rfl rfl rfl
    have h187 := hk184.holds rfl (h178.up hg183)
    have hv188 : Holds (Is (PtrV bk10)) (a180.eval (.tmp 2)) w181 := is_any (hk184.holds rfl hv170)
    have hb189 := hb171.up hg183
    have hv190 : Holds (Is (PtrV bk50)) (a180.eval (.tmp 4)) w181 := is_any (hk184.holds rfl hv172)
    have hb191 := hb173.up hg183
    have g192 := g164.trans hg183
    have g193 : Siz w2 w181 := g165.trans hg183
    have g194 : Siz w18 w181 := g166.trans hg183
    have g195 : Siz w37 w181 := g167.trans hg183
    have g196 : Siz w85 w181 := g168.trans hg183
    have g197 : Siz w107 w181 := g169.trans hg183
    have hV198 := hV174.up hg183
    have hV199 := hV175.up hg183
    have hV200 := hV176.up hg183
    have hV201 := hV179.up hg183
    clear h178 hv170 hb171 hv172 hb173 g164 g165 g166 g167 g168 g169 hf160 hk184 hn185 hg183 hV174 hV175 hV176 hV179
    refine wl_store_sl h186 h187 hV201 (show 3 < 5 by decide) szNms ?_
    intro w202 ho203 hb204
    have hb205 : Blk bk10 (stVals V76 V77 V78 V177 _) w202 := hb204
    clear hb204
    have g206 : Grow w0 w202 := g192.only ho203 (by omega)
    have g207 : Siz w2 w202 := Siz.below g193.size ho203.below
    have g208 : Siz w18 w202 := Siz.below g194.size ho203.below
    have g209 : Siz w37 w202 := Siz.below g195.size ho203.below
    have hv212 : Holds (Is (PtrV bk10)) (a180.eval (.tmp 2)) w202 := is_any hv188
    have hv213 : Holds (Is (PtrV bk50)) (a180.eval (.tmp 4)) w202 := is_any hv190
    have hb214 : Blk bk50 _ w202 := hb191.only ho203 (by omega)
    have hV215 : Holds _ V76 w202 := OwnS.only hV198 ho203 (by omega)
    have hV216 : Holds _ V77 w202 := OwnS.only hV199 ho203 (by omega)
    have hV217 : Holds _ V78 w202 := OwnS.only hV200 ho203 (by omega)
    have hV218 : Holds _ V177 w202 := OwnS.only hV201 ho203 (by omega)
    refine wpList_nil ?_
    refine then_ ?_
    refine wp_seq ?_
    have g219 : Grow w202 w202 := Grow.refl _
    have hl220 : bk10 < w202.heap.size := hb205.lt
    have hl221 : bk50 < w202.heap.size := hb214.lt
    have hz222 : w37.heap.size ≤ w202.heap.size := g209.size
    refine wp_region_lit ?_
    refine wp_seg (l1 := [_]) [([2], [])] [4] w202.heap.size hf182 g219.size (by kernel_rfl) (bund_cons (hb205.ownp hv212) bund_nil) ?_
    refine ch rfl (ob_load_state (ArgOK.ownp (arg_free 0 rfl rfl))) ?_
    refine ch_nil ?_
    intro a223 w224 hf225 hg226 hk227 hn228
    have h229 : Holds _ (a223.eval (.tmp 21)) w224 := hn228.at 0 0 rfl rfl rfl
    have hv230 : Holds (Is (PtrV bk50)) (a223.eval (.tmp 4)) w224 := is_any (hk227.holds rfl hv213)
    have hb231 := hb214.up hg226
    have g232 := g206.trans hg226
    have g233 : Siz w2 w224 := g207.trans hg226
    have g234 : Siz w18 w224 := g208.trans hg226
    have g235 : Siz w37 w224 := g209.trans hg226
    have g236 := g219.trans hg226
    clear hv213 hb214 g206 g207 g208 g209 g219 hf182 hk227 hn228
    refine wl_store_state hv230 hb231 rfl h229 (st_oneS (OwnS.sl (hV215.up g236)) (OwnS.sl (hV216.up g236)) (OwnS.sl (hV217.up g236)) (OwnS.sl (hV218.up g236))) ?_
    intro w237 ho238 hb239
    have g240 : Grow w0 w237 := g232.only ho238 (by omega)
    have g241 : Siz w2 w237 := Siz.below g233.size ho238.below
    have g242 : Siz w18 w237 := Siz.below g234.size ho238.below
    have g243 : Siz w37 w237 := Siz.below g235.size ho238.below
    have hv245 : Holds (Is (PtrV bk50)) (a223.eval (.tmp 4)) w237 := is_any hv230
    have hV246 : Holds _ V76 w237 := OwnS.only (hV215.up g236) ho238 (by omega)
    have hV247 : Holds _ V77 w237 := OwnS.only (hV216.up g236) ho238 (by omega)
    have hV248 : Holds _ V78 w237 := OwnS.only (hV217.up g236) ho238 (by omega)
    have hV249 : Holds _ V177 w237 := OwnS.only (hV218.up g236) ho238 (by omega)
    refine wpList_nil ?_
    refine then_ ?_
    refine wp_ret ?_
    refine ret_cell rfl Try.underlying42 rfl (by kernel_rfl) hf225 g240 (hb239.ptr hv245) ?_
    exact sto_cast (mkO (OwnS.mono hV246 (by omega)) (OwnS.mono hV247 (by omega)) (OwnS.mono hV248 (by omega)) (OwnS.mono hV249 (by omega))) (by first | exact mark_no hp | exact mark_yes hp)
  · intro hc124
    have hp : s.applied.any (fun y => decide (n = y)) = true := by simpa using hc124
    refine wp_skip ?_
    refine then_ ?_
    refine wp_seq ?_
    have g250 : Grow w107 w107 := Grow.refl _
    have hl251 : bk10 < w107.heap.size := hb114.lt
    have hl252 : bk28 < w107.heap.size := hb116.lt
    have hl253 : bk50 < w107.heap.size := hb118.lt
    have hz254 : w85.heap.size ≤ w107.heap.size := g123.size
    refine wp_region_lit ?_
    refine wp_seg (l1 := [_]) [([2], [])] [4] w107.heap.size hf108 g250.size (by kernel_rfl) (bund_cons (hb114.ownp hv113) bund_nil) ?_
    refine ch rfl (ob_load_state (ArgOK.ownp (arg_free 0 rfl rfl))) ?_
    refine ch_nil ?_
    intro a255 w256 hf257 hg258 hk259 hn260
    have h261 : Holds _ (a255.eval (.tmp 21)) w256 := hn260.at 0 0 rfl rfl rfl
    have hv262 : Holds (Is (PtrV bk50)) (a255.eval (.tmp 4)) w256 := is_any (hk259.holds rfl hv117)
    have hb263 := hb118.up hg258
    have g264 := g119.trans hg258
    have g265 : Siz w2 w256 := g120.trans hg258
    have g266 : Siz w18 w256 := g121.trans hg258
    have g267 : Siz w37 w256 := g122.trans hg258
    have g268 := g123.trans hg258
    have g269 := g250.trans hg258
    clear hv117 hb118 g119 g120 g121 g122 g123 g250 hf108 hk259 hn260
    refine wl_store_state hv262 hb263 rfl h261 (st_oneS (OwnS.sl (hV97.up g268)) (OwnS.sl (hV98.up g268)) (OwnS.sl (hV99.up g268)) (OwnS.sl (hV100.up g268))) ?_
    intro w270 ho271 hb272
    have g273 : Grow w0 w270 := g264.only ho271 (by omega)
    have g274 : Siz w2 w270 := Siz.below g265.size ho271.below
    have g275 : Siz w18 w270 := Siz.below g266.size ho271.below
    have g276 : Siz w37 w270 := Siz.below g267.size ho271.below
    have hv279 : Holds (Is (PtrV bk50)) (a255.eval (.tmp 4)) w270 := is_any hv262
    have hV280 : Holds _ V76 w270 := OwnS.only (hV97.up g268) ho271 (by omega)
    have hV281 : Holds _ V77 w270 := OwnS.only (hV98.up g268) ho271 (by omega)
    have hV282 : Holds _ V78 w270 := OwnS.only (hV99.up g268) ho271 (by omega)
    have hV283 : Holds _ V79 w270 := OwnS.only (hV100.up g268) ho271 (by omega)
    refine wpList_nil ?_
    refine then_ ?_
    refine wp_ret ?_
    refine ret_cell rfl Try.underlying42 rfl (by kernel_rfl) hf257 g273 (hb272.ptr hv279) ?_
    exact sto_cast (mkO (OwnS.mono hV280 (by omega)) (OwnS.mono hV281 (by omega)) (OwnS.mono hV282 (by omega)) (OwnS.mono hV283 (by omega))) (by first | exact mark_no hp | exact mark_yes hp)
theorem cmpN_pos {a b : UInt64} : 0 < cmpN a b ↔ b < a := by
  unfold cmpN cmpI
  rw [UInt64.lt_iff_toNat_lt]
  (repeat' split) <;> omega
theorem befN_hit {l : List UInt64} {n : UInt64} {i : Nat} (h : ∀ j, j < i → ¬ n < l.getD j default) (hi : i ≤ l.length) (he : ¬ (i : Int) < (l.length : Int) ∨ n < l.getD i default) : (bef cmpN l n).toNat = i := by
  have hp : ∀ j, j < i → (fun y => decide (0 < cmpN y n)) (l.getD j default) = false := fun j hj => decide_eq_false fun hc => h j hj (cmpN_pos.1 hc)
  unfold bef
  by_cases h2 : i < l.length
  · have h3 : n < l.getD i default := he.resolve_left (by omega)
    rw [← idx_hit (p := fun y => decide (0 < cmpN y n)) hp h2 (decide_eq_true (cmpN_pos.2 h3)), if_pos (by omega)]
    rfl
  · rw [← idx_none (p := fun y => decide (0 < cmpN y n)) hp (by omega), if_neg (by omega)]
    omega
theorem lt_step {l : List UInt64} {n : UInt64} {i : Nat} (h : ∀ j, j < i → ¬ n < l.getD j default) (he : ¬ n < l.getD i default) : ∀ j, j < i + 1 → ¬ n < l.getD j default := fun j hj => by
  by_cases e : j = i
  · subst e; exact he
  · exact h j (by omega)
theorem any_comm {l : List UInt64} {n : UInt64} : (l.any fun y => decide (y = n)) = l.any fun y => decide (n = y) := by
  congr 1
  funext y
  rw [decide_eq_decide]
  exact eq_comm
set_option maxRecDepth 100000 in
theorem c_rMark {s : GState} {n : UInt64} (hs : stOK s) : Con2 43 (StF s) (Is (nmV n)) (fun lo => StO lo (markS s n)) := by
  intro lo v0 v1 w0 hlo hv0 hv1
  refine enter Try.func43 rfl Try.ntmps43 (by simp) ?_
  intro a0 hf0 ha
  obtain ⟨va0, vb0, vc0, vd0, he0, hva0, hvb0, hvc0, hvd0⟩ := openF hv0
  have h00 : Holds (Is _) (a0.eval (.tmp 0)) w0 := arg_holds ha rfl he0
  have h01 : Holds _ (a0.eval (.tmp 1)) w0 := arg_holds ha rfl hv1
  clear ha
  have g0 : Grow w0 w0 := Grow.refl _
  obtain ⟨hs1, hs2, hs3, hs4⟩ := id hs
  refine wp_seq ?_
  refine wp_region_lit ?_
  refine wp_seg (l1 := [_]) [([0], [])] [1] w0.heap.size hf0 g0.size (by kernel_rfl) (bund_cons h00 bund_nil) ?_
  refine ch rfl (ob_box_state (arg_free 0 rfl rfl)) ?_
  refine ch_nil ?_
  intro a1 w2 hf3 hg4 hk5 hn6
  have h7 : Holds _ (a1.eval (.tmp 2)) w2 := hn6.at 0 0 rfl rfl rfl
  have h8 := hk5.holds rfl h01
  have g9 := g0.trans hg4
  obtain ⟨bk10, hl11, hv12, hb13⟩ := OwnB.blk (lo := w0.heap.size) h7
  clear h01 g0 hf0 hk5 hn6
  have g14 : Grow w2 w2 := Grow.refl _
  have hl15 : bk10 < w2.heap.size := hb13.lt
  have hz16 : w0.heap.size ≤ w2.heap.size := g9.size
  refine wp_seg (l1 := [_]) [([1], [])] [2] w2.heap.size hf3 g14.size (by kernel_rfl) (bund_cons (is_any h8) bund_nil) ?_
  refine ch rfl (ob_box_nm (arg_free 0 rfl rfl)) ?_
  refine ch_nil ?_
  intro a17 w18 hf19 hg20 hk21 hn22
  have h23 : Holds _ (a17.eval (.tmp 3)) w18 := hn22.at 0 0 rfl rfl rfl
  have hv24 : Holds (Is (PtrV bk10)) (a17.eval (.tmp 2)) w18 := is_any (hk21.holds rfl hv12)
  have hb25 := hb13.up hg20
  have g26 := g9.trans hg20
  have g27 := g14.trans hg20
  obtain ⟨bk28, hl29, hv30, hb31⟩ := OwnB.blk (lo := w2.heap.size) h23
  clear hv12 hb13 g9 g14 hf3 hk21 hn22
  have g32 : Grow w18 w18 := Grow.refl _
  have hl33 : bk10 < w18.heap.size := hb25.lt
  have hl34 : bk28 < w18.heap.size := hb31.lt
  have hz35 : w2.heap.size ≤ w18.heap.size := g27.size
  refine wp_all [([], [])] [2, 3] w18.heap.size hf19 g32.size (by kernel_rfl) bund_nil ?_
  refine ch rfl (ob_alloc_state) ?_
  refine ch_nil ?_
  intro a36 w37 hf38 hg39 hk40 hn41
  have h42 : Holds _ (a36.eval (.tmp 4)) w37 := hn41.at 0 0 rfl rfl rfl
  have hv43 : Holds (Is (PtrV bk10)) (a36.eval (.tmp 2)) w37 := is_any (hk40.holds rfl hv24)
  have hb44 := hb25.up hg39
  have hv45 : Holds (Is (PtrV bk28)) (a36.eval (.tmp 3)) w37 := is_any (hk40.holds rfl hv30)
  have hb46 := hb31.up hg39
  have g47 := g26.trans hg39
  have g48 := g27.trans hg39
  have g49 := g32.trans hg39
  obtain ⟨bk50, hl51, hv52, hb53⟩ := OwnB.blk (lo := w18.heap.size) h42
  clear hv24 hb25 hv30 hb31 g26 g27 g32 hf19 hk40 hn41
  refine then_ ?_
  refine wp_seq ?_
  have g54 : Grow w37 w37 := Grow.refl _
  have hl55 : bk10 < w37.heap.size := hb44.lt
  have hl56 : bk28 < w37.heap.size := hb46.lt
  have hl57 : bk50 < w37.heap.size := hb53.lt
  have hz58 : w18.heap.size ≤ w37.heap.size := g49.size
  refine wp_region_lit ?_
  refine wp_seg (l1 := [_, _]) [([2], []), ([], [0])] [2, 3, 4] w37.heap.size hf38 g54.size (by kernel_rfl) (bund_cons (hb44.ownp hv43) bund_nil) ?_
  refine ch rfl (ob_load_state (ArgOK.ownp (arg_free 0 rfl rfl))) ?_
  refine ch rfl (ob_call1 (by kernel_rfl) (c_Copy (s := _) ?_) (ArgOK.val (arg_op 0 0 rfl rfl rfl rfl) (mkFs (s := s) (hva0.up g47) (hvb0.up g47) (hvc0.up g47) (hvd0.up g47)))) ?_
  · assumption
  refine ch_nil ?_
  intro a59 w60 hf61 hg62 hk63 hn64
  have h65 : Holds (StO w37.heap.size _) (a59.eval (.tmp 8)) w60 := hn64.at 1 0 rfl rfl rfl
  have hv66 : Holds (Is (PtrV bk10)) (a59.eval (.tmp 2)) w60 := is_any (hk63.holds rfl hv43)
  have hb67 := hb44.up hg62
  have hv68 : Holds (Is (PtrV bk28)) (a59.eval (.tmp 3)) w60 := is_any (hk63.holds rfl hv45)
  have hb69 := hb46.up hg62
  have hv70 : Holds (Is (PtrV bk50)) (a59.eval (.tmp 4)) w60 := is_any (hk63.holds rfl hv52)
  have hb71 := hb53.up hg62
  have g72 := g47.trans hg62
  have g73 := g48.trans hg62
  have g74 := g49.trans hg62
  have g75 := g54.trans hg62
  clear hv43 hb44 hv45 hb46 hv52 hb53 g47 g48 g49 g54 hf38 hk63 hn64
  obtain ⟨V76, V77, V78, V79, h80, hV81, hV82, hV83, hV84⟩ := openO h65
  refine wl_store_state hv66 hb67 rfl h80 (st_oneS (OwnS.sl hV81) (OwnS.sl hV82) (OwnS.sl hV83) (OwnS.sl hV84)) ?_
  intro w85 ho86 hb87
  have g88 : Grow w0 w85 := g72.only ho86 (by omega)
  have g89 : Siz w2 w85 := Siz.below g73.size ho86.below
  have g90 : Siz w18 w85 := Siz.below g74.size ho86.below
  have g91 : Siz w37 w85 := Siz.below g75.size ho86.below
  have hv92 : Holds (Is (PtrV bk10)) (a59.eval (.tmp 2)) w85 := is_any hv66
  have hv93 : Holds (Is (PtrV bk28)) (a59.eval (.tmp 3)) w85 := is_any hv68
  have hb94 : Blk bk28 _ w85 := hb69.only ho86 (by omega)
  have hv95 : Holds (Is (PtrV bk50)) (a59.eval (.tmp 4)) w85 := is_any hv70
  have hb96 : Blk bk50 _ w85 := hb71.only ho86 (by omega)
  have hV97 : Holds _ V76 w85 := OwnS.only hV81 ho86 (by omega)
  have hV98 : Holds _ V77 w85 := OwnS.only hV82 ho86 (by omega)
  have hV99 : Holds _ V78 w85 := OwnS.only hV83 ho86 (by omega)
  have hV100 : Holds _ V79 w85 := OwnS.only hV84 ho86 (by omega)
  refine wpList_nil ?_
  refine then_ ?_
  refine wp_seq ?_
  refine wp_seq ?_
  have g101 : Grow w85 w85 := Grow.refl _
  have hl102 : bk10 < w85.heap.size := hb87.lt
  have hl103 : bk28 < w85.heap.size := hb94.lt
  have hl104 : bk50 < w85.heap.size := hb96.lt
  have hz105 : w37.heap.size ≤ w85.heap.size := g91.size
  refine wp_region_lit ?_
  refine wp_all [([2], []), ([], [0]), ([3], []), ([], [1, 2])] [2, 3, 4] w85.heap.size hf61 g101.size (by kernel_rfl) (bund_cons (hb87.ownp hv92) (bund_cons (hb94.ownp hv93) bund_nil)) ?_
  refine ch rfl (ob_faP (n := 0) (arg_free 0 rfl rfl) Try.underlying42 rfl (by kernel_rfl)) ?_
  refine ch rfl (ob_loadP (arg_op 0 0 rfl rfl rfl rfl) Try.underlying39 rfl rfl) ?_
  refine ch rfl (ob_load_nm (ArgOK.ownp (arg_free 1 rfl rfl))) ?_
  refine ch rfl (ob_call2 (by kernel_rfl) (c_hasName ?_) (ArgOK.sl (ArgOK.val (arg_op 1 1 rfl rfl rfl rfl) hV100)) (arg_op 2 0 rfl rfl rfl rfl)) ?_
  · omega
  refine ch_nil ?_
  intro a106 w107 hf108 hg109 hk110 hn111
  have h112 : Holds _ (a106.eval (.tmp 12)) w107 := hn111.at 3 0 rfl rfl rfl
  have hv113 : Holds (Is (PtrV bk10)) (a106.eval (.tmp 2)) w107 := is_any (hk110.holds rfl hv92)
  have hb114 := hb87.up hg109
  have hv115 : Holds (Is (PtrV bk28)) (a106.eval (.tmp 3)) w107 := is_any (hk110.holds rfl hv93)
  have hb116 := hb94.up hg109
  have hv117 : Holds (Is (PtrV bk50)) (a106.eval (.tmp 4)) w107 := is_any (hk110.holds rfl hv95)
  have hb118 := hb96.up hg109
  have g119 := g88.trans hg109
  have g120 : Siz w2 w107 := g89.trans hg109
  have g121 : Siz w18 w107 := g90.trans hg109
  have g122 : Siz w37 w107 := g91.trans hg109
  have g123 := g101.trans hg109
  clear hv92 hb87 hv93 hb94 hv95 hb96 g88 g89 g90 g91 g101 hf61 hk110 hn111
  refine then_ ?_
  refine wp_if h112 ?_ ?_
  · intro hc124
    have hp : s.applied.any (fun y => decide (n = y)) = true := any_comm.symm.trans hc124
    refine wp_seq ?_
    have g125 : Grow w107 w107 := Grow.refl _
    have hl126 : bk10 < w107.heap.size := hb114.lt
    have hl127 : bk28 < w107.heap.size := hb116.lt
    have hl128 : bk50 < w107.heap.size := hb118.lt
    have hz129 : w85.heap.size ≤ w107.heap.size := g123.size
    refine wp_region_lit ?_
    refine wp_seg (l1 := [_]) [([2], [])] [4] w107.heap.size hf108 g125.size (by kernel_rfl) (bund_cons (hb114.ownp hv113) bund_nil) ?_
    refine ch rfl (ob_load_state (ArgOK.ownp (arg_free 0 rfl rfl))) ?_
    refine ch_nil ?_
    intro a130 w131 hf132 hg133 hk134 hn135
    have h136 : Holds _ (a130.eval (.tmp 13)) w131 := hn135.at 0 0 rfl rfl rfl
    have hv137 : Holds (Is (PtrV bk50)) (a130.eval (.tmp 4)) w131 := is_any (hk134.holds rfl hv117)
    have hb138 := hb118.up hg133
    have g139 := g119.trans hg133
    have g140 : Siz w2 w131 := g120.trans hg133
    have g141 : Siz w18 w131 := g121.trans hg133
    have g142 : Siz w37 w131 := g122.trans hg133
    have g143 := g123.trans hg133
    have g144 := g125.trans hg133
    clear hv117 hb118 g119 g120 g121 g122 g123 g125 hf108 hk134 hn135
    refine wl_store_state hv137 hb138 rfl h136 (st_oneS (OwnS.sl (hV97.up g143)) (OwnS.sl (hV98.up g143)) (OwnS.sl (hV99.up g143)) (OwnS.sl (hV100.up g143))) ?_
    intro w145 ho146 hb147
    have g148 : Grow w0 w145 := g139.only ho146 (by omega)
    have g149 : Siz w2 w145 := Siz.below g140.size ho146.below
    have g150 : Siz w18 w145 := Siz.below g141.size ho146.below
    have g151 : Siz w37 w145 := Siz.below g142.size ho146.below
    have hv154 : Holds (Is (PtrV bk50)) (a130.eval (.tmp 4)) w145 := is_any hv137
    have hV155 : Holds _ V76 w145 := OwnS.only (hV97.up g143) ho146 (by omega)
    have hV156 : Holds _ V77 w145 := OwnS.only (hV98.up g143) ho146 (by omega)
    have hV157 : Holds _ V78 w145 := OwnS.only (hV99.up g143) ho146 (by omega)
    have hV158 : Holds _ V79 w145 := OwnS.only (hV100.up g143) ho146 (by omega)
    refine wpList_nil ?_
    refine then_ ?_
    refine wp_ret ?_
    refine thenR ?_
    refine ret_cell rfl Try.underlying42 rfl (by kernel_rfl) hf132 g148 (hb147.ptr hv154) ?_
    exact sto_cast (mkO (OwnS.mono hV155 (by omega)) (OwnS.mono hV156 (by omega)) (OwnS.mono hV157 (by omega)) (OwnS.mono hV158 (by omega))) (by exact mark_yes hp)
  · intro hc124
    have hp : s.applied.any (fun y => decide (n = y)) = false := any_comm.symm.trans hc124
    refine wp_skip ?_
    refine then_ ?_
    refine wp_seq ?_
    refine wp_region_lit ?_
    refine wp_all [([], [])] [2, 3, 4] w85.heap.size hf108 g123.size (by kernel_rfl) bund_nil ?_
    refine ch rfl (ob_assign arg_c) ?_
    refine ch_nil ?_
    intro a159 w160 hf161 hg162 hk163 hn164
    have h165 : Holds _ (a159.eval (.tmp 5)) w160 := hn164.at 0 0 rfl rfl rfl
    have hv166 : Holds (Is (PtrV bk10)) (a159.eval (.tmp 2)) w160 := is_any (hk163.holds rfl hv113)
    have hb167 := hb114.up hg162
    have hv168 : Holds (Is (PtrV bk28)) (a159.eval (.tmp 3)) w160 := is_any (hk163.holds rfl hv115)
    have hb169 := hb116.up hg162
    have hv170 : Holds (Is (PtrV bk50)) (a159.eval (.tmp 4)) w160 := is_any (hk163.holds rfl hv117)
    have hb171 := hb118.up hg162
    have g172 := g119.trans hg162
    have g173 : Siz w2 w160 := g120.trans hg162
    have g174 : Siz w18 w160 := g121.trans hg162
    have g175 : Siz w37 w160 := g122.trans hg162
    have g176 := g123.trans hg162
    clear hv113 hb114 hv115 hb116 hv117 hb118 g119 g120 g121 g122 g123 hf108 hk163 hn164 hg162
    refine then_ ?_
    refine wp_seq ?_
    refine wp_block ?_
    have g177 : Grow w160 w160 := Grow.refl _
    have hl178 : bk10 < w160.heap.size := hb167.lt
    have hl179 : bk28 < w160.heap.size := hb169.lt
    have hl180 : bk50 < w160.heap.size := hb171.lt
    have hz181 : w85.heap.size ≤ w160.heap.size := g176.size
    refine wp_loopL (α := Nat) (fun i a' w' => Fr 49 a' ∧ (i ≤ s.applied.length) ∧ (∀ j, j < i → ¬ n < s.applied.getD j default) ∧ Grow w0 w' ∧ Siz w2 w' ∧ Siz w18 w' ∧ Siz w37 w' ∧ Grow w85 w' ∧ Grow w160 w' ∧ Keep [2, 3, 4] a159 a' ∧ Holds (Is (intV (i : Int))) (a'.eval (.tmp 5)) w' ∧ Blk bk10 (_) w' ∧ Blk bk28 (_) w' ∧ Blk bk50 (_) w') (fun i => s.applied.length - i) (0) ⟨hf161, (by omega), (by exact fun j hj => absurd hj (Nat.not_lt_zero j)), g172, g173.size, g174.size, g175.size, g176, g177, Keep.refl _ _, (is_cast h165 (by first | rfl | (refine congrArg intV ?_; (try dsimp only); omega))), hb167, hb169, hb171⟩ ?_
    intro i a182 w183 ⟨hf184, hi186, hi187, g188, g189, g190, g191, g192, g193, kk185, h194, hb195, hb196, hb197⟩
    have hv198 : Holds (Is (PtrV bk10)) (a182.eval (.tmp 2)) w183 := is_any (kk185.holds rfl hv166)
    have hv199 : Holds (Is (PtrV bk28)) (a182.eval (.tmp 3)) w183 := is_any (kk185.holds rfl hv168)
    have hv200 : Holds (Is (PtrV bk50)) (a182.eval (.tmp 4)) w183 := is_any (kk185.holds rfl hv170)
    refine wp_seq ?_
    refine wp_seq ?_
    have g201 : Grow w183 w183 := Grow.refl _
    have hl202 : bk10 < w183.heap.size := hb195.lt
    have hl203 : bk28 < w183.heap.size := hb196.lt
    have hl204 : bk50 < w183.heap.size := hb197.lt
    have hz205 : w160.heap.size ≤ w183.heap.size := g193.size
    refine wp_calm [0, 0, 2, 6, 15, 31, 63, 63, 191, 63, 959, 1983, 4095, 8191, 16383] [([5], []), ([2], []), ([], [1]), ([], [2]), ([], [0, 3]), ([], [4]), ([3], [5]), ([2], [5]), ([], [7, 5]), ([5], [5]), ([], [8, 9, 5]), ([], [10, 5]), ([], [6, 11, 5]), ([], [12, 5]), ([], [5, 13])] [2, 3, 4, 5] w183.heap.size hf184 g201.size (by kernel_rfl) (bund_cons h194 (bund_cons (hb195.ownp hv198) (bund_cons (hb196.ownp hv199) bund_nil))) ?_
    intro ws206 hs207
    refine ch rfl (ob_move (arg_free 0 rfl rfl)) ?_
    refine ch rfl (ob_faP (n := 0) (arg_free 1 rfl rfl) Try.underlying42 rfl (by kernel_rfl)) ?_
    refine ch rfl (ob_loadP (arg_op 1 0 rfl rfl rfl rfl) Try.underlying39 rfl rfl) ?_
    refine ch rfl (ob_len (ArgOK.sl (ArgOK.val (arg_op 2 0 rfl rfl rfl rfl) ((hV100.up g192).up hs207))) Try.underlying39) ?_
    refine ch rfl (ob_lss (arg_op 0 3 rfl rfl rfl rfl) (arg_op 3 0 rfl rfl rfl rfl)) ?_
    refine ch rfl (ob_move (arg_op 4 0 rfl rfl rfl rfl)) ?_
    refine chg (b := _) rfl rfl (arg_op 5 0 rfl rfl rfl rfl) (fun hb5 => ob_load_nm (ArgOK.ownp (arg_free 2 rfl rfl))) ?_
    refine chg (b := _) rfl rfl (arg_op 5 1 rfl rfl rfl rfl) (fun hb5 => ob_faP (n := 0) (arg_free 1 rfl rfl) Try.underlying42 rfl (by kernel_rfl)) ?_
    refine chg (b := _) rfl rfl (arg_op 5 2 rfl rfl rfl rfl) (fun hb5 => ob_loadP (ArgOK.when (arg_op 7 0 rfl rfl rfl rfl) hb5) Try.underlying39 rfl rfl) ?_
    refine chg (b := _) rfl rfl (arg_op 5 3 rfl rfl rfl rfl) (fun hb5 => ob_move (arg_free 0 rfl rfl)) ?_
    refine chg (b := _) rfl rfl (arg_op 5 4 rfl rfl rfl rfl) (fun hb5 => ob_ix (ArgOK.sl (ArgOK.val (ArgOK.when (arg_op 8 1 rfl rfl rfl rfl) hb5) ((hV100.up g192).up hs207))) (ArgOK.when (arg_op 9 0 rfl rfl rfl rfl) hb5) (rfl) ?_ Try.underlying39 szNm) ?_
    · (have hq := of_decide_eq_true hb5; omega)
    refine chg (b := _) rfl rfl (arg_op 5 5 rfl rfl rfl rfl) (fun hb5 => ob_load_nm (ArgOK.when (arg_op 10 0 rfl rfl rfl rfl) hb5)) ?_
    refine chg (b := _) rfl rfl (arg_op 5 6 rfl rfl rfl rfl) (fun hb5 => ob_call2 (by kernel_rfl) (c_rLess) (ArgOK.when (arg_op 6 5 rfl rfl rfl rfl) hb5) (ArgOK.when (arg_op 11 0 rfl rfl rfl rfl) hb5)) ?_
    refine chg (b := _) rfl rfl (arg_op 5 7 rfl rfl rfl rfl) (fun hb5 => ob_not (ArgOK.when (arg_op 12 0 rfl rfl rfl rfl) hb5)) ?_
    refine ch rfl (ob_and (arg_op 5 8 rfl rfl rfl rfl) (arg_op 13 0 rfl rfl rfl rfl)) ?_
    refine ch_nil ?_
    intro a208 w209 hf210 hg211 hk212 hn213
    have h214 : Holds _ (a208.eval (.tmp 28)) w209 := hn213.at 14 0 rfl rfl rfl
    have h215 := hk212.holds rfl h194
    have hv216 : Holds (Is (PtrV bk10)) (a208.eval (.tmp 2)) w209 := is_any (hk212.holds rfl hv198)
    have hb217 := hb195.up hg211
    have hv218 : Holds (Is (PtrV bk28)) (a208.eval (.tmp 3)) w209 := is_any (hk212.holds rfl hv199)
    have hb219 := hb196.up hg211
    have hv220 : Holds (Is (PtrV bk50)) (a208.eval (.tmp 4)) w209 := is_any (hk212.holds rfl hv200)
    have hb221 := hb197.up hg211
    have g222 := g188.trans hg211
    have g223 : Siz w2 w209 := g189.trans hg211
    have g224 : Siz w18 w209 := g190.trans hg211
    have g225 : Siz w37 w209 := g191.trans hg211
    have g226 := g192.trans hg211
    have g227 := g193.trans hg211
    have g228 := g201.trans hg211
    have kk229 : Keep _ a159 a208 := kk185.trans hk212 rfl
    clear h194 hv198 hb195 hv199 hb196 hv200 hb197 g188 g189 g190 g191 g192 g193 g201 kk185 hf184 hk212 hn213
    refine then_ ?_
    refine wp_if h214 ?_ ?_
    · intro hc230
      try simp only [cond_norm] at hc230
      obtain ⟨hlt, hnl⟩ := hc230
      refine wp_skip ?_
      refine then_ ?_
      refine wp_block ?_
      refine wp_region_lit ?_
      refine wp_all [([5], []), ([], [0]), ([], [1])] [2, 3, 4] w183.heap.size hf210 g228.size (by kernel_rfl) (bund_cons (is_any h215) bund_nil) ?_
      refine ch rfl (ob_move (arg_free 0 rfl rfl)) ?_
      first
        | (refine ch rfl (ob_add' (arg_op 0 0 rfl rfl rfl rfl) arg_c ?_) ?_; · omega)
        | refine ch rfl (ob_add (arg_op 0 0 rfl rfl rfl rfl) arg_c) ?_
      refine ch rfl (ob_assign (arg_op 1 0 rfl rfl rfl rfl)) ?_
      refine ch_nil ?_
      intro a231 w232 hf233 hg234 hk235 hn236
      have h237 : Holds _ (a231.eval (.tmp 5)) w232 := hn236.at 2 0 rfl rfl rfl
      have hv238 : Holds (Is (PtrV bk10)) (a231.eval (.tmp 2)) w232 := is_any (hk235.holds rfl hv216)
      have hb239 := hb217.up hg234
      have hv240 : Holds (Is (PtrV bk28)) (a231.eval (.tmp 3)) w232 := is_any (hk235.holds rfl hv218)
      have hb241 := hb219.up hg234
      have hv242 : Holds (Is (PtrV bk50)) (a231.eval (.tmp 4)) w232 := is_any (hk235.holds rfl hv220)
      have hb243 := hb221.up hg234
      have g244 := g222.trans hg234
      have g245 : Siz w2 w232 := g223.trans hg234
      have g246 : Siz w18 w232 := g224.trans hg234
      have g247 : Siz w37 w232 := g225.trans hg234
      have g248 := g226.trans hg234
      have g249 := g227.trans hg234
      have g250 := g228.trans hg234
      have kk251 : Keep _ a159 a231 := kk229.trans hk235 rfl
      clear hv216 hb217 hv218 hb219 hv220 hb221 g222 g223 g224 g225 g226 g227 g228 kk229 hf210 hk235 hn236 hg234
      refine blockN ?_
      refine then_ ?_
      exact ⟨(i + 1), (by ((try dsimp only); omega)), hf233, (by omega), (by exact lt_step (by assumption) hnl), g244, g245.size, g246.size, g247.size, g248, g249, kk251, (is_cast h237 (by first | rfl | (refine congrArg intV ?_; (try dsimp only); omega))), hb239, hb241, hb243⟩
    · intro hc230
      try simp only [cond_norm] at hc230
      have hb := befN_hit (l := s.applied) (n := n) (i := i) (by assumption) (by omega) hc230
      refine wp_exit ?_
      refine thenX ?_
      refine thenX ?_
      refine blockX ?_
      refine then_ ?_
      refine wp_seq ?_
      have g252 : Grow w209 w209 := Grow.refl _
      have hl253 : bk10 < w209.heap.size := hb217.lt
      have hl254 : bk28 < w209.heap.size := hb219.lt
      have hl255 : bk50 < w209.heap.size := hb221.lt
      have hz256 : w183.heap.size ≤ w209.heap.size := g228.size
      refine wp_region_lit ?_
      refine wp_all [([], []), ([2], []), ([], [1]), ([5], []), ([], [2, 3]), ([], [0, 4]), ([], [5])] [2, 3, 4, 5] w209.heap.size hf210 g252.size (by kernel_rfl) (bund_cons (hb217.ownp hv216) (bund_cons (is_any h215) bund_nil)) ?_
      refine ch rfl (ob_bs0_nm ) ?_
      refine ch rfl (ob_faP (n := 0) (arg_free 0 rfl rfl) Try.underlying42 rfl (by kernel_rfl)) ?_
      refine ch rfl (ob_loadP (arg_op 1 0 rfl rfl rfl rfl) Try.underlying39 rfl rfl) ?_
      refine ch rfl (ob_move (arg_free 1 rfl rfl)) ?_
      refine ch rfl (ob_slice_to (ArgOK.sl (ArgOK.val (arg_op 2 1 rfl rfl rfl rfl) (hV100.up g226))) (arg_op 3 0 rfl rfl rfl rfl) (rfl) ?_ Try.underlying39 szNm) ?_
      · omega
      refine ch rfl (ob_append_fresh elNmP Try.underlying39 (arg_op 0 4 rfl rfl rfl rfl) (arg_op 4 0 rfl rfl rfl rfl) ?_) ?_
      · (refine ⟨?_, ?_⟩ <;> (simp only [List.length_nil, List.length_take, elNm]; omega))
      refine ch rfl (ob_assign (arg_op 5 0 rfl rfl rfl rfl)) ?_
      refine ch_nil ?_
      intro a257 w258 hf259 hg260 hk261 hn262
      have h263 : Holds (OwnS w209.heap.size _ _) (a257.eval (.tmp 6)) w258 := hn262.at 6 0 rfl rfl rfl
      have h264 := hk261.holds rfl h215
      have hv265 : Holds (Is (PtrV bk10)) (a257.eval (.tmp 2)) w258 := is_any (hk261.holds rfl hv216)
      have hb266 := hb217.up hg260
      have hv267 : Holds (Is (PtrV bk28)) (a257.eval (.tmp 3)) w258 := is_any (hk261.holds rfl hv218)
      have hb268 := hb219.up hg260
      have hv269 : Holds (Is (PtrV bk50)) (a257.eval (.tmp 4)) w258 := is_any (hk261.holds rfl hv220)
      have hb270 := hb221.up hg260
      have g271 := g222.trans hg260
      have g272 : Siz w2 w258 := g223.trans hg260
      have g273 : Siz w18 w258 := g224.trans hg260
      have g274 : Siz w37 w258 := g225.trans hg260
      have g275 := g226.trans hg260
      have g276 := g227.trans hg260
      have g277 := g228.trans hg260
      have g278 := g252.trans hg260
      clear h215 hv216 hb217 hv218 hb219 hv220 hb221 g222 g223 g224 g225 g226 g227 g228 g252 hf210 hk261 hn262
      obtain ⟨V279, h280, hV281⟩ := nameV h263
      clear h263
      refine then_ ?_
      refine wp_seq ?_
      have g282 : Grow w258 w258 := Grow.refl _
      have hl283 : bk10 < w258.heap.size := hb266.lt
      have hl284 : bk28 < w258.heap.size := hb268.lt
      have hl285 : bk50 < w258.heap.size := hb270.lt
      have hz286 : w209.heap.size ≤ w258.heap.size := g278.size
      refine wp_region_lit ?_
      refine wp_seg (l1 := [_, _, _]) [([6], []), ([3], []), ([], [1])] [2, 4, 5, 6] w258.heap.size hf259 g282.size (by kernel_rfl) (bund_cons h280 (bund_cons (hb268.ownp hv267) bund_nil)) ?_
      refine ch rfl (ob_move (arg_free 0 rfl rfl)) ?_
      refine ch rfl (ob_load_nm (ArgOK.ownp (arg_free 1 rfl rfl))) ?_
      refine ch rfl (ob_bs1_nm (arg_op 1 0 rfl rfl rfl rfl)) ?_
      refine ch_nil ?_
      intro a287 w288 hf289 hg290 hk291 hn292
      have h293 : Holds _ (a287.eval (.tmp 37)) w288 := hn292.at 0 2 rfl rfl rfl
      have h294 : Holds (OwnF w258.heap.size _ _) (a287.eval (.tmp 39)) w288 := hn292.at 2 0 rfl rfl rfl
      have h295 := hk291.holds rfl h280
      have h296 := hk291.holds rfl h264
      have hv297 : Holds (Is (PtrV bk10)) (a287.eval (.tmp 2)) w288 := is_any (hk291.holds rfl hv265)
      have hb298 := hb266.up hg290
      have hv299 : Holds (Is (PtrV bk50)) (a287.eval (.tmp 4)) w288 := is_any (hk291.holds rfl hv269)
      have hb300 := hb270.up hg290
      have g301 := g271.trans hg290
      have g302 : Siz w2 w288 := g272.trans hg290
      have g303 : Siz w18 w288 := g273.trans hg290
      have g304 : Siz w37 w288 := g274.trans hg290
      have g305 := g275.trans hg290
      have g306 := g276.trans hg290
      have g307 := g277.trans hg290
      have g308 := g278.trans hg290
      have g309 := g282.trans hg290
      clear h280 h264 hv265 hb266 hv269 hb270 g271 g272 g273 g274 g275 g276 g277 g278 g282 hf259 hk291 hn292
      obtain ⟨V310, h311, hV312⟩ := nameV h294
      clear h294
      refine wl_appendW elNmP [2, 4, 5, 6] hf289 (by kernel_rfl) rfl Try.underlying39 (unV h293 (hV281.up g309)) (OwnS.sl (OwnF.own (unV h311 hV312))) ?_ ?_ g308.size ?_
      · (simp only [List.length_append, List.length_take, List.length_cons, List.length_nil, maxLen]; omega)
      · (simp only [List.length_append, List.length_take, List.length_cons, List.length_nil, elNm]; omega)
      intro a313 w314 hf315 hw316 hk317 h318
      have g319 : Grow w0 w314 := g301.wr hw316 (by omega)
      have g320 : Siz w2 w314 := Siz.below g302.size hw316.below
      have g321 : Siz w18 w314 := Siz.below g303.size hw316.below
      have g322 : Siz w37 w314 := Siz.below g304.size hw316.below
      have g323 : Grow w85 w314 := g305.wr hw316 (by omega)
      have g324 : Grow w160 w314 := g306.wr hw316 (by omega)
      have g325 : Grow w183 w314 := g307.wr hw316 (by omega)
      have g326 : Grow w209 w314 := g308.wr hw316 (by omega)
      have g327 : Siz w258 w314 := Siz.below g309.size hw316.below
      have h328 : Holds _ (a313.eval (.tmp 6)) w314 := is_any (hk317.holds rfl h295)
      have h329 : Holds _ (a313.eval (.tmp 5)) w314 := is_any (hk317.holds rfl h296)
      have hv330 : Holds (Is (PtrV bk10)) (a313.eval (.tmp 2)) w314 := is_any (hk317.holds rfl hv297)
      have hb331 : Blk bk10 _ w314 := hb298.wr hw316 (by omega)
      have hv332 : Holds (Is (PtrV bk50)) (a313.eval (.tmp 4)) w314 := is_any (hk317.holds rfl hv299)
      have hb333 : Blk bk50 _ w314 := hb300.wr hw316 (by omega)
      obtain ⟨V334, h335, hV336⟩ := nameV h318
      clear h318
      refine wp_all [([40], [])] [2, 4, 5] w258.heap.size hf315 g327.size (by kernel_rfl) (bund_cons h335 bund_nil) ?_
      refine ch rfl (ob_assign (arg_free 0 rfl rfl)) ?_
      refine ch_nil ?_
      intro a337 w338 hf339 hg340 hk341 hn342
      have h343 : Holds _ (a337.eval (.tmp 6)) w338 := hn342.at 0 0 rfl rfl rfl
      have h344 := hk341.holds rfl (h329.up hg340)
      have hv345 : Holds (Is (PtrV bk10)) (a337.eval (.tmp 2)) w338 := is_any (hk341.holds rfl hv330)
      have hb346 := hb331.up hg340
      have hv347 : Holds (Is (PtrV bk50)) (a337.eval (.tmp 4)) w338 := is_any (hk341.holds rfl hv332)
      have hb348 := hb333.up hg340
      have g349 := g319.trans hg340
      have g350 : Siz w2 w338 := g320.trans hg340
      have g351 : Siz w18 w338 := g321.trans hg340
      have g352 : Siz w37 w338 := g322.trans hg340
      have g353 := g323.trans hg340
      have g354 := g324.trans hg340
      have g355 := g325.trans hg340
      have g356 := g326.trans hg340
      have g357 : Siz w258 w338 := g327.trans hg340
      have hV358 := hV336.up hg340
      clear h329 hv330 hb331 hv332 hb333 g319 g320 g321 g322 g323 g324 g325 g326 g327 hf315 hk341 hn342 hg340 hV336
      refine then_ ?_
      refine wp_seq ?_
      have g359 : Grow w338 w338 := Grow.refl _
      have hl360 : bk10 < w338.heap.size := hb346.lt
      have hl361 : bk50 < w338.heap.size := hb348.lt
      have hz362 : w258.heap.size ≤ w338.heap.size := g357.size
      refine wp_region_lit ?_
      refine wp_seg (l1 := [_, _, _, _, _]) [([6], []), ([2], []), ([], [1]), ([5], []), ([], [2, 3])] [2, 4] w338.heap.size hf339 g359.size (by kernel_rfl) (bund_cons h343 (bund_cons (hb346.ownp hv345) (bund_cons h344 bund_nil))) ?_
      refine ch rfl (ob_move (arg_free 0 rfl rfl)) ?_
      refine ch rfl (ob_faP (n := 0) (arg_free 1 rfl rfl) Try.underlying42 rfl (by kernel_rfl)) ?_
      refine ch rfl (ob_loadP (arg_op 1 0 rfl rfl rfl rfl) Try.underlying39 rfl rfl) ?_
      refine ch rfl (ob_move (arg_free 2 rfl rfl)) ?_
      refine ch rfl (ob_slice_from (ArgOK.sl (ArgOK.val (arg_op 2 1 rfl rfl rfl rfl) (hV100.up g353))) (arg_op 3 0 rfl rfl rfl rfl) (rfl) ?_ Try.underlying39 szNm) ?_
      · omega
      refine ch_nil ?_
      intro a363 w364 hf365 hg366 hk367 hn368
      have h369 : Holds _ (a363.eval (.tmp 41)) w364 := hn368.at 0 4 rfl rfl rfl
      have h370 : Holds _ (a363.eval (.tmp 45)) w364 := hn368.at 4 0 rfl rfl rfl
      have hv371 : Holds (Is (PtrV bk10)) (a363.eval (.tmp 2)) w364 := is_any (hk367.holds rfl hv345)
      have hb372 := hb346.up hg366
      have hv373 : Holds (Is (PtrV bk50)) (a363.eval (.tmp 4)) w364 := is_any (hk367.holds rfl hv347)
      have hb374 := hb348.up hg366
      have g375 := g349.trans hg366
      have g376 : Siz w2 w364 := g350.trans hg366
      have g377 : Siz w18 w364 := g351.trans hg366
      have g378 : Siz w37 w364 := g352.trans hg366
      have g379 := g353.trans hg366
      have g380 := g354.trans hg366
      have g381 := g355.trans hg366
      have g382 := g356.trans hg366
      have g383 : Siz w258 w364 := g357.trans hg366
      have g384 := g359.trans hg366
      clear hv345 hb346 hv347 hb348 g349 g350 g351 g352 g353 g354 g355 g356 g357 g359 hf339 hk367 hn368
      obtain ⟨V385, h386, hV387⟩ := nameV h370
      clear h370
      refine wl_appendW elNmP [2, 4] hf365 (by kernel_rfl) rfl Try.underlying39 (unV h369 (hV358.up g384)) (unV h386 hV387) ?_ ?_ g382.size ?_
      · (simp only [List.length_append, List.length_take, List.length_drop, List.length_cons, List.length_nil, maxLen]; omega)
      · (simp only [List.length_append, List.length_take, List.length_drop, List.length_cons, List.length_nil, elNm]; omega)
      intro a388 w389 hf390 hw391 hk392 h393
      have g394 : Grow w0 w389 := g375.wr hw391 (by omega)
      have g395 : Siz w2 w389 := Siz.below g376.size hw391.below
      have g396 : Siz w18 w389 := Siz.below g377.size hw391.below
      have g397 : Siz w37 w389 := Siz.below g378.size hw391.below
      have g398 : Grow w85 w389 := g379.wr hw391 (by omega)
      have g399 : Grow w160 w389 := g380.wr hw391 (by omega)
      have g400 : Grow w183 w389 := g381.wr hw391 (by omega)
      have g401 : Grow w209 w389 := g382.wr hw391 (by omega)
      have g402 : Siz w258 w389 := Siz.below g383.size hw391.below
      have g403 : Siz w338 w389 := Siz.below g384.size hw391.below
      have hv404 : Holds (Is (PtrV bk10)) (a388.eval (.tmp 2)) w389 := is_any (hk392.holds rfl hv371)
      have hb405 : Blk bk10 _ w389 := hb372.wr hw391 (by omega)
      have hv406 : Holds (Is (PtrV bk50)) (a388.eval (.tmp 4)) w389 := is_any (hk392.holds rfl hv373)
      have hb407 : Blk bk50 _ w389 := hb374.wr hw391 (by omega)
      obtain ⟨V408, h409, hV410⟩ := nameV h393
      clear h393
      refine wp_seg (l1 := [_]) [([2], [])] [2, 4, 46] w338.heap.size hf390 g403.size (by kernel_rfl) (bund_cons (hb405.ownp hv404) bund_nil) ?_
      refine ch rfl (ob_faP (n := 0) (arg_free 0 rfl rfl) Try.underlying42 rfl (by kernel_rfl)) ?_
      refine ch_nil ?_
      intro a411 w412 hf413 hg414 hk415 hn416
      have h417 : Holds _ (a411.eval (.tmp 47)) w412 := hn416.at 0 0 rfl rfl rfl
      have h418 := hk415.holds rfl (h409.up hg414)
      have hv419 : Holds (Is (PtrV bk10)) (a411.eval (.tmp 2)) w412 := is_any (hk415.holds rfl hv404)
      have hb420 := hb405.up hg414
      have hv421 : Holds (Is (PtrV bk50)) (a411.eval (.tmp 4)) w412 := is_any (hk415.holds rfl hv406)
      have hb422 := hb407.up hg414
      have g423 := g394.trans hg414
      have g424 : Siz w2 w412 := g395.trans hg414
      have g425 : Siz w18 w412 := g396.trans hg414
      have g426 : Siz w37 w412 := g397.trans hg414
      have g427 := g398.trans hg414
      have g428 := g399.trans hg414
      have g429 := g400.trans hg414
      have g430 := g401.trans hg414
      have g431 : Siz w258 w412 := g402.trans hg414
      have g432 : Siz w338 w412 := g403.trans hg414
      have hV433 := hV410.up hg414
      clear h409 hv404 hb405 hv406 hb407 g394 g395 g396 g397 g398 g399 g400 g401 g402 g403 hf390 hk415 hn416 hg414 hV410
      refine wl_store_sl h417 h418 hV433 (show 3 < 5 by decide) szNms ?_
      intro w434 ho435 hb436
      have hb437 : Blk bk10 (stVals V76 V77 V78 V408 _) w434 := hb436
      clear hb436
      have g438 : Grow w0 w434 := g423.only ho435 (by omega)
      have g439 : Siz w2 w434 := Siz.below g424.size ho435.below
      have g440 : Siz w18 w434 := Siz.below g425.size ho435.below
      have g441 : Siz w37 w434 := Siz.below g426.size ho435.below
      have g442 : Siz w85 w434 := Siz.below g427.size ho435.below
      have g443 : Siz w160 w434 := Siz.below g428.size ho435.below
      have g444 : Siz w183 w434 := Siz.below g429.size ho435.below
      have g445 : Siz w209 w434 := Siz.below g430.size ho435.below
      have hv448 : Holds (Is (PtrV bk10)) (a411.eval (.tmp 2)) w434 := is_any hv419
      have hv449 : Holds (Is (PtrV bk50)) (a411.eval (.tmp 4)) w434 := is_any hv421
      have hb450 : Blk bk50 _ w434 := hb422.only ho435 (by omega)
      have hV451 : Holds _ V76 w434 := OwnS.only (hV97.up g427) ho435 (by omega)
      have hV452 : Holds _ V77 w434 := OwnS.only (hV98.up g427) ho435 (by omega)
      have hV453 : Holds _ V78 w434 := OwnS.only (hV99.up g427) ho435 (by omega)
      have hV454 : Holds _ V408 w434 := OwnS.only hV433 ho435 (by omega)
      refine wpList_nil ?_
      refine then_ ?_
      refine wp_seq ?_
      have g455 : Grow w434 w434 := Grow.refl _
      have hl456 : bk10 < w434.heap.size := hb437.lt
      have hl457 : bk50 < w434.heap.size := hb450.lt
      have hz458 : w209.heap.size ≤ w434.heap.size := g445.size
      refine wp_region_lit ?_
      refine wp_seg (l1 := [_]) [([2], [])] [4] w434.heap.size hf413 g455.size (by kernel_rfl) (bund_cons (hb437.ownp hv448) bund_nil) ?_
      refine ch rfl (ob_load_state (ArgOK.ownp (arg_free 0 rfl rfl))) ?_
      refine ch_nil ?_
      intro a459 w460 hf461 hg462 hk463 hn464
      have h465 : Holds _ (a459.eval (.tmp 48)) w460 := hn464.at 0 0 rfl rfl rfl
      have hv466 : Holds (Is (PtrV bk50)) (a459.eval (.tmp 4)) w460 := is_any (hk463.holds rfl hv449)
      have hb467 := hb450.up hg462
      have g468 := g438.trans hg462
      have g469 : Siz w2 w460 := g439.trans hg462
      have g470 : Siz w18 w460 := g440.trans hg462
      have g471 : Siz w37 w460 := g441.trans hg462
      have g472 : Siz w85 w460 := g442.trans hg462
      have g473 : Siz w160 w460 := g443.trans hg462
      have g474 : Siz w183 w460 := g444.trans hg462
      have g475 : Siz w209 w460 := g445.trans hg462
      have g476 := g455.trans hg462
      clear hv449 hb450 g438 g439 g440 g441 g442 g443 g444 g445 g455 hf413 hk463 hn464
      refine wl_store_state hv466 hb467 rfl h465 (st_oneS (OwnS.sl (hV451.up g476)) (OwnS.sl (hV452.up g476)) (OwnS.sl (hV453.up g476)) (OwnS.sl (hV454.up g476))) ?_
      intro w477 ho478 hb479
      have g480 : Grow w0 w477 := g468.only ho478 (by omega)
      have g481 : Siz w2 w477 := Siz.below g469.size ho478.below
      have g482 : Siz w18 w477 := Siz.below g470.size ho478.below
      have g483 : Siz w37 w477 := Siz.below g471.size ho478.below
      have g484 : Siz w85 w477 := Siz.below g472.size ho478.below
      have g485 : Siz w160 w477 := Siz.below g473.size ho478.below
      have g486 : Siz w183 w477 := Siz.below g474.size ho478.below
      have g487 : Siz w209 w477 := Siz.below g475.size ho478.below
      have hv489 : Holds (Is (PtrV bk50)) (a459.eval (.tmp 4)) w477 := is_any hv466
      have hV490 : Holds _ V76 w477 := OwnS.only (hV451.up g476) ho478 (by omega)
      have hV491 : Holds _ V77 w477 := OwnS.only (hV452.up g476) ho478 (by omega)
      have hV492 : Holds _ V78 w477 := OwnS.only (hV453.up g476) ho478 (by omega)
      have hV493 : Holds _ V408 w477 := OwnS.only (hV454.up g476) ho478 (by omega)
      refine wpList_nil ?_
      refine then_ ?_
      refine wp_ret ?_
      refine ret_cell rfl Try.underlying42 rfl (by kernel_rfl) hf461 g480 (hb479.ptr hv489) ?_
      exact sto_cast (mkO (OwnS.mono hV490 (by omega)) (OwnS.mono hV491 (by omega)) (OwnS.mono hV492 (by omega)) (OwnS.mono hV493 (by omega))) (by (rw [← mark_no hp, hb, List.nil_append, List.append_assoc]; rfl))
end Ex
end Go.Proofs.Ytnmfiiejhoafnaa
