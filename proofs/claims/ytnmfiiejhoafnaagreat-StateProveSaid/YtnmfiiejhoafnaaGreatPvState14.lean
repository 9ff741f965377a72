/- The sanity check of the layer: a small genesis. -/
import Derived.Test.YtnmfiiejhoafnaaGreatPvState13
import Derived.Test.YtnmfiiejhoafnaaGreatPvLks
set_option linter.unusedSimpArgs false
set_option linter.unusedVariables false
namespace Go.Proofs.YtnmfiiejhoafnaaGreat
namespace Ex
open Go Calm Go.RowKit
def gen0 : GGen := ⟨1, 3, [72057594037927936], [144115188075855872], [7]⟩
def st0 : GState := ⟨[⟨⟨1, 0, 0⟩, 7⟩, ⟨⟨3, 0, 0⟩, 3⟩], [0], [], [], 0⟩
theorem gen0_st : genR gen0 = st0 := by decide +kernel
theorem gen0_ok : genOK gen0 = true := by decide +kernel
theorem genE_ok : genOK ⟨0, 0, [], [], []⟩ = false := by decide +kernel
theorem c_GenA : Con1 23 (GenF gen0) (fun lo => Two (StO lo st0) (Is (intV 0))) := by
  have h := c_Genesis (x := gen0) (by decide)
  simp only [gen0_st, gen0_ok, if_true] at h
  exact h
theorem c_GenB : Con1 23 (GenF ⟨0, 0, [], [], []⟩) (fun lo => Two (StO lo ⟨[], [], [], [], 0⟩) (Is (intV 1))) := by
  have h := c_Genesis (x := ⟨0, 0, [], [], []⟩) (by decide)
  rw [genE_ok] at h
  simp only [← genR_no genE_ok] at h
  exact h
theorem c_Bal0 : Con1 25 (Is (intV 0)) (fun _ => Is (cellV ⟨1, 0, 0⟩)) := c_Balance (n := 0)
theorem c_Stk0 : Con1 27 (Is (intV 0)) (fun _ => Is (cellV ⟨3, 0, 0⟩)) := c_Stake (n := 0)
theorem prvI_in {s : GState} {i : Int} (hs : stOK s) (h : -1 ≤ i) : -9223372036854775808 ≤ (prvI s i).index ∧ (prvI s i).count ≤ 9223372036854775807 := by
  have h1 := leaves_len s
  obtain ⟨h2, h3, h4, h5⟩ := hs
  unfold prvI
  split <;> simp only <;> omega
theorem fnd_ge {l : List GDelta} {c : GCell} : -1 ≤ fnd l c := by
  rcases fnd_pos (l := l) (c := c) with h | h <;> omega
theorem st0_ok : stOK st0 := by unfold stOK st0; decide
theorem aw1 : (getL st0.cells ⟨1, 0, 0⟩).toInt = 7 := by decide +kernel
theorem aw2 : (getL st0.cells ⟨3, 0, 0⟩).toInt = 3 := by decide +kernel
theorem aw3 : (tot st0.cells).toInt = 10 := by decide +kernel
theorem aw4 : valS st0 = true := by decide +kernel
theorem aw5 : fnd st0.cells ⟨1, 0, 0⟩ = 0 := by decide +kernel
theorem aw6 (n : UInt64) : appI st0 n = -1 := rfl
theorem aw7 : ((leaves st0).length : Int) = 4 := by rw [leaves_len]; rfl
theorem aw8 : cmpC ⟨1, 0, 0⟩ ⟨3, 0, 0⟩ = -1 := by decide +kernel
theorem aw9 : prvE st0 (fnd st0.cells ⟨1, 0, 0⟩) = 0 := (prvE_yes (prvE_cell (by rw [aw5]; decide))).symm
theorem aw10 (n : UInt64) : prvE st0 (appI st0 n) = 6 := by rw [aw6]; exact (prvE_no (pathB_neg (by decide))).symm
theorem aw11 : verB (root (leaves st0)) (leafC ⟨⟨1, 0, 0⟩, 7⟩) (prvI st0 (fnd st0.cells ⟨1, 0, 0⟩)).index (prvI st0 (fnd st0.cells ⟨1, 0, 0⟩)).count (prvI st0 (fnd st0.cells ⟨1, 0, 0⟩)).path = true := shown_cell (s := st0) (c := ⟨1, 0, 0⟩) (by rw [aw5]; decide)
set_option maxRecDepth 100000 in
theorem c_gen0  : Con0 24 (fun lo => GenO lo gen0) := by
  intro lo w0 hlo
  refine enter Tryz.func24 rfl Tryz.ntmps24 (by simp) ?_
  intro a0 hf0 ha
  clear ha
  have g0 : Grow w0 w0 := Grow.refl _
  refine wp_seq ?_
  refine wp_region_lit ?_
  refine wp_all [([], [])] [] w0.heap.size hf0 g0.size (by kernel_rfl) bund_nil ?_
  refine ch rfl (ob_alloc_gen) ?_
  refine ch_nil ?_
  intro a1 w2 hf3 hg4 hk5 hn6
  have h7 : Holds _ (a1.eval (.tmp 0)) w2 := hn6.at 0 0 rfl rfl rfl
  have g8 := g0.trans hg4
  obtain ⟨bk9, hl10, hv11, hb12⟩ := OwnB.blk (lo := w0.heap.size) h7
  clear g0 hf0 hk5 hn6
  refine then_ ?_
  refine wp_seq ?_
  have g13 : Grow w2 w2 := Grow.refl _
  have hl14 : bk9 < w2.heap.size := hb12.lt
  have hz15 : w0.heap.size ≤ w2.heap.size := g8.size
  refine wp_region_lit ?_
  refine wp_seg (l1 := [_, _, _, _, _, _]) [([], []), ([], [0]), ([], []), ([], [2]), ([], []), ([], [1, 3, 4])] [0] w2.heap.size hf3 g13.size (by kernel_rfl) bund_nil ?_
  refine ch rfl (ob_build_nm1 72057594037927936 (arg_cb 1 rfl) ?_) ?_
  · kernel_rfl
  refine ch rfl (ob_bs1_nm (arg_op 0 0 rfl rfl rfl rfl)) ?_
  refine ch rfl (ob_build_nm1 144115188075855872 (arg_cb 2 rfl) ?_) ?_
  · kernel_rfl
  refine ch rfl (ob_bs1_nm (arg_op 2 0 rfl rfl rfl rfl)) ?_
  refine ch rfl (ob_bs1_int arg_c) ?_
  refine ch rfl (ob_build_gen arg_c arg_c (ArgOK.ownf (arg_op 1 3 rfl rfl rfl rfl)) (ArgOK.ownf (arg_op 3 1 rfl rfl rfl rfl)) (ArgOK.ownf (arg_op 4 0 rfl rfl rfl rfl))) ?_
  refine ch_nil ?_
  intro a16 w17 hf18 hg19 hk20 hn21
  have h22 : Holds (GenO w2.heap.size _) (a16.eval (.tmp 6)) w17 := hn21.at 5 0 rfl rfl rfl
  have hv23 : Holds (Is (PtrV bk9)) (a16.eval (.tmp 0)) w17 := is_any (hk20.holds rfl hv11)
  have hb24 := hb12.up hg19
  have g25 := g8.trans hg19
  have g26 := g13.trans hg19
  clear hv11 hb12 g8 g13 hf3 hk20 hn21
  obtain ⟨V27, V28, V29, h30, hV31, hV32, hV33⟩ := openGO h22
  refine wl_store_gen hv23 hb24 rfl h30 (gen_one (OwnS.sl hV31) (OwnS.sl hV32) (OwnS.sl hV33)) ?_
  intro w34 ho35 hb36
  have g37 : Grow w0 w34 := g25.only ho35 (by omega)
  have g38 : Siz w2 w34 := Siz.below g26.size ho35.below
  have hv39 : Holds (Is (PtrV bk9)) (a16.eval (.tmp 0)) w34 := is_any hv23
  have hV40 : Holds _ V27 w34 := OwnS.only hV31 ho35 (by omega)
  have hV41 : Holds _ V28 w34 := OwnS.only hV32 ho35 (by omega)
  have hV42 : Holds _ V29 w34 := OwnS.only hV33 ho35 (by omega)
  refine wpList_nil ?_
  refine then_ ?_
  refine wp_ret ?_
  refine ret_cell rfl Tryz.underlying60 rfl (by kernel_rfl) hf18 g37 (hb36.ptr hv39) ?_
  exact mkGO (OwnS.mono hV40 (by omega)) (OwnS.mono hV41 (by omega)) (OwnS.mono hV42 (by omega))
set_option maxRecDepth 100000 in
theorem c_awake21  : Con0 6 (fun _ => Is (.bool true)) := by
  intro lo w0 hlo
  refine enter Tryz.func6 rfl Tryz.ntmps6 (by simp) ?_
  intro a0 hf0 ha
  clear ha
  have g0 : Grow w0 w0 := Grow.refl _
  have hs0 : stOK st0 := st0_ok
  refine wp_seq ?_
  refine wp_region_lit ?_
  refine wp_all [([], [])] [] w0.heap.size hf0 g0.size (by kernel_rfl) bund_nil ?_
  refine ch rfl (ob_assign arg_c) ?_
  refine ch_nil ?_
  intro a1 w2 hf3 hg4 hk5 hn6
  have g7 := g0.trans hg4
  clear g0 hf0 hk5 hn6
  refine then_ ?_
  refine wp_seq ?_
  have g8 : Grow w2 w2 := Grow.refl _
  have hz9 : w0.heap.size ≤ w2.heap.size := g7.size
  refine wp_region_lit ?_
  refine wp_seg (l1 := [_, _, _, _, _]) [([], []), ([], [0]), ([], [1]), ([], [2]), ([], [2])] [] w2.heap.size hf3 g8.size (by kernel_rfl) bund_nil ?_
  refine ch rfl (ob_call0 (by kernel_rfl) (c_gen0) ) ?_
  refine ch rfl (ob_call1 (by kernel_rfl) (c_GenA) (ArgOK.ofgen (arg_op 0 0 rfl rfl rfl rfl))) ?_
  refine ch rfl (ob_move (arg_op 1 0 rfl rfl rfl rfl)) ?_
  refine ch rfl (ob_extract0 (arg_op 2 0 rfl rfl rfl rfl)) ?_
  refine ch rfl (ob_extract1 (arg_op 2 1 rfl rfl rfl rfl)) ?_
  refine ch_nil ?_
  intro a10 w11 hf12 hg13 hk14 hn15
  have h16 : Holds (StO w2.heap.size _) (a10.eval (.tmp 13)) w11 := hn15.at 3 1 rfl rfl rfl
  have h17 : Holds _ (a10.eval (.tmp 14)) w11 := hn15.at 4 0 rfl rfl rfl
  have g18 := g7.trans hg13
  have g19 := g8.trans hg13
  clear g7 g8 hf3 hk14 hn15
  obtain ⟨V20, V21, V22, V23, h24, hV25, hV26, hV27, hV28⟩ := openO h16
  have g29 : Grow w11 w11 := Grow.refl _
  have hz30 : w2.heap.size ≤ w11.heap.size := g19.size
  refine wp_seg (l1 := [_]) [([], [])] [13, 14] w11.heap.size hf12 g29.size (by kernel_rfl) bund_nil ?_
  refine ch rfl (ob_alloc_state) ?_
  refine ch_nil ?_
  intro a31 w32 hf33 hg34 hk35 hn36
  have h37 : Holds _ (a31.eval (.tmp 1)) w32 := hn36.at 0 0 rfl rfl rfl
  have h38 := hk35.holds rfl h24
  have h39 := hk35.holds rfl h17
  have g40 := g18.trans hg34
  have g41 := g19.trans hg34
  have g42 := g29.trans hg34
  obtain ⟨bk43, hl44, hv45, hb46⟩ := OwnB.blk (lo := w11.heap.size) h37
  clear h24 h17 g18 g19 g29 hf12 hk35 hn36
  refine wl_store_state hv45 hb46 rfl (is_any h38) (st_oneS (OwnS.sl (hV25.up g42)) (OwnS.sl (hV26.up g42)) (OwnS.sl (hV27.up g42)) (OwnS.sl (hV28.up g42))) ?_
  intro w47 ho48 hb49
  have g50 : Grow w0 w47 := g40.only ho48 (by omega)
  have g51 : Grow w2 w47 := g41.only ho48 (by omega)
  have g52 : Grow w11 w47 := g42.only ho48 (by omega)
  have hv53 : Holds (Is (PtrV bk43)) (a31.eval (.tmp 1)) w47 := is_any hv45
  refine wp_all [([14], [])] [1] w11.heap.size hf33 g52.size (by kernel_rfl) (bund_cons (is_any h39) bund_nil) ?_
  refine ch rfl (ob_assign (arg_free 0 rfl rfl)) ?_
  refine ch_nil ?_
  intro a54 w55 hf56 hg57 hk58 hn59
  have h60 : Holds _ (a54.eval (.tmp 2)) w55 := hn59.at 0 0 rfl rfl rfl
  have hv61 : Holds (Is (PtrV bk43)) (a54.eval (.tmp 1)) w55 := is_any (hk58.holds rfl hv53)
  have hb62 := hb49.up hg57
  have g63 := g50.trans hg57
  have g64 := g51.trans hg57
  have g65 := g52.trans hg57
  clear hv53 hb49 g50 g51 g52 hf33 hk58 hn59 hg57
  refine then_ ?_
  refine wp_seq ?_
  have g66 : Grow w55 w55 := Grow.refl _
  have hl67 : bk43 < w55.heap.size := hb62.lt
  have hz68 : w11.heap.size ≤ w55.heap.size := g65.size
  refine wp_region_lit ?_
  refine wp_seg (l1 := [_, _, _, _, _]) [([], []), ([], [0]), ([], [1]), ([], [2]), ([], [2])] [1, 2] w55.heap.size hf56 g66.size (by kernel_rfl) bund_nil ?_
  refine ch rfl (ob_build_gen0 (lo := w55.heap.size)) ?_
  refine ch rfl (ob_call1 (by kernel_rfl) (c_GenB) (ArgOK.ofgen (arg_op 0 0 rfl rfl rfl rfl))) ?_
  refine ch rfl (ob_move (arg_op 1 0 rfl rfl rfl rfl)) ?_
  refine ch rfl (ob_extract0 (arg_op 2 0 rfl rfl rfl rfl)) ?_
  refine ch rfl (ob_extract1 (arg_op 2 1 rfl rfl rfl rfl)) ?_
  refine ch_nil ?_
  intro a69 w70 hf71 hg72 hk73 hn74
  have h75 : Holds (StO w55.heap.size _) (a69.eval (.tmp 18)) w70 := hn74.at 3 1 rfl rfl rfl
  have h76 : Holds _ (a69.eval (.tmp 19)) w70 := hn74.at 4 0 rfl rfl rfl
  have h77 := hk73.holds rfl h60
  have hv78 : Holds (Is (PtrV bk43)) (a69.eval (.tmp 1)) w70 := is_any (hk73.holds rfl hv61)
  have hb79 := hb62.up hg72
  have g80 := g63.trans hg72
  have g81 := g64.trans hg72
  have g82 := g65.trans hg72
  have g83 := g66.trans hg72
  clear h60 hv61 hb62 g63 g64 g65 g66 hf56 hk73 hn74
  obtain ⟨V84, V85, V86, V87, h88, hV89, hV90, hV91, hV92⟩ := openO h75
  have g93 : Grow w70 w70 := Grow.refl _
  have hl94 : bk43 < w70.heap.size := hb79.lt
  have hz95 : w55.heap.size ≤ w70.heap.size := g83.size
  refine wp_seg (l1 := [_]) [([], [])] [1, 2, 18, 19] w70.heap.size hf71 g93.size (by kernel_rfl) bund_nil ?_
  refine ch rfl (ob_alloc_state) ?_
  refine ch_nil ?_
  intro a96 w97 hf98 hg99 hk100 hn101
  have h102 : Holds _ (a96.eval (.tmp 3)) w97 := hn101.at 0 0 rfl rfl rfl
  have h103 := hk100.holds rfl h88
  have h104 := hk100.holds rfl h76
  have h105 := hk100.holds rfl h77
  have hv106 : Holds (Is (PtrV bk43)) (a96.eval (.tmp 1)) w97 := is_any (hk100.holds rfl hv78)
  have hb107 := hb79.up hg99
  have g108 := g80.trans hg99
  have g109 := g81.trans hg99
  have g110 := g82.trans hg99
  have g111 := g83.trans hg99
  have g112 := g93.trans hg99
  obtain ⟨bk113, hl114, hv115, hb116⟩ := OwnB.blk (lo := w70.heap.size) h102
  clear h88 h76 h77 hv78 hb79 g80 g81 g82 g83 g93 hf71 hk100 hn101
  refine wl_store_state hv115 hb116 rfl (is_any h103) (st_oneS (OwnS.sl (hV89.up g112)) (OwnS.sl (hV90.up g112)) (OwnS.sl (hV91.up g112)) (OwnS.sl (hV92.up g112))) ?_
  intro w117 ho118 hb119
  have g120 : Grow w0 w117 := g108.only ho118 (by omega)
  have g121 : Grow w2 w117 := g109.only ho118 (by omega)
  have g122 : Grow w11 w117 := g110.only ho118 (by omega)
  have g123 : Grow w55 w117 := g111.only ho118 (by omega)
  have g124 : Grow w70 w117 := g112.only ho118 (by omega)
  have hv125 : Holds (Is (PtrV bk43)) (a96.eval (.tmp 1)) w117 := is_any hv106
  have hb126 : Blk bk43 _ w117 := hb107.only ho118 (by omega)
  refine wp_all [([19], [])] [1, 2] w70.heap.size hf98 g124.size (by kernel_rfl) (bund_cons (is_any h104) bund_nil) ?_
  refine ch rfl (ob_assign (arg_free 0 rfl rfl)) ?_
  refine ch_nil ?_
  intro a127 w128 hf129 hg130 hk131 hn132
  have h133 : Holds _ (a127.eval (.tmp 4)) w128 := hn132.at 0 0 rfl rfl rfl
  have h134 := hk131.holds rfl h105
  have hv135 : Holds (Is (PtrV bk43)) (a127.eval (.tmp 1)) w128 := is_any (hk131.holds rfl hv125)
  have hb136 := hb126.up hg130
  have g137 := g120.trans hg130
  have g138 := g121.trans hg130
  have g139 := g122.trans hg130
  have g140 := g123.trans hg130
  have g141 := g124.trans hg130
  clear h105 hv125 hb126 g120 g121 g122 g123 g124 hf98 hk131 hn132 hg130
  refine then_ ?_
  refine wp_seq ?_
  have g142 : Grow w128 w128 := Grow.refl _
  have hl143 : bk43 < w128.heap.size := hb136.lt
  have hz144 : w70.heap.size ≤ w128.heap.size := g141.size
  refine wp_region_lit ?_
  refine wp_seg (l1 := [_]) [([], [])] [1, 2, 4] w128.heap.size hf129 g142.size (by kernel_rfl) bund_nil ?_
  refine ch rfl (ob_call1 (by kernel_rfl) (c_Bal0) arg_c) ?_
  refine ch_nil ?_
  intro a145 w146 hf147 hg148 hk149 hn150
  have h151 : Holds _ (a145.eval (.tmp 20)) w146 := hn150.at 0 0 rfl rfl rfl
  have h152 := hk149.holds rfl h133
  have h153 := hk149.holds rfl h134
  have hv154 : Holds (Is (PtrV bk43)) (a145.eval (.tmp 1)) w146 := is_any (hk149.holds rfl hv135)
  have hb155 := hb136.up hg148
  have g156 := g137.trans hg148
  have g157 := g138.trans hg148
  have g158 := g139.trans hg148
  have g159 := g140.trans hg148
  have g160 := g141.trans hg148
  have g161 := g142.trans hg148
  clear h133 h134 hv135 hb136 g137 g138 g139 g140 g141 g142 hf129 hk149 hn150
  have g162 : Grow w146 w146 := Grow.refl _
  have hl163 : bk43 < w146.heap.size := hb155.lt
  have hz164 : w128.heap.size ≤ w146.heap.size := g161.size
  refine wp_seg (l1 := [_]) [([], [])] [1, 2, 4, 20] w146.heap.size hf147 g162.size (by kernel_rfl) bund_nil ?_
  refine ch rfl (ob_alloc_cell) ?_
  refine ch_nil ?_
  intro a165 w166 hf167 hg168 hk169 hn170
  have h171 : Holds _ (a165.eval (.tmp 5)) w166 := hn170.at 0 0 rfl rfl rfl
  have h172 := hk169.holds rfl h151
  have h173 := hk169.holds rfl h152
  have h174 := hk169.holds rfl h153
  have hv175 : Holds (Is (PtrV bk43)) (a165.eval (.tmp 1)) w166 := is_any (hk169.holds rfl hv154)
  have hb176 := hb155.up hg168
  have g177 := g156.trans hg168
  have g178 := g157.trans hg168
  have g179 := g158.trans hg168
  have g180 := g159.trans hg168
  have g181 := g160.trans hg168
  have g182 := g161.trans hg168
  have g183 := g162.trans hg168
  obtain ⟨bk184, hl185, hv186, hb187⟩ := OwnB.blk (lo := w146.heap.size) h171
  clear h151 h152 h153 hv154 hb155 g156 g157 g158 g159 g160 g161 g162 hf147 hk169 hn170
  refine wl_store_cell hv186 hb187 rfl (is_any h172) ?_
  intro w188 ho189 hb190
  have g191 : Grow w0 w188 := g177.only ho189 (by omega)
  have g192 : Grow w2 w188 := g178.only ho189 (by omega)
  have g193 : Grow w11 w188 := g179.only ho189 (by omega)
  have g194 : Grow w55 w188 := g180.only ho189 (by omega)
  have g195 : Grow w70 w188 := g181.only ho189 (by omega)
  have g196 : Grow w128 w188 := g182.only ho189 (by omega)
  have g197 : Grow w146 w188 := g183.only ho189 (by omega)
  have hv198 : Holds (Is (PtrV bk43)) (a165.eval (.tmp 1)) w188 := is_any hv175
  have hb199 : Blk bk43 _ w188 := hb176.only ho189 (by omega)
  have hv200 : Holds (Is (PtrV bk184)) (a165.eval (.tmp 5)) w188 := is_any hv186
  refine wpList_nil ?_
  refine then_ ?_
  refine wp_seq ?_
  have g201 : Grow w188 w188 := Grow.refl _
  have hl202 : bk43 < w188.heap.size := hb199.lt
  have hl203 : bk184 < w188.heap.size := hb190.lt
  have hz204 : w146.heap.size ≤ w188.heap.size := g197.size
  refine wp_region_lit ?_
  refine wp_seg (l1 := [_, _, _, _, _, _]) [([1], []), ([5], []), ([], [0, 1]), ([], [2]), ([], [3]), ([], [3])] [1, 2, 4, 5] w188.heap.size hf167 g201.size (by kernel_rfl) (bund_cons (hb199.ownp hv198) (bund_cons (hb190.ownp hv200) bund_nil)) ?_
  refine ch rfl (ob_load_state (ArgOK.ownp (arg_free 0 rfl rfl))) ?_
  refine ch rfl (ob_load_cell (ArgOK.ownp (arg_free 1 rfl rfl))) ?_
  refine ch rfl (ob_call2 (by kernel_rfl) (c_ProveCell ?_) (ArgOK.val (arg_op 0 1 rfl rfl rfl rfl) (mkF (OwnS.sl (hV25.up g193)) (OwnS.sl (hV26.up g193)) (OwnS.sl (hV27.up g193)) (OwnS.sl (hV28.up g193)))) (arg_op 1 0 rfl rfl rfl rfl)) ?_
  · assumption
  refine ch rfl (ob_move (arg_op 2 0 rfl rfl rfl rfl)) ?_
  refine ch rfl (ob_extract0 (arg_op 3 0 rfl rfl rfl rfl)) ?_
  refine ch rfl (ob_extract1 (arg_op 3 1 rfl rfl rfl rfl)) ?_
  refine ch_nil ?_
  intro a205 w206 hf207 hg208 hk209 hn210
  have h211 : Holds (IncO w188.heap.size _) (a205.eval (.tmp 25)) w206 := hn210.at 4 1 rfl rfl rfl
  have h212 : Holds _ (a205.eval (.tmp 26)) w206 := hn210.at 5 0 rfl rfl rfl
  have h213 := hk209.holds rfl h173
  have h214 := hk209.holds rfl h174
  have hv215 : Holds (Is (PtrV bk43)) (a205.eval (.tmp 1)) w206 := is_any (hk209.holds rfl hv198)
  have hb216 := hb199.up hg208
  have hv217 : Holds (Is (PtrV bk184)) (a205.eval (.tmp 5)) w206 := is_any (hk209.holds rfl hv200)
  have hb218 := hb190.up hg208
  have g219 := g191.trans hg208
  have g220 := g192.trans hg208
  have g221 := g193.trans hg208
  have g222 := g194.trans hg208
  have g223 := g195.trans hg208
  have g224 := g196.trans hg208
  have g225 := g197.trans hg208
  have g226 := g201.trans hg208
  clear h173 h174 hv198 hb199 hv200 hb190 g191 g192 g193 g194 g195 g196 g197 g201 hf167 hk209 hn210
  obtain ⟨V227, h228, hV229⟩ := openIO h211
  have g230 : Grow w206 w206 := Grow.refl _
  have hl231 : bk43 < w206.heap.size := hb216.lt
  have hl232 : bk184 < w206.heap.size := hb218.lt
  have hz233 : w188.heap.size ≤ w206.heap.size := g226.size
  refine wp_seg (l1 := [_]) [([], [])] [1, 2, 4, 5, 25, 26] w206.heap.size hf207 g230.size (by kernel_rfl) bund_nil ?_
  refine ch rfl (ob_alloc_inc) ?_
  refine ch_nil ?_
  intro a234 w235 hf236 hg237 hk238 hn239
  have h240 : Holds _ (a234.eval (.tmp 6)) w235 := hn239.at 0 0 rfl rfl rfl
  have h241 := hk238.holds rfl h228
  have h242 := hk238.holds rfl h212
  have h243 := hk238.holds rfl h213
  have h244 := hk238.holds rfl h214
  have hv245 : Holds (Is (PtrV bk43)) (a234.eval (.tmp 1)) w235 := is_any (hk238.holds rfl hv215)
  have hb246 := hb216.up hg237
  have hv247 : Holds (Is (PtrV bk184)) (a234.eval (.tmp 5)) w235 := is_any (hk238.holds rfl hv217)
  have hb248 := hb218.up hg237
  have g249 := g219.trans hg237
  have g250 := g220.trans hg237
  have g251 := g221.trans hg237
  have g252 := g222.trans hg237
  have g253 := g223.trans hg237
  have g254 := g224.trans hg237
  have g255 := g225.trans hg237
  have g256 := g226.trans hg237
  have g257 := g230.trans hg237
  obtain ⟨bk258, hl259, hv260, hb261⟩ := OwnB.blk (lo := w206.heap.size) h240
  clear h228 h212 h213 h214 hv215 hb216 hv217 hb218 g219 g220 g221 g222 g223 g224 g225 g226 g230 hf207 hk238 hn239
  refine wl_store_inc hv260 hb261 rfl (is_any h241) (inc_one (OwnS.sl (hV229.up g257))) ?_
  intro w262 ho263 hb264
  have g265 : Grow w0 w262 := g249.only ho263 (by omega)
  have g266 : Grow w2 w262 := g250.only ho263 (by omega)
  have g267 : Grow w11 w262 := g251.only ho263 (by omega)
  have g268 : Grow w55 w262 := g252.only ho263 (by omega)
  have g269 : Grow w70 w262 := g253.only ho263 (by omega)
  have g270 : Grow w128 w262 := g254.only ho263 (by omega)
  have g271 : Grow w146 w262 := g255.only ho263 (by omega)
  have g272 : Grow w188 w262 := g256.only ho263 (by omega)
  have g273 : Grow w206 w262 := g257.only ho263 (by omega)
  have hv274 : Holds (Is (PtrV bk43)) (a234.eval (.tmp 1)) w262 := is_any hv245
  have hb275 : Blk bk43 _ w262 := hb246.only ho263 (by omega)
  have hv276 : Holds (Is (PtrV bk184)) (a234.eval (.tmp 5)) w262 := is_any hv247
  have hb277 : Blk bk184 _ w262 := hb248.only ho263 (by omega)
  have hv278 : Holds (Is (PtrV bk258)) (a234.eval (.tmp 6)) w262 := is_any hv260
  refine wp_all [([26], [])] [1, 2, 4, 5, 6] w206.heap.size hf236 g273.size (by kernel_rfl) (bund_cons (is_any h242) bund_nil) ?_
  refine ch rfl (ob_assign (arg_free 0 rfl rfl)) ?_
  refine ch_nil ?_
  intro a279 w280 hf281 hg282 hk283 hn284
  have h285 : Holds _ (a279.eval (.tmp 7)) w280 := hn284.at 0 0 rfl rfl rfl
  have h286 := hk283.holds rfl h243
  have h287 := hk283.holds rfl h244
  have hv288 : Holds (Is (PtrV bk43)) (a279.eval (.tmp 1)) w280 := is_any (hk283.holds rfl hv274)
  have hb289 := hb275.up hg282
  have hv290 : Holds (Is (PtrV bk184)) (a279.eval (.tmp 5)) w280 := is_any (hk283.holds rfl hv276)
  have hb291 := hb277.up hg282
  have hv292 : Holds (Is (PtrV bk258)) (a279.eval (.tmp 6)) w280 := is_any (hk283.holds rfl hv278)
  have hb293 := hb264.up hg282
  have g294 := g265.trans hg282
  have g295 := g266.trans hg282
  have g296 := g267.trans hg282
  have g297 := g268.trans hg282
  have g298 := g269.trans hg282
  have g299 := g270.trans hg282
  have g300 := g271.trans hg282
  have g301 := g272.trans hg282
  have g302 := g273.trans hg282
  clear h243 h244 hv274 hb275 hv276 hb277 hv278 hb264 g265 g266 g267 g268 g269 g270 g271 g272 g273 hf236 hk283 hn284 hg282
  refine then_ ?_
  refine wp_seq ?_
  have g303 : Grow w280 w280 := Grow.refl _
  have hl304 : bk43 < w280.heap.size := hb289.lt
  have hl305 : bk184 < w280.heap.size := hb291.lt
  have hl306 : bk258 < w280.heap.size := hb293.lt
  have hz307 : w206.heap.size ≤ w280.heap.size := g302.size
  refine wp_region_lit ?_
  refine wp_seg (l1 := [_, _, _, _, _, _]) [([1], []), ([], []), ([], [0, 1]), ([], [2]), ([], [3]), ([], [3])] [1, 2, 4, 5, 6, 7] w280.heap.size hf281 g303.size (by kernel_rfl) (bund_cons (hb289.ownp hv288) bund_nil) ?_
  refine ch rfl (ob_load_state (ArgOK.ownp (arg_free 0 rfl rfl))) ?_
  refine ch rfl (ob_build_nm1 648518346341351424 (arg_cb 9 rfl) ?_) ?_
  · kernel_rfl
  refine ch rfl (ob_call2 (by kernel_rfl) (c_ProveApplied ?_) (ArgOK.val (arg_op 0 1 rfl rfl rfl rfl) (mkF (OwnS.sl (hV25.up g296)) (OwnS.sl (hV26.up g296)) (OwnS.sl (hV27.up g296)) (OwnS.sl (hV28.up g296)))) (arg_op 1 0 rfl rfl rfl rfl)) ?_
  · assumption
  refine ch rfl (ob_move (arg_op 2 0 rfl rfl rfl rfl)) ?_
  refine ch rfl (ob_extract0 (arg_op 3 0 rfl rfl rfl rfl)) ?_
  refine ch rfl (ob_extract1 (arg_op 3 1 rfl rfl rfl rfl)) ?_
  refine ch_nil ?_
  intro a308 w309 hf310 hg311 hk312 hn313
  have h314 : Holds (IncO w280.heap.size _) (a308.eval (.tmp 31)) w309 := hn313.at 4 1 rfl rfl rfl
  have h315 : Holds _ (a308.eval (.tmp 32)) w309 := hn313.at 5 0 rfl rfl rfl
  have h316 := hk312.holds rfl h285
  have h317 := hk312.holds rfl h286
  have h318 := hk312.holds rfl h287
  have hv319 : Holds (Is (PtrV bk43)) (a308.eval (.tmp 1)) w309 := is_any (hk312.holds rfl hv288)
  have hb320 := hb289.up hg311
  have hv321 : Holds (Is (PtrV bk184)) (a308.eval (.tmp 5)) w309 := is_any (hk312.holds rfl hv290)
  have hb322 := hb291.up hg311
  have hv323 : Holds (Is (PtrV bk258)) (a308.eval (.tmp 6)) w309 := is_any (hk312.holds rfl hv292)
  have hb324 := hb293.up hg311
  have g325 := g294.trans hg311
  have g326 := g295.trans hg311
  have g327 := g296.trans hg311
  have g328 := g297.trans hg311
  have g329 := g298.trans hg311
  have g330 := g299.trans hg311
  have g331 := g300.trans hg311
  have g332 := g301.trans hg311
  have g333 := g302.trans hg311
  have g334 := g303.trans hg311
  clear h285 h286 h287 hv288 hb289 hv290 hb291 hv292 hb293 g294 g295 g296 g297 g298 g299 g300 g301 g302 g303 hf281 hk312 hn313
  obtain ⟨V335, h336, hV337⟩ := openIO h314
  have g338 : Grow w309 w309 := Grow.refl _
  have hl339 : bk43 < w309.heap.size := hb320.lt
  have hl340 : bk184 < w309.heap.size := hb322.lt
  have hl341 : bk258 < w309.heap.size := hb324.lt
  have hz342 : w280.heap.size ≤ w309.heap.size := g334.size
  refine wp_seg (l1 := [_]) [([], [])] [1, 2, 4, 5, 6, 7, 31, 32] w309.heap.size hf310 g338.size (by kernel_rfl) bund_nil ?_
  refine ch rfl (ob_alloc_inc) ?_
  refine ch_nil ?_
  intro a343 w344 hf345 hg346 hk347 hn348
  have h349 : Holds _ (a343.eval (.tmp 8)) w344 := hn348.at 0 0 rfl rfl rfl
  have h350 := hk347.holds rfl h336
  have h351 := hk347.holds rfl h315
  have h352 := hk347.holds rfl h316
  have h353 := hk347.holds rfl h317
  have h354 := hk347.holds rfl h318
  have hv355 : Holds (Is (PtrV bk43)) (a343.eval (.tmp 1)) w344 := is_any (hk347.holds rfl hv319)
  have hb356 := hb320.up hg346
  have hv357 : Holds (Is (PtrV bk184)) (a343.eval (.tmp 5)) w344 := is_any (hk347.holds rfl hv321)
  have hb358 := hb322.up hg346
  have hv359 : Holds (Is (PtrV bk258)) (a343.eval (.tmp 6)) w344 := is_any (hk347.holds rfl hv323)
  have hb360 := hb324.up hg346
  have g361 := g325.trans hg346
  have g362 := g326.trans hg346
  have g363 := g327.trans hg346
  have g364 := g328.trans hg346
  have g365 := g329.trans hg346
  have g366 := g330.trans hg346
  have g367 := g331.trans hg346
  have g368 := g332.trans hg346
  have g369 := g333.trans hg346
  have g370 := g334.trans hg346
  have g371 := g338.trans hg346
  obtain ⟨bk372, hl373, hv374, hb375⟩ := OwnB.blk (lo := w309.heap.size) h349
  clear h336 h315 h316 h317 h318 hv319 hb320 hv321 hb322 hv323 hb324 g325 g326 g327 g328 g329 g330 g331 g332 g333 g334 g338 hf310 hk347 hn348
  refine wl_store_inc hv374 hb375 rfl (is_any h350) (inc_one (OwnS.sl (hV337.up g371))) ?_
  intro w376 ho377 hb378
  have g379 : Grow w0 w376 := g361.only ho377 (by omega)
  have g380 : Grow w2 w376 := g362.only ho377 (by omega)
  have g381 : Grow w11 w376 := g363.only ho377 (by omega)
  have g382 : Grow w55 w376 := g364.only ho377 (by omega)
  have g383 : Grow w70 w376 := g365.only ho377 (by omega)
  have g384 : Grow w128 w376 := g366.only ho377 (by omega)
  have g385 : Grow w146 w376 := g367.only ho377 (by omega)
  have g386 : Grow w188 w376 := g368.only ho377 (by omega)
  have g387 : Grow w206 w376 := g369.only ho377 (by omega)
  have g388 : Grow w280 w376 := g370.only ho377 (by omega)
  have g389 : Grow w309 w376 := g371.only ho377 (by omega)
  have hv390 : Holds (Is (PtrV bk43)) (a343.eval (.tmp 1)) w376 := is_any hv355
  have hb391 : Blk bk43 _ w376 := hb356.only ho377 (by omega)
  have hv392 : Holds (Is (PtrV bk184)) (a343.eval (.tmp 5)) w376 := is_any hv357
  have hb393 : Blk bk184 _ w376 := hb358.only ho377 (by omega)
  have hv394 : Holds (Is (PtrV bk258)) (a343.eval (.tmp 6)) w376 := is_any hv359
  have hb395 : Blk bk258 _ w376 := hb360.only ho377 (by omega)
  refine wp_all [([32], [])] [1, 2, 4, 5, 6, 7] w309.heap.size hf345 g389.size (by kernel_rfl) (bund_cons (is_any h351) bund_nil) ?_
  refine ch rfl (ob_assign (arg_free 0 rfl rfl)) ?_
  refine ch_nil ?_
  intro a396 w397 hf398 hg399 hk400 hn401
  have h402 : Holds _ (a396.eval (.tmp 9)) w397 := hn401.at 0 0 rfl rfl rfl
  have h403 := hk400.holds rfl h352
  have h404 := hk400.holds rfl h353
  have h405 := hk400.holds rfl h354
  have hv406 : Holds (Is (PtrV bk43)) (a396.eval (.tmp 1)) w397 := is_any (hk400.holds rfl hv390)
  have hb407 := hb391.up hg399
  have hv408 : Holds (Is (PtrV bk184)) (a396.eval (.tmp 5)) w397 := is_any (hk400.holds rfl hv392)
  have hb409 := hb393.up hg399
  have hv410 : Holds (Is (PtrV bk258)) (a396.eval (.tmp 6)) w397 := is_any (hk400.holds rfl hv394)
  have hb411 := hb395.up hg399
  have g412 := g379.trans hg399
  have g413 := g380.trans hg399
  have g414 := g381.trans hg399
  have g415 := g382.trans hg399
  have g416 := g383.trans hg399
  have g417 := g384.trans hg399
  have g418 := g385.trans hg399
  have g419 := g386.trans hg399
  have g420 := g387.trans hg399
  have g421 := g388.trans hg399
  have g422 := g389.trans hg399
  clear h352 h353 h354 hv390 hb391 hv392 hb393 hv394 hb395 g379 g380 g381 g382 g383 g384 g385 g386 g387 g388 g389 hf345 hk400 hn401 hg399
  refine then_ ?_
  refine wp_seq ?_
  have g423 : Grow w397 w397 := Grow.refl _
  have hl424 : bk43 < w397.heap.size := hb407.lt
  have hl425 : bk184 < w397.heap.size := hb409.lt
  have hl426 : bk258 < w397.heap.size := hb411.lt
  have hz427 : w309.heap.size ≤ w397.heap.size := g422.size
  refine wp_calm [0, 1, 3, 7, 15, 31, 63, 127, 127, 511, 1023, 2047, 4095, 8191, 8191, 32767, 65535, 131071, 262143, 524287, 1048575, 2097151, 4194303, 8388607, 16777215, 33554431, 67108863, 134217727, 268435455, 536870911, 1073741823, 2147483647, 4294967295, 8589934591, 17179869183, 8589934591, 42949672959, 8589934591, 274877906943, 549755813887, 1099511627775, 2199023255551, 4398046511103, 8796093022207, 17592186044415, 35184372088831, 70368744177663, 140737488355327, 281474976710655, 562949953421311, 1125899906842623, 2251799813685247, 2251799813685247, 9007199254740991, 18014398509481983, 36028797018963967, 72057594037927935] [([2], []), ([], [0]), ([], [1]), ([4], [2]), ([], [3, 2]), ([], [2, 4]), ([], [5]), ([1], [6]), ([5], [6]), ([], [7, 8, 6]), ([], [9, 6]), ([], [6, 10]), ([], [11]), ([1], [12]), ([], [12]), ([], [13, 14, 12]), ([], [15, 12]), ([], [12, 16]), ([], [17]), ([1], [18]), ([], [19, 18]), ([], [20, 18]), ([], [18, 21]), ([], [22]), ([1], [23]), ([], [24, 23]), ([], [25, 23]), ([], [23, 26]), ([], [27]), ([7], [28]), ([], [29, 28]), ([], [28, 30]), ([], [31]), ([1], [32]), ([], [33, 32]), ([5], [32]), ([], [35, 32]), ([6], [32]), ([], [34, 36, 37, 32]), ([], [32, 38]), ([], [39]), ([9], [40]), ([], [41, 40]), ([], [40, 42]), ([], [43]), ([1], [44]), ([], [45, 44]), ([], [46, 44]), ([], [47, 44]), ([], [44, 48]), ([], [49]), ([5], [50]), ([], [50]), ([], [51, 52, 50]), ([], [53, 50]), ([], [50, 54]), ([], [55])] [] w397.heap.size hf398 g423.size (by kernel_rfl) (bund_cons (is_any h405) (bund_cons (is_any h404) (bund_cons (hb407.ownp hv406) (bund_cons (hb409.ownp hv408) (bund_cons (is_any h403) (bund_cons (hb411.ownp hv410) (bund_cons h402 bund_nil))))))) ?_
  intro ws428 hs429
  refine ch rfl (ob_move (arg_free 0 rfl rfl)) ?_
  refine ch rfl (ob_eql (arg_op 0 0 rfl rfl rfl rfl) arg_c) ?_
  refine ch rfl (ob_move (arg_op 1 0 rfl rfl rfl rfl)) ?_
  refine chg (b := _) rfl rfl (arg_op 2 0 rfl rfl rfl rfl) (fun hb2 => ob_move (arg_free 1 rfl rfl)) ?_
  refine chg (b := _) rfl rfl (arg_op 2 1 rfl rfl rfl rfl) (fun hb2 => ob_eql (ArgOK.when (arg_op 3 0 rfl rfl rfl rfl) hb2) arg_c) ?_
  refine ch rfl (ob_and (arg_op 2 2 rfl rfl rfl rfl) (arg_op 4 0 rfl rfl rfl rfl)) ?_
  refine ch rfl (ob_move (arg_op 5 0 rfl rfl rfl rfl)) ?_
  refine chg (b := _) rfl rfl (arg_op 6 0 rfl rfl rfl rfl) (fun hb6 => ob_load_state (ArgOK.ownp (arg_free 2 rfl rfl))) ?_
  refine chg (b := _) rfl rfl (arg_op 6 1 rfl rfl rfl rfl) (fun hb6 => ob_load_cell (ArgOK.ownp (arg_free 3 rfl rfl))) ?_
  refine chg (b := _) rfl rfl (arg_op 6 2 rfl rfl rfl rfl) (fun hb6 => ob_call2 (by kernel_rfl) (c_Get ?_) (ArgOK.val (ArgOK.when (arg_op 7 1 rfl rfl rfl rfl) hb6) (mkF ((OwnS.sl (hV25.up g414)).up hs429) ((OwnS.sl (hV26.up g414)).up hs429) ((OwnS.sl (hV27.up g414)).up hs429) ((OwnS.sl (hV28.up g414)).up hs429))) (ArgOK.when (arg_op 8 0 rfl rfl rfl rfl) hb6)) ?_
  · assumption
  refine chg (b := _) rfl rfl (arg_op 6 3 rfl rfl rfl rfl) (fun hb6 => ob_eql (ArgOK.when (arg_op 9 0 rfl rfl rfl rfl) hb6) arg_c) ?_
  refine ch rfl (ob_and (arg_op 6 4 rfl rfl rfl rfl) (arg_op 10 0 rfl rfl rfl rfl)) ?_
  refine ch rfl (ob_move (arg_op 11 0 rfl rfl rfl rfl)) ?_
  refine chg (b := _) rfl rfl (arg_op 12 0 rfl rfl rfl rfl) (fun hb12 => ob_load_state (ArgOK.ownp (arg_free 2 rfl rfl))) ?_
  refine chg (b := _) rfl rfl (arg_op 12 1 rfl rfl rfl rfl) (fun hb12 => ob_call1 (by kernel_rfl) (c_Stk0) arg_c) ?_
  refine chg (b := _) rfl rfl (arg_op 12 2 rfl rfl rfl rfl) (fun hb12 => ob_call2 (by kernel_rfl) (c_Get ?_) (ArgOK.val (ArgOK.when (arg_op 13 1 rfl rfl rfl rfl) hb12) (mkF ((OwnS.sl (hV25.up g414)).up hs429) ((OwnS.sl (hV26.up g414)).up hs429) ((OwnS.sl (hV27.up g414)).up hs429) ((OwnS.sl (hV28.up g414)).up hs429))) (ArgOK.when (arg_op 14 0 rfl rfl rfl rfl) hb12)) ?_
  · assumption
  refine chg (b := _) rfl rfl (arg_op 12 3 rfl rfl rfl rfl) (fun hb12 => ob_eql (ArgOK.when (arg_op 15 0 rfl rfl rfl rfl) hb12) arg_c) ?_
  refine ch rfl (ob_and (arg_op 12 4 rfl rfl rfl rfl) (arg_op 16 0 rfl rfl rfl rfl)) ?_
  refine ch rfl (ob_move (arg_op 17 0 rfl rfl rfl rfl)) ?_
  refine chg (b := _) rfl rfl (arg_op 18 0 rfl rfl rfl rfl) (fun hb18 => ob_load_state (ArgOK.ownp (arg_free 2 rfl rfl))) ?_
  refine chg (b := _) rfl rfl (arg_op 18 1 rfl rfl rfl rfl) (fun hb18 => ob_call1 (by kernel_rfl) (c_Total ?_) (ArgOK.val (ArgOK.when (arg_op 19 0 rfl rfl rfl rfl) hb18) (mkF ((OwnS.sl (hV25.up g414)).up hs429) ((OwnS.sl (hV26.up g414)).up hs429) ((OwnS.sl (hV27.up g414)).up hs429) ((OwnS.sl (hV28.up g414)).up hs429)))) ?_
  · assumption
  refine chg (b := _) rfl rfl (arg_op 18 2 rfl rfl rfl rfl) (fun hb18 => ob_eql (ArgOK.when (arg_op 20 0 rfl rfl rfl rfl) hb18) arg_c) ?_
  refine ch rfl (ob_and (arg_op 18 3 rfl rfl rfl rfl) (arg_op 21 0 rfl rfl rfl rfl)) ?_
  refine ch rfl (ob_move (arg_op 22 0 rfl rfl rfl rfl)) ?_
  refine chg (b := _) rfl rfl (arg_op 23 0 rfl rfl rfl rfl) (fun hb23 => ob_load_state (ArgOK.ownp (arg_free 2 rfl rfl))) ?_
  refine chg (b := _) rfl rfl (arg_op 23 1 rfl rfl rfl rfl) (fun hb23 => ob_call1 (by kernel_rfl) (c_Validate ?_) (ArgOK.val (ArgOK.when (arg_op 24 0 rfl rfl rfl rfl) hb23) (mkF ((OwnS.sl (hV25.up g414)).up hs429) ((OwnS.sl (hV26.up g414)).up hs429) ((OwnS.sl (hV27.up g414)).up hs429) ((OwnS.sl (hV28.up g414)).up hs429)))) ?_
  · assumption
  refine chg (b := _) rfl rfl (arg_op 23 2 rfl rfl rfl rfl) (fun hb23 => ob_eql (ArgOK.when (arg_op 25 0 rfl rfl rfl rfl) hb23) arg_c) ?_
  refine ch rfl (ob_and (arg_op 23 3 rfl rfl rfl rfl) (arg_op 26 0 rfl rfl rfl rfl)) ?_
  refine ch rfl (ob_move (arg_op 27 0 rfl rfl rfl rfl)) ?_
  refine chg (b := _) rfl rfl (arg_op 28 0 rfl rfl rfl rfl) (fun hb28 => ob_move (arg_free 4 rfl rfl)) ?_
  refine chg (b := _) rfl rfl (arg_op 28 1 rfl rfl rfl rfl) (fun hb28 => ob_eql (ArgOK.when (arg_op 29 0 rfl rfl rfl rfl) hb28) arg_c) ?_
  refine ch rfl (ob_and (arg_op 28 2 rfl rfl rfl rfl) (arg_op 30 0 rfl rfl rfl rfl)) ?_
  refine ch rfl (ob_move (arg_op 31 0 rfl rfl rfl rfl)) ?_
  refine chg (b := _) rfl rfl (arg_op 32 0 rfl rfl rfl rfl) (fun hb32 => ob_load_state (ArgOK.ownp (arg_free 2 rfl rfl))) ?_
  refine chg (b := _) rfl rfl (arg_op 32 1 rfl rfl rfl rfl) (fun hb32 => ob_call1 (by kernel_rfl) (c_RootS ?_) (ArgOK.val (ArgOK.when (arg_op 33 0 rfl rfl rfl rfl) hb32) (mkF ((OwnS.sl (hV25.up g414)).up hs429) ((OwnS.sl (hV26.up g414)).up hs429) ((OwnS.sl (hV27.up g414)).up hs429) ((OwnS.sl (hV28.up g414)).up hs429)))) ?_
  · assumption
  refine chg (b := _) rfl rfl (arg_op 32 2 rfl rfl rfl rfl) (fun hb32 => ob_load_cell (ArgOK.ownp (arg_free 3 rfl rfl))) ?_
  refine chg (b := _) rfl rfl (arg_op 32 3 rfl rfl rfl rfl) (fun hb32 => ob_build_delta (7) (ArgOK.when (arg_op 35 0 rfl rfl rfl rfl) hb32) arg_c ?_) ?_
  · rfl
  refine chg (b := _) rfl rfl (arg_op 32 4 rfl rfl rfl rfl) (fun hb32 => ob_load_inc (ArgOK.ownp (arg_free 5 rfl rfl))) ?_
  refine chg (b := _) rfl rfl (arg_op 32 5 rfl rfl rfl rfl) (fun hb32 => ob_call3 (by kernel_rfl) (c_CheckCell ?_ ?_) (ArgOK.when (arg_op 34 3 rfl rfl rfl rfl) hb32) (ArgOK.when (arg_op 36 1 rfl rfl rfl rfl) hb32) (ArgOK.val (ArgOK.when (arg_op 37 0 rfl rfl rfl rfl) hb32) (mkIF ((OwnS.sl (hV229.up g420)).up hs429)))) ?_
  · exact (prvI_in st0_ok fnd_ge).1
  · exact (prvI_in st0_ok fnd_ge).2
  refine ch rfl (ob_and (arg_op 32 6 rfl rfl rfl rfl) (arg_op 38 0 rfl rfl rfl rfl)) ?_
  refine ch rfl (ob_move (arg_op 39 0 rfl rfl rfl rfl)) ?_
  refine chg (b := _) rfl rfl (arg_op 40 0 rfl rfl rfl rfl) (fun hb40 => ob_move (arg_free 6 rfl rfl)) ?_
  refine chg (b := _) rfl rfl (arg_op 40 1 rfl rfl rfl rfl) (fun hb40 => ob_eql (ArgOK.when (arg_op 41 0 rfl rfl rfl rfl) hb40) arg_c) ?_
  refine ch rfl (ob_and (arg_op 40 2 rfl rfl rfl rfl) (arg_op 42 0 rfl rfl rfl rfl)) ?_
  refine ch rfl (ob_move (arg_op 43 0 rfl rfl rfl rfl)) ?_
  refine chg (b := _) rfl rfl (arg_op 44 0 rfl rfl rfl rfl) (fun hb44 => ob_load_state (ArgOK.ownp (arg_free 2 rfl rfl))) ?_
  refine chg (b := _) rfl rfl (arg_op 44 1 rfl rfl rfl rfl) (fun hb44 => ob_call1 (by kernel_rfl) (c_Leaves ?_) (ArgOK.val (ArgOK.when (arg_op 45 0 rfl rfl rfl rfl) hb44) (mkF ((OwnS.sl (hV25.up g414)).up hs429) ((OwnS.sl (hV26.up g414)).up hs429) ((OwnS.sl (hV27.up g414)).up hs429) ((OwnS.sl (hV28.up g414)).up hs429)))) ?_
  · assumption
  refine chg (b := _) rfl rfl (arg_op 44 2 rfl rfl rfl rfl) (fun hb44 => ob_len (ArgOK.sl (ArgOK.when (arg_op 46 0 rfl rfl rfl rfl) hb44)) Tryz.underlying25) ?_
  refine chg (b := _) rfl rfl (arg_op 44 3 rfl rfl rfl rfl) (fun hb44 => ob_eql (ArgOK.when (arg_op 47 0 rfl rfl rfl rfl) hb44) arg_c) ?_
  refine ch rfl (ob_and (arg_op 44 4 rfl rfl rfl rfl) (arg_op 48 0 rfl rfl rfl rfl)) ?_
  refine ch rfl (ob_move (arg_op 49 0 rfl rfl rfl rfl)) ?_
  refine chg (b := _) rfl rfl (arg_op 50 0 rfl rfl rfl rfl) (fun hb50 => ob_load_cell (ArgOK.ownp (arg_free 3 rfl rfl))) ?_
  refine chg (b := _) rfl rfl (arg_op 50 1 rfl rfl rfl rfl) (fun hb50 => ob_call1 (by kernel_rfl) (c_Stk0) arg_c) ?_
  refine chg (b := _) rfl rfl (arg_op 50 2 rfl rfl rfl rfl) (fun hb50 => ob_call2 (by kernel_rfl) (c_cmpC) (ArgOK.when (arg_op 51 1 rfl rfl rfl rfl) hb50) (ArgOK.when (arg_op 52 0 rfl rfl rfl rfl) hb50)) ?_
  refine chg (b := _) rfl rfl (arg_op 50 3 rfl rfl rfl rfl) (fun hb50 => ob_eql (ArgOK.when (arg_op 53 0 rfl rfl rfl rfl) hb50) arg_c) ?_
  refine ch rfl (ob_and (arg_op 50 4 rfl rfl rfl rfl) (arg_op 54 0 rfl rfl rfl rfl)) ?_
  refine ch rfl (ob_assign (arg_op 55 0 rfl rfl rfl rfl)) ?_
  refine ch_nil ?_
  intro a430 w431 hf432 hg433 hk434 hn435
  have h436 : Holds _ (a430.eval (.tmp 0)) w431 := hn435.at 56 0 rfl rfl rfl
  have g437 := g412.trans hg433
  have g438 := g413.trans hg433
  have g439 := g414.trans hg433
  have g440 := g415.trans hg433
  have g441 := g416.trans hg433
  have g442 := g417.trans hg433
  have g443 := g418.trans hg433
  have g444 := g419.trans hg433
  have g445 := g420.trans hg433
  have g446 := g421.trans hg433
  have g447 := g422.trans hg433
  have g448 := g423.trans hg433
  clear g412 g413 g414 g415 g416 g417 g418 g419 g420 g421 g422 g423 hf398 hk434 hn435
  refine then_ ?_
  refine wp_ret ?_
  exact ret_tmp rfl hf432 g437 (is_cast h436 (congrArg Value.bool (by rw [show (⟨st0.cells, st0.seqs, st0.locks, st0.applied, st0.guilty⟩ : GState) = st0 from rfl]; simp only [aw1, aw2, aw3, aw4, aw7, aw8, aw9, aw10, aw11, if_true, decide_true, Bool.and_self])))
end Ex
end Go.Proofs.YtnmfiiejhoafnaaGreat
