/- The first state, made. -/
import Derived.Test.YtnmfiiejhoafnaaGreatPvState12
set_option linter.unusedSimpArgs false
set_option linter.unusedVariables false
namespace Go.Proofs.YtnmfiiejhoafnaaGreat
namespace Ex
open Go Calm Go.RowKit
def balD (l : List Int) : Nat → List GDelta
  | 0 => []
  | k + 1 => balD l k ++ [⟨⟨1, Int64.ofInt (k : Int), 0⟩, Int64.ofInt (l.getD k default)⟩]
def stkD (a : Int) : Nat → List GDelta
  | 0 => []
  | k + 1 => stkD a k ++ [⟨⟨3, Int64.ofInt (k : Int), 0⟩, Int64.ofInt a⟩]
theorem balD_len (l : List Int) : ∀ k, (balD l k).length = k
  | 0 => rfl
  | k + 1 => by rw [balD, List.length_append, balD_len l k]; rfl
theorem stkD_len (a : Int) : ∀ k, (stkD a k).length = k
  | 0 => rfl
  | k + 1 => by rw [stkD, List.length_append, stkD_len a k]; rfl
def genS (x : GGen) : GState := addS ⟨[], List.replicate x.accs.length 0, [], [], 0⟩ (balD x.bals x.bals.length ++ stkD x.stake x.vals.length)
def genR (x : GGen) : GState := if genOK x then genS x else ⟨[], [], [], [], 0⟩
theorem gen_le {x : GGen} (h : genOK x = true) : x.vals.length ≤ 10 ∧ x.accs.length ≤ 16 ∧ x.bals.length ≤ 16 ∧ (0 ≤ x.stake ∧ x.stake ≤ 1099511627776) ∧ ∀ i, i < x.bals.length → 0 ≤ x.bals.getD i default ∧ x.bals.getD i default ≤ 1099511627776 := by
  unfold genOK genBad amtB at h
  simp only [Bool.and_eq_true, Bool.not_eq_true', Bool.or_eq_false_iff, decide_eq_false_iff_not, Bool.not_eq_false', decide_eq_true_eq, List.all_eq_true] at h
  refine ⟨by omega, by omega, by omega, h.1.2, fun i hi => h.2 _ (mem_getD hi)⟩
theorem ofInt_small {n : Int} (h : 0 ≤ n ∧ n ≤ 1099511627776) : n = (Int64.ofInt n).toInt := by rw [Int64.toInt_ofInt_of_le (by omega) (by omega)]
theorem gen_yes_ok {x : GGen} (h : (if genOK x then (0 : Int) else 1) = 0) : genOK x = true := by
  cases e : genOK x with
  | true => rfl
  | false => rw [e] at h; exact absurd h (by decide)
theorem gen_no_ok {x : GGen} (h : (if genOK x then (0 : Int) else 1) ≠ 0) : genOK x = false := by
  cases e : genOK x with
  | true => rw [e] at h; exact absurd rfl h
  | false => rfl
theorem genR_no {x : GGen} (h : genOK x = false) : (⟨[], [], [], [], 0⟩ : GState) = genR x := by unfold genR; rw [h]; rfl
theorem genR_yes {x : GGen} (h : genOK x = true) : genS x = genR x := by unfold genR; rw [h]; rfl
set_option maxRecDepth 100000 in
theorem c_Genesis {x : GGen} (hx : x.vals.length ≤ 100000 ∧ x.accs.length ≤ 100000 ∧ x.bals.length ≤ 100000) : Con1 23 (GenF x) (fun lo => Two (StO lo (genR x)) (Is (intV (if genOK x then 0 else 1)))) := by
  intro lo v0 w0 hlo hv0
  refine enter Tryz.func23 rfl Tryz.ntmps23 (by simp) ?_
  intro a0 hf0 ha
  obtain ⟨va0, vb0, vc0, he0, hva0, hvb0, hvc0⟩ := openGF hv0
  have h00 : Holds (Is _) (a0.eval (.tmp 0)) w0 := arg_holds ha rfl he0
  clear ha
  have g0 : Grow w0 w0 := Grow.refl _
  obtain ⟨hx1, hx2, hx3⟩ := id hx
  refine wp_seq ?_
  refine wp_region_lit ?_
  refine wp_seg (l1 := [_]) [([0], [])] [] w0.heap.size hf0 g0.size (by kernel_rfl) (bund_cons h00 bund_nil) ?_
  refine ch rfl (ob_box_gen (arg_free 0 rfl rfl)) ?_
  refine ch_nil ?_
  intro a1 w2 hf3 hg4 hk5 hn6
  have h7 : Holds _ (a1.eval (.tmp 1)) w2 := hn6.at 0 0 rfl rfl rfl
  have g8 := g0.trans hg4
  obtain ⟨bk9, hl10, hv11, hb12⟩ := OwnB.blk (lo := w0.heap.size) h7
  clear g0 hf0 hk5 hn6
  have g13 : Grow w2 w2 := Grow.refl _
  have hl14 : bk9 < w2.heap.size := hb12.lt
  have hz15 : w0.heap.size ≤ w2.heap.size := g8.size
  refine wp_all [([], []), ([], [])] [1] w2.heap.size hf3 g13.size (by kernel_rfl) bund_nil ?_
  refine ch rfl (ob_alloc_state) ?_
  refine ch rfl (ob_assign arg_c) ?_
  refine ch_nil ?_
  intro a16 w17 hf18 hg19 hk20 hn21
  have h22 : Holds _ (a16.eval (.tmp 2)) w17 := hn21.at 0 1 rfl rfl rfl
  have hv23 : Holds (Is (PtrV bk9)) (a16.eval (.tmp 1)) w17 := is_any (hk20.holds rfl hv11)
  have hb24 := hb12.up hg19
  have g25 := g8.trans hg19
  have g26 := g13.trans hg19
  obtain ⟨bk27, hl28, hv29, hb30⟩ := OwnB.blk (lo := w2.heap.size) h22
  clear hv11 hb12 g8 g13 hf3 hk20 hn21
  refine then_ ?_
  refine wp_seq ?_
  refine wp_seq ?_
  have g31 : Grow w17 w17 := Grow.refl _
  have hl32 : bk9 < w17.heap.size := hb24.lt
  have hl33 : bk27 < w17.heap.size := hb30.lt
  have hz34 : w2.heap.size ≤ w17.heap.size := g26.size
  refine wp_region_lit ?_
  refine wp_all [([1], []), ([], [0]), ([], [1])] [1, 2] w17.heap.size hf18 g31.size (by kernel_rfl) (bund_cons (hb24.ownp hv23) bund_nil) ?_
  refine ch rfl (ob_load_gen (ArgOK.ownp (arg_free 0 rfl rfl))) ?_
  refine ch rfl (ob_call1 (by kernel_rfl) (c_ValGen ?_) (ArgOK.val (arg_op 0 0 rfl rfl rfl rfl) (mkGFs (x := x) (hva0.up g25) (hvb0.up g25) (hvc0.up g25)))) ?_
  · assumption
  refine ch rfl (ob_neq (arg_op 1 0 rfl rfl rfl rfl) arg_c) ?_
  refine ch_nil ?_
  intro a35 w36 hf37 hg38 hk39 hn40
  have h41 : Holds _ (a35.eval (.tmp 10)) w36 := hn40.at 2 0 rfl rfl rfl
  have hv42 : Holds (Is (PtrV bk9)) (a35.eval (.tmp 1)) w36 := is_any (hk39.holds rfl hv23)
  have hb43 := hb24.up hg38
  have hv44 : Holds (Is (PtrV bk27)) (a35.eval (.tmp 2)) w36 := is_any (hk39.holds rfl hv29)
  have hb45 := hb30.up hg38
  have g46 := g25.trans hg38
  have g47 := g26.trans hg38
  have g48 := g31.trans hg38
  clear hv23 hb24 hv29 hb30 g25 g26 g31 hf18 hk39 hn40
  refine then_ ?_
  refine wp_if h41 ?_ ?_
  · intro hc49
    try simp only [cond_norm] at hc49
    have hv := gen_no_ok hc49
    refine wp_seq ?_
    have g50 : Grow w36 w36 := Grow.refl _
    have hl51 : bk9 < w36.heap.size := hb43.lt
    have hl52 : bk27 < w36.heap.size := hb45.lt
    have hz53 : w17.heap.size ≤ w36.heap.size := g48.size
    refine wp_region_lit ?_
    refine wp_seg (l1 := [_]) [([], [])] [2] w36.heap.size hf37 g50.size (by kernel_rfl) bund_nil ?_
    refine ch rfl (ob_build_state0) ?_
    refine ch_nil ?_
    intro a54 w55 hf56 hg57 hk58 hn59
    have h60 : Holds (StO w36.heap.size _) (a54.eval (.tmp 11)) w55 := hn59.at 0 0 rfl rfl rfl
    have hv61 : Holds (Is (PtrV bk27)) (a54.eval (.tmp 2)) w55 := is_any (hk58.holds rfl hv44)
    have hb62 := hb45.up hg57
    have g63 := g46.trans hg57
    have g64 := g47.trans hg57
    have g65 := g48.trans hg57
    have g66 := g50.trans hg57
    clear hv44 hb45 g46 g47 g48 g50 hf37 hk58 hn59
    obtain ⟨V67, V68, V69, V70, h71, hV72, hV73, hV74, hV75⟩ := openO h60
    refine wl_store_state hv61 hb62 rfl h71 (st_oneS (OwnS.sl hV72) (OwnS.sl hV73) (OwnS.sl hV74) (OwnS.sl hV75)) ?_
    intro w76 ho77 hb78
    have g79 : Grow w0 w76 := g63.only ho77 (by omega)
    have g80 : Grow w2 w76 := g64.only ho77 (by omega)
    have g81 : Siz w17 w76 := Siz.below g65.size ho77.below
    have g82 : Siz w36 w76 := Siz.below g66.size ho77.below
    have hv83 : Holds (Is (PtrV bk27)) (a54.eval (.tmp 2)) w76 := is_any hv61
    have hV84 : Holds _ V67 w76 := OwnS.only hV72 ho77 (by omega)
    have hV85 : Holds _ V68 w76 := OwnS.only hV73 ho77 (by omega)
    have hV86 : Holds _ V69 w76 := OwnS.only hV74 ho77 (by omega)
    have hV87 : Holds _ V70 w76 := OwnS.only hV75 ho77 (by omega)
    refine wp_all [([], [])] [2] w36.heap.size hf56 g82.size (by kernel_rfl) bund_nil ?_
    refine ch rfl (ob_assign arg_c) ?_
    refine ch_nil ?_
    intro a88 w89 hf90 hg91 hk92 hn93
    have h94 : Holds _ (a88.eval (.tmp 3)) w89 := hn93.at 0 0 rfl rfl rfl
    have hv95 : Holds (Is (PtrV bk27)) (a88.eval (.tmp 2)) w89 := is_any (hk92.holds rfl hv83)
    have hb96 := hb78.up hg91
    have g97 := g79.trans hg91
    have g98 := g80.trans hg91
    have g99 : Siz w17 w89 := g81.trans hg91
    have g100 : Siz w36 w89 := g82.trans hg91
    have hV101 := hV84.up hg91
    have hV102 := hV85.up hg91
    have hV103 := hV86.up hg91
    have hV104 := hV87.up hg91
    clear hv83 hb78 g79 g80 g81 g82 hf56 hk92 hn93 hg91 hV84 hV85 hV86 hV87
    refine then_ ?_
    refine wp_ret ?_
    refine thenR ?_
    refine ret_cell_tmp rfl Tryz.underlying28 rfl (by kernel_rfl) hf90 g97 (hb96.ptr hv95) ?_ (is_cast h94 (congrArg intV (by rw [hv]; rfl)))
    exact sto_cast (mkO (OwnS.mono hV101 (by omega)) (OwnS.mono hV102 (by omega)) (OwnS.mono hV103 (by omega)) (OwnS.mono hV104 (by omega))) (by exact genR_no hv)
  · intro hc49
    try simp only [cond_norm] at hc49
    have hv := gen_yes_ok hc49; have hle := gen_le hv
    refine wp_skip ?_
    refine then_ ?_
    refine wp_seq ?_
    have g105 : Grow w36 w36 := Grow.refl _
    have hl106 : bk9 < w36.heap.size := hb43.lt
    have hl107 : bk27 < w36.heap.size := hb45.lt
    have hz108 : w17.heap.size ≤ w36.heap.size := g48.size
    refine wp_region_lit ?_
    refine wp_all [([], [])] [1, 2] w36.heap.size hf37 g105.size (by kernel_rfl) bund_nil ?_
    refine ch rfl (ob_assign (arg_cg (G := OwnS w36.heap.size elDelta []) (fun w => own_nil))) ?_
    refine ch_nil ?_
    intro a109 w110 hf111 hg112 hk113 hn114
    have h115 : Holds (OwnS w36.heap.size _ _) (a109.eval (.tmp 4)) w110 := hn114.at 0 0 rfl rfl rfl
    have hv116 : Holds (Is (PtrV bk9)) (a109.eval (.tmp 1)) w110 := is_any (hk113.holds rfl hv42)
    have hb117 := hb43.up hg112
    have hv118 : Holds (Is (PtrV bk27)) (a109.eval (.tmp 2)) w110 := is_any (hk113.holds rfl hv44)
    have hb119 := hb45.up hg112
    have g120 := g46.trans hg112
    have g121 := g47.trans hg112
    have g122 := g48.trans hg112
    have g123 := g105.trans hg112
    clear hv42 hb43 hv44 hb45 g46 g47 g48 g105 hf37 hk113 hn114
    obtain ⟨V124, h125, hV126⟩ := nameV h115
    clear h115
    refine then_ ?_
    refine wp_seq ?_
    refine wp_seq ?_
    refine wp_region_lit ?_
    refine wp_all [([1], []), ([], [0]), ([], [1]), ([], [])] [1, 2, 4] w36.heap.size hf111 g123.size (by kernel_rfl) (bund_cons (hb117.ownp hv116) bund_nil) ?_
    refine ch rfl (ob_faP (n := 0) (arg_free 0 rfl rfl) Tryz.underlying60 rfl (by kernel_rfl)) ?_
    refine ch rfl (ob_loadP (arg_op 0 0 rfl rfl rfl rfl) Tryz.underlying23 rfl rfl) ?_
    refine ch rfl (ob_len (ArgOK.val (arg_op 1 0 rfl rfl rfl rfl) (hvc0.up g120)) Tryz.underlying23) ?_
    refine ch rfl (ob_move arg_c) ?_
    refine ch_nil ?_
    intro a127 w128 hf129 hg130 hk131 hn132
    have h133 : Holds _ (a127.eval (.tmp 13)) w128 := hn132.at 1 2 rfl rfl rfl
    have h134 : Holds _ (a127.eval (.tmp 14)) w128 := hn132.at 2 1 rfl rfl rfl
    have h135 : Holds _ (a127.eval (.tmp 15)) w128 := hn132.at 3 0 rfl rfl rfl
    have h136 := hk131.holds rfl (h125.up hg130)
    have hv137 : Holds (Is (PtrV bk9)) (a127.eval (.tmp 1)) w128 := is_any (hk131.holds rfl hv116)
    have hb138 := hb117.up hg130
    have hv139 : Holds (Is (PtrV bk27)) (a127.eval (.tmp 2)) w128 := is_any (hk131.holds rfl hv118)
    have hb140 := hb119.up hg130
    have g141 := g120.trans hg130
    have g142 := g121.trans hg130
    have g143 := g122.trans hg130
    have g144 := g123.trans hg130
    have hV145 := hV126.up hg130
    clear h125 hv116 hb117 hv118 hb119 g120 g121 g122 g123 hf111 hk131 hn132 hg130 hV126
    refine then_ ?_
    refine wp_block ?_
    refine wp_loopL (α := Nat) (fun i a' w' => Fr 50 a' ∧ (i ≤ x.bals.length) ∧ Grow w0 w' ∧ Grow w2 w' ∧ Grow w17 w' ∧ Grow w36 w' ∧ Keep [1, 2, 13, 14] a127 a' ∧ Holds (OwnS w36.heap.size elDelta (balD x.bals i)) (a'.eval (.tmp 4)) w' ∧ Holds (Is (intV (i : Int))) (a'.eval (.tmp 15)) w' ∧ Blk bk9 (_) w' ∧ Blk bk27 (_) w') (fun i => x.bals.length - i) (0) ⟨hf129, (by ((try dsimp only); omega)), g141, g142, g143, g144, Keep.refl _ _, (cast_own rfl (unV h136 hV145)), (is_cast h135 (by first | rfl | (refine congrArg intV ?_; (try dsimp only); omega))), hb138, hb140⟩ ?_
    intro i a146 w147 ⟨hf148, hi150, g151, g152, g153, g154, kk149, h155, h156, hb157, hb158⟩
    have h159 : Holds _ (a146.eval (.tmp 13)) w147 := is_any (kk149.holds rfl h133)
    have h160 : Holds _ (a146.eval (.tmp 14)) w147 := is_any (kk149.holds rfl h134)
    have hv161 : Holds (Is (PtrV bk9)) (a146.eval (.tmp 1)) w147 := is_any (kk149.holds rfl hv137)
    have hv162 : Holds (Is (PtrV bk27)) (a146.eval (.tmp 2)) w147 := is_any (kk149.holds rfl hv139)
    obtain ⟨V163, h164, hV165⟩ := nameV h155
    clear h155
    refine wp_seq ?_
    refine wp_region_lit ?_
    refine wp_all [([15, 14], [])] [1, 2, 4, 13, 14, 15] w36.heap.size hf148 g154.size (by kernel_rfl) (bund_cons h156 (bund_cons h160 bund_nil)) ?_
    refine ch rfl (ob_lss (arg_free 0 rfl rfl) (arg_free 1 rfl rfl)) ?_
    refine ch_nil ?_
    intro a166 w167 hf168 hg169 hk170 hn171
    have h172 : Holds _ (a166.eval (.tmp 16)) w167 := hn171.at 0 0 rfl rfl rfl
    have h173 := hk170.holds rfl (h164.up hg169)
    have h174 := hk170.holds rfl (h156.up hg169)
    have h175 := hk170.holds rfl (h159.up hg169)
    have h176 := hk170.holds rfl (h160.up hg169)
    have hv177 : Holds (Is (PtrV bk9)) (a166.eval (.tmp 1)) w167 := is_any (hk170.holds rfl hv161)
    have hb178 := hb157.up hg169
    have hv179 : Holds (Is (PtrV bk27)) (a166.eval (.tmp 2)) w167 := is_any (hk170.holds rfl hv162)
    have hb180 := hb158.up hg169
    have g181 := g151.trans hg169
    have g182 := g152.trans hg169
    have g183 := g153.trans hg169
    have g184 := g154.trans hg169
    have kk185 : Keep _ a127 a166 := kk149.trans hk170 rfl
    have hV186 := hV165.up hg169
    clear h164 h156 h159 h160 hv161 hb157 hv162 hb158 g151 g152 g153 g154 kk149 hf148 hk170 hn171 hg169 hV165
    refine then_ ?_
    refine wp_seq ?_
    refine wp_if h172 ?_ ?_
    · intro hc187
      try simp only [cond_norm] at hc187
      refine wp_skip ?_
      refine then_ ?_
      refine wp_seq ?_
      refine wp_block ?_
      refine wp_seq ?_
      refine wp_region_lit ?_
      refine wp_all [([15], []), ([13, 15], []), ([], [1]), ([], [0]), ([], [2])] [1, 2, 4, 13, 14, 15] w36.heap.size hf168 g184.size (by kernel_rfl) (bund_cons h174 (bund_cons h175 bund_nil)) ?_
      refine ch rfl (ob_move (arg_free 0 rfl rfl)) ?_
      refine ch rfl (ob_ix (ArgOK.val (arg_free 1 rfl rfl) (hvc0.up g181)) (arg_free 0 rfl rfl) (rfl) ?_ Tryz.underlying23 szInt) ?_
      · omega
      refine ch rfl (ob_load1 (arg_op 1 0 rfl rfl rfl rfl) Tryz.underlying3 rfl) ?_
      refine ch rfl (ob_assign (arg_op 0 2 rfl rfl rfl rfl)) ?_
      refine ch rfl (ob_assign (arg_op 2 1 rfl rfl rfl rfl)) ?_
      refine ch_nil ?_
      intro a188 w189 hf190 hg191 hk192 hn193
      have h194 : Holds _ (a188.eval (.tmp 5)) w189 := hn193.at 3 1 rfl rfl rfl
      have h195 : Holds _ (a188.eval (.tmp 6)) w189 := hn193.at 4 0 rfl rfl rfl
      have h196 := hk192.holds rfl (h173.up hg191)
      have h197 := hk192.holds rfl (h174.up hg191)
      have h198 := hk192.holds rfl (h175.up hg191)
      have h199 := hk192.holds rfl (h176.up hg191)
      have hv200 : Holds (Is (PtrV bk9)) (a188.eval (.tmp 1)) w189 := is_any (hk192.holds rfl hv177)
      have hb201 := hb178.up hg191
      have hv202 : Holds (Is (PtrV bk27)) (a188.eval (.tmp 2)) w189 := is_any (hk192.holds rfl hv179)
      have hb203 := hb180.up hg191
      have g204 := g181.trans hg191
      have g205 := g182.trans hg191
      have g206 := g183.trans hg191
      have g207 := g184.trans hg191
      have kk208 : Keep _ a127 a188 := kk185.trans hk192 rfl
      have hV209 := hV186.up hg191
      clear h173 h174 h175 h176 hv177 hb178 hv179 hb180 g181 g182 g183 g184 kk185 hf168 hk192 hn193 hg191 hV186
      refine then_ ?_
      have g210 : Grow w189 w189 := Grow.refl _
      have hl211 : bk9 < w189.heap.size := hb201.lt
      have hl212 : bk27 < w189.heap.size := hb203.lt
      have hz213 : w36.heap.size ≤ w189.heap.size := g207.size
      refine wp_region_lit ?_
      refine wp_seg (l1 := [_, _, _, _, _, _]) [([4], []), ([5], []), ([], [1]), ([6], []), ([], [2, 3]), ([], [4])] [1, 2, 4, 13, 14, 15] w189.heap.size hf190 g210.size (by kernel_rfl) (bund_cons h196 (bund_cons h194 (bund_cons h195 bund_nil))) ?_
      refine ch rfl (ob_move (arg_free 0 rfl rfl)) ?_
      refine ch rfl (ob_move (arg_free 1 rfl rfl)) ?_
      refine ch rfl (ob_build_cell2 (1) (Int64.ofInt (i : Int)) arg_c (arg_op 1 0 rfl rfl rfl rfl) ?_ ?_) ?_
      · rfl
      · exact ofInt_small (by omega)
      refine ch rfl (ob_move (arg_free 2 rfl rfl)) ?_
      refine ch rfl (ob_build_delta (Int64.ofInt (x.bals.getD i default)) (arg_op 2 1 rfl rfl rfl rfl) (arg_op 3 0 rfl rfl rfl rfl) ?_) ?_
      · exact ofInt_small (hle.2.2.2.2 i (by omega))
      refine ch rfl (ob_bs1_delta (arg_op 4 0 rfl rfl rfl rfl)) ?_
      refine ch_nil ?_
      intro a214 w215 hf216 hg217 hk218 hn219
      have h220 : Holds _ (a214.eval (.tmp 20)) w215 := hn219.at 0 5 rfl rfl rfl
      have h221 : Holds (OwnF w189.heap.size _ _) (a214.eval (.tmp 25)) w215 := hn219.at 5 0 rfl rfl rfl
      have h222 := hk218.holds rfl h196
      have h223 := hk218.holds rfl h197
      have h224 := hk218.holds rfl h198
      have h225 := hk218.holds rfl h199
      have hv226 : Holds (Is (PtrV bk9)) (a214.eval (.tmp 1)) w215 := is_any (hk218.holds rfl hv200)
      have hb227 := hb201.up hg217
      have hv228 : Holds (Is (PtrV bk27)) (a214.eval (.tmp 2)) w215 := is_any (hk218.holds rfl hv202)
      have hb229 := hb203.up hg217
      have g230 := g204.trans hg217
      have g231 := g205.trans hg217
      have g232 := g206.trans hg217
      have g233 := g207.trans hg217
      have g234 := g210.trans hg217
      have kk235 : Keep _ a127 a214 := kk208.trans hk218 rfl
      clear h196 h197 h198 h199 hv200 hb201 hv202 hb203 g204 g205 g206 g207 g210 kk208 hf190 hk218 hn219
      obtain ⟨V236, h237, hV238⟩ := nameV h221
      clear h221
      refine wl_appendW elDeltaP [1, 2, 4, 13, 14, 15] hf216 (by kernel_rfl) rfl Tryz.underlying22 (unV h220 (hV209.up g234)) (OwnS.sl (OwnF.own (unV h237 hV238))) ?_ ?_ g233.size ?_
      · (simp only [List.length_append, List.length_cons, List.length_nil, balD_len, stkD_len, maxLen]; omega)
      · (simp only [List.length_append, List.length_cons, List.length_nil, balD_len, stkD_len, elDelta]; omega)
      intro a239 w240 hf241 hw242 hk243 h244
      have g245 : Grow w0 w240 := g230.wr hw242 (by omega)
      have g246 : Grow w2 w240 := g231.wr hw242 (by omega)
      have g247 : Grow w17 w240 := g232.wr hw242 (by omega)
      have g248 : Grow w36 w240 := g233.wr hw242 (by omega)
      have g249 : Siz w189 w240 := Siz.below g234.size hw242.below
      have h250 : Holds _ (a239.eval (.tmp 4)) w240 := is_any (hk243.holds rfl h222)
      have h251 : Holds _ (a239.eval (.tmp 15)) w240 := is_any (hk243.holds rfl h223)
      have h252 : Holds _ (a239.eval (.tmp 13)) w240 := is_any (hk243.holds rfl h224)
      have h253 : Holds _ (a239.eval (.tmp 14)) w240 := is_any (hk243.holds rfl h225)
      have hv254 : Holds (Is (PtrV bk9)) (a239.eval (.tmp 1)) w240 := is_any (hk243.holds rfl hv226)
      have hb255 : Blk bk9 _ w240 := hb227.wr hw242 (by omega)
      have hv256 : Holds (Is (PtrV bk27)) (a239.eval (.tmp 2)) w240 := is_any (hk243.holds rfl hv228)
      have hb257 : Blk bk27 _ w240 := hb229.wr hw242 (by omega)
      have kk258 : Keep _ a127 a239 := kk235.trans hk243 rfl
      obtain ⟨V259, h260, hV261⟩ := nameV h244
      clear h244
      refine wp_all [([26], [])] [1, 2, 13, 14, 15] w189.heap.size hf241 g249.size (by kernel_rfl) (bund_cons h260 bund_nil) ?_
      refine ch rfl (ob_assign (arg_free 0 rfl rfl)) ?_
      refine ch_nil ?_
      intro a262 w263 hf264 hg265 hk266 hn267
      have h268 : Holds _ (a262.eval (.tmp 4)) w263 := hn267.at 0 0 rfl rfl rfl
      have h269 := hk266.holds rfl (h251.up hg265)
      have h270 := hk266.holds rfl (h252.up hg265)
      have h271 := hk266.holds rfl (h253.up hg265)
      have hv272 : Holds (Is (PtrV bk9)) (a262.eval (.tmp 1)) w263 := is_any (hk266.holds rfl hv254)
      have hb273 := hb255.up hg265
      have hv274 : Holds (Is (PtrV bk27)) (a262.eval (.tmp 2)) w263 := is_any (hk266.holds rfl hv256)
      have hb275 := hb257.up hg265
      have g276 := g245.trans hg265
      have g277 := g246.trans hg265
      have g278 := g247.trans hg265
      have g279 := g248.trans hg265
      have g280 : Siz w189 w263 := g249.trans hg265
      have kk281 : Keep _ a127 a262 := kk258.trans hk266 rfl
      have hV282 := hV261.up hg265
      clear h251 h252 h253 hv254 hb255 hv256 hb257 g245 g246 g247 g248 g249 kk258 hf241 hk266 hn267 hg265 hV261
      refine blockN ?_
      refine then_ ?_
      refine wp_region_lit ?_
      refine wp_all [([15], []), ([], [0])] [1, 2, 4, 13, 14] w189.heap.size hf264 g280.size (by kernel_rfl) (bund_cons h269 bund_nil) ?_
      first
        | (refine ch rfl (ob_add' (arg_free 0 rfl rfl) arg_c ?_) ?_; · omega)
        | refine ch rfl (ob_add (arg_free 0 rfl rfl) arg_c) ?_
      refine ch rfl (ob_move (arg_op 0 0 rfl rfl rfl rfl)) ?_
      refine ch_nil ?_
      intro a283 w284 hf285 hg286 hk287 hn288
      have h289 : Holds _ (a283.eval (.tmp 15)) w284 := hn288.at 1 0 rfl rfl rfl
      have h290 := hk287.holds rfl (h268.up hg286)
      have h291 := hk287.holds rfl (h270.up hg286)
      have h292 := hk287.holds rfl (h271.up hg286)
      have hv293 : Holds (Is (PtrV bk9)) (a283.eval (.tmp 1)) w284 := is_any (hk287.holds rfl hv272)
      have hb294 := hb273.up hg286
      have hv295 : Holds (Is (PtrV bk27)) (a283.eval (.tmp 2)) w284 := is_any (hk287.holds rfl hv274)
      have hb296 := hb275.up hg286
      have g297 := g276.trans hg286
      have g298 := g277.trans hg286
      have g299 := g278.trans hg286
      have g300 := g279.trans hg286
      have g301 : Siz w189 w284 := g280.trans hg286
      have kk302 : Keep _ a127 a283 := kk281.trans hk287 rfl
      have hV303 := hV282.up hg286
      clear h268 h270 h271 hv272 hb273 hv274 hb275 g276 g277 g278 g279 g280 kk281 hf264 hk287 hn288 hg286 hV282
      refine then_ ?_
      exact ⟨(i + 1), (by ((try dsimp only); omega)), hf285, (by ((try dsimp only); omega)), g297, g298, g299, g300, kk302, (cast_own rfl (unV h290 hV303)), (is_cast h289 (by first | rfl | (refine congrArg intV ?_; (try dsimp only); omega))), hb294, hb296⟩
    · intro hc187
      try simp only [cond_norm] at hc187
      obtain rfl : i = x.bals.length := by omega
      refine wp_exit ?_
      refine thenX ?_
      refine thenX ?_
      refine blockX ?_
      refine then_ ?_
      refine wp_seq ?_
      refine wp_seq ?_
      refine wp_region_lit ?_
      refine wp_all [([1], []), ([], [0]), ([], [1]), ([], [])] [1, 2, 4] w36.heap.size hf168 g184.size (by kernel_rfl) (bund_cons (hb178.ownp hv177) bund_nil) ?_
      refine ch rfl (ob_faP (n := 0) (arg_free 0 rfl rfl) Tryz.underlying60 rfl (by kernel_rfl)) ?_
      refine ch rfl (ob_loadP (arg_op 0 0 rfl rfl rfl rfl) Tryz.underlying25 rfl rfl) ?_
      refine ch rfl (ob_len (ArgOK.val (arg_op 1 0 rfl rfl rfl rfl) (hva0.up g181)) Tryz.underlying25) ?_
      refine ch rfl (ob_move arg_c) ?_
      refine ch_nil ?_
      intro a304 w305 hf306 hg307 hk308 hn309
      have h310 : Holds _ (a304.eval (.tmp 30)) w305 := hn309.at 2 1 rfl rfl rfl
      have h311 : Holds _ (a304.eval (.tmp 31)) w305 := hn309.at 3 0 rfl rfl rfl
      have h312 := hk308.holds rfl (h173.up hg307)
      have hv313 : Holds (Is (PtrV bk9)) (a304.eval (.tmp 1)) w305 := is_any (hk308.holds rfl hv177)
      have hb314 := hb178.up hg307
      have hv315 : Holds (Is (PtrV bk27)) (a304.eval (.tmp 2)) w305 := is_any (hk308.holds rfl hv179)
      have hb316 := hb180.up hg307
      have g317 := g181.trans hg307
      have g318 := g182.trans hg307
      have g319 := g183.trans hg307
      have g320 := g184.trans hg307
      have hV321 := hV186.up hg307
      clear h173 hv177 hb178 hv179 hb180 g181 g182 g183 g184 hf168 hk308 hn309 hg307 hV186
      refine then_ ?_
      refine wp_block ?_
      refine wp_loopL (α := Nat) (fun i a' w' => Fr 50 a' ∧ (i ≤ x.vals.length) ∧ Grow w0 w' ∧ Grow w2 w' ∧ Grow w17 w' ∧ Grow w36 w' ∧ Keep [1, 2, 30] a304 a' ∧ Holds (OwnS w36.heap.size elDelta (balD x.bals x.bals.length ++ stkD x.stake i)) (a'.eval (.tmp 4)) w' ∧ Holds (Is (intV (i : Int))) (a'.eval (.tmp 31)) w' ∧ Blk bk9 (_) w' ∧ Blk bk27 (_) w') (fun i => x.vals.length - i) (0) ⟨hf306, (by ((try dsimp only); omega)), g317, g318, g319, g320, Keep.refl _ _, (cast_own (List.append_nil _).symm (unV h312 hV321)), (is_cast h311 (by first | rfl | (refine congrArg intV ?_; (try dsimp only); omega))), hb314, hb316⟩ ?_
      intro i a322 w323 ⟨hf324, hi326, g327, g328, g329, g330, kk325, h331, h332, hb333, hb334⟩
      have h335 : Holds _ (a322.eval (.tmp 30)) w323 := is_any (kk325.holds rfl h310)
      have hv336 : Holds (Is (PtrV bk9)) (a322.eval (.tmp 1)) w323 := is_any (kk325.holds rfl hv313)
      have hv337 : Holds (Is (PtrV bk27)) (a322.eval (.tmp 2)) w323 := is_any (kk325.holds rfl hv315)
      obtain ⟨V338, h339, hV340⟩ := nameV h331
      clear h331
      refine wp_seq ?_
      refine wp_region_lit ?_
      refine wp_all [([31, 30], [])] [1, 2, 4, 30, 31] w36.heap.size hf324 g330.size (by kernel_rfl) (bund_cons h332 (bund_cons h335 bund_nil)) ?_
      refine ch rfl (ob_lss (arg_free 0 rfl rfl) (arg_free 1 rfl rfl)) ?_
      refine ch_nil ?_
      intro a341 w342 hf343 hg344 hk345 hn346
      have h347 : Holds _ (a341.eval (.tmp 32)) w342 := hn346.at 0 0 rfl rfl rfl
      have h348 := hk345.holds rfl (h339.up hg344)
      have h349 := hk345.holds rfl (h332.up hg344)
      have h350 := hk345.holds rfl (h335.up hg344)
      have hv351 : Holds (Is (PtrV bk9)) (a341.eval (.tmp 1)) w342 := is_any (hk345.holds rfl hv336)
      have hb352 := hb333.up hg344
      have hv353 : Holds (Is (PtrV bk27)) (a341.eval (.tmp 2)) w342 := is_any (hk345.holds rfl hv337)
      have hb354 := hb334.up hg344
      have g355 := g327.trans hg344
      have g356 := g328.trans hg344
      have g357 := g329.trans hg344
      have g358 := g330.trans hg344
      have kk359 : Keep _ a304 a341 := kk325.trans hk345 rfl
      have hV360 := hV340.up hg344
      clear h339 h332 h335 hv336 hb333 hv337 hb334 g327 g328 g329 g330 kk325 hf324 hk345 hn346 hg344 hV340
      refine then_ ?_
      refine wp_seq ?_
      refine wp_if h347 ?_ ?_
      · intro hc361
        try simp only [cond_norm] at hc361
        refine wp_skip ?_
        refine then_ ?_
        refine wp_seq ?_
        refine wp_block ?_
        refine wp_seq ?_
        refine wp_region_lit ?_
        refine wp_all [([31], []), ([], [0])] [1, 2, 4, 30, 31] w36.heap.size hf343 g358.size (by kernel_rfl) (bund_cons h349 bund_nil) ?_
        refine ch rfl (ob_move (arg_free 0 rfl rfl)) ?_
        refine ch rfl (ob_assign (arg_op 0 0 rfl rfl rfl rfl)) ?_
        refine ch_nil ?_
        intro a362 w363 hf364 hg365 hk366 hn367
        have h368 : Holds _ (a362.eval (.tmp 7)) w363 := hn367.at 1 0 rfl rfl rfl
        have h369 := hk366.holds rfl (h348.up hg365)
        have h370 := hk366.holds rfl (h349.up hg365)
        have h371 := hk366.holds rfl (h350.up hg365)
        have hv372 : Holds (Is (PtrV bk9)) (a362.eval (.tmp 1)) w363 := is_any (hk366.holds rfl hv351)
        have hb373 := hb352.up hg365
        have hv374 : Holds (Is (PtrV bk27)) (a362.eval (.tmp 2)) w363 := is_any (hk366.holds rfl hv353)
        have hb375 := hb354.up hg365
        have g376 := g355.trans hg365
        have g377 := g356.trans hg365
        have g378 := g357.trans hg365
        have g379 := g358.trans hg365
        have kk380 : Keep _ a304 a362 := kk359.trans hk366 rfl
        have hV381 := hV360.up hg365
        clear h348 h349 h350 hv351 hb352 hv353 hb354 g355 g356 g357 g358 kk359 hf343 hk366 hn367 hg365 hV360
        refine then_ ?_
        have g382 : Grow w363 w363 := Grow.refl _
        have hl383 : bk9 < w363.heap.size := hb373.lt
        have hl384 : bk27 < w363.heap.size := hb375.lt
        have hz385 : w36.heap.size ≤ w363.heap.size := g379.size
        refine wp_region_lit ?_
        refine wp_seg (l1 := [_, _, _, _, _, _, _]) [([4], []), ([7], []), ([], [1]), ([1], []), ([], [3]), ([], [2, 4]), ([], [5])] [1, 2, 4, 30, 31] w363.heap.size hf364 g382.size (by kernel_rfl) (bund_cons h369 (bund_cons h368 (bund_cons (hb373.ownp hv372) bund_nil))) ?_
        refine ch rfl (ob_move (arg_free 0 rfl rfl)) ?_
        refine ch rfl (ob_move (arg_free 1 rfl rfl)) ?_
        refine ch rfl (ob_build_cell2 (3) (Int64.ofInt (i : Int)) arg_c (arg_op 1 0 rfl rfl rfl rfl) ?_ ?_) ?_
        · rfl
        · exact ofInt_small (by omega)
        refine ch rfl (ob_faP (n := 0) (arg_free 2 rfl rfl) Tryz.underlying60 rfl (by kernel_rfl)) ?_
        refine ch rfl (ob_loadP (arg_op 3 0 rfl rfl rfl rfl) Tryz.underlying3 rfl rfl) ?_
        refine ch rfl (ob_build_delta (Int64.ofInt x.stake) (arg_op 2 2 rfl rfl rfl rfl) (arg_op 4 0 rfl rfl rfl rfl) ?_) ?_
        · exact ofInt_small hle.2.2.2.1
        refine ch rfl (ob_bs1_delta (arg_op 5 0 rfl rfl rfl rfl)) ?_
        refine ch_nil ?_
        intro a386 w387 hf388 hg389 hk390 hn391
        have h392 : Holds _ (a386.eval (.tmp 34)) w387 := hn391.at 0 6 rfl rfl rfl
        have h393 : Holds (OwnF w363.heap.size _ _) (a386.eval (.tmp 40)) w387 := hn391.at 6 0 rfl rfl rfl
        have h394 := hk390.holds rfl h369
        have h395 := hk390.holds rfl h370
        have h396 := hk390.holds rfl h371
        have hv397 : Holds (Is (PtrV bk9)) (a386.eval (.tmp 1)) w387 := is_any (hk390.holds rfl hv372)
        have hb398 := hb373.up hg389
        have hv399 : Holds (Is (PtrV bk27)) (a386.eval (.tmp 2)) w387 := is_any (hk390.holds rfl hv374)
        have hb400 := hb375.up hg389
        have g401 := g376.trans hg389
        have g402 := g377.trans hg389
        have g403 := g378.trans hg389
        have g404 := g379.trans hg389
        have g405 := g382.trans hg389
        have kk406 : Keep _ a304 a386 := kk380.trans hk390 rfl
        clear h369 h370 h371 hv372 hb373 hv374 hb375 g376 g377 g378 g379 g382 kk380 hf364 hk390 hn391
        obtain ⟨V407, h408, hV409⟩ := nameV h393
        clear h393
        refine wl_appendW elDeltaP [1, 2, 4, 30, 31] hf388 (by kernel_rfl) rfl Tryz.underlying22 (unV h392 (hV381.up g405)) (OwnS.sl (OwnF.own (unV h408 hV409))) ?_ ?_ g404.size ?_
        · (simp only [List.length_append, List.length_cons, List.length_nil, balD_len, stkD_len, maxLen]; omega)
        · (simp only [List.length_append, List.length_cons, List.length_nil, balD_len, stkD_len, elDelta]; omega)
        intro a410 w411 hf412 hw413 hk414 h415
        have g416 : Grow w0 w411 := g401.wr hw413 (by omega)
        have g417 : Grow w2 w411 := g402.wr hw413 (by omega)
        have g418 : Grow w17 w411 := g403.wr hw413 (by omega)
        have g419 : Grow w36 w411 := g404.wr hw413 (by omega)
        have g420 : Siz w363 w411 := Siz.below g405.size hw413.below
        have h421 : Holds _ (a410.eval (.tmp 4)) w411 := is_any (hk414.holds rfl h394)
        have h422 : Holds _ (a410.eval (.tmp 31)) w411 := is_any (hk414.holds rfl h395)
        have h423 : Holds _ (a410.eval (.tmp 30)) w411 := is_any (hk414.holds rfl h396)
        have hv424 : Holds (Is (PtrV bk9)) (a410.eval (.tmp 1)) w411 := is_any (hk414.holds rfl hv397)
        have hb425 : Blk bk9 _ w411 := hb398.wr hw413 (by omega)
        have hv426 : Holds (Is (PtrV bk27)) (a410.eval (.tmp 2)) w411 := is_any (hk414.holds rfl hv399)
        have hb427 : Blk bk27 _ w411 := hb400.wr hw413 (by omega)
        have kk428 : Keep _ a304 a410 := kk406.trans hk414 rfl
        obtain ⟨V429, h430, hV431⟩ := nameV h415
        clear h415
        refine wp_all [([41], [])] [1, 2, 30, 31] w363.heap.size hf412 g420.size (by kernel_rfl) (bund_cons h430 bund_nil) ?_
        refine ch rfl (ob_assign (arg_free 0 rfl rfl)) ?_
        refine ch_nil ?_
        intro a432 w433 hf434 hg435 hk436 hn437
        have h438 : Holds _ (a432.eval (.tmp 4)) w433 := hn437.at 0 0 rfl rfl rfl
        have h439 := hk436.holds rfl (h422.up hg435)
        have h440 := hk436.holds rfl (h423.up hg435)
        have hv441 : Holds (Is (PtrV bk9)) (a432.eval (.tmp 1)) w433 := is_any (hk436.holds rfl hv424)
        have hb442 := hb425.up hg435
        have hv443 : Holds (Is (PtrV bk27)) (a432.eval (.tmp 2)) w433 := is_any (hk436.holds rfl hv426)
        have hb444 := hb427.up hg435
        have g445 := g416.trans hg435
        have g446 := g417.trans hg435
        have g447 := g418.trans hg435
        have g448 := g419.trans hg435
        have g449 : Siz w363 w433 := g420.trans hg435
        have kk450 : Keep _ a304 a432 := kk428.trans hk436 rfl
        have hV451 := hV431.up hg435
        clear h422 h423 hv424 hb425 hv426 hb427 g416 g417 g418 g419 g420 kk428 hf412 hk436 hn437 hg435 hV431
        refine blockN ?_
        refine then_ ?_
        refine wp_region_lit ?_
        refine wp_all [([31], []), ([], [0])] [1, 2, 4, 30] w363.heap.size hf434 g449.size (by kernel_rfl) (bund_cons h439 bund_nil) ?_
        first
          | (refine ch rfl (ob_add' (arg_free 0 rfl rfl) arg_c ?_) ?_; · omega)
          | refine ch rfl (ob_add (arg_free 0 rfl rfl) arg_c) ?_
        refine ch rfl (ob_move (arg_op 0 0 rfl rfl rfl rfl)) ?_
        refine ch_nil ?_
        intro a452 w453 hf454 hg455 hk456 hn457
        have h458 : Holds _ (a452.eval (.tmp 31)) w453 := hn457.at 1 0 rfl rfl rfl
        have h459 := hk456.holds rfl (h438.up hg455)
        have h460 := hk456.holds rfl (h440.up hg455)
        have hv461 : Holds (Is (PtrV bk9)) (a452.eval (.tmp 1)) w453 := is_any (hk456.holds rfl hv441)
        have hb462 := hb442.up hg455
        have hv463 : Holds (Is (PtrV bk27)) (a452.eval (.tmp 2)) w453 := is_any (hk456.holds rfl hv443)
        have hb464 := hb444.up hg455
        have g465 := g445.trans hg455
        have g466 := g446.trans hg455
        have g467 := g447.trans hg455
        have g468 := g448.trans hg455
        have g469 : Siz w363 w453 := g449.trans hg455
        have kk470 : Keep _ a304 a452 := kk450.trans hk456 rfl
        have hV471 := hV451.up hg455
        clear h438 h440 hv441 hb442 hv443 hb444 g445 g446 g447 g448 g449 kk450 hf434 hk456 hn457 hg455 hV451
        refine then_ ?_
        exact ⟨(i + 1), (by ((try dsimp only); omega)), hf454, (by ((try dsimp only); omega)), g465, g466, g467, g468, kk470, (cast_own (List.append_assoc _ _ _) (unV h459 hV471)), (is_cast h458 (by first | rfl | (refine congrArg intV ?_; (try dsimp only); omega))), hb462, hb464⟩
      · intro hc361
        try simp only [cond_norm] at hc361
        obtain rfl : i = x.vals.length := by omega
        refine wp_exit ?_
        refine thenX ?_
        refine thenX ?_
        refine blockX ?_
        refine then_ ?_
        refine wp_seq ?_
        have g472 : Grow w342 w342 := Grow.refl _
        have hl473 : bk9 < w342.heap.size := hb352.lt
        have hl474 : bk27 < w342.heap.size := hb354.lt
        have hz475 : w36.heap.size ≤ w342.heap.size := g358.size
        refine wp_region_lit ?_
        refine wp_seg (l1 := [_, _, _, _, _, _, _]) [([1], []), ([], [0]), ([], [1]), ([], [2]), ([], [3]), ([4], []), ([], [4, 5])] [2] w342.heap.size hf343 g472.size (by kernel_rfl) (bund_cons (hb352.ownp hv351) (bund_cons h348 bund_nil)) ?_
        refine ch rfl (ob_faP (n := 0) (arg_free 0 rfl rfl) Tryz.underlying60 rfl (by kernel_rfl)) ?_
        refine ch rfl (ob_loadP (arg_op 0 0 rfl rfl rfl rfl) Tryz.underlying25 rfl rfl) ?_
        refine ch rfl (ob_len (ArgOK.val (arg_op 1 0 rfl rfl rfl rfl) (hvb0.up g355)) Tryz.underlying25) ?_
        refine ch rfl (ob_makeR elIntP (n := x.accs.length) (c := x.accs.length) Tryz.underlying23 (arg_op 2 0 rfl rfl rfl rfl) (arg_op 2 0 rfl rfl rfl rfl) ?_ ?_ ?_ ?_ ?_) ?_
        · rfl
        · rfl
        · omega
        · (simp only [elByte, elInt, elNm]; omega)
        · (simp only [maxLen]; omega)
        refine ch rfl (ob_build_state1 (arg_op 3 0 rfl rfl rfl rfl)) ?_
        refine ch rfl (ob_move (arg_free 1 rfl rfl)) ?_
        refine ch rfl (ob_call2 (by kernel_rfl) (c_Add ?_ ?_ ?_) (ArgOK.ofstate (arg_op 4 1 rfl rfl rfl rfl)) (ArgOK.sl (ArgOK.val (arg_op 5 0 rfl rfl rfl rfl) hV360))) ?_
        · (refine ⟨?_, ?_, ?_, ?_⟩ <;> (simp only [List.length_nil, List.length_replicate]; omega))
        · (simp only [List.length_nil]; omega)
        · (simp only [List.length_append, balD_len, stkD_len]; omega)
        refine ch_nil ?_
        intro a476 w477 hf478 hg479 hk480 hn481
        have h482 : Holds (StO w342.heap.size _) (a476.eval (.tmp 49)) w477 := hn481.at 6 0 rfl rfl rfl
        have hv483 : Holds (Is (PtrV bk27)) (a476.eval (.tmp 2)) w477 := is_any (hk480.holds rfl hv353)
        have hb484 := hb354.up hg479
        have g485 := g355.trans hg479
        have g486 := g356.trans hg479
        have g487 := g357.trans hg479
        have g488 := g358.trans hg479
        have g489 := g472.trans hg479
        clear hv353 hb354 g355 g356 g357 g358 g472 hf343 hk480 hn481
        obtain ⟨V490, V491, V492, V493, h494, hV495, hV496, hV497, hV498⟩ := openO h482
        refine wl_store_state hv483 hb484 rfl h494 (st_oneS (OwnS.sl hV495) (OwnS.sl hV496) (OwnS.sl hV497) (OwnS.sl hV498)) ?_
        intro w499 ho500 hb501
        have g502 : Grow w0 w499 := g485.only ho500 (by omega)
        have g503 : Grow w2 w499 := g486.only ho500 (by omega)
        have g504 : Siz w17 w499 := Siz.below g487.size ho500.below
        have g505 : Siz w36 w499 := Siz.below g488.size ho500.below
        have g506 : Siz w342 w499 := Siz.below g489.size ho500.below
        have hv507 : Holds (Is (PtrV bk27)) (a476.eval (.tmp 2)) w499 := is_any hv483
        have hV508 : Holds _ V490 w499 := OwnS.only hV495 ho500 (by omega)
        have hV509 : Holds _ V491 w499 := OwnS.only hV496 ho500 (by omega)
        have hV510 : Holds _ V492 w499 := OwnS.only hV497 ho500 (by omega)
        have hV511 : Holds _ V493 w499 := OwnS.only hV498 ho500 (by omega)
        refine wp_all [([], [])] [2] w342.heap.size hf478 g506.size (by kernel_rfl) bund_nil ?_
        refine ch rfl (ob_assign arg_c) ?_
        refine ch_nil ?_
        intro a512 w513 hf514 hg515 hk516 hn517
        have h518 : Holds _ (a512.eval (.tmp 3)) w513 := hn517.at 0 0 rfl rfl rfl
        have hv519 : Holds (Is (PtrV bk27)) (a512.eval (.tmp 2)) w513 := is_any (hk516.holds rfl hv507)
        have hb520 := hb501.up hg515
        have g521 := g502.trans hg515
        have g522 := g503.trans hg515
        have g523 : Siz w17 w513 := g504.trans hg515
        have g524 : Siz w36 w513 := g505.trans hg515
        have g525 : Siz w342 w513 := g506.trans hg515
        have hV526 := hV508.up hg515
        have hV527 := hV509.up hg515
        have hV528 := hV510.up hg515
        have hV529 := hV511.up hg515
        clear hv507 hb501 g502 g503 g504 g505 g506 hf478 hk516 hn517 hg515 hV508 hV509 hV510 hV511
        refine then_ ?_
        refine wp_ret ?_
        refine ret_cell_tmp rfl Tryz.underlying28 rfl (by kernel_rfl) hf514 g521 (hb520.ptr hv519) ?_ (is_cast h518 (congrArg intV (by rw [hv]; rfl)))
        exact sto_cast (mkO (OwnS.mono hV526 (by omega)) (OwnS.mono hV527 (by omega)) (OwnS.mono hV528 (by omega)) (OwnS.mono hV529 (by omega))) (by exact genR_yes hv)
end Ex
end Go.Proofs.YtnmfiiejhoafnaaGreat
