/- Changes of amounts: of the reference. -/
import Derived.Test.YtnmfiiejhoafnaaAdState9
set_option linter.unusedSimpArgs false
set_option linter.unusedVariables false
namespace Go.Proofs.Ytnmfiiejhoafnaa
namespace Ex
open Go Calm Go.RowKit
def putS (s : GState) (d : GDelta) : GState := { s with cells := putL s.cells d }
theorem getL_amt {l : List GDelta} {c : GCell} (h : 0 ≤ fnd l c) : (l.getD (fnd l c).toNat default).amount = getL l c := by unfold getL; rw [if_pos h]
theorem put_fld {l : List GDelta} {c : GCell} {a : Int64} (h : 0 ≤ fnd l c) : deltaCells ⟨(l.getD (fnd l c).toNat default).cell, getL l c + a⟩ = (deltaCells (l.getD (fnd l c).toNat default)).set 10 (intV (IntKind.i64.wrap ((l.getD (fnd l c).toNat default).amount.toInt + a.toInt))) := by
  rw [add_i64, getL_amt h]; rfl
theorem set_at {l : List GDelta} {k : Nat} {y : GDelta} (h : k < l.length) : (l.set k y).getD k default = y := by
  rw [List.getD_eq_getElem?_getD, List.getElem?_set_self h]; rfl
theorem set_cut {l : List GDelta} {k : Nat} {y : GDelta} : (l.set k y).take k ++ (l.set k y).drop (k + 1) = l.take k ++ l.drop (k + 1) := by
  rw [List.take_set_of_le (Nat.le_refl _), List.drop_set_of_lt (Nat.lt_succ_self _)]
theorem getL_zero {l : List GDelta} {c : GCell} (h : ¬ 0 ≤ fnd l c) : getL l c = 0 := by unfold getL; rw [if_neg h]
theorem befG_hit {α : Type} [Inhabited α] {c : α → α → Int} {l : List α} {x : α} {i : Nat} (h : ∀ j, j < i → ¬ 0 < c (l.getD j default) x) (hi : i ≤ l.length) (he : ¬ (i : Int) < (l.length : Int) ∨ 0 < c (l.getD i default) x) : (bef c l x).toNat = i := by
  have hp : ∀ j, j < i → (fun y => decide (0 < c y x)) (l.getD j default) = false := fun j hj => decide_eq_false (h j hj)
  unfold bef
  by_cases h2 : i < l.length
  · rw [← idx_hit (p := fun y => decide (0 < c y x)) hp h2 (decide_eq_true (he.resolve_left (by omega))), if_pos (by omega)]
    rfl
  · rw [← idx_none (p := fun y => decide (0 < c y x)) hp (by omega), if_neg (by omega)]
    omega
theorem le_step {l : List GDelta} {d : GDelta} {i : Nat} (h : ∀ j, j < i → ¬ 0 < cmpD (l.getD j default) d) (he : cmpC (l.getD i default).cell d.cell ≤ 0) : ∀ j, j < i + 1 → ¬ 0 < cmpD (l.getD j default) d := fun j hj => by
  by_cases e : j = i
  · subst e; exact Int.not_lt.2 he
  · exact h j (by omega)
set_option maxRecDepth 100000 in
theorem c_Put {s : GState} {c : GCell} {a : Int64} (hs : stOK s) : Con3 128 (StF s) (Is (cellV c)) (Is (intV a.toInt)) (fun lo => StO lo (putS s (⟨c, a⟩ : GDelta))) := by
  intro lo v0 v1 v2 w0 hlo hv0 hv1 hv2
  refine enter Try.func128 rfl Try.ntmps128 (by simp) ?_
  intro a0 hf0 ha
  obtain ⟨va0, vb0, vc0, vd0, he0, hva0, hvb0, hvc0, hvd0⟩ := openF hv0
  have h00 : Holds (Is _) (a0.eval (.tmp 0)) w0 := arg_holds ha rfl he0
  have h01 : Holds _ (a0.eval (.tmp 1)) w0 := arg_holds ha rfl hv1
  have h02 : Holds _ (a0.eval (.tmp 2)) w0 := arg_holds ha rfl hv2
  clear ha
  have g0 : Grow w0 w0 := Grow.refl _
  obtain ⟨hs1, hs2, hs3, hs4⟩ := id hs
  refine wp_seq ?_
  refine wp_region_lit ?_
  refine wp_seg (l1 := [_]) [([0], [])] [1, 2] w0.heap.size hf0 g0.size (by kernel_rfl) (bund_cons h00 bund_nil) ?_
  refine ch rfl (ob_box_state (arg_free 0 rfl rfl)) ?_
  refine ch_nil ?_
  intro a1 w2 hf3 hg4 hk5 hn6
  have h7 : Holds _ (a1.eval (.tmp 3)) w2 := hn6.at 0 0 rfl rfl rfl
  have h8 := hk5.holds rfl h01
  have h9 := hk5.holds rfl h02
  have g10 := g0.trans hg4
  obtain ⟨bk11, hl12, hv13, hb14⟩ := OwnB.blk (lo := w0.heap.size) h7
  clear h01 h02 g0 hf0 hk5 hn6
  have g15 : Grow w2 w2 := Grow.refl _
  have hl16 : bk11 < w2.heap.size := hb14.lt
  have hz17 : w0.heap.size ≤ w2.heap.size := g10.size
  refine wp_seg (l1 := [_]) [([1], [])] [2, 3] w2.heap.size hf3 g15.size (by kernel_rfl) (bund_cons (is_any h8) bund_nil) ?_
  refine ch rfl (ob_box_cell (arg_free 0 rfl rfl)) ?_
  refine ch_nil ?_
  intro a18 w19 hf20 hg21 hk22 hn23
  have h24 : Holds _ (a18.eval (.tmp 4)) w19 := hn23.at 0 0 rfl rfl rfl
  have h25 := hk22.holds rfl h9
  have hv26 : Holds (Is (PtrV bk11)) (a18.eval (.tmp 3)) w19 := is_any (hk22.holds rfl hv13)
  have hb27 := hb14.up hg21
  have g28 := g10.trans hg21
  have g29 := g15.trans hg21
  obtain ⟨bk30, hl31, hv32, hb33⟩ := OwnB.blk (lo := w2.heap.size) h24
  clear h9 hv13 hb14 g10 g15 hf3 hk22 hn23
  have g34 : Grow w19 w19 := Grow.refl _
  have hl35 : bk11 < w19.heap.size := hb27.lt
  have hl36 : bk30 < w19.heap.size := hb33.lt
  have hz37 : w2.heap.size ≤ w19.heap.size := g29.size
  refine wp_all [([], [])] [2, 3, 4] w19.heap.size hf20 g34.size (by kernel_rfl) bund_nil ?_
  refine ch rfl (ob_alloc_state) ?_
  refine ch_nil ?_
  intro a38 w39 hf40 hg41 hk42 hn43
  have h44 : Holds _ (a38.eval (.tmp 6)) w39 := hn43.at 0 0 rfl rfl rfl
  have h45 := hk42.holds rfl h25
  have hv46 : Holds (Is (PtrV bk11)) (a38.eval (.tmp 3)) w39 := is_any (hk42.holds rfl hv26)
  have hb47 := hb27.up hg41
  have hv48 : Holds (Is (PtrV bk30)) (a38.eval (.tmp 4)) w39 := is_any (hk42.holds rfl hv32)
  have hb49 := hb33.up hg41
  have g50 := g28.trans hg41
  have g51 := g29.trans hg41
  have g52 := g34.trans hg41
  obtain ⟨bk53, hl54, hv55, hb56⟩ := OwnB.blk (lo := w19.heap.size) h44
  clear h25 hv26 hb27 hv32 hb33 g28 g29 g34 hf20 hk42 hn43
  refine then_ ?_
  refine wp_seq ?_
  have g57 : Grow w39 w39 := Grow.refl _
  have hl58 : bk11 < w39.heap.size := hb47.lt
  have hl59 : bk30 < w39.heap.size := hb49.lt
  have hl60 : bk53 < w39.heap.size := hb56.lt
  have hz61 : w19.heap.size ≤ w39.heap.size := g52.size
  refine wp_region_lit ?_
  refine wp_seg (l1 := [_, _]) [([3], []), ([], [0])] [2, 3, 4, 6] w39.heap.size hf40 g57.size (by kernel_rfl) (bund_cons (hb47.ownp hv46) bund_nil) ?_
  refine ch rfl (ob_load_state (ArgOK.ownp (arg_free 0 rfl rfl))) ?_
  refine ch rfl (ob_call1 (by kernel_rfl) (c_Copy (s := _) ?_) (ArgOK.val (arg_op 0 0 rfl rfl rfl rfl) (mkFs (s := s) (hva0.up g50) (hvb0.up g50) (hvc0.up g50) (hvd0.up g50)))) ?_
  · assumption
  refine ch_nil ?_
  intro a62 w63 hf64 hg65 hk66 hn67
  have h68 : Holds (StO w39.heap.size _) (a62.eval (.tmp 11)) w63 := hn67.at 1 0 rfl rfl rfl
  have h69 := hk66.holds rfl h45
  have hv70 : Holds (Is (PtrV bk11)) (a62.eval (.tmp 3)) w63 := is_any (hk66.holds rfl hv46)
  have hb71 := hb47.up hg65
  have hv72 : Holds (Is (PtrV bk30)) (a62.eval (.tmp 4)) w63 := is_any (hk66.holds rfl hv48)
  have hb73 := hb49.up hg65
  have hv74 : Holds (Is (PtrV bk53)) (a62.eval (.tmp 6)) w63 := is_any (hk66.holds rfl hv55)
  have hb75 := hb56.up hg65
  have g76 := g50.trans hg65
  have g77 := g51.trans hg65
  have g78 := g52.trans hg65
  have g79 := g57.trans hg65
  clear h45 hv46 hb47 hv48 hb49 hv55 hb56 g50 g51 g52 g57 hf40 hk66 hn67
  obtain ⟨V80, V81, V82, V83, h84, hV85, hV86, hV87, hV88⟩ := openO h68
  refine wl_store_state hv70 hb71 rfl h84 (st_oneS (OwnS.sl hV85) (OwnS.sl hV86) (OwnS.sl hV87) (OwnS.sl hV88)) ?_
  intro w89 ho90 hb91
  have g92 : Grow w0 w89 := g76.only ho90 (by omega)
  have g93 : Siz w2 w89 := Siz.below g77.size ho90.below
  have g94 : Siz w19 w89 := Siz.below g78.size ho90.below
  have g95 : Siz w39 w89 := Siz.below g79.size ho90.below
  have hv96 : Holds (Is (PtrV bk11)) (a62.eval (.tmp 3)) w89 := is_any hv70
  have hv97 : Holds (Is (PtrV bk30)) (a62.eval (.tmp 4)) w89 := is_any hv72
  have hb98 : Blk bk30 _ w89 := hb73.only ho90 (by omega)
  have hv99 : Holds (Is (PtrV bk53)) (a62.eval (.tmp 6)) w89 := is_any hv74
  have hb100 : Blk bk53 _ w89 := hb75.only ho90 (by omega)
  have hV101 : Holds _ V80 w89 := OwnS.only hV85 ho90 (by omega)
  have hV102 : Holds _ V81 w89 := OwnS.only hV86 ho90 (by omega)
  have hV103 : Holds _ V82 w89 := OwnS.only hV87 ho90 (by omega)
  have hV104 : Holds _ V83 w89 := OwnS.only hV88 ho90 (by omega)
  refine wpList_nil ?_
  refine then_ ?_
  refine wp_seq ?_
  have g105 : Grow w89 w89 := Grow.refl _
  have hl106 : bk11 < w89.heap.size := hb91.lt
  have hl107 : bk30 < w89.heap.size := hb98.lt
  have hl108 : bk53 < w89.heap.size := hb100.lt
  have hz109 : w39.heap.size ≤ w89.heap.size := g95.size
  refine wp_region_lit ?_
  refine wp_all [([3], []), ([4], []), ([], [0, 1]), ([], [2])] [2, 3, 4, 6] w89.heap.size hf64 g105.size (by kernel_rfl) (bund_cons (hb91.ownp hv96) (bund_cons (hb98.ownp hv97) bund_nil)) ?_
  refine ch rfl (ob_load_state (ArgOK.ownp (arg_free 0 rfl rfl))) ?_
  refine ch rfl (ob_load_cell (ArgOK.ownp (arg_free 1 rfl rfl))) ?_
  refine ch rfl (ob_call2 (by kernel_rfl) (c_at ?_) (ArgOK.val (arg_op 0 1 rfl rfl rfl rfl) (mkF (OwnS.sl hV101) (OwnS.sl hV102) (OwnS.sl hV103) (OwnS.sl hV104))) (arg_op 1 0 rfl rfl rfl rfl)) ?_
  · assumption
  refine ch rfl (ob_assign (arg_op 2 0 rfl rfl rfl rfl)) ?_
  refine ch_nil ?_
  intro a110 w111 hf112 hg113 hk114 hn115
  have h116 : Holds _ (a110.eval (.tmp 7)) w111 := hn115.at 3 0 rfl rfl rfl
  have h117 := hk114.holds rfl h69
  have hv118 : Holds (Is (PtrV bk11)) (a110.eval (.tmp 3)) w111 := is_any (hk114.holds rfl hv96)
  have hb119 := hb91.up hg113
  have hv120 : Holds (Is (PtrV bk30)) (a110.eval (.tmp 4)) w111 := is_any (hk114.holds rfl hv97)
  have hb121 := hb98.up hg113
  have hv122 : Holds (Is (PtrV bk53)) (a110.eval (.tmp 6)) w111 := is_any (hk114.holds rfl hv99)
  have hb123 := hb100.up hg113
  have g124 := g92.trans hg113
  have g125 : Siz w2 w111 := g93.trans hg113
  have g126 : Siz w19 w111 := g94.trans hg113
  have g127 : Siz w39 w111 := g95.trans hg113
  have g128 := g105.trans hg113
  clear h69 hv96 hb91 hv97 hb98 hv99 hb100 g92 g93 g94 g95 g105 hf64 hk114 hn115
  refine then_ ?_
  refine wp_seq ?_
  refine wp_seq ?_
  have h129 : Holds (Is (intV (fnd s.cells c))) (a110.eval (.tmp 7)) w111 := is_cast h116 (rfl)
  refine wp_region_lit ?_
  refine wp_all [([7], []), ([], [0])] [2, 3, 4, 6, 7] w89.heap.size hf112 g128.size (by kernel_rfl) (bund_cons h129 bund_nil) ?_
  refine ch rfl (ob_move (arg_free 0 rfl rfl)) ?_
  refine ch rfl (ob_geq (arg_op 0 0 rfl rfl rfl rfl) arg_c) ?_
  refine ch_nil ?_
  intro a130 w131 hf132 hg133 hk134 hn135
  have h136 : Holds _ (a130.eval (.tmp 16)) w131 := hn135.at 1 0 rfl rfl rfl
  have h137 := hk134.holds rfl (h129.up hg133)
  have h138 := hk134.holds rfl h117
  have hv139 : Holds (Is (PtrV bk11)) (a130.eval (.tmp 3)) w131 := is_any (hk134.holds rfl hv118)
  have hb140 := hb119.up hg133
  have hv141 : Holds (Is (PtrV bk30)) (a130.eval (.tmp 4)) w131 := is_any (hk134.holds rfl hv120)
  have hb142 := hb121.up hg133
  have hv143 : Holds (Is (PtrV bk53)) (a130.eval (.tmp 6)) w131 := is_any (hk134.holds rfl hv122)
  have hb144 := hb123.up hg133
  have g145 := g124.trans hg133
  have g146 : Siz w2 w131 := g125.trans hg133
  have g147 : Siz w19 w131 := g126.trans hg133
  have g148 : Siz w39 w131 := g127.trans hg133
  have g149 := g128.trans hg133
  clear h129 h117 hv118 hb119 hv120 hb121 hv122 hb123 g124 g125 g126 g127 g128 hf112 hk134 hn135 hg133
  refine then_ ?_
  refine wp_if h136 ?_ ?_
  · intro hc150
    try simp only [cond_norm] at hc150
    have hf : 0 ≤ fnd s.cells c := hc150; have hp := fnd_lt hf
    refine wp_seq ?_
    have g151 : Grow w131 w131 := Grow.refl _
    have hl152 : bk11 < w131.heap.size := hb140.lt
    have hl153 : bk30 < w131.heap.size := hb142.lt
    have hl154 : bk53 < w131.heap.size := hb144.lt
    have hz155 : w89.heap.size ≤ w131.heap.size := g149.size
    refine wp_calm_tail (l1 := [_, _, _, _, _, _, _, _, _, _, _, _, _]) [0, 1, 0, 0, 8, 0, 56, 120, 248, 0, 1016, 2047, 4095, 8191] [([3], []), ([], [0]), ([7], []), ([3], []), ([], [3]), ([7], []), ([], [4, 5]), ([], [6]), ([], [7]), ([2], []), ([], [8, 9]), ([], [1, 2]), ([], [11])] [3, 6, 7] w131.heap.size hf132 g151.size (by kernel_rfl) (bund_cons (hb140.ownp hv139) (bund_cons h137 (bund_cons (is_any h138) bund_nil))) ?_
    intro ws156 hs157
    refine ch rfl (ob_faP (n := 0) (arg_free 0 rfl rfl) Try.underlying42 rfl (by kernel_rfl)) ?_
    refine ch rfl (ob_loadP (arg_op 0 0 rfl rfl rfl rfl) Try.underlying37 rfl rfl) ?_
    refine ch rfl (ob_move (arg_free 1 rfl rfl)) ?_
    refine ch rfl (ob_faP (n := 0) (arg_free 0 rfl rfl) Try.underlying42 rfl (by kernel_rfl)) ?_
    refine ch rfl (ob_loadP (arg_op 3 0 rfl rfl rfl rfl) Try.underlying37 rfl rfl) ?_
    refine ch rfl (ob_move (arg_free 1 rfl rfl)) ?_
    refine ch rfl (ob_ix (ArgOK.sl (ArgOK.val (arg_op 4 1 rfl rfl rfl rfl) ((hV101.up g149).up hs157))) (arg_op 5 0 rfl rfl rfl rfl) (hp.2.symm) ?_ Try.underlying37 szDelta) ?_
    · exact hp.1
    refine ch rfl (ob_fa_delta1 (arg_op 6 0 rfl rfl rfl rfl)) ?_
    refine ch rfl (ob_load1 (arg_op 7 0 rfl rfl rfl rfl) Try.underlying3 rfl) ?_
    refine ch rfl (ob_move (arg_free 2 rfl rfl)) ?_
    first
      | (refine ch rfl (ob_add' (arg_op 8 1 rfl rfl rfl rfl) (arg_op 9 0 rfl rfl rfl rfl) ?_) ?_; · omega)
      | refine ch rfl (ob_add (arg_op 8 1 rfl rfl rfl rfl) (arg_op 9 0 rfl rfl rfl rfl)) ?_
    refine ch rfl (ob_ixv (arg_op 1 9 rfl rfl rfl rfl) (OwnS.sl ((hV101.up g149).up hs157)) (arg_op 2 8 rfl rfl rfl rfl) (hp.2.symm) ?_ Try.underlying37 szDelta) ?_
    · exact hp.1
    refine ch rfl (ob_fa_el (arg_op 11 0 rfl rfl rfl rfl) ((hV101.up g149).up hs157) (by omega) Try.underlying84 rfl szInt) ?_
    refine ch_nil ?_
    intro a158 w159 hf160 hg161 hk162 hn163
    have h164 : Holds _ (a158.eval (.tmp 27)) w159 := hn163.at 10 2 rfl rfl rfl
    have h165 : Holds _ (a158.eval (.tmp 29)) w159 := hn163.at 12 0 rfl rfl rfl
    have h166 := hk162.holds rfl h137
    have hv167 : Holds (Is (PtrV bk11)) (a158.eval (.tmp 3)) w159 := is_any (hk162.holds rfl hv139)
    have hb168 := hb140.up hg161
    have hv169 : Holds (Is (PtrV bk53)) (a158.eval (.tmp 6)) w159 := is_any (hk162.holds rfl hv143)
    have hb170 := hb144.up hg161
    have g171 := g145.trans hg161
    have g172 : Siz w2 w159 := g146.trans hg161
    have g173 : Siz w19 w159 := g147.trans hg161
    have g174 : Siz w39 w159 := g148.trans hg161
    have g175 := g149.trans hg161
    have g176 := g151.trans hg161
    clear h137 hv139 hb140 hv143 hb144 g145 g146 g147 g148 g149 g151 hf132 hk162 hn163
    refine wl_store_fld (T := elDelta) (y := ⟨(s.cells.getD (fnd s.cells c).toNat default).cell, getL s.cells c + a⟩) (x0 := s.cells.getD (fnd s.cells c).toNat default) h165 (hV101.up g175) ?_ (by decide) h164 rfl rfl ?_ szInt ?_
    · exact getD_some hp.1
    · exact put_fld hf
    intro w177 hw178 hV179
    have g180 : Grow w0 w177 := g171.wr hw178 (by omega)
    have g181 : Siz w2 w177 := Siz.below g172.size hw178.below
    have g182 : Siz w19 w177 := Siz.below g173.size hw178.below
    have g183 : Siz w39 w177 := Siz.below g174.size hw178.below
    have h184 : Holds _ (a158.eval (.tmp 7)) w177 := is_any h166
    have hv185 : Holds (Is (PtrV bk11)) (a158.eval (.tmp 3)) w177 := is_any hv167
    have hb186 : Blk bk11 _ w177 := hb168.wr hw178 (by omega)
    have hv187 : Holds (Is (PtrV bk53)) (a158.eval (.tmp 6)) w177 := is_any hv169
    have hb188 : Blk bk53 _ w177 := hb170.wr hw178 (by omega)
    have hV189 : Holds _ V81 w177 := OwnS.wr (hV102.up g175) hw178 rfl
    have hV190 : Holds _ V82 w177 := OwnS.wr (hV103.up g175) hw178 rfl
    have hV191 : Holds _ V83 w177 := OwnS.wr (hV104.up g175) hw178 rfl
    refine wpList_nil ?_
    refine then_ ?_
    refine wp_seq ?_
    refine wp_seq ?_
    refine wp_region_lit ?_
    refine wp_all [([3], []), ([], [0]), ([7], []), ([], [1, 2]), ([], [3]), ([], [4]), ([], [5])] [3, 6, 7] w39.heap.size hf160 g183.size (by kernel_rfl) (bund_cons (hb186.ownp hv185) (bund_cons h184 bund_nil)) ?_
    refine ch rfl (ob_faP (n := 0) (arg_free 0 rfl rfl) Try.underlying42 rfl (by kernel_rfl)) ?_
    refine ch rfl (ob_loadP (arg_op 0 0 rfl rfl rfl rfl) Try.underlying37 rfl rfl) ?_
    refine ch rfl (ob_move (arg_free 1 rfl rfl)) ?_
    refine ch rfl (ob_ix (ArgOK.sl (ArgOK.val (arg_op 1 1 rfl rfl rfl rfl) hV179)) (arg_op 2 0 rfl rfl rfl rfl) (hp.2.symm) ?_ Try.underlying37 szDelta) ?_
    · (rw [List.length_set]; exact hp.1)
    refine ch rfl (ob_fa_delta1 (arg_op 3 0 rfl rfl rfl rfl)) ?_
    refine ch rfl (ob_load1 (arg_op 4 0 rfl rfl rfl rfl) Try.underlying3 rfl) ?_
    refine ch rfl (ob_eql (arg_op 5 0 rfl rfl rfl rfl) arg_c) ?_
    refine ch_nil ?_
    intro a192 w193 hf194 hg195 hk196 hn197
    have h198 : Holds _ (a192.eval (.tmp 36)) w193 := hn197.at 6 0 rfl rfl rfl
    have h199 := hk196.holds rfl (h184.up hg195)
    have hv200 : Holds (Is (PtrV bk11)) (a192.eval (.tmp 3)) w193 := is_any (hk196.holds rfl hv185)
    have hb201 := hb186.up hg195
    have hv202 : Holds (Is (PtrV bk53)) (a192.eval (.tmp 6)) w193 := is_any (hk196.holds rfl hv187)
    have hb203 := hb188.up hg195
    have g204 := g180.trans hg195
    have g205 : Siz w2 w193 := g181.trans hg195
    have g206 : Siz w19 w193 := g182.trans hg195
    have g207 : Siz w39 w193 := g183.trans hg195
    have hV208 := hV189.up hg195
    have hV209 := hV190.up hg195
    have hV210 := hV191.up hg195
    have hV211 := hV179.up hg195
    clear h184 hv185 hb186 hv187 hb188 g180 g181 g182 g183 hf160 hk196 hn197 hg195 hV189 hV190 hV191 hV179
    refine then_ ?_
    refine wp_if h198 ?_ ?_
    · intro hc212
      try simp only [cond_norm] at hc212
      rw [set_at hp.1] at hc212; dsimp only at hc212; have hn : ¬ getL s.cells c + a ≠ 0 := (by rw [← amt_ne]; omega)
      have g213 : Grow w193 w193 := Grow.refl _
      have hl214 : bk11 < w193.heap.size := hb201.lt
      have hl215 : bk53 < w193.heap.size := hb203.lt
      have hz216 : w39.heap.size ≤ w193.heap.size := g207.size
      refine wp_calm_tail (l1 := [_, _, _, _, _, _, _, _, _]) [0, 1, 0, 7, 0, 16, 0, 64, 240, 511, 1023, 2047] [([3], []), ([], [0]), ([7], []), ([], [1, 2]), ([3], []), ([], [4]), ([7], []), ([], [6]), ([], [5, 7])] [3, 6] w193.heap.size hf194 g213.size (by kernel_rfl) (bund_cons (hb201.ownp hv200) (bund_cons h199 bund_nil)) ?_
      intro ws217 hs218
      refine ch rfl (ob_faP (n := 0) (arg_free 0 rfl rfl) Try.underlying42 rfl (by kernel_rfl)) ?_
      refine ch rfl (ob_loadP (arg_op 0 0 rfl rfl rfl rfl) Try.underlying37 rfl rfl) ?_
      refine ch rfl (ob_move (arg_free 1 rfl rfl)) ?_
      refine ch rfl (ob_slice_toC (arg_op 1 1 rfl rfl rfl rfl) (hV211.up hs218) (arg_op 2 0 rfl rfl rfl rfl) (hp.2.symm) ?_ ?_ Try.underlying37 szDelta) ?_
      · (rw [List.length_set]; omega)
      · (rw [List.length_set]; omega)
      refine ch rfl (ob_faP (n := 0) (arg_free 0 rfl rfl) Try.underlying42 rfl (by kernel_rfl)) ?_
      refine ch rfl (ob_loadP (arg_op 4 0 rfl rfl rfl rfl) Try.underlying37 rfl rfl) ?_
      refine ch rfl (ob_move (arg_free 1 rfl rfl)) ?_
      first
        | (refine ch rfl (ob_add' (arg_op 6 0 rfl rfl rfl rfl) arg_c ?_) ?_; · omega)
        | refine ch rfl (ob_add (arg_op 6 0 rfl rfl rfl rfl) arg_c) ?_
      refine ch rfl (ob_slice_from (ArgOK.sl (ArgOK.val (arg_op 5 2 rfl rfl rfl rfl) (hV211.up hs218))) (arg_op 7 0 rfl rfl rfl rfl) ((show _ = (((fnd s.cells c).toNat + 1 : Nat) : Int) by omega)) ?_ Try.underlying37 szDelta) ?_
      · (rw [List.length_set]; omega)
      refine ch_nil ?_
      intro a219 w220 hf221 hg222 hk223 hn224
      have h225 : Holds _ (a219.eval (.tmp 40)) w220 := hn224.at 3 5 rfl rfl rfl
      have h226 : Holds _ (a219.eval (.tmp 45)) w220 := hn224.at 8 0 rfl rfl rfl
      have hv227 : Holds (Is (PtrV bk11)) (a219.eval (.tmp 3)) w220 := is_any (hk223.holds rfl hv200)
      have hb228 := hb201.up hg222
      have hv229 : Holds (Is (PtrV bk53)) (a219.eval (.tmp 6)) w220 := is_any (hk223.holds rfl hv202)
      have hb230 := hb203.up hg222
      have g231 := g204.trans hg222
      have g232 : Siz w2 w220 := g205.trans hg222
      have g233 : Siz w19 w220 := g206.trans hg222
      have g234 : Siz w39 w220 := g207.trans hg222
      have g235 := g213.trans hg222
      clear hv200 hb201 hv202 hb203 g204 g205 g206 g207 g213 hf194 hk223 hn224
      obtain ⟨V236, h237, hV238⟩ := nameV h225
      clear h225
      obtain ⟨V239, h240, hV241⟩ := nameV h226
      clear h226
      refine wl_appendC elDeltaP [3, 6] hf221 (by kernel_rfl) rfl Try.underlying37 (unV h237 hV238) (unV h240 hV241) ?_ g234.size ?_
      · (simp only [List.length_append, List.length_take, List.length_drop, List.length_set, List.length_cons, List.length_nil, maxLen, elDelta]; omega)
      intro a242 w243 hf244 hw245 hk246 h247
      have g248 : Grow w0 w243 := g231.wr hw245 (by omega)
      have g249 : Siz w2 w243 := Siz.below g232.size hw245.below
      have g250 : Siz w19 w243 := Siz.below g233.size hw245.below
      have g251 : Siz w39 w243 := Siz.below g234.size hw245.below
      have g252 : Siz w193 w243 := Siz.below g235.size hw245.below
      have hv253 : Holds (Is (PtrV bk11)) (a242.eval (.tmp 3)) w243 := is_any (hk246.holds rfl hv227)
      have hb254 : Blk bk11 _ w243 := hb228.wr hw245 (by omega)
      have hv255 : Holds (Is (PtrV bk53)) (a242.eval (.tmp 6)) w243 := is_any (hk246.holds rfl hv229)
      have hb256 : Blk bk53 _ w243 := hb230.wr hw245 (by omega)
      have hV257 : Holds _ V81 w243 := OwnS.wr (hV208.up g235) hw245 rfl
      have hV258 : Holds _ V82 w243 := OwnS.wr (hV209.up g235) hw245 rfl
      have hV259 : Holds _ V83 w243 := OwnS.wr (hV210.up g235) hw245 rfl
      obtain ⟨V260, h261, hV262⟩ := nameV h247
      clear h247
      refine wp_seg (l1 := [_]) [([3], [])] [3, 6, 46] w193.heap.size hf244 g252.size (by kernel_rfl) (bund_cons (hb254.ownp hv253) bund_nil) ?_
      refine ch rfl (ob_faP (n := 0) (arg_free 0 rfl rfl) Try.underlying42 rfl (by kernel_rfl)) ?_
      refine ch_nil ?_
      intro a263 w264 hf265 hg266 hk267 hn268
      have h269 : Holds _ (a263.eval (.tmp 47)) w264 := hn268.at 0 0 rfl rfl rfl
      have h270 := hk267.holds rfl (h261.up hg266)
      have hv271 : Holds (Is (PtrV bk11)) (a263.eval (.tmp 3)) w264 := is_any (hk267.holds rfl hv253)
      have hb272 := hb254.up hg266
      have hv273 : Holds (Is (PtrV bk53)) (a263.eval (.tmp 6)) w264 := is_any (hk267.holds rfl hv255)
      have hb274 := hb256.up hg266
      have g275 := g248.trans hg266
      have g276 : Siz w2 w264 := g249.trans hg266
      have g277 : Siz w19 w264 := g250.trans hg266
      have g278 : Siz w39 w264 := g251.trans hg266
      have g279 : Siz w193 w264 := g252.trans hg266
      have hV280 := hV257.up hg266
      have hV281 := hV258.up hg266
      have hV282 := hV259.up hg266
      have hV283 := hV262.up hg266
      clear h261 hv253 hb254 hv255 hb256 g248 g249 g250 g251 g252 hf244 hk267 hn268 hg266 hV257 hV258 hV259 hV262
      have hV284 : Holds _ V260 w264 := OwnC.own hV283
      refine wl_store_sl h269 h270 hV284 (show 0 < 5 by decide) szDeltas ?_
      intro w285 ho286 hb287
      have hb288 : Blk bk11 (stVals V260 V81 V82 V83 _) w285 := hb287
      clear hb287
      have g289 : Grow w0 w285 := g275.only ho286 (by omega)
      have g290 : Siz w2 w285 := Siz.below g276.size ho286.below
      have g291 : Siz w19 w285 := Siz.below g277.size ho286.below
      have g292 : Siz w39 w285 := Siz.below g278.size ho286.below
      have hv294 : Holds (Is (PtrV bk11)) (a263.eval (.tmp 3)) w285 := is_any hv271
      have hv295 : Holds (Is (PtrV bk53)) (a263.eval (.tmp 6)) w285 := is_any hv273
      have hb296 : Blk bk53 _ w285 := hb274.only ho286 (by omega)
      have hV297 : Holds _ V81 w285 := OwnS.only hV280 ho286 (by omega)
      have hV298 : Holds _ V82 w285 := OwnS.only hV281 ho286 (by omega)
      have hV299 : Holds _ V83 w285 := OwnS.only hV282 ho286 (by omega)
      have hV300 : Holds _ V260 w285 := OwnS.only hV284 ho286 (by omega)
      refine wpList_nil ?_
      refine then_ ?_
      refine wp_seq ?_
      have g301 : Grow w285 w285 := Grow.refl _
      have hl302 : bk11 < w285.heap.size := hb288.lt
      have hl303 : bk53 < w285.heap.size := hb296.lt
      have hz304 : w39.heap.size ≤ w285.heap.size := g292.size
      refine wp_region_lit ?_
      refine wp_seg (l1 := [_]) [([3], [])] [6] w285.heap.size hf265 g301.size (by kernel_rfl) (bund_cons (hb288.ownp hv294) bund_nil) ?_
      refine ch rfl (ob_load_state (ArgOK.ownp (arg_free 0 rfl rfl))) ?_
      refine ch_nil ?_
      intro a305 w306 hf307 hg308 hk309 hn310
      have h311 : Holds _ (a305.eval (.tmp 48)) w306 := hn310.at 0 0 rfl rfl rfl
      have hv312 : Holds (Is (PtrV bk53)) (a305.eval (.tmp 6)) w306 := is_any (hk309.holds rfl hv295)
      have hb313 := hb296.up hg308
      have g314 := g289.trans hg308
      have g315 : Siz w2 w306 := g290.trans hg308
      have g316 : Siz w19 w306 := g291.trans hg308
      have g317 : Siz w39 w306 := g292.trans hg308
      have g318 := g301.trans hg308
      clear hv295 hb296 g289 g290 g291 g292 g301 hf265 hk309 hn310
      refine wl_store_state hv312 hb313 rfl h311 (st_oneS (OwnS.sl (hV300.up g318)) (OwnS.sl (hV297.up g318)) (OwnS.sl (hV298.up g318)) (OwnS.sl (hV299.up g318))) ?_
      intro w319 ho320 hb321
      have g322 : Grow w0 w319 := g314.only ho320 (by omega)
      have g323 : Siz w2 w319 := Siz.below g315.size ho320.below
      have g324 : Siz w19 w319 := Siz.below g316.size ho320.below
      have g325 : Siz w39 w319 := Siz.below g317.size ho320.below
      have hv327 : Holds (Is (PtrV bk53)) (a305.eval (.tmp 6)) w319 := is_any hv312
      have hV328 : Holds _ V81 w319 := OwnS.only (hV297.up g318) ho320 (by omega)
      have hV329 : Holds _ V82 w319 := OwnS.only (hV298.up g318) ho320 (by omega)
      have hV330 : Holds _ V83 w319 := OwnS.only (hV299.up g318) ho320 (by omega)
      have hV331 : Holds _ V260 w319 := OwnS.only (hV300.up g318) ho320 (by omega)
      refine wpList_nil ?_
      refine then_ ?_
      refine wp_ret ?_
      refine thenR ?_
      refine ret_cell rfl Try.underlying42 rfl (by kernel_rfl) hf307 g322 (hb321.ptr hv327) ?_
      exact sto_cast (mkO (OwnS.mono hV331 (by omega)) (OwnS.mono hV328 (by omega)) (OwnS.mono hV329 (by omega)) (OwnS.mono hV330 (by omega))) (by exact congrArg (fun l => (⟨l, s.seqs, s.locks, s.applied, s.guilty⟩ : GState)) (set_cut.trans (put_del (d := (⟨c, a⟩ : GDelta)) hf hn)))
    · intro hc212
      try simp only [cond_norm] at hc212
      rw [set_at hp.1] at hc212; dsimp only at hc212; have hn : getL s.cells c + a ≠ 0 := (by rw [← amt_ne]; omega)
      refine wp_skip ?_
      refine then_ ?_
      refine wp_seq ?_
      have g332 : Grow w193 w193 := Grow.refl _
      have hl333 : bk11 < w193.heap.size := hb201.lt
      have hl334 : bk53 < w193.heap.size := hb203.lt
      have hz335 : w39.heap.size ≤ w193.heap.size := g207.size
      refine wp_region_lit ?_
      refine wp_seg (l1 := [_]) [([3], [])] [6] w193.heap.size hf194 g332.size (by kernel_rfl) (bund_cons (hb201.ownp hv200) bund_nil) ?_
      refine ch rfl (ob_load_state (ArgOK.ownp (arg_free 0 rfl rfl))) ?_
      refine ch_nil ?_
      intro a336 w337 hf338 hg339 hk340 hn341
      have h342 : Holds _ (a336.eval (.tmp 48)) w337 := hn341.at 0 0 rfl rfl rfl
      have hv343 : Holds (Is (PtrV bk53)) (a336.eval (.tmp 6)) w337 := is_any (hk340.holds rfl hv202)
      have hb344 := hb203.up hg339
      have g345 := g204.trans hg339
      have g346 : Siz w2 w337 := g205.trans hg339
      have g347 : Siz w19 w337 := g206.trans hg339
      have g348 : Siz w39 w337 := g207.trans hg339
      have g349 := g332.trans hg339
      clear hv202 hb203 g204 g205 g206 g207 g332 hf194 hk340 hn341
      refine wl_store_state hv343 hb344 rfl h342 (st_oneS (OwnS.sl (hV211.up g349)) (OwnS.sl (hV208.up g349)) (OwnS.sl (hV209.up g349)) (OwnS.sl (hV210.up g349))) ?_
      intro w350 ho351 hb352
      have g353 : Grow w0 w350 := g345.only ho351 (by omega)
      have g354 : Siz w2 w350 := Siz.below g346.size ho351.below
      have g355 : Siz w19 w350 := Siz.below g347.size ho351.below
      have g356 : Siz w39 w350 := Siz.below g348.size ho351.below
      have hv358 : Holds (Is (PtrV bk53)) (a336.eval (.tmp 6)) w350 := is_any hv343
      have hV359 : Holds _ V81 w350 := OwnS.only (hV208.up g349) ho351 (by omega)
      have hV360 : Holds _ V82 w350 := OwnS.only (hV209.up g349) ho351 (by omega)
      have hV361 : Holds _ V83 w350 := OwnS.only (hV210.up g349) ho351 (by omega)
      have hV362 : Holds _ V80 w350 := OwnS.only (hV211.up g349) ho351 (by omega)
      refine wpList_nil ?_
      refine then_ ?_
      refine wp_ret ?_
      refine thenR ?_
      refine ret_cell rfl Try.underlying42 rfl (by kernel_rfl) hf338 g353 (hb352.ptr hv358) ?_
      exact sto_cast (mkO (OwnS.mono hV362 (by omega)) (OwnS.mono hV359 (by omega)) (OwnS.mono hV360 (by omega)) (OwnS.mono hV361 (by omega))) (by exact congrArg (fun l => (⟨l, s.seqs, s.locks, s.applied, s.guilty⟩ : GState)) (put_set (d := (⟨c, a⟩ : GDelta)) hf hn))
  · intro hc150
    try simp only [cond_norm] at hc150
    have hf : ¬ 0 ≤ fnd s.cells c := hc150
    refine wp_skip ?_
    refine then_ ?_
    refine wp_seq ?_
    refine wp_seq ?_
    refine wp_region_lit ?_
    refine wp_all [([2], []), ([], [0])] [2, 3, 4, 6] w89.heap.size hf132 g149.size (by kernel_rfl) (bund_cons (is_any h138) bund_nil) ?_
    refine ch rfl (ob_move (arg_free 0 rfl rfl)) ?_
    refine ch rfl (ob_eql (arg_op 0 0 rfl rfl rfl rfl) arg_c) ?_
    refine ch_nil ?_
    intro a363 w364 hf365 hg366 hk367 hn368
    have h369 : Holds _ (a363.eval (.tmp 50)) w364 := hn368.at 1 0 rfl rfl rfl
    have h370 := hk367.holds rfl h138
    have hv371 : Holds (Is (PtrV bk11)) (a363.eval (.tmp 3)) w364 := is_any (hk367.holds rfl hv139)
    have hb372 := hb140.up hg366
    have hv373 : Holds (Is (PtrV bk30)) (a363.eval (.tmp 4)) w364 := is_any (hk367.holds rfl hv141)
    have hb374 := hb142.up hg366
    have hv375 : Holds (Is (PtrV bk53)) (a363.eval (.tmp 6)) w364 := is_any (hk367.holds rfl hv143)
    have hb376 := hb144.up hg366
    have g377 := g145.trans hg366
    have g378 : Siz w2 w364 := g146.trans hg366
    have g379 : Siz w19 w364 := g147.trans hg366
    have g380 : Siz w39 w364 := g148.trans hg366
    have g381 := g149.trans hg366
    clear h138 hv139 hb140 hv141 hb142 hv143 hb144 g145 g146 g147 g148 g149 hf132 hk367 hn368 hg366
    refine then_ ?_
    refine wp_if h369 ?_ ?_
    · intro hc382
      try simp only [cond_norm] at hc382
      have hn : ¬ getL s.cells c + a ≠ 0 := (by rw [getL_zero hf, Int64.zero_add, ← amt_ne]; omega)
      refine wp_seq ?_
      have g383 : Grow w364 w364 := Grow.refl _
      have hl384 : bk11 < w364.heap.size := hb372.lt
      have hl385 : bk30 < w364.heap.size := hb374.lt
      have hl386 : bk53 < w364.heap.size := hb376.lt
      have hz387 : w89.heap.size ≤ w364.heap.size := g381.size
      refine wp_region_lit ?_
      refine wp_seg (l1 := [_]) [([3], [])] [6] w364.heap.size hf365 g383.size (by kernel_rfl) (bund_cons (hb372.ownp hv371) bund_nil) ?_
      refine ch rfl (ob_load_state (ArgOK.ownp (arg_free 0 rfl rfl))) ?_
      refine ch_nil ?_
      intro a388 w389 hf390 hg391 hk392 hn393
      have h394 : Holds _ (a388.eval (.tmp 51)) w389 := hn393.at 0 0 rfl rfl rfl
      have hv395 : Holds (Is (PtrV bk53)) (a388.eval (.tmp 6)) w389 := is_any (hk392.holds rfl hv375)
      have hb396 := hb376.up hg391
      have g397 := g377.trans hg391
      have g398 : Siz w2 w389 := g378.trans hg391
      have g399 : Siz w19 w389 := g379.trans hg391
      have g400 : Siz w39 w389 := g380.trans hg391
      have g401 := g381.trans hg391
      have g402 := g383.trans hg391
      clear hv375 hb376 g377 g378 g379 g380 g381 g383 hf365 hk392 hn393
      refine wl_store_state hv395 hb396 rfl h394 (st_oneS (OwnS.sl (hV101.up g401)) (OwnS.sl (hV102.up g401)) (OwnS.sl (hV103.up g401)) (OwnS.sl (hV104.up g401))) ?_
      intro w403 ho404 hb405
      have g406 : Grow w0 w403 := g397.only ho404 (by omega)
      have g407 : Siz w2 w403 := Siz.below g398.size ho404.below
      have g408 : Siz w19 w403 := Siz.below g399.size ho404.below
      have g409 : Siz w39 w403 := Siz.below g400.size ho404.below
      have hv412 : Holds (Is (PtrV bk53)) (a388.eval (.tmp 6)) w403 := is_any hv395
      have hV413 : Holds _ V80 w403 := OwnS.only (hV101.up g401) ho404 (by omega)
      have hV414 : Holds _ V81 w403 := OwnS.only (hV102.up g401) ho404 (by omega)
      have hV415 : Holds _ V82 w403 := OwnS.only (hV103.up g401) ho404 (by omega)
      have hV416 : Holds _ V83 w403 := OwnS.only (hV104.up g401) ho404 (by omega)
      refine wpList_nil ?_
      refine then_ ?_
      refine wp_ret ?_
      refine thenR ?_
      refine ret_cell rfl Try.underlying42 rfl (by kernel_rfl) hf390 g406 (hb405.ptr hv412) ?_
      exact sto_cast (mkO (OwnS.mono hV413 (by omega)) (OwnS.mono hV414 (by omega)) (OwnS.mono hV415 (by omega)) (OwnS.mono hV416 (by omega))) (by exact congrArg (fun l => (⟨l, s.seqs, s.locks, s.applied, s.guilty⟩ : GState)) (put_none (d := (⟨c, a⟩ : GDelta)) hf hn))
    · intro hc382
      try simp only [cond_norm] at hc382
      have hn : getL s.cells c + a ≠ 0 := (by rw [getL_zero hf, Int64.zero_add, ← amt_ne]; omega)
      refine wp_skip ?_
      refine then_ ?_
      refine wp_seq ?_
      refine wp_region_lit ?_
      refine wp_all [([], [])] [2, 3, 4, 6] w89.heap.size hf365 g381.size (by kernel_rfl) bund_nil ?_
      refine ch rfl (ob_assign arg_c) ?_
      refine ch_nil ?_
      intro a417 w418 hf419 hg420 hk421 hn422
      have h423 : Holds _ (a417.eval (.tmp 8)) w418 := hn422.at 0 0 rfl rfl rfl
      have h424 := hk421.holds rfl h370
      have hv425 : Holds (Is (PtrV bk11)) (a417.eval (.tmp 3)) w418 := is_any (hk421.holds rfl hv371)
      have hb426 := hb372.up hg420
      have hv427 : Holds (Is (PtrV bk30)) (a417.eval (.tmp 4)) w418 := is_any (hk421.holds rfl hv373)
      have hb428 := hb374.up hg420
      have hv429 : Holds (Is (PtrV bk53)) (a417.eval (.tmp 6)) w418 := is_any (hk421.holds rfl hv375)
      have hb430 := hb376.up hg420
      have g431 := g377.trans hg420
      have g432 : Siz w2 w418 := g378.trans hg420
      have g433 : Siz w19 w418 := g379.trans hg420
      have g434 : Siz w39 w418 := g380.trans hg420
      have g435 := g381.trans hg420
      clear h370 hv371 hb372 hv373 hb374 hv375 hb376 g377 g378 g379 g380 g381 hf365 hk421 hn422 hg420
      refine then_ ?_
      refine wp_seq ?_
      refine wp_block ?_
      have g436 : Grow w418 w418 := Grow.refl _
      have hl437 : bk11 < w418.heap.size := hb426.lt
      have hl438 : bk30 < w418.heap.size := hb428.lt
      have hl439 : bk53 < w418.heap.size := hb430.lt
      have hz440 : w89.heap.size ≤ w418.heap.size := g435.size
      refine wp_loopL (α := Nat) (fun i a' w' => Fr 90 a' ∧ (i ≤ s.cells.length) ∧ (∀ j, j < i → ¬ 0 < cmpD (s.cells.getD j default) (⟨c, a⟩ : GDelta)) ∧ Grow w0 w' ∧ Siz w2 w' ∧ Siz w19 w' ∧ Siz w39 w' ∧ Grow w89 w' ∧ Grow w418 w' ∧ Keep [2, 3, 4, 6] a417 a' ∧ Holds (Is (intV (i : Int))) (a'.eval (.tmp 8)) w' ∧ Blk bk11 (_) w' ∧ Blk bk30 (_) w' ∧ Blk bk53 (_) w') (fun i => s.cells.length - i) (0) ⟨hf419, (by omega), (by exact fun j hj => absurd hj (Nat.not_lt_zero j)), g431, g432.size, g433.size, g434.size, g435, g436, Keep.refl _ _, (is_cast h423 (by first | rfl | (refine congrArg intV ?_; (try dsimp only); omega))), hb426, hb428, hb430⟩ ?_
      intro i a441 w442 ⟨hf443, hi445, hi446, g447, g448, g449, g450, g451, g452, kk444, h453, hb454, hb455, hb456⟩
      have h457 := kk444.holds rfl h424
      have hv458 : Holds (Is (PtrV bk11)) (a441.eval (.tmp 3)) w442 := is_any (kk444.holds rfl hv425)
      have hv459 : Holds (Is (PtrV bk30)) (a441.eval (.tmp 4)) w442 := is_any (kk444.holds rfl hv427)
      have hv460 : Holds (Is (PtrV bk53)) (a441.eval (.tmp 6)) w442 := is_any (kk444.holds rfl hv429)
      refine wp_seq ?_
      refine wp_seq ?_
      have g461 : Grow w442 w442 := Grow.refl _
      have hl462 : bk11 < w442.heap.size := hb454.lt
      have hl463 : bk30 < w442.heap.size := hb455.lt
      have hl464 : bk53 < w442.heap.size := hb456.lt
      have hz465 : w418.heap.size ≤ w442.heap.size := g452.size
      refine wp_calm [0, 0, 2, 6, 15, 31, 63, 127, 63, 511, 1023, 2047, 63, 8191, 16383, 32767] [([8], []), ([3], []), ([], [1]), ([], [2]), ([], [0, 3]), ([], [4]), ([3], [5]), ([], [6, 5]), ([8], [5]), ([], [7, 8, 5]), ([], [9, 5]), ([], [10, 5]), ([4], [5]), ([], [11, 12, 5]), ([], [13, 5]), ([], [5, 14])] [2, 3, 4, 6, 8] w442.heap.size hf443 g461.size (by kernel_rfl) (bund_cons h453 (bund_cons (hb454.ownp hv458) (bund_cons (hb455.ownp hv459) bund_nil))) ?_
      intro ws466 hs467
      refine ch rfl (ob_move (arg_free 0 rfl rfl)) ?_
      refine ch rfl (ob_faP (n := 0) (arg_free 1 rfl rfl) Try.underlying42 rfl (by kernel_rfl)) ?_
      refine ch rfl (ob_loadP (arg_op 1 0 rfl rfl rfl rfl) Try.underlying37 rfl rfl) ?_
      refine ch rfl (ob_len (ArgOK.sl (ArgOK.val (arg_op 2 0 rfl rfl rfl rfl) ((hV101.up g451).up hs467))) Try.underlying37) ?_
      refine ch rfl (ob_lss (arg_op 0 3 rfl rfl rfl rfl) (arg_op 3 0 rfl rfl rfl rfl)) ?_
      refine ch rfl (ob_move (arg_op 4 0 rfl rfl rfl rfl)) ?_
      refine chg (b := _) rfl rfl (arg_op 5 0 rfl rfl rfl rfl) (fun hb5 => ob_faP (n := 0) (arg_free 1 rfl rfl) Try.underlying42 rfl (by kernel_rfl)) ?_
      refine chg (b := _) rfl rfl (arg_op 5 1 rfl rfl rfl rfl) (fun hb5 => ob_loadP (ArgOK.when (arg_op 6 0 rfl rfl rfl rfl) hb5) Try.underlying37 rfl rfl) ?_
      refine chg (b := _) rfl rfl (arg_op 5 2 rfl rfl rfl rfl) (fun hb5 => ob_move (arg_free 0 rfl rfl)) ?_
      refine chg (b := _) rfl rfl (arg_op 5 3 rfl rfl rfl rfl) (fun hb5 => ob_ix (ArgOK.sl (ArgOK.val (ArgOK.when (arg_op 7 1 rfl rfl rfl rfl) hb5) ((hV101.up g451).up hs467))) (ArgOK.when (arg_op 8 0 rfl rfl rfl rfl) hb5) (rfl) ?_ Try.underlying37 szDelta) ?_
      · (have hq := of_decide_eq_true hb5; omega)
      refine chg (b := _) rfl rfl (arg_op 5 4 rfl rfl rfl rfl) (fun hb5 => ob_fa_delta0 (ArgOK.when (arg_op 9 0 rfl rfl rfl rfl) hb5)) ?_
      refine chg (b := _) rfl rfl (arg_op 5 5 rfl rfl rfl rfl) (fun hb5 => ob_load_cell (ArgOK.when (arg_op 10 0 rfl rfl rfl rfl) hb5)) ?_
      refine chg (b := _) rfl rfl (arg_op 5 6 rfl rfl rfl rfl) (fun hb5 => ob_load_cell (ArgOK.ownp (arg_free 2 rfl rfl))) ?_
      refine chg (b := _) rfl rfl (arg_op 5 7 rfl rfl rfl rfl) (fun hb5 => ob_call2 (by kernel_rfl) (c_rcmpC) (ArgOK.when (arg_op 11 1 rfl rfl rfl rfl) hb5) (ArgOK.when (arg_op 12 0 rfl rfl rfl rfl) hb5)) ?_
      refine chg (b := _) rfl rfl (arg_op 5 8 rfl rfl rfl rfl) (fun hb5 => ob_leq (ArgOK.when (arg_op 13 0 rfl rfl rfl rfl) hb5) arg_c) ?_
      refine ch rfl (ob_and (arg_op 5 9 rfl rfl rfl rfl) (arg_op 14 0 rfl rfl rfl rfl)) ?_
      refine ch_nil ?_
      intro a468 w469 hf470 hg471 hk472 hn473
      have h474 : Holds _ (a468.eval (.tmp 67)) w469 := hn473.at 15 0 rfl rfl rfl
      have h475 := hk472.holds rfl h453
      have h476 := hk472.holds rfl h457
      have hv477 : Holds (Is (PtrV bk11)) (a468.eval (.tmp 3)) w469 := is_any (hk472.holds rfl hv458)
      have hb478 := hb454.up hg471
      have hv479 : Holds (Is (PtrV bk30)) (a468.eval (.tmp 4)) w469 := is_any (hk472.holds rfl hv459)
      have hb480 := hb455.up hg471
      have hv481 : Holds (Is (PtrV bk53)) (a468.eval (.tmp 6)) w469 := is_any (hk472.holds rfl hv460)
      have hb482 := hb456.up hg471
      have g483 := g447.trans hg471
      have g484 : Siz w2 w469 := g448.trans hg471
      have g485 : Siz w19 w469 := g449.trans hg471
      have g486 : Siz w39 w469 := g450.trans hg471
      have g487 := g451.trans hg471
      have g488 := g452.trans hg471
      have g489 := g461.trans hg471
      have kk490 : Keep _ a417 a468 := kk444.trans hk472 rfl
      clear h453 h457 hv458 hb454 hv459 hb455 hv460 hb456 g447 g448 g449 g450 g451 g452 g461 kk444 hf443 hk472 hn473
      refine then_ ?_
      refine wp_if h474 ?_ ?_
      · intro hc491
        try simp only [cond_norm] at hc491
        obtain ⟨hlt, hle⟩ := hc491
        refine wp_skip ?_
        refine then_ ?_
        refine wp_block ?_
        refine wp_region_lit ?_
        refine wp_all [([8], []), ([], [0]), ([], [1])] [2, 3, 4, 6] w442.heap.size hf470 g489.size (by kernel_rfl) (bund_cons (is_any h475) bund_nil) ?_
        refine ch rfl (ob_move (arg_free 0 rfl rfl)) ?_
        first
          | (refine ch rfl (ob_add' (arg_op 0 0 rfl rfl rfl rfl) arg_c ?_) ?_; · omega)
          | refine ch rfl (ob_add (arg_op 0 0 rfl rfl rfl rfl) arg_c) ?_
        refine ch rfl (ob_assign (arg_op 1 0 rfl rfl rfl rfl)) ?_
        refine ch_nil ?_
        intro a492 w493 hf494 hg495 hk496 hn497
        have h498 : Holds _ (a492.eval (.tmp 8)) w493 := hn497.at 2 0 rfl rfl rfl
        have h499 := hk496.holds rfl h476
        have hv500 : Holds (Is (PtrV bk11)) (a492.eval (.tmp 3)) w493 := is_any (hk496.holds rfl hv477)
        have hb501 := hb478.up hg495
        have hv502 : Holds (Is (PtrV bk30)) (a492.eval (.tmp 4)) w493 := is_any (hk496.holds rfl hv479)
        have hb503 := hb480.up hg495
        have hv504 : Holds (Is (PtrV bk53)) (a492.eval (.tmp 6)) w493 := is_any (hk496.holds rfl hv481)
        have hb505 := hb482.up hg495
        have g506 := g483.trans hg495
        have g507 : Siz w2 w493 := g484.trans hg495
        have g508 : Siz w19 w493 := g485.trans hg495
        have g509 : Siz w39 w493 := g486.trans hg495
        have g510 := g487.trans hg495
        have g511 := g488.trans hg495
        have g512 := g489.trans hg495
        have kk513 : Keep _ a417 a492 := kk490.trans hk496 rfl
        clear h476 hv477 hb478 hv479 hb480 hv481 hb482 g483 g484 g485 g486 g487 g488 g489 kk490 hf470 hk496 hn497 hg495
        refine blockN ?_
        refine then_ ?_
        exact ⟨(i + 1), (by ((try dsimp only); omega)), hf494, (by omega), (by exact le_step (by assumption) hle), g506, g507.size, g508.size, g509.size, g510, g511, kk513, (is_cast h498 (by first | rfl | (refine congrArg intV ?_; (try dsimp only); omega))), hb501, hb503, hb505⟩
      · intro hc491
        try simp only [cond_norm] at hc491
        have hb := befG_hit (c := cmpD) (l := s.cells) (x := (⟨c, a⟩ : GDelta)) (i := i) (by assumption) (by omega) (hc491.imp id Int.not_le.1)
        refine wp_exit ?_
        refine thenX ?_
        refine thenX ?_
        refine blockX ?_
        refine then_ ?_
        refine wp_seq ?_
        have g514 : Grow w469 w469 := Grow.refl _
        have hl515 : bk11 < w469.heap.size := hb478.lt
        have hl516 : bk30 < w469.heap.size := hb480.lt
        have hl517 : bk53 < w469.heap.size := hb482.lt
        have hz518 : w442.heap.size ≤ w469.heap.size := g489.size
        refine wp_region_lit ?_
        refine wp_all [([], []), ([3], []), ([], [1]), ([8], []), ([], [2, 3]), ([], [0, 4]), ([], [5])] [2, 3, 4, 6, 8] w469.heap.size hf470 g514.size (by kernel_rfl) (bund_cons (hb478.ownp hv477) (bund_cons (is_any h475) bund_nil)) ?_
        refine ch rfl (ob_bs0_delta ) ?_
        refine ch rfl (ob_faP (n := 0) (arg_free 0 rfl rfl) Try.underlying42 rfl (by kernel_rfl)) ?_
        refine ch rfl (ob_loadP (arg_op 1 0 rfl rfl rfl rfl) Try.underlying37 rfl rfl) ?_
        refine ch rfl (ob_move (arg_free 1 rfl rfl)) ?_
        refine ch rfl (ob_slice_to (ArgOK.sl (ArgOK.val (arg_op 2 1 rfl rfl rfl rfl) (hV101.up g487))) (arg_op 3 0 rfl rfl rfl rfl) (rfl) ?_ Try.underlying37 szDelta) ?_
        · omega
        refine ch rfl (ob_append_fresh elDeltaP Try.underlying37 (arg_op 0 4 rfl rfl rfl rfl) (arg_op 4 0 rfl rfl rfl rfl) ?_) ?_
        · (refine ⟨?_, ?_⟩ <;> (simp only [List.length_append, List.length_take, List.length_drop, List.length_set, List.length_cons, List.length_nil, maxLen, elDelta]; omega))
        refine ch rfl (ob_assign (arg_op 5 0 rfl rfl rfl rfl)) ?_
        refine ch_nil ?_
        intro a519 w520 hf521 hg522 hk523 hn524
        have h525 : Holds (OwnS w469.heap.size _ _) (a519.eval (.tmp 9)) w520 := hn524.at 6 0 rfl rfl rfl
        have h526 := hk523.holds rfl h475
        have h527 := hk523.holds rfl h476
        have hv528 : Holds (Is (PtrV bk11)) (a519.eval (.tmp 3)) w520 := is_any (hk523.holds rfl hv477)
        have hb529 := hb478.up hg522
        have hv530 : Holds (Is (PtrV bk30)) (a519.eval (.tmp 4)) w520 := is_any (hk523.holds rfl hv479)
        have hb531 := hb480.up hg522
        have hv532 : Holds (Is (PtrV bk53)) (a519.eval (.tmp 6)) w520 := is_any (hk523.holds rfl hv481)
        have hb533 := hb482.up hg522
        have g534 := g483.trans hg522
        have g535 : Siz w2 w520 := g484.trans hg522
        have g536 : Siz w19 w520 := g485.trans hg522
        have g537 : Siz w39 w520 := g486.trans hg522
        have g538 := g487.trans hg522
        have g539 := g488.trans hg522
        have g540 := g489.trans hg522
        have g541 := g514.trans hg522
        clear h475 h476 hv477 hb478 hv479 hb480 hv481 hb482 g483 g484 g485 g486 g487 g488 g489 g514 hf470 hk523 hn524
        obtain ⟨V542, h543, hV544⟩ := nameV h525
        clear h525
        refine then_ ?_
        refine wp_seq ?_
        have g545 : Grow w520 w520 := Grow.refl _
        have hl546 : bk11 < w520.heap.size := hb529.lt
        have hl547 : bk30 < w520.heap.size := hb531.lt
        have hl548 : bk53 < w520.heap.size := hb533.lt
        have hz549 : w469.heap.size ≤ w520.heap.size := g541.size
        refine wp_region_lit ?_
        refine wp_seg (l1 := [_, _, _, _, _]) [([9], []), ([4], []), ([2], []), ([], [1, 2]), ([], [3])] [3, 6, 8, 9] w520.heap.size hf521 g545.size (by kernel_rfl) (bund_cons h543 (bund_cons (hb531.ownp hv530) (bund_cons (is_any h527) bund_nil))) ?_
        refine ch rfl (ob_move (arg_free 0 rfl rfl)) ?_
        refine ch rfl (ob_load_cell (ArgOK.ownp (arg_free 1 rfl rfl))) ?_
        refine ch rfl (ob_move (arg_free 2 rfl rfl)) ?_
        refine ch rfl (ob_build_delta (a) (arg_op 1 1 rfl rfl rfl rfl) (arg_op 2 0 rfl rfl rfl rfl) ?_) ?_
        · rfl
        refine ch rfl (ob_bs1_delta (arg_op 3 0 rfl rfl rfl rfl)) ?_
        refine ch_nil ?_
        intro a550 w551 hf552 hg553 hk554 hn555
        have h556 : Holds _ (a550.eval (.tmp 76)) w551 := hn555.at 0 4 rfl rfl rfl
        have h557 : Holds (OwnF w520.heap.size _ _) (a550.eval (.tmp 80)) w551 := hn555.at 4 0 rfl rfl rfl
        have h558 := hk554.holds rfl h543
        have h559 := hk554.holds rfl h526
        have hv560 : Holds (Is (PtrV bk11)) (a550.eval (.tmp 3)) w551 := is_any (hk554.holds rfl hv528)
        have hb561 := hb529.up hg553
        have hv562 : Holds (Is (PtrV bk53)) (a550.eval (.tmp 6)) w551 := is_any (hk554.holds rfl hv532)
        have hb563 := hb533.up hg553
        have g564 := g534.trans hg553
        have g565 : Siz w2 w551 := g535.trans hg553
        have g566 : Siz w19 w551 := g536.trans hg553
        have g567 : Siz w39 w551 := g537.trans hg553
        have g568 := g538.trans hg553
        have g569 := g539.trans hg553
        have g570 := g540.trans hg553
        have g571 := g541.trans hg553
        have g572 := g545.trans hg553
        clear h543 h526 hv528 hb529 hv532 hb533 g534 g535 g536 g537 g538 g539 g540 g541 g545 hf521 hk554 hn555
        obtain ⟨V573, h574, hV575⟩ := nameV h557
        clear h557
        refine wl_appendW elDeltaP [3, 6, 8, 9] hf552 (by kernel_rfl) rfl Try.underlying37 (unV h556 (hV544.up g572)) (OwnS.sl (OwnF.own (unV h574 hV575))) ?_ ?_ g571.size ?_
        · (simp only [List.length_append, List.length_take, List.length_drop, List.length_set, List.length_cons, List.length_nil, maxLen, elDelta]; omega)
        · (simp only [List.length_append, List.length_take, List.length_drop, List.length_set, List.length_cons, List.length_nil, maxLen, elDelta]; omega)
        intro a576 w577 hf578 hw579 hk580 h581
        have g582 : Grow w0 w577 := g564.wr hw579 (by omega)
        have g583 : Siz w2 w577 := Siz.below g565.size hw579.below
        have g584 : Siz w19 w577 := Siz.below g566.size hw579.below
        have g585 : Siz w39 w577 := Siz.below g567.size hw579.below
        have g586 : Grow w89 w577 := g568.wr hw579 (by omega)
        have g587 : Grow w418 w577 := g569.wr hw579 (by omega)
        have g588 : Grow w442 w577 := g570.wr hw579 (by omega)
        have g589 : Grow w469 w577 := g571.wr hw579 (by omega)
        have g590 : Siz w520 w577 := Siz.below g572.size hw579.below
        have h591 : Holds _ (a576.eval (.tmp 9)) w577 := is_any (hk580.holds rfl h558)
        have h592 : Holds _ (a576.eval (.tmp 8)) w577 := is_any (hk580.holds rfl h559)
        have hv593 : Holds (Is (PtrV bk11)) (a576.eval (.tmp 3)) w577 := is_any (hk580.holds rfl hv560)
        have hb594 : Blk bk11 _ w577 := hb561.wr hw579 (by omega)
        have hv595 : Holds (Is (PtrV bk53)) (a576.eval (.tmp 6)) w577 := is_any (hk580.holds rfl hv562)
        have hb596 : Blk bk53 _ w577 := hb563.wr hw579 (by omega)
        obtain ⟨V597, h598, hV599⟩ := nameV h581
        clear h581
        refine wp_all [([81], [])] [3, 6, 8] w520.heap.size hf578 g590.size (by kernel_rfl) (bund_cons h598 bund_nil) ?_
        refine ch rfl (ob_assign (arg_free 0 rfl rfl)) ?_
        refine ch_nil ?_
        intro a600 w601 hf602 hg603 hk604 hn605
        have h606 : Holds _ (a600.eval (.tmp 9)) w601 := hn605.at 0 0 rfl rfl rfl
        have h607 := hk604.holds rfl (h592.up hg603)
        have hv608 : Holds (Is (PtrV bk11)) (a600.eval (.tmp 3)) w601 := is_any (hk604.holds rfl hv593)
        have hb609 := hb594.up hg603
        have hv610 : Holds (Is (PtrV bk53)) (a600.eval (.tmp 6)) w601 := is_any (hk604.holds rfl hv595)
        have hb611 := hb596.up hg603
        have g612 := g582.trans hg603
        have g613 : Siz w2 w601 := g583.trans hg603
        have g614 : Siz w19 w601 := g584.trans hg603
        have g615 : Siz w39 w601 := g585.trans hg603
        have g616 := g586.trans hg603
        have g617 := g587.trans hg603
        have g618 := g588.trans hg603
        have g619 := g589.trans hg603
        have g620 : Siz w520 w601 := g590.trans hg603
        have hV621 := hV599.up hg603
        clear h592 hv593 hb594 hv595 hb596 g582 g583 g584 g585 g586 g587 g588 g589 g590 hf578 hk604 hn605 hg603 hV599
        refine then_ ?_
        refine wp_seq ?_
        have g622 : Grow w601 w601 := Grow.refl _
        have hl623 : bk11 < w601.heap.size := hb609.lt
        have hl624 : bk53 < w601.heap.size := hb611.lt
        have hz625 : w520.heap.size ≤ w601.heap.size := g620.size
        refine wp_region_lit ?_
        refine wp_seg (l1 := [_, _, _, _, _]) [([9], []), ([3], []), ([], [1]), ([8], []), ([], [2, 3])] [3, 6] w601.heap.size hf602 g622.size (by kernel_rfl) (bund_cons h606 (bund_cons (hb609.ownp hv608) (bund_cons h607 bund_nil))) ?_
        refine ch rfl (ob_move (arg_free 0 rfl rfl)) ?_
        refine ch rfl (ob_faP (n := 0) (arg_free 1 rfl rfl) Try.underlying42 rfl (by kernel_rfl)) ?_
        refine ch rfl (ob_loadP (arg_op 1 0 rfl rfl rfl rfl) Try.underlying37 rfl rfl) ?_
        refine ch rfl (ob_move (arg_free 2 rfl rfl)) ?_
        refine ch rfl (ob_slice_from (ArgOK.sl (ArgOK.val (arg_op 2 1 rfl rfl rfl rfl) (hV101.up g616))) (arg_op 3 0 rfl rfl rfl rfl) (rfl) ?_ Try.underlying37 szDelta) ?_
        · omega
        refine ch_nil ?_
        intro a626 w627 hf628 hg629 hk630 hn631
        have h632 : Holds _ (a626.eval (.tmp 82)) w627 := hn631.at 0 4 rfl rfl rfl
        have h633 : Holds _ (a626.eval (.tmp 86)) w627 := hn631.at 4 0 rfl rfl rfl
        have hv634 : Holds (Is (PtrV bk11)) (a626.eval (.tmp 3)) w627 := is_any (hk630.holds rfl hv608)
        have hb635 := hb609.up hg629
        have hv636 : Holds (Is (PtrV bk53)) (a626.eval (.tmp 6)) w627 := is_any (hk630.holds rfl hv610)
        have hb637 := hb611.up hg629
        have g638 := g612.trans hg629
        have g639 : Siz w2 w627 := g613.trans hg629
        have g640 : Siz w19 w627 := g614.trans hg629
        have g641 : Siz w39 w627 := g615.trans hg629
        have g642 := g616.trans hg629
        have g643 := g617.trans hg629
        have g644 := g618.trans hg629
        have g645 := g619.trans hg629
        have g646 : Siz w520 w627 := g620.trans hg629
        have g647 := g622.trans hg629
        clear hv608 hb609 hv610 hb611 g612 g613 g614 g615 g616 g617 g618 g619 g620 g622 hf602 hk630 hn631
        obtain ⟨V648, h649, hV650⟩ := nameV h633
        clear h633
        refine wl_appendW elDeltaP [3, 6] hf628 (by kernel_rfl) rfl Try.underlying37 (unV h632 (hV621.up g647)) (unV h649 hV650) ?_ ?_ g645.size ?_
        · (simp only [List.length_append, List.length_take, List.length_drop, List.length_set, List.length_cons, List.length_nil, maxLen, elDelta]; omega)
        · (simp only [List.length_append, List.length_take, List.length_drop, List.length_set, List.length_cons, List.length_nil, maxLen, elDelta]; omega)
        intro a651 w652 hf653 hw654 hk655 h656
        have g657 : Grow w0 w652 := g638.wr hw654 (by omega)
        have g658 : Siz w2 w652 := Siz.below g639.size hw654.below
        have g659 : Siz w19 w652 := Siz.below g640.size hw654.below
        have g660 : Siz w39 w652 := Siz.below g641.size hw654.below
        have g661 : Grow w89 w652 := g642.wr hw654 (by omega)
        have g662 : Grow w418 w652 := g643.wr hw654 (by omega)
        have g663 : Grow w442 w652 := g644.wr hw654 (by omega)
        have g664 : Grow w469 w652 := g645.wr hw654 (by omega)
        have g665 : Siz w520 w652 := Siz.below g646.size hw654.below
        have g666 : Siz w601 w652 := Siz.below g647.size hw654.below
        have hv667 : Holds (Is (PtrV bk11)) (a651.eval (.tmp 3)) w652 := is_any (hk655.holds rfl hv634)
        have hb668 : Blk bk11 _ w652 := hb635.wr hw654 (by omega)
        have hv669 : Holds (Is (PtrV bk53)) (a651.eval (.tmp 6)) w652 := is_any (hk655.holds rfl hv636)
        have hb670 : Blk bk53 _ w652 := hb637.wr hw654 (by omega)
        obtain ⟨V671, h672, hV673⟩ := nameV h656
        clear h656
        refine wp_seg (l1 := [_]) [([3], [])] [3, 6, 87] w601.heap.size hf653 g666.size (by kernel_rfl) (bund_cons (hb668.ownp hv667) bund_nil) ?_
        refine ch rfl (ob_faP (n := 0) (arg_free 0 rfl rfl) Try.underlying42 rfl (by kernel_rfl)) ?_
        refine ch_nil ?_
        intro a674 w675 hf676 hg677 hk678 hn679
        have h680 : Holds _ (a674.eval (.tmp 88)) w675 := hn679.at 0 0 rfl rfl rfl
        have h681 := hk678.holds rfl (h672.up hg677)
        have hv682 : Holds (Is (PtrV bk11)) (a674.eval (.tmp 3)) w675 := is_any (hk678.holds rfl hv667)
        have hb683 := hb668.up hg677
        have hv684 : Holds (Is (PtrV bk53)) (a674.eval (.tmp 6)) w675 := is_any (hk678.holds rfl hv669)
        have hb685 := hb670.up hg677
        have g686 := g657.trans hg677
        have g687 : Siz w2 w675 := g658.trans hg677
        have g688 : Siz w19 w675 := g659.trans hg677
        have g689 : Siz w39 w675 := g660.trans hg677
        have g690 := g661.trans hg677
        have g691 := g662.trans hg677
        have g692 := g663.trans hg677
        have g693 := g664.trans hg677
        have g694 : Siz w520 w675 := g665.trans hg677
        have g695 : Siz w601 w675 := g666.trans hg677
        have hV696 := hV673.up hg677
        clear h672 hv667 hb668 hv669 hb670 g657 g658 g659 g660 g661 g662 g663 g664 g665 g666 hf653 hk678 hn679 hg677 hV673
        refine wl_store_sl h680 h681 hV696 (show 0 < 5 by decide) szDeltas ?_
        intro w697 ho698 hb699
        have hb700 : Blk bk11 (stVals V671 V81 V82 V83 _) w697 := hb699
        clear hb699
        have g701 : Grow w0 w697 := g686.only ho698 (by omega)
        have g702 : Siz w2 w697 := Siz.below g687.size ho698.below
        have g703 : Siz w19 w697 := Siz.below g688.size ho698.below
        have g704 : Siz w39 w697 := Siz.below g689.size ho698.below
        have g705 : Siz w89 w697 := Siz.below g690.size ho698.below
        have g706 : Siz w418 w697 := Siz.below g691.size ho698.below
        have g707 : Siz w442 w697 := Siz.below g692.size ho698.below
        have g708 : Siz w469 w697 := Siz.below g693.size ho698.below
        have hv711 : Holds (Is (PtrV bk11)) (a674.eval (.tmp 3)) w697 := is_any hv682
        have hv712 : Holds (Is (PtrV bk53)) (a674.eval (.tmp 6)) w697 := is_any hv684
        have hb713 : Blk bk53 _ w697 := hb685.only ho698 (by omega)
        have hV714 : Holds _ V81 w697 := OwnS.only (hV102.up g690) ho698 (by omega)
        have hV715 : Holds _ V82 w697 := OwnS.only (hV103.up g690) ho698 (by omega)
        have hV716 : Holds _ V83 w697 := OwnS.only (hV104.up g690) ho698 (by omega)
        have hV717 : Holds _ V671 w697 := OwnS.only hV696 ho698 (by omega)
        refine wpList_nil ?_
        refine then_ ?_
        refine wp_seq ?_
        have g718 : Grow w697 w697 := Grow.refl _
        have hl719 : bk11 < w697.heap.size := hb700.lt
        have hl720 : bk53 < w697.heap.size := hb713.lt
        have hz721 : w469.heap.size ≤ w697.heap.size := g708.size
        refine wp_region_lit ?_
        refine wp_seg (l1 := [_]) [([3], [])] [6] w697.heap.size hf676 g718.size (by kernel_rfl) (bund_cons (hb700.ownp hv711) bund_nil) ?_
        refine ch rfl (ob_load_state (ArgOK.ownp (arg_free 0 rfl rfl))) ?_
        refine ch_nil ?_
        intro a722 w723 hf724 hg725 hk726 hn727
        have h728 : Holds _ (a722.eval (.tmp 89)) w723 := hn727.at 0 0 rfl rfl rfl
        have hv729 : Holds (Is (PtrV bk53)) (a722.eval (.tmp 6)) w723 := is_any (hk726.holds rfl hv712)
        have hb730 := hb713.up hg725
        have g731 := g701.trans hg725
        have g732 : Siz w2 w723 := g702.trans hg725
        have g733 : Siz w19 w723 := g703.trans hg725
        have g734 : Siz w39 w723 := g704.trans hg725
        have g735 : Siz w89 w723 := g705.trans hg725
        have g736 : Siz w418 w723 := g706.trans hg725
        have g737 : Siz w442 w723 := g707.trans hg725
        have g738 : Siz w469 w723 := g708.trans hg725
        have g739 := g718.trans hg725
        clear hv712 hb713 g701 g702 g703 g704 g705 g706 g707 g708 g718 hf676 hk726 hn727
        refine wl_store_state hv729 hb730 rfl h728 (st_oneS (OwnS.sl (hV717.up g739)) (OwnS.sl (hV714.up g739)) (OwnS.sl (hV715.up g739)) (OwnS.sl (hV716.up g739))) ?_
        intro w740 ho741 hb742
        have g743 : Grow w0 w740 := g731.only ho741 (by omega)
        have g744 : Siz w2 w740 := Siz.below g732.size ho741.below
        have g745 : Siz w19 w740 := Siz.below g733.size ho741.below
        have g746 : Siz w39 w740 := Siz.below g734.size ho741.below
        have g747 : Siz w89 w740 := Siz.below g735.size ho741.below
        have g748 : Siz w418 w740 := Siz.below g736.size ho741.below
        have g749 : Siz w442 w740 := Siz.below g737.size ho741.below
        have g750 : Siz w469 w740 := Siz.below g738.size ho741.below
        have hv752 : Holds (Is (PtrV bk53)) (a722.eval (.tmp 6)) w740 := is_any hv729
        have hV753 : Holds _ V81 w740 := OwnS.only (hV714.up g739) ho741 (by omega)
        have hV754 : Holds _ V82 w740 := OwnS.only (hV715.up g739) ho741 (by omega)
        have hV755 : Holds _ V83 w740 := OwnS.only (hV716.up g739) ho741 (by omega)
        have hV756 : Holds _ V671 w740 := OwnS.only (hV717.up g739) ho741 (by omega)
        refine wpList_nil ?_
        refine then_ ?_
        refine wp_ret ?_
        refine ret_cell rfl Try.underlying42 rfl (by kernel_rfl) hf724 g743 (hb742.ptr hv752) ?_
        exact sto_cast (mkO (OwnS.mono hV756 (by omega)) (OwnS.mono hV753 (by omega)) (OwnS.mono hV754 (by omega)) (OwnS.mono hV755 (by omega))) (by exact congrArg (fun l => (⟨l, s.seqs, s.locks, s.applied, s.guilty⟩ : GState)) ((by rw [← put_ins (d := (⟨c, a⟩ : GDelta)) hf hn, hb, List.nil_append, List.append_assoc]; rfl)))
set_option maxRecDepth 100000 in
theorem c_rAdd {s : GState} {l : List GDelta} (hs : stOK s) (hc : s.cells.length ≤ 50000) (hl : l.length ≤ 40000) : Con2 73 (StF s) (Sl elDelta l) (fun lo => StO lo (addS s l)) := by
  intro lo v0 v1 w0 hlo hv0 hv1
  refine enter Try.func73 rfl Try.ntmps73 (by simp) ?_
  intro a0 hf0 ha
  obtain ⟨va0, vb0, vc0, vd0, he0, hva0, hvb0, hvc0, hvd0⟩ := openF hv0
  have h00 : Holds (Is _) (a0.eval (.tmp 0)) w0 := arg_holds ha rfl he0
  have h01 : Holds (Is v1) (a0.eval (.tmp 1)) w0 := arg_holds ha rfl rfl
  clear ha
  have g0 : Grow w0 w0 := Grow.refl _
  obtain ⟨hs1, hs2, hs3, hs4⟩ := id hs
  refine wp_seq ?_
  refine wp_region_lit ?_
  refine wp_seg (l1 := [_]) [([0], [])] [1] w0.heap.size hf0 g0.size (by kernel_rfl) (bund_cons h00 bund_nil) ?_
  refine ch rfl (ob_box_state (arg_free 0 rfl rfl)) ?_
  refine ch_nil ?_
  intro a1 w2 hf3 hg4 hk5 hn6
  have h7 : Holds _ (a1.eval (.tmp 2)) w2 := hn6.at 0 0 rfl rfl rfl
  have h8 := hk5.holds rfl h01
  have g9 := g0.trans hg4
  obtain ⟨bk10, hl11, hv12, hb13⟩ := OwnB.blk (lo := w0.heap.size) h7
  clear h01 g0 hf0 hk5 hn6
  have g14 : Grow w2 w2 := Grow.refl _
  have hl15 : bk10 < w2.heap.size := hb13.lt
  have hz16 : w0.heap.size ≤ w2.heap.size := g9.size
  refine wp_all [([], [])] [1, 2] w2.heap.size hf3 g14.size (by kernel_rfl) bund_nil ?_
  refine ch rfl (ob_alloc_state) ?_
  refine ch_nil ?_
  intro a17 w18 hf19 hg20 hk21 hn22
  have h23 : Holds _ (a17.eval (.tmp 4)) w18 := hn22.at 0 0 rfl rfl rfl
  have h24 := hk21.holds rfl h8
  have hv25 : Holds (Is (PtrV bk10)) (a17.eval (.tmp 2)) w18 := is_any (hk21.holds rfl hv12)
  have hb26 := hb13.up hg20
  have g27 := g9.trans hg20
  have g28 := g14.trans hg20
  obtain ⟨bk29, hl30, hv31, hb32⟩ := OwnB.blk (lo := w2.heap.size) h23
  clear h8 hv12 hb13 g9 g14 hf3 hk21 hn22
  refine then_ ?_
  refine wp_seq ?_
  have g33 : Grow w18 w18 := Grow.refl _
  have hl34 : bk10 < w18.heap.size := hb26.lt
  have hl35 : bk29 < w18.heap.size := hb32.lt
  have hz36 : w2.heap.size ≤ w18.heap.size := g28.size
  refine wp_region_lit ?_
  refine wp_seg (l1 := [_, _]) [([2], []), ([], [0])] [1, 2, 4] w18.heap.size hf19 g33.size (by kernel_rfl) (bund_cons (hb26.ownp hv25) bund_nil) ?_
  refine ch rfl (ob_load_state (ArgOK.ownp (arg_free 0 rfl rfl))) ?_
  refine ch rfl (ob_call1 (by kernel_rfl) (c_Copy (s := _) ?_) (ArgOK.val (arg_op 0 0 rfl rfl rfl rfl) (mkFs (s := s) (hva0.up g27) (hvb0.up g27) (hvc0.up g27) (hvd0.up g27)))) ?_
  · assumption
  refine ch_nil ?_
  intro a37 w38 hf39 hg40 hk41 hn42
  have h43 : Holds (StO w18.heap.size _) (a37.eval (.tmp 7)) w38 := hn42.at 1 0 rfl rfl rfl
  have h44 := hk41.holds rfl h24
  have hv45 : Holds (Is (PtrV bk10)) (a37.eval (.tmp 2)) w38 := is_any (hk41.holds rfl hv25)
  have hb46 := hb26.up hg40
  have hv47 : Holds (Is (PtrV bk29)) (a37.eval (.tmp 4)) w38 := is_any (hk41.holds rfl hv31)
  have hb48 := hb32.up hg40
  have g49 := g27.trans hg40
  have g50 := g28.trans hg40
  have g51 := g33.trans hg40
  clear h24 hv25 hb26 hv31 hb32 g27 g28 g33 hf19 hk41 hn42
  obtain ⟨V52, V53, V54, V55, h56, hV57, hV58, hV59, hV60⟩ := openO h43
  refine wl_store_state hv45 hb46 rfl h56 (st_oneS (OwnS.sl hV57) (OwnS.sl hV58) (OwnS.sl hV59) (OwnS.sl hV60)) ?_
  intro w61 ho62 hb63
  have g64 : Grow w0 w61 := g49.only ho62 (by omega)
  have g65 : Siz w2 w61 := Siz.below g50.size ho62.below
  have g66 : Siz w18 w61 := Siz.below g51.size ho62.below
  have hv67 : Holds (Is (PtrV bk10)) (a37.eval (.tmp 2)) w61 := is_any hv45
  have hv68 : Holds (Is (PtrV bk29)) (a37.eval (.tmp 4)) w61 := is_any hv47
  have hb69 : Blk bk29 _ w61 := hb48.only ho62 (by omega)
  have hV70 : Holds _ V52 w61 := OwnS.only hV57 ho62 (by omega)
  have hV71 : Holds _ V53 w61 := OwnS.only hV58 ho62 (by omega)
  have hV72 : Holds _ V54 w61 := OwnS.only hV59 ho62 (by omega)
  have hV73 : Holds _ V55 w61 := OwnS.only hV60 ho62 (by omega)
  refine wpList_nil ?_
  refine then_ ?_
  refine wp_seq ?_
  refine wp_seq ?_
  refine wp_region_lit ?_
  refine wp_all [([], [])] [1, 2, 4] w18.heap.size hf39 g66.size (by kernel_rfl) bund_nil ?_
  refine ch rfl (ob_assign arg_c) ?_
  refine ch_nil ?_
  intro a74 w75 hf76 hg77 hk78 hn79
  have h80 : Holds _ (a74.eval (.tmp 5)) w75 := hn79.at 0 0 rfl rfl rfl
  have h81 := hk78.holds rfl h44
  have hv82 : Holds (Is (PtrV bk10)) (a74.eval (.tmp 2)) w75 := is_any (hk78.holds rfl hv67)
  have hb83 := hb63.up hg77
  have hv84 : Holds (Is (PtrV bk29)) (a74.eval (.tmp 4)) w75 := is_any (hk78.holds rfl hv68)
  have hb85 := hb69.up hg77
  have g86 := g64.trans hg77
  have g87 : Siz w2 w75 := g65.trans hg77
  have g88 : Siz w18 w75 := g66.trans hg77
  have hV89 := hV70.up hg77
  have hV90 := hV71.up hg77
  have hV91 := hV72.up hg77
  have hV92 := hV73.up hg77
  clear h44 hv67 hb63 hv68 hb69 g64 g65 g66 hf39 hk78 hn79 hg77 hV70 hV71 hV72 hV73
  refine then_ ?_
  refine wp_block ?_
  refine wp_loopL (α := Nat) (fun i a' w' => Fr 27 a' ∧ (i ≤ l.length) ∧ Grow w0 w' ∧ Siz w2 w' ∧ Siz w18 w' ∧ Keep [1, 2, 4] a74 a' ∧ Holds (Is (intV (i : Int))) (a'.eval (.tmp 5)) w' ∧ StB bk10 w18.heap.size (addS s (l.take i)) w' ∧ Blk bk29 (_) w') (fun i => l.length - i) (0) ⟨hf76, (by ((try dsimp only); omega)), g86, g87.size, g88.size, Keep.refl _ _, (is_cast h80 (by first | rfl | (refine congrArg intV ?_; (try dsimp only); omega))), (stb_cast (mkB hb83 (OwnS.mono hV89 (by omega)) (OwnS.mono hV90 (by omega)) (OwnS.mono hV91 (by omega)) (OwnS.mono hV92 (by omega))) (by rfl)), hb85⟩ ?_
  intro i a93 w94 ⟨hf95, hi97, g98, g99, g100, kk96, h101, hb102, hb103⟩
  have h104 := kk96.holds rfl h81
  have hv105 : Holds (Is (PtrV bk10)) (a93.eval (.tmp 2)) w94 := is_any (kk96.holds rfl hv82)
  have hv106 : Holds (Is (PtrV bk29)) (a93.eval (.tmp 4)) w94 := is_any (kk96.holds rfl hv84)
  obtain ⟨V107, V108, V109, V110, hb111, hV112, hV113, hV114, hV115⟩ := openB hb102
  have hst : stOK (addS s (l.take i)) := ⟨(by have := putAll_len (l.take i) s.cells; rw [List.length_take] at this; show (putAll _ _).length ≤ _; omega), hs2, hs3, hs4⟩
  refine wp_seq ?_
  refine wp_seq ?_
  refine wp_region_lit ?_
  refine wp_all [([5], []), ([1], []), ([], [1]), ([], [0, 2])] [1, 2, 4, 5] w18.heap.size hf95 g100.size (by kernel_rfl) (bund_cons h101 (bund_cons (is_any h104) bund_nil)) ?_
  refine ch rfl (ob_move (arg_free 0 rfl rfl)) ?_
  refine ch rfl (ob_move (arg_free 1 rfl rfl)) ?_
  refine ch rfl (ob_len (ArgOK.val (arg_op 1 0 rfl rfl rfl rfl) (hv1.up g98)) Try.underlying37) ?_
  refine ch rfl (ob_lss (arg_op 0 2 rfl rfl rfl rfl) (arg_op 2 0 rfl rfl rfl rfl)) ?_
  refine ch_nil ?_
  intro a116 w117 hf118 hg119 hk120 hn121
  have h122 : Holds _ (a116.eval (.tmp 11)) w117 := hn121.at 3 0 rfl rfl rfl
  have h123 := hk120.holds rfl (h101.up hg119)
  have h124 := hk120.holds rfl h104
  have hv125 : Holds (Is (PtrV bk10)) (a116.eval (.tmp 2)) w117 := is_any (hk120.holds rfl hv105)
  have hb126 := hb111.up hg119
  have hv127 : Holds (Is (PtrV bk29)) (a116.eval (.tmp 4)) w117 := is_any (hk120.holds rfl hv106)
  have hb128 := hb103.up hg119
  have g129 := g98.trans hg119
  have g130 : Siz w2 w117 := g99.trans hg119
  have g131 : Siz w18 w117 := g100.trans hg119
  have kk132 : Keep _ a74 a116 := kk96.trans hk120 rfl
  have hV133 := hV112.up hg119
  have hV134 := hV113.up hg119
  have hV135 := hV114.up hg119
  have hV136 := hV115.up hg119
  clear h101 h104 hv105 hb111 hv106 hb103 g98 g99 g100 kk96 hf95 hk120 hn121 hg119 hV112 hV113 hV114 hV115
  refine then_ ?_
  refine wp_if h122 ?_ ?_
  · intro hc137
    try simp only [cond_norm] at hc137
    refine wp_skip ?_
    refine then_ ?_
    refine wp_seq ?_
    refine wp_block ?_
    have g138 : Grow w117 w117 := Grow.refl _
    have hl139 : bk10 < w117.heap.size := hb126.lt
    have hl140 : bk29 < w117.heap.size := hb128.lt
    have hz141 : w18.heap.size ≤ w117.heap.size := g131.size
    refine wp_calm_tail (l1 := [_, _, _, _, _, _, _, _, _, _, _, _]) [0, 0, 0, 6, 14, 30, 0, 0, 192, 448, 960, 2047, 4095] [([2], []), ([1], []), ([5], []), ([], [1, 2]), ([], [3]), ([], [4]), ([1], []), ([5], []), ([], [6, 7]), ([], [8]), ([], [9]), ([], [0, 5, 10])] [1, 2, 4, 5] w117.heap.size hf118 g138.size (by kernel_rfl) (bund_cons (hb126.ownp hv125) (bund_cons (is_any h124) (bund_cons h123 bund_nil))) ?_
    intro ws142 hs143
    refine ch rfl (ob_load_state (ArgOK.ownp (arg_free 0 rfl rfl))) ?_
    refine ch rfl (ob_move (arg_free 1 rfl rfl)) ?_
    refine ch rfl (ob_move (arg_free 2 rfl rfl)) ?_
    refine ch rfl (ob_ix (ArgOK.val (arg_op 1 1 rfl rfl rfl rfl) ((hv1.up g129).up hs143)) (arg_op 2 0 rfl rfl rfl rfl) (rfl) ?_ Try.underlying37 szDelta) ?_
    · omega
    refine ch rfl (ob_fa_delta0 (arg_op 3 0 rfl rfl rfl rfl)) ?_
    refine ch rfl (ob_load_cell (arg_op 4 0 rfl rfl rfl rfl)) ?_
    refine ch rfl (ob_move (arg_free 1 rfl rfl)) ?_
    refine ch rfl (ob_move (arg_free 2 rfl rfl)) ?_
    refine ch rfl (ob_ix (ArgOK.val (arg_op 6 1 rfl rfl rfl rfl) ((hv1.up g129).up hs143)) (arg_op 7 0 rfl rfl rfl rfl) (rfl) ?_ Try.underlying37 szDelta) ?_
    · omega
    refine ch rfl (ob_fa_delta1 (arg_op 8 0 rfl rfl rfl rfl)) ?_
    refine ch rfl (ob_load1 (arg_op 9 0 rfl rfl rfl rfl) Try.underlying3 rfl) ?_
    refine ch rfl (ob_call3 (by kernel_rfl) (c_Put ?_) (ArgOK.val (arg_op 0 10 rfl rfl rfl rfl) (mkF ((OwnS.sl hV133).up hs143) ((OwnS.sl hV134).up hs143) ((OwnS.sl hV135).up hs143) ((OwnS.sl hV136).up hs143))) (arg_op 5 5 rfl rfl rfl rfl) (arg_op 10 0 rfl rfl rfl rfl)) ?_
    · assumption
    refine ch_nil ?_
    intro a144 w145 hf146 hg147 hk148 hn149
    have h150 : Holds (StO w117.heap.size _) (a144.eval (.tmp 25)) w145 := hn149.at 11 0 rfl rfl rfl
    have h151 := hk148.holds rfl h123
    have h152 := hk148.holds rfl h124
    have hv153 : Holds (Is (PtrV bk10)) (a144.eval (.tmp 2)) w145 := is_any (hk148.holds rfl hv125)
    have hb154 := hb126.up hg147
    have hv155 : Holds (Is (PtrV bk29)) (a144.eval (.tmp 4)) w145 := is_any (hk148.holds rfl hv127)
    have hb156 := hb128.up hg147
    have g157 := g129.trans hg147
    have g158 : Siz w2 w145 := g130.trans hg147
    have g159 : Siz w18 w145 := g131.trans hg147
    have g160 := g138.trans hg147
    have kk161 : Keep _ a74 a144 := kk132.trans hk148 rfl
    clear h123 h124 hv125 hb126 hv127 hb128 g129 g130 g131 g138 kk132 hf118 hk148 hn149
    obtain ⟨V162, V163, V164, V165, h166, hV167, hV168, hV169, hV170⟩ := openO h150
    refine wl_store_state hv153 hb154 rfl h166 (st_oneS (OwnS.sl hV167) (OwnS.sl hV168) (OwnS.sl hV169) (OwnS.sl hV170)) ?_
    intro w171 ho172 hb173
    have g174 : Grow w0 w171 := g157.only ho172 (by omega)
    have g175 : Siz w2 w171 := Siz.below g158.size ho172.below
    have g176 : Siz w18 w171 := Siz.below g159.size ho172.below
    have g177 : Siz w117 w171 := Siz.below g160.size ho172.below
    have h178 : Holds _ (a144.eval (.tmp 5)) w171 := is_any h151
    have hv179 : Holds (Is (PtrV bk10)) (a144.eval (.tmp 2)) w171 := is_any hv153
    have hv180 : Holds (Is (PtrV bk29)) (a144.eval (.tmp 4)) w171 := is_any hv155
    have hb181 : Blk bk29 _ w171 := hb156.only ho172 (by omega)
    have hV182 : Holds _ V162 w171 := OwnS.only hV167 ho172 (by omega)
    have hV183 : Holds _ V163 w171 := OwnS.only hV168 ho172 (by omega)
    have hV184 : Holds _ V164 w171 := OwnS.only hV169 ho172 (by omega)
    have hV185 : Holds _ V165 w171 := OwnS.only hV170 ho172 (by omega)
    refine wpList_nil ?_
    refine blockN ?_
    refine then_ ?_
    refine wp_region_lit ?_
    refine wp_all [([5], []), ([], [0]), ([], [1])] [1, 2, 4] w117.heap.size hf146 g177.size (by kernel_rfl) (bund_cons h178 bund_nil) ?_
    refine ch rfl (ob_move (arg_free 0 rfl rfl)) ?_
    first
      | (refine ch rfl (ob_add' (arg_op 0 0 rfl rfl rfl rfl) arg_c ?_) ?_; · omega)
      | refine ch rfl (ob_add (arg_op 0 0 rfl rfl rfl rfl) arg_c) ?_
    refine ch rfl (ob_assign (arg_op 1 0 rfl rfl rfl rfl)) ?_
    refine ch_nil ?_
    intro a186 w187 hf188 hg189 hk190 hn191
    have h192 : Holds _ (a186.eval (.tmp 5)) w187 := hn191.at 2 0 rfl rfl rfl
    have h193 := hk190.holds rfl h152
    have hv194 : Holds (Is (PtrV bk10)) (a186.eval (.tmp 2)) w187 := is_any (hk190.holds rfl hv179)
    have hb195 := hb173.up hg189
    have hv196 : Holds (Is (PtrV bk29)) (a186.eval (.tmp 4)) w187 := is_any (hk190.holds rfl hv180)
    have hb197 := hb181.up hg189
    have g198 := g174.trans hg189
    have g199 : Siz w2 w187 := g175.trans hg189
    have g200 : Siz w18 w187 := g176.trans hg189
    have g201 : Siz w117 w187 := g177.trans hg189
    have kk202 : Keep _ a74 a186 := kk161.trans hk190 rfl
    have hV203 := hV182.up hg189
    have hV204 := hV183.up hg189
    have hV205 := hV184.up hg189
    have hV206 := hV185.up hg189
    clear h152 hv179 hb173 hv180 hb181 g174 g175 g176 g177 kk161 hf146 hk190 hn191 hg189 hV182 hV183 hV184 hV185
    refine then_ ?_
    exact ⟨(i + 1), (by ((try dsimp only); omega)), hf188, (by ((try dsimp only); omega)), g198, g199.size, g200.size, kk202, (is_cast h192 (by first | rfl | (refine congrArg intV ?_; (try dsimp only); omega))), (stb_cast (mkB hb195 (OwnS.mono hV203 (by omega)) (OwnS.mono hV204 (by omega)) (OwnS.mono hV205 (by omega)) (OwnS.mono hV206 (by omega))) (by exact congrArg (fun c => (⟨c, s.seqs, s.locks, s.applied, s.guilty⟩ : GState)) (putAll_step (by omega)))), hb197⟩
  · intro hc137
    try simp only [cond_norm] at hc137
    obtain rfl : i = l.length := by omega
    refine wp_exit ?_
    refine thenX ?_
    refine thenX ?_
    refine blockX ?_
    refine then_ ?_
    refine wp_seq ?_
    have g207 : Grow w117 w117 := Grow.refl _
    have hl208 : bk10 < w117.heap.size := hb126.lt
    have hl209 : bk29 < w117.heap.size := hb128.lt
    have hz210 : w18.heap.size ≤ w117.heap.size := g131.size
    refine wp_region_lit ?_
    refine wp_seg (l1 := [_]) [([2], [])] [4] w117.heap.size hf118 g207.size (by kernel_rfl) (bund_cons (hb126.ownp hv125) bund_nil) ?_
    refine ch rfl (ob_load_state (ArgOK.ownp (arg_free 0 rfl rfl))) ?_
    refine ch_nil ?_
    intro a211 w212 hf213 hg214 hk215 hn216
    have h217 : Holds _ (a211.eval (.tmp 26)) w212 := hn216.at 0 0 rfl rfl rfl
    have hv218 : Holds (Is (PtrV bk29)) (a211.eval (.tmp 4)) w212 := is_any (hk215.holds rfl hv127)
    have hb219 := hb128.up hg214
    have g220 := g129.trans hg214
    have g221 : Siz w2 w212 := g130.trans hg214
    have g222 : Siz w18 w212 := g131.trans hg214
    have g223 := g207.trans hg214
    clear hv127 hb128 g129 g130 g131 g207 hf118 hk215 hn216
    refine wl_store_state hv218 hb219 rfl h217 (st_oneS (OwnS.sl (hV133.up g223)) (OwnS.sl (hV134.up g223)) (OwnS.sl (hV135.up g223)) (OwnS.sl (hV136.up g223))) ?_
    intro w224 ho225 hb226
    have g227 : Grow w0 w224 := g220.only ho225 (by omega)
    have g228 : Siz w2 w224 := Siz.below g221.size ho225.below
    have g229 : Siz w18 w224 := Siz.below g222.size ho225.below
    have hv231 : Holds (Is (PtrV bk29)) (a211.eval (.tmp 4)) w224 := is_any hv218
    have hV232 : Holds _ V107 w224 := OwnS.only (hV133.up g223) ho225 (by omega)
    have hV233 : Holds _ V108 w224 := OwnS.only (hV134.up g223) ho225 (by omega)
    have hV234 : Holds _ V109 w224 := OwnS.only (hV135.up g223) ho225 (by omega)
    have hV235 : Holds _ V110 w224 := OwnS.only (hV136.up g223) ho225 (by omega)
    refine wpList_nil ?_
    refine then_ ?_
    refine wp_ret ?_
    refine ret_cell rfl Try.underlying42 rfl (by kernel_rfl) hf213 g227 (hb226.ptr hv231) ?_
    exact sto_cast (mkO (OwnS.mono hV232 (by omega)) (OwnS.mono hV233 (by omega)) (OwnS.mono hV234 (by omega)) (OwnS.mono hV235 (by omega))) (by rw [List.take_length])
end Ex
end Go.Proofs.Ytnmfiiejhoafnaa
