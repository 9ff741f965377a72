/- The order of cells, and what is valid: of the program and of the reference. -/
import Derived.Test.YtnmfiiejhoafnaaGreatPvHash1
import Derived.Test.YtnmfiiejhoafnaaGreatPvStv
set_option linter.unusedSimpArgs false
set_option linter.unusedVariables false
namespace Go.Proofs.YtnmfiiejhoafnaaGreat
namespace Ex
open Go Calm Go.RowKit
def cmpI (a b : Int) : Int := if a < b then -1 else if b < a then 1 else 0
def cmpN (a b : UInt64) : Int := cmpI (a.toNat : Int) (b.toNat : Int)
def or3 (a b c : Int) : Int := if a ≠ 0 then a else if b ≠ 0 then b else c
def cmpC (a b : GCell) : Int := or3 (cmpI a.kind.toInt b.kind.toInt) (cmpI a.id.toInt b.id.toInt) (cmpN a.lock b.lock)
theorem or3_hit {a b c : Int} {i : Nat} (h : ∀ j, j < i → ([a, b, c] : List Int).getD j default = 0) (hi : i < 3) (hne : ¬ ([a, b, c] : List Int).getD i default = 0) : ([a, b, c] : List Int).getD i default = or3 a b c := by
  have h0 : i = 0 ∨ i = 1 ∨ i = 2 := by omega
  unfold or3
  rcases h0 with rfl | rfl | rfl
  · rw [if_pos (show a ≠ 0 from hne)]; rfl
  · have h1 : a = 0 := h 0 (by decide)
    rw [if_neg (by omega), if_pos (show b ≠ 0 from hne)]; rfl
  · have h1 : a = 0 := h 0 (by decide)
    have h2 : b = 0 := h 1 (by decide)
    rw [if_neg (by omega), if_neg (by omega)]; rfl
theorem or3_none {a b c : Int} {i : Nat} (h : ∀ j, j < i → ([a, b, c] : List Int).getD j default = 0) (hi : 3 ≤ i) : 0 = or3 a b c := by
  have h1 : a = 0 := h 0 (by omega)
  have h2 : b = 0 := h 1 (by omega)
  have h3 : c = 0 := h 2 (by omega)
  subst h1 h2 h3
  rfl
theorem or3_step {a b c : Int} {i : Nat} (h : ∀ j, j < i → ([a, b, c] : List Int).getD j default = 0) (he : ([a, b, c] : List Int).getD i default = 0) : ∀ j, j < i + 1 → ([a, b, c] : List Int).getD j default = 0 := fun j hj => by
  by_cases hji : j = i
  · subst hji; exact he
  · exact h j (by omega)
def cellB (c : GCell) : Bool :=
  (decide (c.kind.toInt = 1) && (decide (c.lock = 0) && (decide (0 ≤ c.id.toInt) && decide (c.id.toInt ≤ 15)))) || (decide (c.kind.toInt = 2) && decide (c.id.toInt = 0)) ||
  (decide (c.kind.toInt = 3) && (decide (c.lock = 0) && (decide (0 ≤ c.id.toInt) && decide (c.id.toInt ≤ 9)))) || (decide (c.kind.toInt = 4) && (decide (c.lock = 0) && decide (c.id.toInt = 0)))
theorem cellB_of {c : GCell} {b : Bool} (h : b = true ↔ (c.kind.toInt = 1 ∧ c.lock = 0 ∧ 0 ≤ c.id.toInt ∧ c.id.toInt ≤ 15) ∨ (c.kind.toInt = 2 ∧ c.id.toInt = 0) ∨ (c.kind.toInt = 3 ∧ c.lock = 0 ∧ 0 ≤ c.id.toInt ∧ c.id.toInt ≤ 9) ∨ (c.kind.toInt = 4 ∧ c.lock = 0 ∧ c.id.toInt = 0)) : b = cellB c := by
  rw [Bool.eq_iff_iff, h]
  simp [cellB, or_assoc]
def deltaBad (d : GDelta) : Bool := (((!cellB d.cell) || decide (d.amount.toInt = 0)) || decide (1125899906842624 < d.amount.toInt)) || decide (d.amount.toInt < -1125899906842624)
def seqBad (n : Int) : Bool := decide (n < 0) || decide (32 < n)
def lockBad (k : GLock) : Bool := ((((decide (k.owner.toInt < 0) || decide (16 ≤ k.owner.toInt)) || decide (k.to.toInt < 0)) || decide (16 ≤ k.to.toInt)) || decide (k.till.toInt < 1)) || decide (1000 < k.till.toInt)
set_option maxRecDepth 100000 in
theorem c_nan {a : Int} : Con1 108 (Is (intV a)) (fun _ => Is (.bool false)) := by
  intro lo v0 w0 hlo hv0
  refine enter Tryz.func108 rfl Tryz.ntmps108 (by simp) ?_
  intro a0 hf0 ha
  have h00 : Holds _ (a0.eval (.tmp 0)) w0 := arg_holds ha rfl hv0
  clear ha
  have g0 : Grow w0 w0 := Grow.refl _
  refine wp_seq ?_
  refine wp_region_lit ?_
  refine wp_all [([], [])] [0] w0.heap.size hf0 g0.size (by kernel_rfl) bund_nil ?_
  refine ch rfl (ob_assign arg_c) ?_
  refine ch_nil ?_
  intro a1 w2 hf3 hg4 hk5 hn6
  have h7 := hk5.holds rfl h00
  have g8 := g0.trans hg4
  clear h00 g0 hf0 hk5 hn6
  refine then_ ?_
  refine wp_seq ?_
  refine wp_region_lit ?_
  refine wp_all [([0], []), ([0], []), ([], [0, 1]), ([], [2])] [] w0.heap.size hf3 g8.size (by kernel_rfl) (bund_cons (is_any h7) bund_nil) ?_
  refine ch rfl (ob_move (arg_free 0 rfl rfl)) ?_
  refine ch rfl (ob_move (arg_free 0 rfl rfl)) ?_
  refine ch rfl (ob_neq (arg_op 0 1 rfl rfl rfl rfl) (arg_op 1 0 rfl rfl rfl rfl)) ?_
  refine ch rfl (ob_assign (arg_op 2 0 rfl rfl rfl rfl)) ?_
  refine ch_nil ?_
  intro a9 w10 hf11 hg12 hk13 hn14
  have h15 : Holds _ (a9.eval (.tmp 2)) w10 := hn14.at 3 0 rfl rfl rfl
  have g16 := g8.trans hg12
  clear g8 hf3 hk13 hn14 hg12
  refine then_ ?_
  refine wp_ret ?_
  exact ret_tmp rfl hf11 g16 (is_cast h15 (congrArg Value.bool (by simp)))
set_option maxRecDepth 100000 in
theorem c_nanU {a : UInt64} : Con1 118 (Is (u64V a)) (fun _ => Is (.bool false)) := by
  intro lo v0 w0 hlo hv0
  refine enter Tryz.func118 rfl Tryz.ntmps118 (by simp) ?_
  intro a0 hf0 ha
  have h00 : Holds _ (a0.eval (.tmp 0)) w0 := arg_holds ha rfl hv0
  clear ha
  have g0 : Grow w0 w0 := Grow.refl _
  refine wp_seq ?_
  refine wp_region_lit ?_
  refine wp_all [([], [])] [0] w0.heap.size hf0 g0.size (by kernel_rfl) bund_nil ?_
  refine ch rfl (ob_assign arg_c) ?_
  refine ch_nil ?_
  intro a1 w2 hf3 hg4 hk5 hn6
  have h7 := hk5.holds rfl h00
  have g8 := g0.trans hg4
  clear h00 g0 hf0 hk5 hn6
  refine then_ ?_
  refine wp_seq ?_
  refine wp_region_lit ?_
  refine wp_all [([0], []), ([0], []), ([], [0, 1]), ([], [2])] [] w0.heap.size hf3 g8.size (by kernel_rfl) (bund_cons (is_any h7) bund_nil) ?_
  refine ch rfl (ob_move (arg_free 0 rfl rfl)) ?_
  refine ch rfl (ob_move (arg_free 0 rfl rfl)) ?_
  refine ch rfl (ob_neq (arg_op 0 1 rfl rfl rfl rfl) (arg_op 1 0 rfl rfl rfl rfl)) ?_
  refine ch rfl (ob_assign (arg_op 2 0 rfl rfl rfl rfl)) ?_
  refine ch_nil ?_
  intro a9 w10 hf11 hg12 hk13 hn14
  have h15 : Holds _ (a9.eval (.tmp 2)) w10 := hn14.at 3 0 rfl rfl rfl
  have g16 := g8.trans hg12
  clear g8 hf3 hk13 hn14 hg12
  refine then_ ?_
  refine wp_ret ?_
  exact ret_tmp rfl hf11 g16 (is_cast h15 (congrArg Value.bool (by simp)))
set_option maxRecDepth 100000 in
theorem c_cmp {a b : Int} : Con2 73 (Is (intV a)) (Is (intV b)) (fun _ => Is (intV (cmpI a b))) := by
  intro lo v0 v1 w0 hlo hv0 hv1
  refine enter Tryz.func73 rfl Tryz.ntmps73 (by simp) ?_
  intro a0 hf0 ha
  have h00 : Holds _ (a0.eval (.tmp 0)) w0 := arg_holds ha rfl hv0
  have h01 : Holds _ (a0.eval (.tmp 1)) w0 := arg_holds ha rfl hv1
  clear ha
  have g0 : Grow w0 w0 := Grow.refl _
  refine wp_seq ?_
  refine wp_region_lit ?_
  refine wp_all [([], [])] [0, 1] w0.heap.size hf0 g0.size (by kernel_rfl) bund_nil ?_
  refine ch rfl (ob_assign arg_c) ?_
  refine ch_nil ?_
  intro a1 w2 hf3 hg4 hk5 hn6
  have h7 := hk5.holds rfl h00
  have h8 := hk5.holds rfl h01
  have g9 := g0.trans hg4
  clear h00 h01 g0 hf0 hk5 hn6
  refine then_ ?_
  refine wp_seq ?_
  have g10 : Grow w2 w2 := Grow.refl _
  have hz11 : w0.heap.size ≤ w2.heap.size := g9.size
  refine wp_region_lit ?_
  refine wp_all [([0], []), ([], [0]), ([], [1])] [0, 1] w2.heap.size hf3 g10.size (by kernel_rfl) (bund_cons (is_any h7) bund_nil) ?_
  refine ch rfl (ob_move (arg_free 0 rfl rfl)) ?_
  refine ch rfl (ob_call1 (by kernel_rfl) (c_nan) (arg_op 0 0 rfl rfl rfl rfl)) ?_
  refine ch rfl (ob_assign (arg_op 1 0 rfl rfl rfl rfl)) ?_
  refine ch_nil ?_
  intro a12 w13 hf14 hg15 hk16 hn17
  have h18 : Holds _ (a12.eval (.tmp 5)) w13 := hn17.at 2 0 rfl rfl rfl
  have h19 := hk16.holds rfl h7
  have h20 := hk16.holds rfl h8
  have g21 := g9.trans hg15
  have g22 := g10.trans hg15
  clear h7 h8 g9 g10 hf3 hk16 hn17
  refine then_ ?_
  refine wp_seq ?_
  have g23 : Grow w13 w13 := Grow.refl _
  have hz24 : w2.heap.size ≤ w13.heap.size := g22.size
  refine wp_region_lit ?_
  refine wp_all [([1], []), ([], [0]), ([], [1])] [0, 1, 5] w13.heap.size hf14 g23.size (by kernel_rfl) (bund_cons (is_any h20) bund_nil) ?_
  refine ch rfl (ob_move (arg_free 0 rfl rfl)) ?_
  refine ch rfl (ob_call1 (by kernel_rfl) (c_nan) (arg_op 0 0 rfl rfl rfl rfl)) ?_
  refine ch rfl (ob_assign (arg_op 1 0 rfl rfl rfl rfl)) ?_
  refine ch_nil ?_
  intro a25 w26 hf27 hg28 hk29 hn30
  have h31 : Holds _ (a25.eval (.tmp 6)) w26 := hn30.at 2 0 rfl rfl rfl
  have h32 := hk29.holds rfl h18
  have h33 := hk29.holds rfl h19
  have h34 := hk29.holds rfl h20
  have g35 := g21.trans hg28
  have g36 := g22.trans hg28
  have g37 := g23.trans hg28
  clear h18 h19 h20 g21 g22 g23 hf14 hk29 hn30
  refine then_ ?_
  refine wp_seq ?_
  refine wp_seq ?_
  refine wp_region_lit ?_
  refine wp_all [([5], [])] [0, 1, 6] w13.heap.size hf27 g37.size (by kernel_rfl) (bund_cons (is_any h32) bund_nil) ?_
  refine ch rfl (ob_move (arg_free 0 rfl rfl)) ?_
  refine ch_nil ?_
  intro a38 w39 hf40 hg41 hk42 hn43
  have h44 : Holds _ (a38.eval (.tmp 11)) w39 := hn43.at 0 0 rfl rfl rfl
  have h45 := hk42.holds rfl (h31.up hg41)
  have h46 := hk42.holds rfl h33
  have h47 := hk42.holds rfl h34
  have g48 := g35.trans hg41
  have g49 := g36.trans hg41
  have g50 := g37.trans hg41
  clear h31 h33 h34 g35 g36 g37 hf27 hk42 hn43 hg41
  refine then_ ?_
  refine wp_if h44 ?_ ?_
  · intro hc51
    try simp only [cond_norm] at hc51
    first | done | exact absurd hc51 (by decide)
  · intro hc51
    try simp only [cond_norm] at hc51
    refine wp_skip ?_
    refine then_ ?_
    refine wp_seq ?_
    refine wp_seq ?_
    refine wp_region_lit ?_
    refine wp_all [([6], [])] [0, 1] w13.heap.size hf40 g50.size (by kernel_rfl) (bund_cons h45 bund_nil) ?_
    refine ch rfl (ob_move (arg_free 0 rfl rfl)) ?_
    refine ch_nil ?_
    intro a52 w53 hf54 hg55 hk56 hn57
    have h58 : Holds _ (a52.eval (.tmp 13)) w53 := hn57.at 0 0 rfl rfl rfl
    have h59 := hk56.holds rfl h46
    have h60 := hk56.holds rfl h47
    have g61 := g48.trans hg55
    have g62 := g49.trans hg55
    have g63 := g50.trans hg55
    clear h46 h47 g48 g49 g50 hf40 hk56 hn57 hg55
    refine then_ ?_
    refine wp_if h58 ?_ ?_
    · intro hc64
      try simp only [cond_norm] at hc64
      first | done | exact absurd hc64 (by decide)
    · intro hc64
      try simp only [cond_norm] at hc64
      refine wp_skip ?_
      refine then_ ?_
      refine wp_seq ?_
      refine wp_seq ?_
      refine wp_region_lit ?_
      refine wp_all [([0], []), ([1], []), ([], [0, 1])] [0, 1] w13.heap.size hf54 g63.size (by kernel_rfl) (bund_cons (is_any h59) (bund_cons (is_any h60) bund_nil)) ?_
      refine ch rfl (ob_move (arg_free 0 rfl rfl)) ?_
      refine ch rfl (ob_move (arg_free 1 rfl rfl)) ?_
      refine ch rfl (ob_lss (arg_op 0 1 rfl rfl rfl rfl) (arg_op 1 0 rfl rfl rfl rfl)) ?_
      refine ch_nil ?_
      intro a65 w66 hf67 hg68 hk69 hn70
      have h71 : Holds _ (a65.eval (.tmp 16)) w66 := hn70.at 2 0 rfl rfl rfl
      have h72 := hk69.holds rfl h59
      have h73 := hk69.holds rfl h60
      have g74 := g61.trans hg68
      have g75 := g62.trans hg68
      have g76 := g63.trans hg68
      clear h59 h60 g61 g62 g63 hf54 hk69 hn70 hg68
      refine then_ ?_
      refine wp_if h71 ?_ ?_
      · intro hc77
        try simp only [cond_norm] at hc77
        refine wp_seq ?_
        refine wp_region_lit ?_
        refine wp_all [([], [])] [] w13.heap.size hf67 g76.size (by kernel_rfl) bund_nil ?_
        refine ch rfl (ob_assign arg_c) ?_
        refine ch_nil ?_
        intro a78 w79 hf80 hg81 hk82 hn83
        have h84 : Holds _ (a78.eval (.tmp 4)) w79 := hn83.at 0 0 rfl rfl rfl
        have g85 := g74.trans hg81
        have g86 := g75.trans hg81
        have g87 := g76.trans hg81
        clear g74 g75 g76 hf67 hk82 hn83 hg81
        refine then_ ?_
        refine wp_ret ?_
        refine thenR ?_
        exact ret_tmp rfl hf80 g85 (is_cast h84 (congrArg intV (by (try unfold cmpN); unfold cmpI; (repeat' split) <;> omega)))
      · intro hc77
        try simp only [cond_norm] at hc77
        refine wp_skip ?_
        refine then_ ?_
        refine wp_seq ?_
        refine wp_seq ?_
        refine wp_region_lit ?_
        refine wp_all [([0], []), ([1], []), ([], [0, 1])] [] w13.heap.size hf67 g76.size (by kernel_rfl) (bund_cons (is_any h72) (bund_cons (is_any h73) bund_nil)) ?_
        refine ch rfl (ob_move (arg_free 0 rfl rfl)) ?_
        refine ch rfl (ob_move (arg_free 1 rfl rfl)) ?_
        refine ch rfl (ob_gtr (arg_op 0 1 rfl rfl rfl rfl) (arg_op 1 0 rfl rfl rfl rfl)) ?_
        refine ch_nil ?_
        intro a88 w89 hf90 hg91 hk92 hn93
        have h94 : Holds _ (a88.eval (.tmp 19)) w89 := hn93.at 2 0 rfl rfl rfl
        have g95 := g74.trans hg91
        have g96 := g75.trans hg91
        have g97 := g76.trans hg91
        clear g74 g75 g76 hf67 hk92 hn93 hg91
        refine then_ ?_
        refine wp_if h94 ?_ ?_
        · intro hc98
          try simp only [cond_norm] at hc98
          refine wp_seq ?_
          refine wp_region_lit ?_
          refine wp_all [([], [])] [] w13.heap.size hf90 g97.size (by kernel_rfl) bund_nil ?_
          refine ch rfl (ob_assign arg_c) ?_
          refine ch_nil ?_
          intro a99 w100 hf101 hg102 hk103 hn104
          have h105 : Holds _ (a99.eval (.tmp 4)) w100 := hn104.at 0 0 rfl rfl rfl
          have g106 := g95.trans hg102
          have g107 := g96.trans hg102
          have g108 := g97.trans hg102
          clear g95 g96 g97 hf90 hk103 hn104 hg102
          refine then_ ?_
          refine wp_ret ?_
          refine thenR ?_
          exact ret_tmp rfl hf101 g106 (is_cast h105 (congrArg intV (by (try unfold cmpN); unfold cmpI; (repeat' split) <;> omega)))
        · intro hc98
          try simp only [cond_norm] at hc98
          refine wp_skip ?_
          refine then_ ?_
          refine wp_seq ?_
          refine wp_region_lit ?_
          refine wp_all [([], [])] [] w13.heap.size hf90 g97.size (by kernel_rfl) bund_nil ?_
          refine ch rfl (ob_assign arg_c) ?_
          refine ch_nil ?_
          intro a109 w110 hf111 hg112 hk113 hn114
          have h115 : Holds _ (a109.eval (.tmp 4)) w110 := hn114.at 0 0 rfl rfl rfl
          have g116 := g95.trans hg112
          have g117 := g96.trans hg112
          have g118 := g97.trans hg112
          clear g95 g96 g97 hf90 hk113 hn114 hg112
          refine then_ ?_
          refine wp_ret ?_
          exact ret_tmp rfl hf111 g116 (is_cast h115 (congrArg intV (by (try unfold cmpN); unfold cmpI; (repeat' split) <;> omega)))
set_option maxRecDepth 100000 in
theorem c_cmpU {a b : UInt64} : Con2 101 (Is (u64V a)) (Is (u64V b)) (fun _ => Is (intV (cmpN a b))) := by
  intro lo v0 v1 w0 hlo hv0 hv1
  refine enter Tryz.func101 rfl Tryz.ntmps101 (by simp) ?_
  intro a0 hf0 ha
  have h00 : Holds _ (a0.eval (.tmp 0)) w0 := arg_holds ha rfl hv0
  have h01 : Holds _ (a0.eval (.tmp 1)) w0 := arg_holds ha rfl hv1
  clear ha
  have g0 : Grow w0 w0 := Grow.refl _
  refine wp_seq ?_
  refine wp_region_lit ?_
  refine wp_all [([], [])] [0, 1] w0.heap.size hf0 g0.size (by kernel_rfl) bund_nil ?_
  refine ch rfl (ob_assign arg_c) ?_
  refine ch_nil ?_
  intro a1 w2 hf3 hg4 hk5 hn6
  have h7 := hk5.holds rfl h00
  have h8 := hk5.holds rfl h01
  have g9 := g0.trans hg4
  clear h00 h01 g0 hf0 hk5 hn6
  refine then_ ?_
  refine wp_seq ?_
  have g10 : Grow w2 w2 := Grow.refl _
  have hz11 : w0.heap.size ≤ w2.heap.size := g9.size
  refine wp_region_lit ?_
  refine wp_all [([0], []), ([], [0]), ([], [1])] [0, 1] w2.heap.size hf3 g10.size (by kernel_rfl) (bund_cons (is_any h7) bund_nil) ?_
  refine ch rfl (ob_move (arg_free 0 rfl rfl)) ?_
  refine ch rfl (ob_call1 (by kernel_rfl) (c_nanU) (arg_op 0 0 rfl rfl rfl rfl)) ?_
  refine ch rfl (ob_assign (arg_op 1 0 rfl rfl rfl rfl)) ?_
  refine ch_nil ?_
  intro a12 w13 hf14 hg15 hk16 hn17
  have h18 : Holds _ (a12.eval (.tmp 5)) w13 := hn17.at 2 0 rfl rfl rfl
  have h19 := hk16.holds rfl h7
  have h20 := hk16.holds rfl h8
  have g21 := g9.trans hg15
  have g22 := g10.trans hg15
  clear h7 h8 g9 g10 hf3 hk16 hn17
  refine then_ ?_
  refine wp_seq ?_
  have g23 : Grow w13 w13 := Grow.refl _
  have hz24 : w2.heap.size ≤ w13.heap.size := g22.size
  refine wp_region_lit ?_
  refine wp_all [([1], []), ([], [0]), ([], [1])] [0, 1, 5] w13.heap.size hf14 g23.size (by kernel_rfl) (bund_cons (is_any h20) bund_nil) ?_
  refine ch rfl (ob_move (arg_free 0 rfl rfl)) ?_
  refine ch rfl (ob_call1 (by kernel_rfl) (c_nanU) (arg_op 0 0 rfl rfl rfl rfl)) ?_
  refine ch rfl (ob_assign (arg_op 1 0 rfl rfl rfl rfl)) ?_
  refine ch_nil ?_
  intro a25 w26 hf27 hg28 hk29 hn30
  have h31 : Holds _ (a25.eval (.tmp 6)) w26 := hn30.at 2 0 rfl rfl rfl
  have h32 := hk29.holds rfl h18
  have h33 := hk29.holds rfl h19
  have h34 := hk29.holds rfl h20
  have g35 := g21.trans hg28
  have g36 := g22.trans hg28
  have g37 := g23.trans hg28
  clear h18 h19 h20 g21 g22 g23 hf14 hk29 hn30
  refine then_ ?_
  refine wp_seq ?_
  refine wp_seq ?_
  refine wp_region_lit ?_
  refine wp_all [([5], [])] [0, 1, 6] w13.heap.size hf27 g37.size (by kernel_rfl) (bund_cons (is_any h32) bund_nil) ?_
  refine ch rfl (ob_move (arg_free 0 rfl rfl)) ?_
  refine ch_nil ?_
  intro a38 w39 hf40 hg41 hk42 hn43
  have h44 : Holds _ (a38.eval (.tmp 11)) w39 := hn43.at 0 0 rfl rfl rfl
  have h45 := hk42.holds rfl (h31.up hg41)
  have h46 := hk42.holds rfl h33
  have h47 := hk42.holds rfl h34
  have g48 := g35.trans hg41
  have g49 := g36.trans hg41
  have g50 := g37.trans hg41
  clear h31 h33 h34 g35 g36 g37 hf27 hk42 hn43 hg41
  refine then_ ?_
  refine wp_if h44 ?_ ?_
  · intro hc51
    try simp only [cond_norm] at hc51
    first | done | exact absurd hc51 (by decide)
  · intro hc51
    try simp only [cond_norm] at hc51
    refine wp_skip ?_
    refine then_ ?_
    refine wp_seq ?_
    refine wp_seq ?_
    refine wp_region_lit ?_
    refine wp_all [([6], [])] [0, 1] w13.heap.size hf40 g50.size (by kernel_rfl) (bund_cons h45 bund_nil) ?_
    refine ch rfl (ob_move (arg_free 0 rfl rfl)) ?_
    refine ch_nil ?_
    intro a52 w53 hf54 hg55 hk56 hn57
    have h58 : Holds _ (a52.eval (.tmp 13)) w53 := hn57.at 0 0 rfl rfl rfl
    have h59 := hk56.holds rfl h46
    have h60 := hk56.holds rfl h47
    have g61 := g48.trans hg55
    have g62 := g49.trans hg55
    have g63 := g50.trans hg55
    clear h46 h47 g48 g49 g50 hf40 hk56 hn57 hg55
    refine then_ ?_
    refine wp_if h58 ?_ ?_
    · intro hc64
      try simp only [cond_norm] at hc64
      first | done | exact absurd hc64 (by decide)
    · intro hc64
      try simp only [cond_norm] at hc64
      refine wp_skip ?_
      refine then_ ?_
      refine wp_seq ?_
      refine wp_seq ?_
      refine wp_region_lit ?_
      refine wp_all [([0], []), ([1], []), ([], [0, 1])] [0, 1] w13.heap.size hf54 g63.size (by kernel_rfl) (bund_cons (is_any h59) (bund_cons (is_any h60) bund_nil)) ?_
      refine ch rfl (ob_move (arg_free 0 rfl rfl)) ?_
      refine ch rfl (ob_move (arg_free 1 rfl rfl)) ?_
      refine ch rfl (ob_lss (arg_op 0 1 rfl rfl rfl rfl) (arg_op 1 0 rfl rfl rfl rfl)) ?_
      refine ch_nil ?_
      intro a65 w66 hf67 hg68 hk69 hn70
      have h71 : Holds _ (a65.eval (.tmp 16)) w66 := hn70.at 2 0 rfl rfl rfl
      have h72 := hk69.holds rfl h59
      have h73 := hk69.holds rfl h60
      have g74 := g61.trans hg68
      have g75 := g62.trans hg68
      have g76 := g63.trans hg68
      clear h59 h60 g61 g62 g63 hf54 hk69 hn70 hg68
      refine then_ ?_
      refine wp_if h71 ?_ ?_
      · intro hc77
        try simp only [cond_norm] at hc77
        refine wp_seq ?_
        refine wp_region_lit ?_
        refine wp_all [([], [])] [] w13.heap.size hf67 g76.size (by kernel_rfl) bund_nil ?_
        refine ch rfl (ob_assign arg_c) ?_
        refine ch_nil ?_
        intro a78 w79 hf80 hg81 hk82 hn83
        have h84 : Holds _ (a78.eval (.tmp 4)) w79 := hn83.at 0 0 rfl rfl rfl
        have g85 := g74.trans hg81
        have g86 := g75.trans hg81
        have g87 := g76.trans hg81
        clear g74 g75 g76 hf67 hk82 hn83 hg81
        refine then_ ?_
        refine wp_ret ?_
        refine thenR ?_
        exact ret_tmp rfl hf80 g85 (is_cast h84 (congrArg intV (by (try unfold cmpN); unfold cmpI; (repeat' split) <;> omega)))
      · intro hc77
        try simp only [cond_norm] at hc77
        refine wp_skip ?_
        refine then_ ?_
        refine wp_seq ?_
        refine wp_seq ?_
        refine wp_region_lit ?_
        refine wp_all [([0], []), ([1], []), ([], [0, 1])] [] w13.heap.size hf67 g76.size (by kernel_rfl) (bund_cons (is_any h72) (bund_cons (is_any h73) bund_nil)) ?_
        refine ch rfl (ob_move (arg_free 0 rfl rfl)) ?_
        refine ch rfl (ob_move (arg_free 1 rfl rfl)) ?_
        refine ch rfl (ob_gtr (arg_op 0 1 rfl rfl rfl rfl) (arg_op 1 0 rfl rfl rfl rfl)) ?_
        refine ch_nil ?_
        intro a88 w89 hf90 hg91 hk92 hn93
        have h94 : Holds _ (a88.eval (.tmp 19)) w89 := hn93.at 2 0 rfl rfl rfl
        have g95 := g74.trans hg91
        have g96 := g75.trans hg91
        have g97 := g76.trans hg91
        clear g74 g75 g76 hf67 hk92 hn93 hg91
        refine then_ ?_
        refine wp_if h94 ?_ ?_
        · intro hc98
          try simp only [cond_norm] at hc98
          refine wp_seq ?_
          refine wp_region_lit ?_
          refine wp_all [([], [])] [] w13.heap.size hf90 g97.size (by kernel_rfl) bund_nil ?_
          refine ch rfl (ob_assign arg_c) ?_
          refine ch_nil ?_
          intro a99 w100 hf101 hg102 hk103 hn104
          have h105 : Holds _ (a99.eval (.tmp 4)) w100 := hn104.at 0 0 rfl rfl rfl
          have g106 := g95.trans hg102
          have g107 := g96.trans hg102
          have g108 := g97.trans hg102
          clear g95 g96 g97 hf90 hk103 hn104 hg102
          refine then_ ?_
          refine wp_ret ?_
          refine thenR ?_
          exact ret_tmp rfl hf101 g106 (is_cast h105 (congrArg intV (by (try unfold cmpN); unfold cmpI; (repeat' split) <;> omega)))
        · intro hc98
          try simp only [cond_norm] at hc98
          refine wp_skip ?_
          refine then_ ?_
          refine wp_seq ?_
          refine wp_region_lit ?_
          refine wp_all [([], [])] [] w13.heap.size hf90 g97.size (by kernel_rfl) bund_nil ?_
          refine ch rfl (ob_assign arg_c) ?_
          refine ch_nil ?_
          intro a109 w110 hf111 hg112 hk113 hn114
          have h115 : Holds _ (a109.eval (.tmp 4)) w110 := hn114.at 0 0 rfl rfl rfl
          have g116 := g95.trans hg112
          have g117 := g96.trans hg112
          have g118 := g97.trans hg112
          clear g95 g96 g97 hf90 hk113 hn114 hg112
          refine then_ ?_
          refine wp_ret ?_
          exact ret_tmp rfl hf111 g116 (is_cast h115 (congrArg intV (by (try unfold cmpN); unfold cmpI; (repeat' split) <;> omega)))
set_option maxRecDepth 100000 in
theorem c_cmpNm {a b : UInt64} : Con2 67 (Is (nmV a)) (Is (nmV b)) (fun _ => Is (intV (cmpN a b))) := by
  intro lo v0 v1 w0 hlo hv0 hv1
  refine enter Tryz.func67 rfl Tryz.ntmps67 (by simp) ?_
  intro a0 hf0 ha
  have h00 : Holds _ (a0.eval (.tmp 0)) w0 := arg_holds ha rfl hv0
  have h01 : Holds _ (a0.eval (.tmp 1)) w0 := arg_holds ha rfl hv1
  clear ha
  have g0 : Grow w0 w0 := Grow.refl _
  refine wp_seq ?_
  refine wp_region_lit ?_
  refine wp_seg (l1 := [_]) [([0], [])] [1] w0.heap.size hf0 g0.size (by kernel_rfl) (bund_cons h00 bund_nil) ?_
  refine ch rfl (ob_box_nm (arg_free 0 rfl rfl)) ?_
  refine ch_nil ?_
  intro a1 w2 hf3 hg4 hk5 hn6
  have h7 : Holds _ (a1.eval (.tmp 2)) w2 := hn6.at 0 0 rfl rfl rfl
  have h8 := hk5.holds rfl h01
  have g9 := g0.trans hg4
  obtain ⟨bk10, hl11, hv12, hb13⟩ := OwnB.blk (lo := w0.heap.size) h7
  clear h01 g0 hf0 hk5 hn6
  have g14 : Grow w2 w2 := Grow.refl _
  have hl15 : bk10 < w2.heap.size := hb13.lt
  have hz16 : w0.heap.size ≤ w2.heap.size := g9.size
  refine wp_all [([1], []), ([], [])] [2] w2.heap.size hf3 g14.size (by kernel_rfl) (bund_cons (is_any h8) bund_nil) ?_
  refine ch rfl (ob_box_nm (arg_free 0 rfl rfl)) ?_
  refine ch rfl (ob_assign arg_c) ?_
  refine ch_nil ?_
  intro a17 w18 hf19 hg20 hk21 hn22
  have h23 : Holds _ (a17.eval (.tmp 3)) w18 := hn22.at 0 1 rfl rfl rfl
  have hv24 : Holds (Is (PtrV bk10)) (a17.eval (.tmp 2)) w18 := is_any (hk21.holds rfl hv12)
  have hb25 := hb13.up hg20
  have g26 := g9.trans hg20
  have g27 := g14.trans hg20
  obtain ⟨bk28, hl29, hv30, hb31⟩ := OwnB.blk (lo := w2.heap.size) h23
  clear hv12 hb13 g9 g14 hf3 hk21 hn22
  refine then_ ?_
  refine wp_seq ?_
  have g32 : Grow w18 w18 := Grow.refl _
  have hl33 : bk10 < w18.heap.size := hb25.lt
  have hl34 : bk28 < w18.heap.size := hb31.lt
  have hz35 : w2.heap.size ≤ w18.heap.size := g27.size
  refine wp_calm [0, 1, 0, 7, 15, 31] [([2], []), ([], [0]), ([3], []), ([], [2]), ([], [1, 3]), ([], [4])] [] w18.heap.size hf19 g32.size (by kernel_rfl) (bund_cons (hb25.ownp hv24) (bund_cons (hb31.ownp hv30) bund_nil)) ?_
  intro ws36 hs37
  refine ch rfl (ob_load_nm (ArgOK.ownp (arg_free 0 rfl rfl))) ?_
  refine ch rfl (ob_call1 (by kernel_rfl) (c_Number) (arg_op 0 0 rfl rfl rfl rfl)) ?_
  refine ch rfl (ob_load_nm (ArgOK.ownp (arg_free 1 rfl rfl))) ?_
  refine ch rfl (ob_call1 (by kernel_rfl) (c_Number) (arg_op 2 0 rfl rfl rfl rfl)) ?_
  refine ch rfl (ob_call2 (by kernel_rfl) (c_cmpU) (arg_op 1 2 rfl rfl rfl rfl) (arg_op 3 0 rfl rfl rfl rfl)) ?_
  refine ch rfl (ob_assign (arg_op 4 0 rfl rfl rfl rfl)) ?_
  refine ch_nil ?_
  intro a38 w39 hf40 hg41 hk42 hn43
  have h44 : Holds _ (a38.eval (.tmp 4)) w39 := hn43.at 5 0 rfl rfl rfl
  have g45 := g26.trans hg41
  have g46 := g27.trans hg41
  have g47 := g32.trans hg41
  clear g26 g27 g32 hf19 hk42 hn43
  refine then_ ?_
  refine wp_ret ?_
  exact ret_tmp rfl hf40 g45 h44
set_option maxRecDepth 100000 in
theorem c_or {a b c : Int} : Con1 72 (Sl elInt [a, b, c]) (fun _ => Is (intV (or3 a b c))) := by
  intro lo v0 w0 hlo hv0
  refine enter Tryz.func72 rfl Tryz.ntmps72 (by simp) ?_
  intro a0 hf0 ha
  have h00 : Holds (Is v0) (a0.eval (.tmp 0)) w0 := arg_holds ha rfl rfl
  clear ha
  have g0 : Grow w0 w0 := Grow.refl _
  refine wp_seq ?_
  refine wp_region_lit ?_
  refine wp_all [([], [])] [0] w0.heap.size hf0 g0.size (by kernel_rfl) bund_nil ?_
  refine ch rfl (ob_assign arg_c) ?_
  refine ch_nil ?_
  intro a1 w2 hf3 hg4 hk5 hn6
  have h7 := hk5.holds rfl h00
  have g8 := g0.trans hg4
  clear h00 g0 hf0 hk5 hn6
  refine then_ ?_
  refine wp_seq ?_
  refine wp_region_lit ?_
  refine wp_all [([], [])] [0] w0.heap.size hf3 g8.size (by kernel_rfl) bund_nil ?_
  refine ch rfl (ob_assign arg_c) ?_
  refine ch_nil ?_
  intro a9 w10 hf11 hg12 hk13 hn14
  have h15 : Holds _ (a9.eval (.tmp 3)) w10 := hn14.at 0 0 rfl rfl rfl
  have h16 := hk13.holds rfl h7
  have g17 := g8.trans hg12
  clear h7 g8 hf3 hk13 hn14 hg12
  refine then_ ?_
  refine wp_seq ?_
  refine wp_seq ?_
  refine wp_region_lit ?_
  refine wp_all [([0], []), ([], [0]), ([], [])] [3] w0.heap.size hf11 g17.size (by kernel_rfl) (bund_cons (is_any h16) bund_nil) ?_
  refine ch rfl (ob_move (arg_free 0 rfl rfl)) ?_
  refine ch rfl (ob_len (ArgOK.val (arg_op 0 0 rfl rfl rfl rfl) (hv0.up g17)) Tryz.underlying23) ?_
  refine ch rfl (ob_move arg_c) ?_
  refine ch_nil ?_
  intro a18 w19 hf20 hg21 hk22 hn23
  have h24 : Holds _ (a18.eval (.tmp 6)) w19 := hn23.at 0 2 rfl rfl rfl
  have h25 : Holds _ (a18.eval (.tmp 7)) w19 := hn23.at 1 1 rfl rfl rfl
  have h26 : Holds _ (a18.eval (.tmp 8)) w19 := hn23.at 2 0 rfl rfl rfl
  have h27 := hk22.holds rfl (h15.up hg21)
  have g28 := g17.trans hg21
  clear h15 g17 hf11 hk22 hn23 hg21
  refine then_ ?_
  refine wp_block ?_
  have g29 : Grow w19 w19 := Grow.refl _
  have hz30 : w0.heap.size ≤ w19.heap.size := g28.size
  refine wp_loopL (α := Nat) (fun i a' w' => Fr 18 a' ∧ (i ≤ 3) ∧ (∀ j, j < i → ([a, b, c] : List Int).getD j default = 0) ∧ Grow w0 w' ∧ Grow w19 w' ∧ Keep [3, 6, 7] a18 a' ∧ Holds (Is (intV (i : Int))) (a'.eval (.tmp 8)) w') (fun i => 3 - i) (0) ⟨hf20, (by omega), (by exact fun j hj => absurd hj (Nat.not_lt_zero j)), g28, g29, Keep.refl _ _, (is_cast h26 (by first | rfl | (refine congrArg intV ?_; (try dsimp only); omega)))⟩ ?_
  intro i a31 w32 ⟨hf33, hi35, hi36, g37, g38, kk34, h39⟩
  have h40 := kk34.holds rfl h24
  have h41 := kk34.holds rfl h25
  have h42 := kk34.holds rfl h27
  refine wp_seq ?_
  refine wp_region_lit ?_
  refine wp_all [([8, 7], [])] [3, 6, 7, 8] w19.heap.size hf33 g38.size (by kernel_rfl) (bund_cons h39 (bund_cons (is_any h41) bund_nil)) ?_
  refine ch rfl (ob_lss (arg_free 0 rfl rfl) (arg_free 1 rfl rfl)) ?_
  refine ch_nil ?_
  intro a43 w44 hf45 hg46 hk47 hn48
  have h49 : Holds _ (a43.eval (.tmp 9)) w44 := hn48.at 0 0 rfl rfl rfl
  have h50 := hk47.holds rfl (h39.up hg46)
  have h51 := hk47.holds rfl h40
  have h52 := hk47.holds rfl h41
  have h53 := hk47.holds rfl h42
  have g54 := g37.trans hg46
  have g55 := g38.trans hg46
  have kk56 : Keep _ a18 a43 := kk34.trans hk47 rfl
  clear h39 h40 h41 h42 g37 g38 kk34 hf33 hk47 hn48 hg46
  refine then_ ?_
  refine wp_seq ?_
  refine wp_if h49 ?_ ?_
  · intro hc57
    try simp only [List.length_cons, List.length_nil, cond_norm] at hc57
    refine wp_skip ?_
    refine then_ ?_
    refine wp_seq ?_
    refine wp_block ?_
    refine wp_seq ?_
    refine wp_region_lit ?_
    refine wp_all [([6, 8], []), ([], [0]), ([], [1])] [3, 6, 7, 8] w19.heap.size hf45 g55.size (by kernel_rfl) (bund_cons (is_any h51) (bund_cons h50 bund_nil)) ?_
    refine ch rfl (ob_ix (ArgOK.val (arg_free 0 rfl rfl) (hv0.up g54)) (arg_free 1 rfl rfl) (rfl) ?_ Tryz.underlying23 szInt) ?_
    · (show _ < 3; omega)
    refine ch rfl (ob_load1 (arg_op 0 0 rfl rfl rfl rfl) Tryz.underlying3 rfl) ?_
    refine ch rfl (ob_assign (arg_op 1 0 rfl rfl rfl rfl)) ?_
    refine ch_nil ?_
    intro a58 w59 hf60 hg61 hk62 hn63
    have h64 : Holds _ (a58.eval (.tmp 5)) w59 := hn63.at 2 0 rfl rfl rfl
    have h65 := hk62.holds rfl (h50.up hg61)
    have h66 := hk62.holds rfl h51
    have h67 := hk62.holds rfl h52
    have h68 := hk62.holds rfl h53
    have g69 := g54.trans hg61
    have g70 := g55.trans hg61
    have kk71 : Keep _ a18 a58 := kk56.trans hk62 rfl
    clear h50 h51 h52 h53 g54 g55 kk56 hf45 hk62 hn63 hg61
    refine then_ ?_
    refine wp_seq ?_
    refine wp_region_lit ?_
    refine wp_all [([5], []), ([3], []), ([], [0, 1])] [3, 5, 6, 7, 8] w19.heap.size hf60 g70.size (by kernel_rfl) (bund_cons h64 (bund_cons (is_any h68) bund_nil)) ?_
    refine ch rfl (ob_move (arg_free 0 rfl rfl)) ?_
    refine ch rfl (ob_move (arg_free 1 rfl rfl)) ?_
    refine ch rfl (ob_neq (arg_op 0 1 rfl rfl rfl rfl) (arg_op 1 0 rfl rfl rfl rfl)) ?_
    refine ch_nil ?_
    intro a72 w73 hf74 hg75 hk76 hn77
    have h78 : Holds _ (a72.eval (.tmp 14)) w73 := hn77.at 2 0 rfl rfl rfl
    have h79 := hk76.holds rfl (h64.up hg75)
    have h80 := hk76.holds rfl (h65.up hg75)
    have h81 := hk76.holds rfl h66
    have h82 := hk76.holds rfl h67
    have h83 := hk76.holds rfl h68
    have g84 := g69.trans hg75
    have g85 := g70.trans hg75
    have kk86 : Keep _ a18 a72 := kk71.trans hk76 rfl
    clear h64 h65 h66 h67 h68 g69 g70 kk71 hf60 hk76 hn77 hg75
    refine then_ ?_
    refine wp_if h78 ?_ ?_
    · intro hc87
      try simp only [List.length_cons, List.length_nil, cond_norm] at hc87
      have hz := or3_hit (i := i) (by assumption) (by omega) hc87
      refine wp_seq ?_
      refine wp_region_lit ?_
      refine wp_all [([5], []), ([], [0])] [3, 6, 7] w19.heap.size hf74 g85.size (by kernel_rfl) (bund_cons h79 bund_nil) ?_
      refine ch rfl (ob_move (arg_free 0 rfl rfl)) ?_
      refine ch rfl (ob_assign (arg_op 0 0 rfl rfl rfl rfl)) ?_
      refine ch_nil ?_
      intro a88 w89 hf90 hg91 hk92 hn93
      have h94 : Holds _ (a88.eval (.tmp 2)) w89 := hn93.at 1 0 rfl rfl rfl
      have h95 := hk92.holds rfl h81
      have h96 := hk92.holds rfl h82
      have h97 := hk92.holds rfl h83
      have g98 := g84.trans hg91
      have g99 := g85.trans hg91
      have kk100 : Keep _ a18 a88 := kk86.trans hk92 rfl
      clear h81 h82 h83 g84 g85 kk86 hf74 hk92 hn93 hg91
      refine then_ ?_
      refine wp_ret ?_
      refine blockR ?_
      refine thenR ?_
      refine thenR ?_
      refine blockR ?_
      refine thenR ?_
      exact ret_tmp rfl hf90 g98 (is_cast h94 (congrArg intV hz))
    · intro hc87
      try simp only [List.length_cons, List.length_nil, cond_norm] at hc87
      have hst := or3_step (i := i) (by assumption) (by first | exact hc87 | exact Classical.not_not.1 hc87)
      refine wp_skip ?_
      refine blockN ?_
      refine then_ ?_
      refine wp_region_lit ?_
      refine wp_all [([8], []), ([], [0])] [3, 6, 7] w19.heap.size hf74 g85.size (by kernel_rfl) (bund_cons h80 bund_nil) ?_
      first
        | (refine ch rfl (ob_add' (arg_free 0 rfl rfl) arg_c ?_) ?_; · omega)
        | refine ch rfl (ob_add (arg_free 0 rfl rfl) arg_c) ?_
      refine ch rfl (ob_move (arg_op 0 0 rfl rfl rfl rfl)) ?_
      refine ch_nil ?_
      intro a101 w102 hf103 hg104 hk105 hn106
      have h107 : Holds _ (a101.eval (.tmp 8)) w102 := hn106.at 1 0 rfl rfl rfl
      have h108 := hk105.holds rfl h81
      have h109 := hk105.holds rfl h82
      have h110 := hk105.holds rfl h83
      have g111 := g84.trans hg104
      have g112 := g85.trans hg104
      have kk113 : Keep _ a18 a101 := kk86.trans hk105 rfl
      clear h81 h82 h83 g84 g85 kk86 hf74 hk105 hn106 hg104
      refine then_ ?_
      exact ⟨(i + 1), (by ((try dsimp only); omega)), hf103, (by omega), (by exact hst), g111, g112, kk113, (is_cast h107 (by first | rfl | (refine congrArg intV ?_; (try dsimp only); omega)))⟩
  · intro hc57
    try simp only [List.length_cons, List.length_nil, cond_norm] at hc57
    have hz := or3_none (i := i) (by assumption) (by omega)
    refine wp_exit ?_
    refine thenX ?_
    refine thenX ?_
    refine blockX ?_
    refine then_ ?_
    refine wp_seq ?_
    refine wp_region_lit ?_
    refine wp_all [([3], []), ([], [0])] [] w19.heap.size hf45 g55.size (by kernel_rfl) (bund_cons (is_any h53) bund_nil) ?_
    refine ch rfl (ob_move (arg_free 0 rfl rfl)) ?_
    refine ch rfl (ob_assign (arg_op 0 0 rfl rfl rfl rfl)) ?_
    refine ch_nil ?_
    intro a114 w115 hf116 hg117 hk118 hn119
    have h120 : Holds _ (a114.eval (.tmp 2)) w115 := hn119.at 1 0 rfl rfl rfl
    have g121 := g54.trans hg117
    have g122 := g55.trans hg117
    clear g54 g55 hf45 hk118 hn119 hg117
    refine then_ ?_
    refine wp_ret ?_
    exact ret_tmp rfl hf116 g121 (is_cast h120 (congrArg intV hz))
set_option maxRecDepth 100000 in
theorem c_cmpC {a b : GCell} : Con2 32 (Is (cellV a)) (Is (cellV b)) (fun _ => Is (intV (cmpC a b))) := by
  intro lo v0 v1 w0 hlo hv0 hv1
  refine enter Tryz.func32 rfl Tryz.ntmps32 (by simp) ?_
  intro a0 hf0 ha
  have h00 : Holds _ (a0.eval (.tmp 0)) w0 := arg_holds ha rfl hv0
  have h01 : Holds _ (a0.eval (.tmp 1)) w0 := arg_holds ha rfl hv1
  clear ha
  have g0 : Grow w0 w0 := Grow.refl _
  refine wp_seq ?_
  refine wp_region_lit ?_
  refine wp_seg (l1 := [_]) [([0], [])] [1] w0.heap.size hf0 g0.size (by kernel_rfl) (bund_cons h00 bund_nil) ?_
  refine ch rfl (ob_box_cell (arg_free 0 rfl rfl)) ?_
  refine ch_nil ?_
  intro a1 w2 hf3 hg4 hk5 hn6
  have h7 : Holds _ (a1.eval (.tmp 2)) w2 := hn6.at 0 0 rfl rfl rfl
  have h8 := hk5.holds rfl h01
  have g9 := g0.trans hg4
  obtain ⟨bk10, hl11, hv12, hb13⟩ := OwnB.blk (lo := w0.heap.size) h7
  clear h01 g0 hf0 hk5 hn6
  have g14 : Grow w2 w2 := Grow.refl _
  have hl15 : bk10 < w2.heap.size := hb13.lt
  have hz16 : w0.heap.size ≤ w2.heap.size := g9.size
  refine wp_all [([1], []), ([], [])] [2] w2.heap.size hf3 g14.size (by kernel_rfl) (bund_cons (is_any h8) bund_nil) ?_
  refine ch rfl (ob_box_cell (arg_free 0 rfl rfl)) ?_
  refine ch rfl (ob_assign arg_c) ?_
  refine ch_nil ?_
  intro a17 w18 hf19 hg20 hk21 hn22
  have h23 : Holds _ (a17.eval (.tmp 3)) w18 := hn22.at 0 1 rfl rfl rfl
  have hv24 : Holds (Is (PtrV bk10)) (a17.eval (.tmp 2)) w18 := is_any (hk21.holds rfl hv12)
  have hb25 := hb13.up hg20
  have g26 := g9.trans hg20
  have g27 := g14.trans hg20
  obtain ⟨bk28, hl29, hv30, hb31⟩ := OwnB.blk (lo := w2.heap.size) h23
  clear hv12 hb13 g9 g14 hf3 hk21 hn22
  refine then_ ?_
  refine wp_seq ?_
  have g32 : Grow w18 w18 := Grow.refl _
  have hl33 : bk10 < w18.heap.size := hb25.lt
  have hl34 : bk28 < w18.heap.size := hb31.lt
  have hz35 : w2.heap.size ≤ w18.heap.size := g27.size
  refine wp_calm [0, 1, 0, 4, 15, 0, 32, 0, 128, 511, 0, 1024, 0, 4096, 16383, 32767, 65535, 131071] [([2], []), ([], [0]), ([3], []), ([], [2]), ([], [1, 3]), ([2], []), ([], [5]), ([3], []), ([], [7]), ([], [6, 8]), ([2], []), ([], [10]), ([3], []), ([], [12]), ([], [11, 13]), ([], [4, 9, 14]), ([], [15]), ([], [16])] [] w18.heap.size hf19 g32.size (by kernel_rfl) (bund_cons (hb25.ownp hv24) (bund_cons (hb31.ownp hv30) bund_nil)) ?_
  intro ws36 hs37
  refine ch rfl (ob_fa_cell0 (ArgOK.ownp (arg_free 0 rfl rfl))) ?_
  refine ch rfl (ob_load1 (arg_op 0 0 rfl rfl rfl rfl) Tryz.underlying3 rfl) ?_
  refine ch rfl (ob_fa_cell0 (ArgOK.ownp (arg_free 1 rfl rfl))) ?_
  refine ch rfl (ob_load1 (arg_op 2 0 rfl rfl rfl rfl) Tryz.underlying3 rfl) ?_
  refine ch rfl (ob_call2 (by kernel_rfl) (c_cmp) (arg_op 1 2 rfl rfl rfl rfl) (arg_op 3 0 rfl rfl rfl rfl)) ?_
  refine ch rfl (ob_fa_cell1 (ArgOK.ownp (arg_free 0 rfl rfl))) ?_
  refine ch rfl (ob_load1 (arg_op 5 0 rfl rfl rfl rfl) Tryz.underlying3 rfl) ?_
  refine ch rfl (ob_fa_cell1 (ArgOK.ownp (arg_free 1 rfl rfl))) ?_
  refine ch rfl (ob_load1 (arg_op 7 0 rfl rfl rfl rfl) Tryz.underlying3 rfl) ?_
  refine ch rfl (ob_call2 (by kernel_rfl) (c_cmp) (arg_op 6 2 rfl rfl rfl rfl) (arg_op 8 0 rfl rfl rfl rfl)) ?_
  refine ch rfl (ob_fa_cell2 (ArgOK.ownp (arg_free 0 rfl rfl))) ?_
  refine ch rfl (ob_load_nm (arg_op 10 0 rfl rfl rfl rfl)) ?_
  refine ch rfl (ob_fa_cell2 (ArgOK.ownp (arg_free 1 rfl rfl))) ?_
  refine ch rfl (ob_load_nm (arg_op 12 0 rfl rfl rfl rfl)) ?_
  refine ch rfl (ob_call2 (by kernel_rfl) (c_cmpNm) (arg_op 11 2 rfl rfl rfl rfl) (arg_op 13 0 rfl rfl rfl rfl)) ?_
  refine ch rfl (ob_bs3_int (arg_op 4 10 rfl rfl rfl rfl) (arg_op 9 5 rfl rfl rfl rfl) (arg_op 14 0 rfl rfl rfl rfl)) ?_
  refine ch rfl (ob_call1 (by kernel_rfl) (c_or) (ArgOK.sl (ArgOK.ownf (arg_op 15 0 rfl rfl rfl rfl)))) ?_
  refine ch rfl (ob_assign (arg_op 16 0 rfl rfl rfl rfl)) ?_
  refine ch_nil ?_
  intro a38 w39 hf40 hg41 hk42 hn43
  have h44 : Holds _ (a38.eval (.tmp 4)) w39 := hn43.at 17 0 rfl rfl rfl
  have g45 := g26.trans hg41
  have g46 := g27.trans hg41
  have g47 := g32.trans hg41
  clear g26 g27 g32 hf19 hk42 hn43
  refine then_ ?_
  refine wp_ret ?_
  exact ret_tmp rfl hf40 g45 h44
set_option maxRecDepth 100000 in
theorem c_amount {x : Int} : Con1 96 (Is (intV x)) (fun _ => Is (.bool (decide (0 ≤ x) && decide (x ≤ 1099511627776)))) := by
  intro lo v0 w0 hlo hv0
  refine enter Tryz.func96 rfl Tryz.ntmps96 (by simp) ?_
  intro a0 hf0 ha
  have h00 : Holds _ (a0.eval (.tmp 0)) w0 := arg_holds ha rfl hv0
  clear ha
  have g0 : Grow w0 w0 := Grow.refl _
  refine wp_seq ?_
  refine wp_region_lit ?_
  refine wp_all [([], [])] [0] w0.heap.size hf0 g0.size (by kernel_rfl) bund_nil ?_
  refine ch rfl (ob_assign arg_c) ?_
  refine ch_nil ?_
  intro a1 w2 hf3 hg4 hk5 hn6
  have h7 := hk5.holds rfl h00
  have g8 := g0.trans hg4
  clear h00 g0 hf0 hk5 hn6
  refine then_ ?_
  refine wp_seq ?_
  refine wp_region_lit ?_
  refine wp_all [([0], []), ([], [0]), ([], [1]), ([0], [2]), ([], [3, 2]), ([], [2, 4]), ([], [5])] [] w0.heap.size hf3 g8.size (by kernel_rfl) (bund_cons (is_any h7) bund_nil) ?_
  refine ch rfl (ob_move (arg_free 0 rfl rfl)) ?_
  refine ch rfl (ob_geq (arg_op 0 0 rfl rfl rfl rfl) arg_c) ?_
  refine ch rfl (ob_move (arg_op 1 0 rfl rfl rfl rfl)) ?_
  refine chg (b := _) rfl rfl (arg_op 2 0 rfl rfl rfl rfl) (fun hb2 => ob_move (arg_free 0 rfl rfl)) ?_
  refine chg (b := _) rfl rfl (arg_op 2 1 rfl rfl rfl rfl) (fun hb2 => ob_leq (ArgOK.when (arg_op 3 0 rfl rfl rfl rfl) hb2) arg_c) ?_
  refine ch rfl (ob_and (arg_op 2 2 rfl rfl rfl rfl) (arg_op 4 0 rfl rfl rfl rfl)) ?_
  refine ch rfl (ob_assign (arg_op 5 0 rfl rfl rfl rfl)) ?_
  refine ch_nil ?_
  intro a9 w10 hf11 hg12 hk13 hn14
  have h15 : Holds _ (a9.eval (.tmp 2)) w10 := hn14.at 6 0 rfl rfl rfl
  have g16 := g8.trans hg12
  clear g8 hf3 hk13 hn14 hg12
  refine then_ ?_
  refine wp_ret ?_
  exact ret_tmp rfl hf11 g16 h15
set_option maxRecDepth 100000 in
theorem c_validCell {c : GCell} : Con1 57 (Is (cellV c)) (fun _ => Is (.bool (cellB c))) := by
  intro lo v0 w0 hlo hv0
  refine enter Tryz.func57 rfl Tryz.ntmps57 (by simp) ?_
  intro a0 hf0 ha
  have h00 : Holds _ (a0.eval (.tmp 0)) w0 := arg_holds ha rfl hv0
  clear ha
  have g0 : Grow w0 w0 := Grow.refl _
  refine wp_seq ?_
  refine wp_region_lit ?_
  refine wp_all [([0], []), ([], [])] [] w0.heap.size hf0 g0.size (by kernel_rfl) (bund_cons h00 bund_nil) ?_
  refine ch rfl (ob_box_cell (arg_free 0 rfl rfl)) ?_
  refine ch rfl (ob_assign arg_c) ?_
  refine ch_nil ?_
  intro a1 w2 hf3 hg4 hk5 hn6
  have h7 : Holds _ (a1.eval (.tmp 1)) w2 := hn6.at 0 1 rfl rfl rfl
  have g8 := g0.trans hg4
  obtain ⟨bk9, hl10, hv11, hb12⟩ := OwnB.blk (lo := w0.heap.size) h7
  clear g0 hf0 hk5 hn6
  refine then_ ?_
  refine wp_seq ?_
  refine wp_region_lit ?_
  refine wp_all [([], [])] [1] w0.heap.size hf3 g8.size (by kernel_rfl) bund_nil ?_
  refine ch rfl (ob_assign arg_c) ?_
  refine ch_nil ?_
  intro a13 w14 hf15 hg16 hk17 hn18
  have h19 : Holds _ (a13.eval (.tmp 3)) w14 := hn18.at 0 0 rfl rfl rfl
  have hv20 : Holds (Is (PtrV bk9)) (a13.eval (.tmp 1)) w14 := is_any (hk17.holds rfl hv11)
  have hb21 := hb12.up hg16
  have g22 := g8.trans hg16
  clear hv11 hb12 g8 hf3 hk17 hn18 hg16
  refine then_ ?_
  refine wp_seq ?_
  refine wp_seq ?_
  refine wp_region_lit ?_
  refine wp_all [([1], []), ([], [0])] [1, 3] w0.heap.size hf15 g22.size (by kernel_rfl) (bund_cons (hb21.ownp hv20) bund_nil) ?_
  refine ch rfl (ob_fa_cell0 (ArgOK.ownp (arg_free 0 rfl rfl))) ?_
  refine ch rfl (ob_load1 (arg_op 0 0 rfl rfl rfl rfl) Tryz.underlying3 rfl) ?_
  refine ch_nil ?_
  intro a23 w24 hf25 hg26 hk27 hn28
  have h29 : Holds _ (a23.eval (.tmp 5)) w24 := hn28.at 1 0 rfl rfl rfl
  have h30 := hk27.holds rfl (h19.up hg26)
  have hv31 : Holds (Is (PtrV bk9)) (a23.eval (.tmp 1)) w24 := is_any (hk27.holds rfl hv20)
  have hb32 := hb21.up hg26
  have g33 := g22.trans hg26
  clear h19 hv20 hb21 g22 hf15 hk27 hn28 hg26
  refine then_ ?_
  refine wp_block ?_
  refine wp_seq ?_
  refine wp_region_lit ?_
  refine wp_all [([5], []), ([], [0])] [1, 3, 5] w0.heap.size hf25 g33.size (by kernel_rfl) (bund_cons h29 bund_nil) ?_
  refine ch rfl (ob_eql (arg_free 0 rfl rfl) arg_c) ?_
  refine ch rfl (ob_assign (arg_op 0 0 rfl rfl rfl rfl)) ?_
  refine ch_nil ?_
  intro a34 w35 hf36 hg37 hk38 hn39
  have h40 : Holds _ (a34.eval (.tmp 6)) w35 := hn39.at 1 0 rfl rfl rfl
  have h41 := hk38.holds rfl (h29.up hg37)
  have h42 := hk38.holds rfl (h30.up hg37)
  have hv43 : Holds (Is (PtrV bk9)) (a34.eval (.tmp 1)) w35 := is_any (hk38.holds rfl hv31)
  have hb44 := hb32.up hg37
  have g45 := g33.trans hg37
  clear h29 h30 hv31 hb32 g33 hf25 hk38 hn39 hg37
  refine then_ ?_
  refine wp_if h40 ?_ ?_
  · intro hc46
    try simp only [cond_norm] at hc46
    refine wp_region_lit ?_
    refine wp_all [([], [])] [1] w0.heap.size hf36 g45.size (by kernel_rfl) bund_nil ?_
    refine ch rfl (ob_assign arg_c) ?_
    refine ch_nil ?_
    intro a47 w48 hf49 hg50 hk51 hn52
    have h53 : Holds _ (a47.eval (.tmp 3)) w48 := hn52.at 0 0 rfl rfl rfl
    have hv54 : Holds (Is (PtrV bk9)) (a47.eval (.tmp 1)) w48 := is_any (hk51.holds rfl hv43)
    have hb55 := hb44.up hg50
    have g56 := g45.trans hg50
    clear hv43 hb44 g45 hf36 hk51 hn52 hg50
    refine blockN ?_
    refine then_ ?_
    refine wp_seq ?_
    refine wp_region_lit ?_
    refine wp_all [([1], []), ([], [0]), ([], [1]), ([], [2]), ([1], [3]), ([], [4, 3]), ([3], [3]), ([], [5, 6, 3]), ([], [3, 7]), ([], [8]), ([1], [9]), ([], [10, 9]), ([], [11, 9]), ([], [12, 9]), ([1], [13]), ([], [14, 13]), ([], [13]), ([], [15, 16, 13]), ([], [13, 17, 9]), ([], [9, 18]), ([], [19])] [] w0.heap.size hf49 g56.size (by kernel_rfl) (bund_cons (hb55.ownp hv54) (bund_cons h53 bund_nil)) ?_
    refine ch rfl (ob_fa_cell1 (ArgOK.ownp (arg_free 0 rfl rfl))) ?_
    refine ch rfl (ob_load1 (arg_op 0 0 rfl rfl rfl rfl) Tryz.underlying3 rfl) ?_
    refine ch rfl (ob_geq (arg_op 1 0 rfl rfl rfl rfl) arg_c) ?_
    refine ch rfl (ob_move (arg_op 2 0 rfl rfl rfl rfl)) ?_
    refine chg (b := _) rfl rfl (arg_op 3 0 rfl rfl rfl rfl) (fun hb3 => ob_fa_cell1 (ArgOK.ownp (arg_free 0 rfl rfl))) ?_
    refine chg (b := _) rfl rfl (arg_op 3 1 rfl rfl rfl rfl) (fun hb3 => ob_load1 (ArgOK.when (arg_op 4 0 rfl rfl rfl rfl) hb3) Tryz.underlying3 rfl) ?_
    refine chg (b := _) rfl rfl (arg_op 3 2 rfl rfl rfl rfl) (fun hb3 => ob_move (arg_free 1 rfl rfl)) ?_
    refine chg (b := _) rfl rfl (arg_op 3 3 rfl rfl rfl rfl) (fun hb3 => ob_leq (ArgOK.when (arg_op 5 1 rfl rfl rfl rfl) hb3) (ArgOK.when (arg_op 6 0 rfl rfl rfl rfl) hb3)) ?_
    refine ch rfl (ob_and (arg_op 3 4 rfl rfl rfl rfl) (arg_op 7 0 rfl rfl rfl rfl)) ?_
    refine ch rfl (ob_move (arg_op 8 0 rfl rfl rfl rfl)) ?_
    refine chg (b := _) rfl rfl (arg_op 9 0 rfl rfl rfl rfl) (fun hb9 => ob_fa_cell0 (ArgOK.ownp (arg_free 0 rfl rfl))) ?_
    refine chg (b := _) rfl rfl (arg_op 9 1 rfl rfl rfl rfl) (fun hb9 => ob_load1 (ArgOK.when (arg_op 10 0 rfl rfl rfl rfl) hb9) Tryz.underlying3 rfl) ?_
    refine chg (b := _) rfl rfl (arg_op 9 2 rfl rfl rfl rfl) (fun hb9 => ob_eql (ArgOK.when (arg_op 11 0 rfl rfl rfl rfl) hb9) arg_c) ?_
    refine chg (b := _) rfl rfl (arg_op 9 3 rfl rfl rfl rfl) (fun hb9 => ob_move (ArgOK.when (arg_op 12 0 rfl rfl rfl rfl) hb9)) ?_
    refine chgn (b := _) rfl rfl (arg_op 13 0 rfl rfl rfl rfl) (fun ⟨hb9, hb13⟩ => ob_fa_cell2 (ArgOK.ownp (arg_free 0 rfl rfl))) ?_
    refine chgn (b := _) rfl rfl (arg_op 13 1 rfl rfl rfl rfl) (fun ⟨hb9, hb13⟩ => ob_load_nm (ArgOK.when (arg_op 14 0 rfl rfl rfl rfl) ⟨hb9, hb13⟩)) ?_
    refine chgn (b := _) rfl rfl (arg_op 13 2 rfl rfl rfl rfl) (fun ⟨hb9, hb13⟩ => ob_build_nm0) ?_
    refine chgn (b := _) rfl rfl (arg_op 13 3 rfl rfl rfl rfl) (fun ⟨hb9, hb13⟩ => ob_eqnm (ArgOK.when (arg_op 15 1 rfl rfl rfl rfl) ⟨hb9, hb13⟩) (ArgOK.when (arg_op 16 0 rfl rfl rfl rfl) ⟨hb9, hb13⟩)) ?_
    refine chg (b := _) rfl rfl (arg_op 9 8 rfl rfl rfl rfl) (fun hb9 => ob_or (ArgOK.when (arg_op 13 4 rfl rfl rfl rfl) hb9) (ArgOK.whenAnd (arg_op 17 0 rfl rfl rfl rfl) hb9)) ?_
    refine ch rfl (ob_and (arg_op 9 9 rfl rfl rfl rfl) (arg_op 18 0 rfl rfl rfl rfl)) ?_
    refine ch rfl (ob_assign (arg_op 19 0 rfl rfl rfl rfl)) ?_
    refine ch_nil ?_
    intro a57 w58 hf59 hg60 hk61 hn62
    have h63 : Holds _ (a57.eval (.tmp 2)) w58 := hn62.at 20 0 rfl rfl rfl
    have g64 := g56.trans hg60
    clear g56 hf49 hk61 hn62 hg60
    refine then_ ?_
    refine wp_ret ?_
    exact ret_tmp rfl hf59 g64 (is_cast h63 (congrArg Value.bool (cellB_of (by simp only [Bool.and_eq_true, Bool.or_eq_true, decide_eq_true_eq, Bool.false_eq_true]; by_cases hl : c.lock = 0 <;> simp only [hl, true_and, and_true, false_and, and_false, or_false, false_or, or_true, true_or, false_iff] <;> first | omega | (exfalso; omega)))))
  · intro hc46
    try simp only [cond_norm] at hc46
    refine wp_seq ?_
    refine wp_region_lit ?_
    refine wp_all [([5], []), ([], [0])] [1, 3, 5] w0.heap.size hf36 g45.size (by kernel_rfl) (bund_cons h41 bund_nil) ?_
    refine ch rfl (ob_eql (arg_free 0 rfl rfl) arg_c) ?_
    refine ch rfl (ob_assign (arg_op 0 0 rfl rfl rfl rfl)) ?_
    refine ch_nil ?_
    intro a65 w66 hf67 hg68 hk69 hn70
    have h71 : Holds _ (a65.eval (.tmp 8)) w66 := hn70.at 1 0 rfl rfl rfl
    have h72 := hk69.holds rfl (h41.up hg68)
    have h73 := hk69.holds rfl (h42.up hg68)
    have hv74 : Holds (Is (PtrV bk9)) (a65.eval (.tmp 1)) w66 := is_any (hk69.holds rfl hv43)
    have hb75 := hb44.up hg68
    have g76 := g45.trans hg68
    clear h41 h42 hv43 hb44 g45 hf36 hk69 hn70 hg68
    refine then_ ?_
    refine wp_if h71 ?_ ?_
    · intro hc77
      try simp only [cond_norm] at hc77
      refine wp_region_lit ?_
      refine wp_all [([], [])] [1] w0.heap.size hf67 g76.size (by kernel_rfl) bund_nil ?_
      refine ch rfl (ob_assign arg_c) ?_
      refine ch_nil ?_
      intro a78 w79 hf80 hg81 hk82 hn83
      have h84 : Holds _ (a78.eval (.tmp 3)) w79 := hn83.at 0 0 rfl rfl rfl
      have hv85 : Holds (Is (PtrV bk9)) (a78.eval (.tmp 1)) w79 := is_any (hk82.holds rfl hv74)
      have hb86 := hb75.up hg81
      have g87 := g76.trans hg81
      clear hv74 hb75 g76 hf67 hk82 hn83 hg81
      refine blockN ?_
      refine then_ ?_
      refine wp_seq ?_
      refine wp_region_lit ?_
      refine wp_all [([1], []), ([], [0]), ([], [1]), ([], [2]), ([1], [3]), ([], [4, 3]), ([3], [3]), ([], [5, 6, 3]), ([], [3, 7]), ([], [8]), ([1], [9]), ([], [10, 9]), ([], [11, 9]), ([], [12, 9]), ([1], [13]), ([], [14, 13]), ([], [13]), ([], [15, 16, 13]), ([], [13, 17, 9]), ([], [9, 18]), ([], [19])] [] w0.heap.size hf80 g87.size (by kernel_rfl) (bund_cons (hb86.ownp hv85) (bund_cons h84 bund_nil)) ?_
      refine ch rfl (ob_fa_cell1 (ArgOK.ownp (arg_free 0 rfl rfl))) ?_
      refine ch rfl (ob_load1 (arg_op 0 0 rfl rfl rfl rfl) Tryz.underlying3 rfl) ?_
      refine ch rfl (ob_geq (arg_op 1 0 rfl rfl rfl rfl) arg_c) ?_
      refine ch rfl (ob_move (arg_op 2 0 rfl rfl rfl rfl)) ?_
      refine chg (b := _) rfl rfl (arg_op 3 0 rfl rfl rfl rfl) (fun hb3 => ob_fa_cell1 (ArgOK.ownp (arg_free 0 rfl rfl))) ?_
      refine chg (b := _) rfl rfl (arg_op 3 1 rfl rfl rfl rfl) (fun hb3 => ob_load1 (ArgOK.when (arg_op 4 0 rfl rfl rfl rfl) hb3) Tryz.underlying3 rfl) ?_
      refine chg (b := _) rfl rfl (arg_op 3 2 rfl rfl rfl rfl) (fun hb3 => ob_move (arg_free 1 rfl rfl)) ?_
      refine chg (b := _) rfl rfl (arg_op 3 3 rfl rfl rfl rfl) (fun hb3 => ob_leq (ArgOK.when (arg_op 5 1 rfl rfl rfl rfl) hb3) (ArgOK.when (arg_op 6 0 rfl rfl rfl rfl) hb3)) ?_
      refine ch rfl (ob_and (arg_op 3 4 rfl rfl rfl rfl) (arg_op 7 0 rfl rfl rfl rfl)) ?_
      refine ch rfl (ob_move (arg_op 8 0 rfl rfl rfl rfl)) ?_
      refine chg (b := _) rfl rfl (arg_op 9 0 rfl rfl rfl rfl) (fun hb9 => ob_fa_cell0 (ArgOK.ownp (arg_free 0 rfl rfl))) ?_
      refine chg (b := _) rfl rfl (arg_op 9 1 rfl rfl rfl rfl) (fun hb9 => ob_load1 (ArgOK.when (arg_op 10 0 rfl rfl rfl rfl) hb9) Tryz.underlying3 rfl) ?_
      refine chg (b := _) rfl rfl (arg_op 9 2 rfl rfl rfl rfl) (fun hb9 => ob_eql (ArgOK.when (arg_op 11 0 rfl rfl rfl rfl) hb9) arg_c) ?_
      refine chg (b := _) rfl rfl (arg_op 9 3 rfl rfl rfl rfl) (fun hb9 => ob_move (ArgOK.when (arg_op 12 0 rfl rfl rfl rfl) hb9)) ?_
      refine chgn (b := _) rfl rfl (arg_op 13 0 rfl rfl rfl rfl) (fun ⟨hb9, hb13⟩ => ob_fa_cell2 (ArgOK.ownp (arg_free 0 rfl rfl))) ?_
      refine chgn (b := _) rfl rfl (arg_op 13 1 rfl rfl rfl rfl) (fun ⟨hb9, hb13⟩ => ob_load_nm (ArgOK.when (arg_op 14 0 rfl rfl rfl rfl) ⟨hb9, hb13⟩)) ?_
      refine chgn (b := _) rfl rfl (arg_op 13 2 rfl rfl rfl rfl) (fun ⟨hb9, hb13⟩ => ob_build_nm0) ?_
      refine chgn (b := _) rfl rfl (arg_op 13 3 rfl rfl rfl rfl) (fun ⟨hb9, hb13⟩ => ob_eqnm (ArgOK.when (arg_op 15 1 rfl rfl rfl rfl) ⟨hb9, hb13⟩) (ArgOK.when (arg_op 16 0 rfl rfl rfl rfl) ⟨hb9, hb13⟩)) ?_
      refine chg (b := _) rfl rfl (arg_op 9 8 rfl rfl rfl rfl) (fun hb9 => ob_or (ArgOK.when (arg_op 13 4 rfl rfl rfl rfl) hb9) (ArgOK.whenAnd (arg_op 17 0 rfl rfl rfl rfl) hb9)) ?_
      refine ch rfl (ob_and (arg_op 9 9 rfl rfl rfl rfl) (arg_op 18 0 rfl rfl rfl rfl)) ?_
      refine ch rfl (ob_assign (arg_op 19 0 rfl rfl rfl rfl)) ?_
      refine ch_nil ?_
      intro a88 w89 hf90 hg91 hk92 hn93
      have h94 : Holds _ (a88.eval (.tmp 2)) w89 := hn93.at 20 0 rfl rfl rfl
      have g95 := g87.trans hg91
      clear g87 hf80 hk92 hn93 hg91
      refine then_ ?_
      refine wp_ret ?_
      exact ret_tmp rfl hf90 g95 (is_cast h94 (congrArg Value.bool (cellB_of (by simp only [Bool.and_eq_true, Bool.or_eq_true, decide_eq_true_eq, Bool.false_eq_true]; by_cases hl : c.lock = 0 <;> simp only [hl, true_and, and_true, false_and, and_false, or_false, false_or, or_true, true_or, false_iff] <;> first | omega | (exfalso; omega)))))
    · intro hc77
      try simp only [cond_norm] at hc77
      refine wp_seq ?_
      refine wp_seq ?_
      refine wp_region_lit ?_
      refine wp_all [([5], []), ([], [0])] [1, 3, 5] w0.heap.size hf67 g76.size (by kernel_rfl) (bund_cons h72 bund_nil) ?_
      refine ch rfl (ob_eql (arg_free 0 rfl rfl) arg_c) ?_
      refine ch rfl (ob_assign (arg_op 0 0 rfl rfl rfl rfl)) ?_
      refine ch_nil ?_
      intro a96 w97 hf98 hg99 hk100 hn101
      have h102 : Holds _ (a96.eval (.tmp 10)) w97 := hn101.at 1 0 rfl rfl rfl
      have h103 := hk100.holds rfl (h72.up hg99)
      have h104 := hk100.holds rfl (h73.up hg99)
      have hv105 : Holds (Is (PtrV bk9)) (a96.eval (.tmp 1)) w97 := is_any (hk100.holds rfl hv74)
      have hb106 := hb75.up hg99
      have g107 := g76.trans hg99
      clear h72 h73 hv74 hb75 g76 hf67 hk100 hn101 hg99
      refine then_ ?_
      refine wp_if h102 ?_ ?_
      · intro hc108
        try simp only [cond_norm] at hc108
        refine wp_skip ?_
        refine then_ ?_
        refine wp_if h102 ?_ ?_
        · intro hc109
          try simp only [cond_norm] at hc109
          refine wp_skip ?_
          refine blockN ?_
          refine then_ ?_
          refine wp_seq ?_
          refine wp_region_lit ?_
          refine wp_all [([1], []), ([], [0]), ([], [1]), ([], [2]), ([1], [3]), ([], [4, 3]), ([3], [3]), ([], [5, 6, 3]), ([], [3, 7]), ([], [8]), ([1], [9]), ([], [10, 9]), ([], [11, 9]), ([], [12, 9]), ([1], [13]), ([], [14, 13]), ([], [13]), ([], [15, 16, 13]), ([], [13, 17, 9]), ([], [9, 18]), ([], [19])] [] w0.heap.size hf98 g107.size (by kernel_rfl) (bund_cons (hb106.ownp hv105) (bund_cons h104 bund_nil)) ?_
          refine ch rfl (ob_fa_cell1 (ArgOK.ownp (arg_free 0 rfl rfl))) ?_
          refine ch rfl (ob_load1 (arg_op 0 0 rfl rfl rfl rfl) Tryz.underlying3 rfl) ?_
          refine ch rfl (ob_geq (arg_op 1 0 rfl rfl rfl rfl) arg_c) ?_
          refine ch rfl (ob_move (arg_op 2 0 rfl rfl rfl rfl)) ?_
          refine chg (b := _) rfl rfl (arg_op 3 0 rfl rfl rfl rfl) (fun hb3 => ob_fa_cell1 (ArgOK.ownp (arg_free 0 rfl rfl))) ?_
          refine chg (b := _) rfl rfl (arg_op 3 1 rfl rfl rfl rfl) (fun hb3 => ob_load1 (ArgOK.when (arg_op 4 0 rfl rfl rfl rfl) hb3) Tryz.underlying3 rfl) ?_
          refine chg (b := _) rfl rfl (arg_op 3 2 rfl rfl rfl rfl) (fun hb3 => ob_move (arg_free 1 rfl rfl)) ?_
          refine chg (b := _) rfl rfl (arg_op 3 3 rfl rfl rfl rfl) (fun hb3 => ob_leq (ArgOK.when (arg_op 5 1 rfl rfl rfl rfl) hb3) (ArgOK.when (arg_op 6 0 rfl rfl rfl rfl) hb3)) ?_
          refine ch rfl (ob_and (arg_op 3 4 rfl rfl rfl rfl) (arg_op 7 0 rfl rfl rfl rfl)) ?_
          refine ch rfl (ob_move (arg_op 8 0 rfl rfl rfl rfl)) ?_
          refine chg (b := _) rfl rfl (arg_op 9 0 rfl rfl rfl rfl) (fun hb9 => ob_fa_cell0 (ArgOK.ownp (arg_free 0 rfl rfl))) ?_
          refine chg (b := _) rfl rfl (arg_op 9 1 rfl rfl rfl rfl) (fun hb9 => ob_load1 (ArgOK.when (arg_op 10 0 rfl rfl rfl rfl) hb9) Tryz.underlying3 rfl) ?_
          refine chg (b := _) rfl rfl (arg_op 9 2 rfl rfl rfl rfl) (fun hb9 => ob_eql (ArgOK.when (arg_op 11 0 rfl rfl rfl rfl) hb9) arg_c) ?_
          refine chg (b := _) rfl rfl (arg_op 9 3 rfl rfl rfl rfl) (fun hb9 => ob_move (ArgOK.when (arg_op 12 0 rfl rfl rfl rfl) hb9)) ?_
          refine chgn (b := _) rfl rfl (arg_op 13 0 rfl rfl rfl rfl) (fun ⟨hb9, hb13⟩ => ob_fa_cell2 (ArgOK.ownp (arg_free 0 rfl rfl))) ?_
          refine chgn (b := _) rfl rfl (arg_op 13 1 rfl rfl rfl rfl) (fun ⟨hb9, hb13⟩ => ob_load_nm (ArgOK.when (arg_op 14 0 rfl rfl rfl rfl) ⟨hb9, hb13⟩)) ?_
          refine chgn (b := _) rfl rfl (arg_op 13 2 rfl rfl rfl rfl) (fun ⟨hb9, hb13⟩ => ob_build_nm0) ?_
          refine chgn (b := _) rfl rfl (arg_op 13 3 rfl rfl rfl rfl) (fun ⟨hb9, hb13⟩ => ob_eqnm (ArgOK.when (arg_op 15 1 rfl rfl rfl rfl) ⟨hb9, hb13⟩) (ArgOK.when (arg_op 16 0 rfl rfl rfl rfl) ⟨hb9, hb13⟩)) ?_
          refine chg (b := _) rfl rfl (arg_op 9 8 rfl rfl rfl rfl) (fun hb9 => ob_or (ArgOK.when (arg_op 13 4 rfl rfl rfl rfl) hb9) (ArgOK.whenAnd (arg_op 17 0 rfl rfl rfl rfl) hb9)) ?_
          refine ch rfl (ob_and (arg_op 9 9 rfl rfl rfl rfl) (arg_op 18 0 rfl rfl rfl rfl)) ?_
          refine ch rfl (ob_assign (arg_op 19 0 rfl rfl rfl rfl)) ?_
          refine ch_nil ?_
          intro a110 w111 hf112 hg113 hk114 hn115
          have h116 : Holds _ (a110.eval (.tmp 2)) w111 := hn115.at 20 0 rfl rfl rfl
          have g117 := g107.trans hg113
          clear g107 hf98 hk114 hn115 hg113
          refine then_ ?_
          refine wp_ret ?_
          exact ret_tmp rfl hf112 g117 (is_cast h116 (congrArg Value.bool (cellB_of (by simp only [Bool.and_eq_true, Bool.or_eq_true, decide_eq_true_eq, Bool.false_eq_true]; by_cases hl : c.lock = 0 <;> simp only [hl, true_and, and_true, false_and, and_false, or_false, false_or, or_true, true_or, false_iff] <;> first | omega | (exfalso; omega)))))
        · intro hc109
          try simp only [cond_norm] at hc109
          refine wp_seq ?_
          refine wp_region_lit ?_
          refine wp_all [([], [])] [] w0.heap.size hf98 g107.size (by kernel_rfl) bund_nil ?_
          refine ch rfl (ob_assign arg_c) ?_
          refine ch_nil ?_
          intro a118 w119 hf120 hg121 hk122 hn123
          have h124 : Holds _ (a118.eval (.tmp 2)) w119 := hn123.at 0 0 rfl rfl rfl
          have g125 := g107.trans hg121
          clear g107 hf98 hk122 hn123 hg121
          refine then_ ?_
          refine wp_ret ?_
          refine blockR ?_
          refine thenR ?_
          exact ret_tmp rfl hf120 g125 (is_cast h124 (congrArg Value.bool (cellB_of (by simp only [Bool.and_eq_true, Bool.or_eq_true, decide_eq_true_eq, Bool.false_eq_true]; by_cases hl : c.lock = 0 <;> simp only [hl, true_and, and_true, false_and, and_false, or_false, false_or, or_true, true_or, false_iff] <;> first | omega | (exfalso; omega)))))
      · intro hc108
        try simp only [cond_norm] at hc108
        refine wp_region_lit ?_
        refine wp_all [([5], []), ([], [0])] [1, 3] w0.heap.size hf98 g107.size (by kernel_rfl) (bund_cons h103 bund_nil) ?_
        refine ch rfl (ob_eql (arg_free 0 rfl rfl) arg_c) ?_
        refine ch rfl (ob_assign (arg_op 0 0 rfl rfl rfl rfl)) ?_
        refine ch_nil ?_
        intro a126 w127 hf128 hg129 hk130 hn131
        have h132 : Holds _ (a126.eval (.tmp 10)) w127 := hn131.at 1 0 rfl rfl rfl
        have h133 := hk130.holds rfl (h104.up hg129)
        have hv134 : Holds (Is (PtrV bk9)) (a126.eval (.tmp 1)) w127 := is_any (hk130.holds rfl hv105)
        have hb135 := hb106.up hg129
        have g136 := g107.trans hg129
        clear h104 hv105 hb106 g107 hf98 hk130 hn131 hg129
        refine then_ ?_
        refine wp_if h132 ?_ ?_
        · intro hc137
          try simp only [cond_norm] at hc137
          refine wp_skip ?_
          refine blockN ?_
          refine then_ ?_
          refine wp_seq ?_
          refine wp_region_lit ?_
          refine wp_all [([1], []), ([], [0]), ([], [1]), ([], [2]), ([1], [3]), ([], [4, 3]), ([3], [3]), ([], [5, 6, 3]), ([], [3, 7]), ([], [8]), ([1], [9]), ([], [10, 9]), ([], [11, 9]), ([], [12, 9]), ([1], [13]), ([], [14, 13]), ([], [13]), ([], [15, 16, 13]), ([], [13, 17, 9]), ([], [9, 18]), ([], [19])] [] w0.heap.size hf128 g136.size (by kernel_rfl) (bund_cons (hb135.ownp hv134) (bund_cons h133 bund_nil)) ?_
          refine ch rfl (ob_fa_cell1 (ArgOK.ownp (arg_free 0 rfl rfl))) ?_
          refine ch rfl (ob_load1 (arg_op 0 0 rfl rfl rfl rfl) Tryz.underlying3 rfl) ?_
          refine ch rfl (ob_geq (arg_op 1 0 rfl rfl rfl rfl) arg_c) ?_
          refine ch rfl (ob_move (arg_op 2 0 rfl rfl rfl rfl)) ?_
          refine chg (b := _) rfl rfl (arg_op 3 0 rfl rfl rfl rfl) (fun hb3 => ob_fa_cell1 (ArgOK.ownp (arg_free 0 rfl rfl))) ?_
          refine chg (b := _) rfl rfl (arg_op 3 1 rfl rfl rfl rfl) (fun hb3 => ob_load1 (ArgOK.when (arg_op 4 0 rfl rfl rfl rfl) hb3) Tryz.underlying3 rfl) ?_
          refine chg (b := _) rfl rfl (arg_op 3 2 rfl rfl rfl rfl) (fun hb3 => ob_move (arg_free 1 rfl rfl)) ?_
          refine chg (b := _) rfl rfl (arg_op 3 3 rfl rfl rfl rfl) (fun hb3 => ob_leq (ArgOK.when (arg_op 5 1 rfl rfl rfl rfl) hb3) (ArgOK.when (arg_op 6 0 rfl rfl rfl rfl) hb3)) ?_
          refine ch rfl (ob_and (arg_op 3 4 rfl rfl rfl rfl) (arg_op 7 0 rfl rfl rfl rfl)) ?_
          refine ch rfl (ob_move (arg_op 8 0 rfl rfl rfl rfl)) ?_
          refine chg (b := _) rfl rfl (arg_op 9 0 rfl rfl rfl rfl) (fun hb9 => ob_fa_cell0 (ArgOK.ownp (arg_free 0 rfl rfl))) ?_
          refine chg (b := _) rfl rfl (arg_op 9 1 rfl rfl rfl rfl) (fun hb9 => ob_load1 (ArgOK.when (arg_op 10 0 rfl rfl rfl rfl) hb9) Tryz.underlying3 rfl) ?_
          refine chg (b := _) rfl rfl (arg_op 9 2 rfl rfl rfl rfl) (fun hb9 => ob_eql (ArgOK.when (arg_op 11 0 rfl rfl rfl rfl) hb9) arg_c) ?_
          refine chg (b := _) rfl rfl (arg_op 9 3 rfl rfl rfl rfl) (fun hb9 => ob_move (ArgOK.when (arg_op 12 0 rfl rfl rfl rfl) hb9)) ?_
          refine chgn (b := _) rfl rfl (arg_op 13 0 rfl rfl rfl rfl) (fun ⟨hb9, hb13⟩ => ob_fa_cell2 (ArgOK.ownp (arg_free 0 rfl rfl))) ?_
          refine chgn (b := _) rfl rfl (arg_op 13 1 rfl rfl rfl rfl) (fun ⟨hb9, hb13⟩ => ob_load_nm (ArgOK.when (arg_op 14 0 rfl rfl rfl rfl) ⟨hb9, hb13⟩)) ?_
          refine chgn (b := _) rfl rfl (arg_op 13 2 rfl rfl rfl rfl) (fun ⟨hb9, hb13⟩ => ob_build_nm0) ?_
          refine chgn (b := _) rfl rfl (arg_op 13 3 rfl rfl rfl rfl) (fun ⟨hb9, hb13⟩ => ob_eqnm (ArgOK.when (arg_op 15 1 rfl rfl rfl rfl) ⟨hb9, hb13⟩) (ArgOK.when (arg_op 16 0 rfl rfl rfl rfl) ⟨hb9, hb13⟩)) ?_
          refine chg (b := _) rfl rfl (arg_op 9 8 rfl rfl rfl rfl) (fun hb9 => ob_or (ArgOK.when (arg_op 13 4 rfl rfl rfl rfl) hb9) (ArgOK.whenAnd (arg_op 17 0 rfl rfl rfl rfl) hb9)) ?_
          refine ch rfl (ob_and (arg_op 9 9 rfl rfl rfl rfl) (arg_op 18 0 rfl rfl rfl rfl)) ?_
          refine ch rfl (ob_assign (arg_op 19 0 rfl rfl rfl rfl)) ?_
          refine ch_nil ?_
          intro a138 w139 hf140 hg141 hk142 hn143
          have h144 : Holds _ (a138.eval (.tmp 2)) w139 := hn143.at 20 0 rfl rfl rfl
          have g145 := g136.trans hg141
          clear g136 hf128 hk142 hn143 hg141
          refine then_ ?_
          refine wp_ret ?_
          exact ret_tmp rfl hf140 g145 (is_cast h144 (congrArg Value.bool (cellB_of (by simp only [Bool.and_eq_true, Bool.or_eq_true, decide_eq_true_eq, Bool.false_eq_true]; by_cases hl : c.lock = 0 <;> simp only [hl, true_and, and_true, false_and, and_false, or_false, false_or, or_true, true_or, false_iff] <;> first | omega | (exfalso; omega)))))
        · intro hc137
          try simp only [cond_norm] at hc137
          refine wp_seq ?_
          refine wp_region_lit ?_
          refine wp_all [([], [])] [] w0.heap.size hf128 g136.size (by kernel_rfl) bund_nil ?_
          refine ch rfl (ob_assign arg_c) ?_
          refine ch_nil ?_
          intro a146 w147 hf148 hg149 hk150 hn151
          have h152 : Holds _ (a146.eval (.tmp 2)) w147 := hn151.at 0 0 rfl rfl rfl
          have g153 := g136.trans hg149
          clear g136 hf128 hk150 hn151 hg149
          refine then_ ?_
          refine wp_ret ?_
          refine blockR ?_
          refine thenR ?_
          exact ret_tmp rfl hf148 g153 (is_cast h152 (congrArg Value.bool (cellB_of (by simp only [Bool.and_eq_true, Bool.or_eq_true, decide_eq_true_eq, Bool.false_eq_true]; by_cases hl : c.lock = 0 <;> simp only [hl, true_and, and_true, false_and, and_false, or_false, false_or, or_true, true_or, false_iff] <;> first | omega | (exfalso; omega)))))
set_option maxRecDepth 100000 in
theorem c_bad1 {d : GDelta} : Con1 56 (Is (deltaV d)) (fun _ => Is (.bool (deltaBad d))) := by
  intro lo v0 w0 hlo hv0
  refine enter Tryz.func56 rfl Tryz.ntmps56 (by simp) ?_
  intro a0 hf0 ha
  have h00 : Holds _ (a0.eval (.tmp 0)) w0 := arg_holds ha rfl hv0
  clear ha
  have g0 : Grow w0 w0 := Grow.refl _
  refine wp_seq ?_
  refine wp_region_lit ?_
  refine wp_all [([0], []), ([], [])] [] w0.heap.size hf0 g0.size (by kernel_rfl) (bund_cons h00 bund_nil) ?_
  refine ch rfl (ob_box_delta (arg_free 0 rfl rfl)) ?_
  refine ch rfl (ob_assign arg_c) ?_
  refine ch_nil ?_
  intro a1 w2 hf3 hg4 hk5 hn6
  have h7 : Holds _ (a1.eval (.tmp 1)) w2 := hn6.at 0 1 rfl rfl rfl
  have g8 := g0.trans hg4
  obtain ⟨bk9, hl10, hv11, hb12⟩ := OwnB.blk (lo := w0.heap.size) h7
  clear g0 hf0 hk5 hn6
  refine then_ ?_
  refine wp_seq ?_
  have g13 : Grow w2 w2 := Grow.refl _
  have hl14 : bk9 < w2.heap.size := hb12.lt
  have hz15 : w0.heap.size ≤ w2.heap.size := g8.size
  refine wp_region_lit ?_
  refine wp_all [([1], []), ([], [0]), ([], [1]), ([], [2]), ([], [3]), ([1], [4]), ([], [5, 4]), ([], [6, 4]), ([], [4, 7]), ([], [8]), ([1], [9]), ([], [10, 9]), ([], [11, 9]), ([], [9, 12]), ([], [13]), ([1], [14]), ([], [15, 14]), ([], [16, 14]), ([], [14, 17]), ([], [18])] [] w2.heap.size hf3 g13.size (by kernel_rfl) (bund_cons (hb12.ownp hv11) bund_nil) ?_
  refine ch rfl (ob_fa_delta0 (ArgOK.ownp (arg_free 0 rfl rfl))) ?_
  refine ch rfl (ob_load_cell (arg_op 0 0 rfl rfl rfl rfl)) ?_
  refine ch rfl (ob_call1 (by kernel_rfl) (c_validCell) (arg_op 1 0 rfl rfl rfl rfl)) ?_
  refine ch rfl (ob_not (arg_op 2 0 rfl rfl rfl rfl)) ?_
  refine ch rfl (ob_move (arg_op 3 0 rfl rfl rfl rfl)) ?_
  refine chg (b := _) rfl rfl (arg_op 4 0 rfl rfl rfl rfl) (fun hb4 => ob_fa_delta1 (ArgOK.ownp (arg_free 0 rfl rfl))) ?_
  refine chg (b := _) rfl rfl (arg_op 4 1 rfl rfl rfl rfl) (fun hb4 => ob_load1 (ArgOK.when (arg_op 5 0 rfl rfl rfl rfl) hb4) Tryz.underlying3 rfl) ?_
  refine chg (b := _) rfl rfl (arg_op 4 2 rfl rfl rfl rfl) (fun hb4 => ob_eql (ArgOK.when (arg_op 6 0 rfl rfl rfl rfl) hb4) arg_c) ?_
  refine ch rfl (ob_or (arg_op 4 3 rfl rfl rfl rfl) (arg_op 7 0 rfl rfl rfl rfl)) ?_
  refine ch rfl (ob_move (arg_op 8 0 rfl rfl rfl rfl)) ?_
  refine chg (b := _) rfl rfl (arg_op 9 0 rfl rfl rfl rfl) (fun hb9 => ob_fa_delta1 (ArgOK.ownp (arg_free 0 rfl rfl))) ?_
  refine chg (b := _) rfl rfl (arg_op 9 1 rfl rfl rfl rfl) (fun hb9 => ob_load1 (ArgOK.when (arg_op 10 0 rfl rfl rfl rfl) hb9) Tryz.underlying3 rfl) ?_
  refine chg (b := _) rfl rfl (arg_op 9 2 rfl rfl rfl rfl) (fun hb9 => ob_gtr (ArgOK.when (arg_op 11 0 rfl rfl rfl rfl) hb9) arg_c) ?_
  refine ch rfl (ob_or (arg_op 9 3 rfl rfl rfl rfl) (arg_op 12 0 rfl rfl rfl rfl)) ?_
  refine ch rfl (ob_move (arg_op 13 0 rfl rfl rfl rfl)) ?_
  refine chg (b := _) rfl rfl (arg_op 14 0 rfl rfl rfl rfl) (fun hb14 => ob_fa_delta1 (ArgOK.ownp (arg_free 0 rfl rfl))) ?_
  refine chg (b := _) rfl rfl (arg_op 14 1 rfl rfl rfl rfl) (fun hb14 => ob_load1 (ArgOK.when (arg_op 15 0 rfl rfl rfl rfl) hb14) Tryz.underlying3 rfl) ?_
  refine chg (b := _) rfl rfl (arg_op 14 2 rfl rfl rfl rfl) (fun hb14 => ob_lss (ArgOK.when (arg_op 16 0 rfl rfl rfl rfl) hb14) arg_c) ?_
  refine ch rfl (ob_or (arg_op 14 3 rfl rfl rfl rfl) (arg_op 17 0 rfl rfl rfl rfl)) ?_
  refine ch rfl (ob_assign (arg_op 18 0 rfl rfl rfl rfl)) ?_
  refine ch_nil ?_
  intro a16 w17 hf18 hg19 hk20 hn21
  have h22 : Holds _ (a16.eval (.tmp 2)) w17 := hn21.at 19 0 rfl rfl rfl
  have g23 := g8.trans hg19
  have g24 := g13.trans hg19
  clear g8 g13 hf3 hk20 hn21
  refine then_ ?_
  refine wp_ret ?_
  exact ret_tmp rfl hf18 g23 h22
set_option maxRecDepth 100000 in
theorem c_bad2 {n : Int} : Con1 58 (Is (intV n)) (fun _ => Is (.bool (seqBad n))) := by
  intro lo v0 w0 hlo hv0
  refine enter Tryz.func58 rfl Tryz.ntmps58 (by simp) ?_
  intro a0 hf0 ha
  have h00 : Holds _ (a0.eval (.tmp 0)) w0 := arg_holds ha rfl hv0
  clear ha
  have g0 : Grow w0 w0 := Grow.refl _
  refine wp_seq ?_
  refine wp_region_lit ?_
  refine wp_all [([], [])] [0] w0.heap.size hf0 g0.size (by kernel_rfl) bund_nil ?_
  refine ch rfl (ob_assign arg_c) ?_
  refine ch_nil ?_
  intro a1 w2 hf3 hg4 hk5 hn6
  have h7 := hk5.holds rfl h00
  have g8 := g0.trans hg4
  clear h00 g0 hf0 hk5 hn6
  refine then_ ?_
  refine wp_seq ?_
  refine wp_region_lit ?_
  refine wp_all [([0], []), ([], [0]), ([], [1]), ([0], [2]), ([], [3, 2]), ([], [2, 4]), ([], [5])] [] w0.heap.size hf3 g8.size (by kernel_rfl) (bund_cons (is_any h7) bund_nil) ?_
  refine ch rfl (ob_move (arg_free 0 rfl rfl)) ?_
  refine ch rfl (ob_lss (arg_op 0 0 rfl rfl rfl rfl) arg_c) ?_
  refine ch rfl (ob_move (arg_op 1 0 rfl rfl rfl rfl)) ?_
  refine chg (b := _) rfl rfl (arg_op 2 0 rfl rfl rfl rfl) (fun hb2 => ob_move (arg_free 0 rfl rfl)) ?_
  refine chg (b := _) rfl rfl (arg_op 2 1 rfl rfl rfl rfl) (fun hb2 => ob_gtr (ArgOK.when (arg_op 3 0 rfl rfl rfl rfl) hb2) arg_c) ?_
  refine ch rfl (ob_or (arg_op 2 2 rfl rfl rfl rfl) (arg_op 4 0 rfl rfl rfl rfl)) ?_
  refine ch rfl (ob_assign (arg_op 5 0 rfl rfl rfl rfl)) ?_
  refine ch_nil ?_
  intro a9 w10 hf11 hg12 hk13 hn14
  have h15 : Holds _ (a9.eval (.tmp 2)) w10 := hn14.at 6 0 rfl rfl rfl
  have g16 := g8.trans hg12
  clear g8 hf3 hk13 hn14 hg12
  refine then_ ?_
  refine wp_ret ?_
  exact ret_tmp rfl hf11 g16 h15
set_option maxRecDepth 100000 in
theorem c_bad3 {k : GLock} : Con1 59 (Is (lockV k)) (fun _ => Is (.bool (lockBad k))) := by
  intro lo v0 w0 hlo hv0
  refine enter Tryz.func59 rfl Tryz.ntmps59 (by simp) ?_
  intro a0 hf0 ha
  have h00 : Holds _ (a0.eval (.tmp 0)) w0 := arg_holds ha rfl hv0
  clear ha
  have g0 : Grow w0 w0 := Grow.refl _
  refine wp_seq ?_
  refine wp_region_lit ?_
  refine wp_all [([0], []), ([], [])] [] w0.heap.size hf0 g0.size (by kernel_rfl) (bund_cons h00 bund_nil) ?_
  refine ch rfl (ob_box_lock (arg_free 0 rfl rfl)) ?_
  refine ch rfl (ob_assign arg_c) ?_
  refine ch_nil ?_
  intro a1 w2 hf3 hg4 hk5 hn6
  have h7 : Holds _ (a1.eval (.tmp 1)) w2 := hn6.at 0 1 rfl rfl rfl
  have g8 := g0.trans hg4
  obtain ⟨bk9, hl10, hv11, hb12⟩ := OwnB.blk (lo := w0.heap.size) h7
  clear g0 hf0 hk5 hn6
  refine then_ ?_
  refine wp_seq ?_
  refine wp_region_lit ?_
  refine wp_all [([1], []), ([], [0]), ([], [1]), ([], [2]), ([1], [3]), ([], [4, 3]), ([], [5, 3]), ([], [3, 6]), ([], [7]), ([1], [8]), ([], [9, 8]), ([], [10, 8]), ([], [8, 11]), ([], [12]), ([1], [13]), ([], [14, 13]), ([], [15, 13]), ([], [13, 16]), ([], [17]), ([1], [18]), ([], [19, 18]), ([], [20, 18]), ([], [18, 21]), ([], [22]), ([1], [23]), ([], [24, 23]), ([], [25, 23]), ([], [23, 26]), ([], [27])] [] w0.heap.size hf3 g8.size (by kernel_rfl) (bund_cons (hb12.ownp hv11) bund_nil) ?_
  refine ch rfl (ob_fa_lock2 (ArgOK.ownp (arg_free 0 rfl rfl))) ?_
  refine ch rfl (ob_load1 (arg_op 0 0 rfl rfl rfl rfl) Tryz.underlying3 rfl) ?_
  refine ch rfl (ob_lss (arg_op 1 0 rfl rfl rfl rfl) arg_c) ?_
  refine ch rfl (ob_move (arg_op 2 0 rfl rfl rfl rfl)) ?_
  refine chg (b := _) rfl rfl (arg_op 3 0 rfl rfl rfl rfl) (fun hb3 => ob_fa_lock2 (ArgOK.ownp (arg_free 0 rfl rfl))) ?_
  refine chg (b := _) rfl rfl (arg_op 3 1 rfl rfl rfl rfl) (fun hb3 => ob_load1 (ArgOK.when (arg_op 4 0 rfl rfl rfl rfl) hb3) Tryz.underlying3 rfl) ?_
  refine chg (b := _) rfl rfl (arg_op 3 2 rfl rfl rfl rfl) (fun hb3 => ob_geq (ArgOK.when (arg_op 5 0 rfl rfl rfl rfl) hb3) arg_c) ?_
  refine ch rfl (ob_or (arg_op 3 3 rfl rfl rfl rfl) (arg_op 6 0 rfl rfl rfl rfl)) ?_
  refine ch rfl (ob_move (arg_op 7 0 rfl rfl rfl rfl)) ?_
  refine chg (b := _) rfl rfl (arg_op 8 0 rfl rfl rfl rfl) (fun hb8 => ob_fa_lock3 (ArgOK.ownp (arg_free 0 rfl rfl))) ?_
  refine chg (b := _) rfl rfl (arg_op 8 1 rfl rfl rfl rfl) (fun hb8 => ob_load1 (ArgOK.when (arg_op 9 0 rfl rfl rfl rfl) hb8) Tryz.underlying3 rfl) ?_
  refine chg (b := _) rfl rfl (arg_op 8 2 rfl rfl rfl rfl) (fun hb8 => ob_lss (ArgOK.when (arg_op 10 0 rfl rfl rfl rfl) hb8) arg_c) ?_
  refine ch rfl (ob_or (arg_op 8 3 rfl rfl rfl rfl) (arg_op 11 0 rfl rfl rfl rfl)) ?_
  refine ch rfl (ob_move (arg_op 12 0 rfl rfl rfl rfl)) ?_
  refine chg (b := _) rfl rfl (arg_op 13 0 rfl rfl rfl rfl) (fun hb13 => ob_fa_lock3 (ArgOK.ownp (arg_free 0 rfl rfl))) ?_
  refine chg (b := _) rfl rfl (arg_op 13 1 rfl rfl rfl rfl) (fun hb13 => ob_load1 (ArgOK.when (arg_op 14 0 rfl rfl rfl rfl) hb13) Tryz.underlying3 rfl) ?_
  refine chg (b := _) rfl rfl (arg_op 13 2 rfl rfl rfl rfl) (fun hb13 => ob_geq (ArgOK.when (arg_op 15 0 rfl rfl rfl rfl) hb13) arg_c) ?_
  refine ch rfl (ob_or (arg_op 13 3 rfl rfl rfl rfl) (arg_op 16 0 rfl rfl rfl rfl)) ?_
  refine ch rfl (ob_move (arg_op 17 0 rfl rfl rfl rfl)) ?_
  refine chg (b := _) rfl rfl (arg_op 18 0 rfl rfl rfl rfl) (fun hb18 => ob_fa_lock4 (ArgOK.ownp (arg_free 0 rfl rfl))) ?_
  refine chg (b := _) rfl rfl (arg_op 18 1 rfl rfl rfl rfl) (fun hb18 => ob_load1 (ArgOK.when (arg_op 19 0 rfl rfl rfl rfl) hb18) Tryz.underlying3 rfl) ?_
  refine chg (b := _) rfl rfl (arg_op 18 2 rfl rfl rfl rfl) (fun hb18 => ob_lss (ArgOK.when (arg_op 20 0 rfl rfl rfl rfl) hb18) arg_c) ?_
  refine ch rfl (ob_or (arg_op 18 3 rfl rfl rfl rfl) (arg_op 21 0 rfl rfl rfl rfl)) ?_
  refine ch rfl (ob_move (arg_op 22 0 rfl rfl rfl rfl)) ?_
  refine chg (b := _) rfl rfl (arg_op 23 0 rfl rfl rfl rfl) (fun hb23 => ob_fa_lock4 (ArgOK.ownp (arg_free 0 rfl rfl))) ?_
  refine chg (b := _) rfl rfl (arg_op 23 1 rfl rfl rfl rfl) (fun hb23 => ob_load1 (ArgOK.when (arg_op 24 0 rfl rfl rfl rfl) hb23) Tryz.underlying3 rfl) ?_
  refine chg (b := _) rfl rfl (arg_op 23 2 rfl rfl rfl rfl) (fun hb23 => ob_gtr (ArgOK.when (arg_op 25 0 rfl rfl rfl rfl) hb23) arg_c) ?_
  refine ch rfl (ob_or (arg_op 23 3 rfl rfl rfl rfl) (arg_op 26 0 rfl rfl rfl rfl)) ?_
  refine ch rfl (ob_assign (arg_op 27 0 rfl rfl rfl rfl)) ?_
  refine ch_nil ?_
  intro a13 w14 hf15 hg16 hk17 hn18
  have h19 : Holds _ (a13.eval (.tmp 2)) w14 := hn18.at 28 0 rfl rfl rfl
  have g20 := g8.trans hg16
  clear g8 hf3 hk17 hn18 hg16
  refine then_ ?_
  refine wp_ret ?_
  exact ret_tmp rfl hf15 g20 h19
set_option maxRecDepth 100000 in
theorem c_Balance {n : Int64} : Con1 25 (Is (intV n.toInt)) (fun _ => Is (cellV ⟨1, n, 0⟩)) := by
  intro lo v0 w0 hlo hv0
  refine enter Tryz.func25 rfl Tryz.ntmps25 (by simp) ?_
  intro a0 hf0 ha
  have h00 : Holds _ (a0.eval (.tmp 0)) w0 := arg_holds ha rfl hv0
  clear ha
  have g0 : Grow w0 w0 := Grow.refl _
  refine wp_seq ?_
  refine wp_region_lit ?_
  refine wp_all [([], [])] [0] w0.heap.size hf0 g0.size (by kernel_rfl) bund_nil ?_
  refine ch rfl (ob_alloc_cell) ?_
  refine ch_nil ?_
  intro a1 w2 hf3 hg4 hk5 hn6
  have h7 : Holds _ (a1.eval (.tmp 2)) w2 := hn6.at 0 0 rfl rfl rfl
  have h8 := hk5.holds rfl h00
  have g9 := g0.trans hg4
  obtain ⟨bk10, hl11, hv12, hb13⟩ := OwnB.blk (lo := w0.heap.size) h7
  clear h00 g0 hf0 hk5 hn6
  refine then_ ?_
  refine wp_seq ?_
  have g14 : Grow w2 w2 := Grow.refl _
  have hl15 : bk10 < w2.heap.size := hb13.lt
  have hz16 : w0.heap.size ≤ w2.heap.size := g9.size
  refine wp_region_lit ?_
  refine wp_seg (l1 := [_, _]) [([0], []), ([], [0])] [2] w2.heap.size hf3 g14.size (by kernel_rfl) (bund_cons (is_any h8) bund_nil) ?_
  refine ch rfl (ob_move (arg_free 0 rfl rfl)) ?_
  refine ch rfl (ob_build_cell2 (1) (n) arg_c (arg_op 0 0 rfl rfl rfl rfl) ?_ ?_) ?_
  · rfl
  · rfl
  refine ch_nil ?_
  intro a17 w18 hf19 hg20 hk21 hn22
  have h23 : Holds _ (a17.eval (.tmp 4)) w18 := hn22.at 1 0 rfl rfl rfl
  have hv24 : Holds (Is (PtrV bk10)) (a17.eval (.tmp 2)) w18 := is_any (hk21.holds rfl hv12)
  have hb25 := hb13.up hg20
  have g26 := g9.trans hg20
  have g27 := g14.trans hg20
  clear hv12 hb13 g9 g14 hf3 hk21 hn22
  refine wl_store_cell hv24 hb25 rfl h23 ?_
  intro w28 ho29 hb30
  have g31 : Grow w0 w28 := g26.only ho29 (by omega)
  have hv33 : Holds (Is (PtrV bk10)) (a17.eval (.tmp 2)) w28 := is_any hv24
  refine wpList_nil ?_
  refine then_ ?_
  refine wp_ret ?_
  refine ret_cell rfl Tryz.underlying42 rfl (by kernel_rfl) hf19 g31 (hb30.ptr hv33) ?_
  exact rfl
set_option maxRecDepth 100000 in
theorem c_Stake {n : Int64} : Con1 27 (Is (intV n.toInt)) (fun _ => Is (cellV ⟨3, n, 0⟩)) := by
  intro lo v0 w0 hlo hv0
  refine enter Tryz.func27 rfl Tryz.ntmps27 (by simp) ?_
  intro a0 hf0 ha
  have h00 : Holds _ (a0.eval (.tmp 0)) w0 := arg_holds ha rfl hv0
  clear ha
  have g0 : Grow w0 w0 := Grow.refl _
  refine wp_seq ?_
  refine wp_region_lit ?_
  refine wp_all [([], [])] [0] w0.heap.size hf0 g0.size (by kernel_rfl) bund_nil ?_
  refine ch rfl (ob_alloc_cell) ?_
  refine ch_nil ?_
  intro a1 w2 hf3 hg4 hk5 hn6
  have h7 : Holds _ (a1.eval (.tmp 2)) w2 := hn6.at 0 0 rfl rfl rfl
  have h8 := hk5.holds rfl h00
  have g9 := g0.trans hg4
  obtain ⟨bk10, hl11, hv12, hb13⟩ := OwnB.blk (lo := w0.heap.size) h7
  clear h00 g0 hf0 hk5 hn6
  refine then_ ?_
  refine wp_seq ?_
  have g14 : Grow w2 w2 := Grow.refl _
  have hl15 : bk10 < w2.heap.size := hb13.lt
  have hz16 : w0.heap.size ≤ w2.heap.size := g9.size
  refine wp_region_lit ?_
  refine wp_seg (l1 := [_, _]) [([0], []), ([], [0])] [2] w2.heap.size hf3 g14.size (by kernel_rfl) (bund_cons (is_any h8) bund_nil) ?_
  refine ch rfl (ob_move (arg_free 0 rfl rfl)) ?_
  refine ch rfl (ob_build_cell2 (3) (n) arg_c (arg_op 0 0 rfl rfl rfl rfl) ?_ ?_) ?_
  · rfl
  · rfl
  refine ch_nil ?_
  intro a17 w18 hf19 hg20 hk21 hn22
  have h23 : Holds _ (a17.eval (.tmp 4)) w18 := hn22.at 1 0 rfl rfl rfl
  have hv24 : Holds (Is (PtrV bk10)) (a17.eval (.tmp 2)) w18 := is_any (hk21.holds rfl hv12)
  have hb25 := hb13.up hg20
  have g26 := g9.trans hg20
  have g27 := g14.trans hg20
  clear hv12 hb13 g9 g14 hf3 hk21 hn22
  refine wl_store_cell hv24 hb25 rfl h23 ?_
  intro w28 ho29 hb30
  have g31 : Grow w0 w28 := g26.only ho29 (by omega)
  have hv33 : Holds (Is (PtrV bk10)) (a17.eval (.tmp 2)) w28 := is_any hv24
  refine wpList_nil ?_
  refine then_ ?_
  refine wp_ret ?_
  refine ret_cell rfl Tryz.underlying42 rfl (by kernel_rfl) hf19 g31 (hb30.ptr hv33) ?_
  exact rfl
end Ex
end Go.Proofs.YtnmfiiejhoafnaaGreat
