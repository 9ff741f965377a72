/- The first state. -/
import Derived.Test.YtnmfiiejhoafnaaGreatPvState10
set_option linter.unusedSimpArgs false
set_option linter.unusedVariables false
namespace Go.Proofs.YtnmfiiejhoafnaaGreat
namespace Ex
open Go Calm Go.RowKit
def amtB (n : Int) : Bool := decide (0 ≤ n) && decide (n ≤ 1099511627776)
def genBad (x : GGen) : Bool := (((((((decide (x.n < 1) || decide (7 < x.n)) || decide ((x.vals.length : Int) < 1)) || decide (10 < (x.vals.length : Int))) || decide ((x.vals.length : Int) < x.n)) || decide ((x.accs.length : Int) < 1)) || decide (16 < (x.accs.length : Int))) || decide ((x.bals.length : Int) ≠ (x.accs.length : Int))) || !(amtB x.stake)
def genOK (x : GGen) : Bool := !(genBad x) && x.bals.all amtB
theorem gen_bad {x : GGen} (h : genBad x = true) : 1 = if genOK x then (0 : Int) else 1 := by unfold genOK; rw [h]; rfl
theorem gen_no {x : GGen} {i : Nat} (hi : i < x.bals.length) (h : amtB (x.bals.getD i default) = false) : 1 = if genOK x then (0 : Int) else 1 := by
  have : x.bals.all amtB = false := by
    rw [Bool.eq_false_iff]
    intro ha
    have := List.all_eq_true.1 ha (x.bals.getD i default) (by rw [List.getD_eq_getElem?_getD, List.getElem?_eq_getElem hi]; exact List.getElem_mem hi)
    rw [h] at this
    cases this
  unfold genOK
  rw [this, Bool.and_false]; rfl
theorem gen_yes {x : GGen} {i : Nat} (h0 : genBad x = false) (h : ∀ j, j < i → amtB (x.bals.getD j default) = true) (hi : x.bals.length ≤ i) : 0 = if genOK x then (0 : Int) else 1 := by
  have : x.bals.all amtB = true := List.all_eq_true.2 fun y hy => by
    obtain ⟨j, hj, rfl⟩ := List.getElem_of_mem hy
    have := h j (by omega)
    rwa [List.getD_eq_getElem?_getD, List.getElem?_eq_getElem hj] at this
  unfold genOK
  rw [this, h0]; rfl
theorem amt_step {l : List Int} {i : Nat} (h : ∀ j, j < i → amtB (l.getD j default) = true) (he : amtB (l.getD i default) = true) : ∀ j, j < i + 1 → amtB (l.getD j default) = true := fun j hj => by
  by_cases e : j = i
  · subst e; exact he
  · exact h j (by omega)
set_option maxRecDepth 100000 in
theorem c_ValGen {x : GGen} (hx : x.vals.length ≤ 100000 ∧ x.accs.length ≤ 100000 ∧ x.bals.length ≤ 100000) : Con1 54 (GenF x) (fun _ => Is (intV (if genOK x then 0 else 1))) := by
  intro lo v0 w0 hlo hv0
  refine enter Tryz.func54 rfl Tryz.ntmps54 (by simp) ?_
  intro a0 hf0 ha
  obtain ⟨va0, vb0, vc0, he0, hva0, hvb0, hvc0⟩ := openGF hv0
  have h00 : Holds (Is _) (a0.eval (.tmp 0)) w0 := arg_holds ha rfl he0
  clear ha
  have g0 : Grow w0 w0 := Grow.refl _
  obtain ⟨hx1, hx2, hx3⟩ := id hx
  refine wp_seq ?_
  refine wp_region_lit ?_
  refine wp_all [([0], []), ([], [])] [] w0.heap.size hf0 g0.size (by kernel_rfl) (bund_cons h00 bund_nil) ?_
  refine ch rfl (ob_box_gen (arg_free 0 rfl rfl)) ?_
  refine ch rfl (ob_assign arg_c) ?_
  refine ch_nil ?_
  intro a1 w2 hf3 hg4 hk5 hn6
  have h7 : Holds _ (a1.eval (.tmp 1)) w2 := hn6.at 0 1 rfl rfl rfl
  have g8 := g0.trans hg4
  obtain ⟨bk9, hl10, hv11, hb12⟩ := OwnB.blk (lo := w0.heap.size) h7
  clear g0 hf0 hk5 hn6
  refine then_ ?_
  refine wp_seq ?_
  refine wp_calm [0, 1, 3, 0, 8, 24, 7, 127] [([1], []), ([], [0]), ([], [1]), ([1], []), ([], [3]), ([], [4]), ([], [2]), ([], [5])] [1] w0.heap.size hf3 g8.size (by kernel_rfl) (bund_cons (hb12.ownp hv11) bund_nil) ?_
  intro ws13 hs14
  refine ch rfl (ob_faP (n := 0) (arg_free 0 rfl rfl) Tryz.underlying60 rfl (by kernel_rfl)) ?_
  refine ch rfl (ob_loadP (arg_op 0 0 rfl rfl rfl rfl) Tryz.underlying25 rfl rfl) ?_
  refine ch rfl (ob_len (ArgOK.val (arg_op 1 0 rfl rfl rfl rfl) ((hva0.up g8).up hs14)) Tryz.underlying25) ?_
  refine ch rfl (ob_faP (n := 0) (arg_free 0 rfl rfl) Tryz.underlying60 rfl (by kernel_rfl)) ?_
  refine ch rfl (ob_loadP (arg_op 3 0 rfl rfl rfl rfl) Tryz.underlying25 rfl rfl) ?_
  refine ch rfl (ob_len (ArgOK.val (arg_op 4 0 rfl rfl rfl rfl) ((hvb0.up g8).up hs14)) Tryz.underlying25) ?_
  refine ch rfl (ob_assign (arg_op 2 3 rfl rfl rfl rfl)) ?_
  refine ch rfl (ob_assign (arg_op 5 1 rfl rfl rfl rfl)) ?_
  refine ch_nil ?_
  intro a15 w16 hf17 hg18 hk19 hn20
  have h21 : Holds _ (a15.eval (.tmp 3)) w16 := hn20.at 6 1 rfl rfl rfl
  have h22 : Holds _ (a15.eval (.tmp 4)) w16 := hn20.at 7 0 rfl rfl rfl
  have hv23 : Holds (Is (PtrV bk9)) (a15.eval (.tmp 1)) w16 := is_any (hk19.holds rfl hv11)
  have hb24 := hb12.up hg18
  have g25 := g8.trans hg18
  clear hv11 hb12 g8 hf3 hk19 hn20 hg18
  refine then_ ?_
  refine wp_seq ?_
  refine wp_seq ?_
  have g26 : Grow w16 w16 := Grow.refl _
  have hl27 : bk9 < w16.heap.size := hb24.lt
  have hz28 : w0.heap.size ≤ w16.heap.size := g25.size
  refine wp_region_lit ?_
  refine wp_all [([1], []), ([], [0]), ([], [1]), ([], [2]), ([1], [3]), ([], [4, 3]), ([], [5, 3]), ([], [3, 6]), ([], [7]), ([3], [8]), ([], [9, 8]), ([], [8, 10]), ([], [11]), ([3], [12]), ([], [13, 12]), ([], [12, 14]), ([], [15]), ([3], [16]), ([1], [16]), ([], [18, 16]), ([], [17, 19, 16]), ([], [16, 20]), ([], [21]), ([4], [22]), ([], [23, 22]), ([], [22, 24]), ([], [25]), ([4], [26]), ([], [27, 26]), ([], [26, 28]), ([], [29]), ([1], [30]), ([], [31, 30]), ([], [32, 30]), ([4], [30]), ([], [33, 34, 30]), ([], [30, 35]), ([], [36]), ([1], [37]), ([], [38, 37]), ([], [39, 37]), ([], [40, 37]), ([], [37, 41])] [1] w16.heap.size hf17 g26.size (by kernel_rfl) (bund_cons (hb24.ownp hv23) (bund_cons h21 (bund_cons h22 bund_nil))) ?_
  refine ch rfl (ob_faP (n := 0) (arg_free 0 rfl rfl) Tryz.underlying60 rfl (by kernel_rfl)) ?_
  refine ch rfl (ob_loadP (arg_op 0 0 rfl rfl rfl rfl) Tryz.underlying3 rfl rfl) ?_
  refine ch rfl (ob_lss (arg_op 1 0 rfl rfl rfl rfl) arg_c) ?_
  refine ch rfl (ob_move (arg_op 2 0 rfl rfl rfl rfl)) ?_
  refine chg (b := _) rfl rfl (arg_op 3 0 rfl rfl rfl rfl) (fun hb3 => ob_faP (n := 0) (arg_free 0 rfl rfl) Tryz.underlying60 rfl (by kernel_rfl)) ?_
  refine chg (b := _) rfl rfl (arg_op 3 1 rfl rfl rfl rfl) (fun hb3 => ob_loadP (ArgOK.when (arg_op 4 0 rfl rfl rfl rfl) hb3) Tryz.underlying3 rfl rfl) ?_
  refine chg (b := _) rfl rfl (arg_op 3 2 rfl rfl rfl rfl) (fun hb3 => ob_gtr (ArgOK.when (arg_op 5 0 rfl rfl rfl rfl) hb3) arg_c) ?_
  refine ch rfl (ob_or (arg_op 3 3 rfl rfl rfl rfl) (arg_op 6 0 rfl rfl rfl rfl)) ?_
  refine ch rfl (ob_move (arg_op 7 0 rfl rfl rfl rfl)) ?_
  refine chg (b := _) rfl rfl (arg_op 8 0 rfl rfl rfl rfl) (fun hb8 => ob_move (arg_free 1 rfl rfl)) ?_
  refine chg (b := _) rfl rfl (arg_op 8 1 rfl rfl rfl rfl) (fun hb8 => ob_lss (ArgOK.when (arg_op 9 0 rfl rfl rfl rfl) hb8) arg_c) ?_
  refine ch rfl (ob_or (arg_op 8 2 rfl rfl rfl rfl) (arg_op 10 0 rfl rfl rfl rfl)) ?_
  refine ch rfl (ob_move (arg_op 11 0 rfl rfl rfl rfl)) ?_
  refine chg (b := _) rfl rfl (arg_op 12 0 rfl rfl rfl rfl) (fun hb12 => ob_move (arg_free 1 rfl rfl)) ?_
  refine chg (b := _) rfl rfl (arg_op 12 1 rfl rfl rfl rfl) (fun hb12 => ob_gtr (ArgOK.when (arg_op 13 0 rfl rfl rfl rfl) hb12) arg_c) ?_
  refine ch rfl (ob_or (arg_op 12 2 rfl rfl rfl rfl) (arg_op 14 0 rfl rfl rfl rfl)) ?_
  refine ch rfl (ob_move (arg_op 15 0 rfl rfl rfl rfl)) ?_
  refine chg (b := _) rfl rfl (arg_op 16 0 rfl rfl rfl rfl) (fun hb16 => ob_move (arg_free 1 rfl rfl)) ?_
  refine chg (b := _) rfl rfl (arg_op 16 1 rfl rfl rfl rfl) (fun hb16 => ob_faP (n := 0) (arg_free 0 rfl rfl) Tryz.underlying60 rfl (by kernel_rfl)) ?_
  refine chg (b := _) rfl rfl (arg_op 16 2 rfl rfl rfl rfl) (fun hb16 => ob_loadP (ArgOK.when (arg_op 18 0 rfl rfl rfl rfl) hb16) Tryz.underlying3 rfl rfl) ?_
  refine chg (b := _) rfl rfl (arg_op 16 3 rfl rfl rfl rfl) (fun hb16 => ob_lss (ArgOK.when (arg_op 17 2 rfl rfl rfl rfl) hb16) (ArgOK.when (arg_op 19 0 rfl rfl rfl rfl) hb16)) ?_
  refine ch rfl (ob_or (arg_op 16 4 rfl rfl rfl rfl) (arg_op 20 0 rfl rfl rfl rfl)) ?_
  refine ch rfl (ob_move (arg_op 21 0 rfl rfl rfl rfl)) ?_
  refine chg (b := _) rfl rfl (arg_op 22 0 rfl rfl rfl rfl) (fun hb22 => ob_move (arg_free 2 rfl rfl)) ?_
  refine chg (b := _) rfl rfl (arg_op 22 1 rfl rfl rfl rfl) (fun hb22 => ob_lss (ArgOK.when (arg_op 23 0 rfl rfl rfl rfl) hb22) arg_c) ?_
  refine ch rfl (ob_or (arg_op 22 2 rfl rfl rfl rfl) (arg_op 24 0 rfl rfl rfl rfl)) ?_
  refine ch rfl (ob_move (arg_op 25 0 rfl rfl rfl rfl)) ?_
  refine chg (b := _) rfl rfl (arg_op 26 0 rfl rfl rfl rfl) (fun hb26 => ob_move (arg_free 2 rfl rfl)) ?_
  refine chg (b := _) rfl rfl (arg_op 26 1 rfl rfl rfl rfl) (fun hb26 => ob_gtr (ArgOK.when (arg_op 27 0 rfl rfl rfl rfl) hb26) arg_c) ?_
  refine ch rfl (ob_or (arg_op 26 2 rfl rfl rfl rfl) (arg_op 28 0 rfl rfl rfl rfl)) ?_
  refine ch rfl (ob_move (arg_op 29 0 rfl rfl rfl rfl)) ?_
  refine chg (b := _) rfl rfl (arg_op 30 0 rfl rfl rfl rfl) (fun hb30 => ob_faP (n := 0) (arg_free 0 rfl rfl) Tryz.underlying60 rfl (by kernel_rfl)) ?_
  refine chg (b := _) rfl rfl (arg_op 30 1 rfl rfl rfl rfl) (fun hb30 => ob_loadP (ArgOK.when (arg_op 31 0 rfl rfl rfl rfl) hb30) Tryz.underlying23 rfl rfl) ?_
  refine chg (b := _) rfl rfl (arg_op 30 2 rfl rfl rfl rfl) (fun hb30 => ob_len (ArgOK.val (ArgOK.when (arg_op 32 0 rfl rfl rfl rfl) hb30) (hvc0.up g25)) Tryz.underlying23) ?_
  refine chg (b := _) rfl rfl (arg_op 30 3 rfl rfl rfl rfl) (fun hb30 => ob_move (arg_free 2 rfl rfl)) ?_
  refine chg (b := _) rfl rfl (arg_op 30 4 rfl rfl rfl rfl) (fun hb30 => ob_neq (ArgOK.when (arg_op 33 1 rfl rfl rfl rfl) hb30) (ArgOK.when (arg_op 34 0 rfl rfl rfl rfl) hb30)) ?_
  refine ch rfl (ob_or (arg_op 30 5 rfl rfl rfl rfl) (arg_op 35 0 rfl rfl rfl rfl)) ?_
  refine ch rfl (ob_move (arg_op 36 0 rfl rfl rfl rfl)) ?_
  refine chg (b := _) rfl rfl (arg_op 37 0 rfl rfl rfl rfl) (fun hb37 => ob_faP (n := 0) (arg_free 0 rfl rfl) Tryz.underlying60 rfl (by kernel_rfl)) ?_
  refine chg (b := _) rfl rfl (arg_op 37 1 rfl rfl rfl rfl) (fun hb37 => ob_loadP (ArgOK.when (arg_op 38 0 rfl rfl rfl rfl) hb37) Tryz.underlying3 rfl rfl) ?_
  refine chg (b := _) rfl rfl (arg_op 37 2 rfl rfl rfl rfl) (fun hb37 => ob_call1 (by kernel_rfl) (c_amount) (ArgOK.when (arg_op 39 0 rfl rfl rfl rfl) hb37)) ?_
  refine chg (b := _) rfl rfl (arg_op 37 3 rfl rfl rfl rfl) (fun hb37 => ob_not (ArgOK.when (arg_op 40 0 rfl rfl rfl rfl) hb37)) ?_
  refine ch rfl (ob_or (arg_op 37 4 rfl rfl rfl rfl) (arg_op 41 0 rfl rfl rfl rfl)) ?_
  refine ch_nil ?_
  intro a29 w30 hf31 hg32 hk33 hn34
  have h35 : Holds _ (a29.eval (.tmp 55)) w30 := hn34.at 42 0 rfl rfl rfl
  have hv36 : Holds (Is (PtrV bk9)) (a29.eval (.tmp 1)) w30 := is_any (hk33.holds rfl hv23)
  have hb37 := hb24.up hg32
  have g38 := g25.trans hg32
  have g39 := g26.trans hg32
  clear hv23 hb24 g25 g26 hf17 hk33 hn34
  refine then_ ?_
  refine wp_if h35 ?_ ?_
  · intro hc40
    have hv := gen_bad hc40
    refine wp_seq ?_
    refine wp_region_lit ?_
    refine wp_all [([], [])] [] w16.heap.size hf31 g39.size (by kernel_rfl) bund_nil ?_
    refine ch rfl (ob_assign arg_c) ?_
    refine ch_nil ?_
    intro a41 w42 hf43 hg44 hk45 hn46
    have h47 : Holds _ (a41.eval (.tmp 2)) w42 := hn46.at 0 0 rfl rfl rfl
    have g48 := g38.trans hg44
    have g49 := g39.trans hg44
    clear g38 g39 hf31 hk45 hn46 hg44
    refine then_ ?_
    refine wp_ret ?_
    refine thenR ?_
    exact ret_tmp rfl hf43 g48 (is_cast h47 (congrArg intV hv))
  · intro hc40
    have h0 : genBad x = false := hc40
    refine wp_skip ?_
    refine then_ ?_
    refine wp_seq ?_
    refine wp_seq ?_
    refine wp_region_lit ?_
    refine wp_all [([1], []), ([], [0]), ([], [1]), ([], [])] [] w16.heap.size hf31 g39.size (by kernel_rfl) (bund_cons (hb37.ownp hv36) bund_nil) ?_
    refine ch rfl (ob_faP (n := 0) (arg_free 0 rfl rfl) Tryz.underlying60 rfl (by kernel_rfl)) ?_
    refine ch rfl (ob_loadP (arg_op 0 0 rfl rfl rfl rfl) Tryz.underlying23 rfl rfl) ?_
    refine ch rfl (ob_len (ArgOK.val (arg_op 1 0 rfl rfl rfl rfl) (hvc0.up g38)) Tryz.underlying23) ?_
    refine ch rfl (ob_move arg_c) ?_
    refine ch_nil ?_
    intro a50 w51 hf52 hg53 hk54 hn55
    have h56 : Holds _ (a50.eval (.tmp 57)) w51 := hn55.at 1 2 rfl rfl rfl
    have h57 : Holds _ (a50.eval (.tmp 58)) w51 := hn55.at 2 1 rfl rfl rfl
    have h58 : Holds _ (a50.eval (.tmp 59)) w51 := hn55.at 3 0 rfl rfl rfl
    have g59 := g38.trans hg53
    have g60 := g39.trans hg53
    clear g38 g39 hf31 hk54 hn55 hg53
    refine then_ ?_
    refine wp_block ?_
    have g61 : Grow w51 w51 := Grow.refl _
    have hz62 : w16.heap.size ≤ w51.heap.size := g60.size
    refine wp_loopL (α := Nat) (fun i a' w' => Fr 67 a' ∧ (i ≤ x.bals.length) ∧ (∀ j, j < i → amtB (x.bals.getD j default) = true) ∧ Grow w0 w' ∧ Grow w16 w' ∧ Grow w51 w' ∧ Keep [57, 58] a50 a' ∧ Holds (Is (intV (i : Int))) (a'.eval (.tmp 59)) w') (fun i => x.bals.length - i) (0) ⟨hf52, (by omega), (by exact fun j hj => absurd hj (Nat.not_lt_zero j)), g59, g60, g61, Keep.refl _ _, (is_cast h58 (by first | rfl | (refine congrArg intV ?_; (try dsimp only); omega)))⟩ ?_
    intro i a63 w64 ⟨hf65, hi67, hi68, g69, g70, g71, kk66, h72⟩
    have h73 := kk66.holds rfl h56
    have h74 := kk66.holds rfl h57
    refine wp_seq ?_
    refine wp_region_lit ?_
    refine wp_all [([59, 58], [])] [57, 58, 59] w51.heap.size hf65 g71.size (by kernel_rfl) (bund_cons h72 (bund_cons (is_any h74) bund_nil)) ?_
    refine ch rfl (ob_lss (arg_free 0 rfl rfl) (arg_free 1 rfl rfl)) ?_
    refine ch_nil ?_
    intro a75 w76 hf77 hg78 hk79 hn80
    have h81 : Holds _ (a75.eval (.tmp 60)) w76 := hn80.at 0 0 rfl rfl rfl
    have h82 := hk79.holds rfl (h72.up hg78)
    have h83 := hk79.holds rfl h73
    have h84 := hk79.holds rfl h74
    have g85 := g69.trans hg78
    have g86 := g70.trans hg78
    have g87 := g71.trans hg78
    have kk88 : Keep _ a50 a75 := kk66.trans hk79 rfl
    clear h72 h73 h74 g69 g70 g71 kk66 hf65 hk79 hn80 hg78
    refine then_ ?_
    refine wp_seq ?_
    refine wp_if h81 ?_ ?_
    · intro hc89
      try simp only [cond_norm] at hc89
      refine wp_skip ?_
      refine then_ ?_
      refine wp_seq ?_
      refine wp_block ?_
      refine wp_seq ?_
      refine wp_region_lit ?_
      refine wp_all [([57, 59], []), ([], [0]), ([], [1])] [57, 58, 59] w51.heap.size hf77 g87.size (by kernel_rfl) (bund_cons (is_any h83) (bund_cons h82 bund_nil)) ?_
      refine ch rfl (ob_ix (ArgOK.val (arg_free 0 rfl rfl) (hvc0.up g85)) (arg_free 1 rfl rfl) (rfl) ?_ Tryz.underlying23 szInt) ?_
      · omega
      refine ch rfl (ob_load1 (arg_op 0 0 rfl rfl rfl rfl) Tryz.underlying3 rfl) ?_
      refine ch rfl (ob_assign (arg_op 1 0 rfl rfl rfl rfl)) ?_
      refine ch_nil ?_
      intro a90 w91 hf92 hg93 hk94 hn95
      have h96 : Holds _ (a90.eval (.tmp 6)) w91 := hn95.at 2 0 rfl rfl rfl
      have h97 := hk94.holds rfl (h82.up hg93)
      have h98 := hk94.holds rfl h83
      have h99 := hk94.holds rfl h84
      have g100 := g85.trans hg93
      have g101 := g86.trans hg93
      have g102 := g87.trans hg93
      have kk103 : Keep _ a50 a90 := kk88.trans hk94 rfl
      clear h82 h83 h84 g85 g86 g87 kk88 hf77 hk94 hn95 hg93
      refine then_ ?_
      refine wp_seq ?_
      have g104 : Grow w91 w91 := Grow.refl _
      have hz105 : w51.heap.size ≤ w91.heap.size := g102.size
      refine wp_region_lit ?_
      refine wp_all [([6], []), ([], [0]), ([], [1])] [57, 58, 59] w91.heap.size hf92 g104.size (by kernel_rfl) (bund_cons h96 bund_nil) ?_
      refine ch rfl (ob_move (arg_free 0 rfl rfl)) ?_
      refine ch rfl (ob_call1 (by kernel_rfl) (c_amount) (arg_op 0 0 rfl rfl rfl rfl)) ?_
      refine ch rfl (ob_not (arg_op 1 0 rfl rfl rfl rfl)) ?_
      refine ch_nil ?_
      intro a106 w107 hf108 hg109 hk110 hn111
      have h112 : Holds _ (a106.eval (.tmp 65)) w107 := hn111.at 2 0 rfl rfl rfl
      have h113 := hk110.holds rfl h97
      have h114 := hk110.holds rfl h98
      have h115 := hk110.holds rfl h99
      have g116 := g100.trans hg109
      have g117 := g101.trans hg109
      have g118 := g102.trans hg109
      have g119 := g104.trans hg109
      have kk120 : Keep _ a50 a106 := kk103.trans hk110 rfl
      clear h97 h98 h99 g100 g101 g102 g104 kk103 hf92 hk110 hn111
      refine then_ ?_
      refine wp_if h112 ?_ ?_
      · intro hc121
        have hv := gen_no (x := x) (i := i) (by omega) (by have hq := hc121; rw [Bool.not_eq_true'] at hq; exact hq)
        refine wp_seq ?_
        refine wp_region_lit ?_
        refine wp_all [([], [])] [57, 58] w91.heap.size hf108 g119.size (by kernel_rfl) bund_nil ?_
        refine ch rfl (ob_assign arg_c) ?_
        refine ch_nil ?_
        intro a122 w123 hf124 hg125 hk126 hn127
        have h128 : Holds _ (a122.eval (.tmp 2)) w123 := hn127.at 0 0 rfl rfl rfl
        have h129 := hk126.holds rfl h114
        have h130 := hk126.holds rfl h115
        have g131 := g116.trans hg125
        have g132 := g117.trans hg125
        have g133 := g118.trans hg125
        have g134 := g119.trans hg125
        have kk135 : Keep _ a50 a122 := kk120.trans hk126 rfl
        clear h114 h115 g116 g117 g118 g119 kk120 hf108 hk126 hn127 hg125
        refine then_ ?_
        refine wp_ret ?_
        refine blockR ?_
        refine thenR ?_
        refine thenR ?_
        refine blockR ?_
        refine thenR ?_
        exact ret_tmp rfl hf124 g131 (is_cast h128 (congrArg intV hv))
      · intro hc121
        have hst := amt_step (i := i) (by assumption) (by have hq := hc121; rw [Bool.not_eq_false'] at hq; exact hq)
        refine wp_skip ?_
        refine blockN ?_
        refine then_ ?_
        refine wp_region_lit ?_
        refine wp_all [([59], []), ([], [0])] [57, 58] w91.heap.size hf108 g119.size (by kernel_rfl) (bund_cons (is_any h113) bund_nil) ?_
        first
          | (refine ch rfl (ob_add' (arg_free 0 rfl rfl) arg_c ?_) ?_; · omega)
          | refine ch rfl (ob_add (arg_free 0 rfl rfl) arg_c) ?_
        refine ch rfl (ob_move (arg_op 0 0 rfl rfl rfl rfl)) ?_
        refine ch_nil ?_
        intro a136 w137 hf138 hg139 hk140 hn141
        have h142 : Holds _ (a136.eval (.tmp 59)) w137 := hn141.at 1 0 rfl rfl rfl
        have h143 := hk140.holds rfl h114
        have h144 := hk140.holds rfl h115
        have g145 := g116.trans hg139
        have g146 := g117.trans hg139
        have g147 := g118.trans hg139
        have g148 := g119.trans hg139
        have kk149 : Keep _ a50 a136 := kk120.trans hk140 rfl
        clear h114 h115 g116 g117 g118 g119 kk120 hf108 hk140 hn141 hg139
        refine then_ ?_
        exact ⟨(i + 1), (by ((try dsimp only); omega)), hf138, (by omega), (by exact hst), g145, g146, g147, kk149, (is_cast h142 (by first | rfl | (refine congrArg intV ?_; (try dsimp only); omega)))⟩
    · intro hc89
      try simp only [cond_norm] at hc89
      have hv := gen_yes (i := i) h0 (by assumption) (by omega)
      refine wp_exit ?_
      refine thenX ?_
      refine thenX ?_
      refine blockX ?_
      refine then_ ?_
      refine wp_seq ?_
      refine wp_region_lit ?_
      refine wp_all [([], [])] [] w51.heap.size hf77 g87.size (by kernel_rfl) bund_nil ?_
      refine ch rfl (ob_assign arg_c) ?_
      refine ch_nil ?_
      intro a150 w151 hf152 hg153 hk154 hn155
      have h156 : Holds _ (a150.eval (.tmp 2)) w151 := hn155.at 0 0 rfl rfl rfl
      have g157 := g85.trans hg153
      have g158 := g86.trans hg153
      have g159 := g87.trans hg153
      clear g85 g86 g87 hf77 hk154 hn155 hg153
      refine then_ ?_
      refine wp_ret ?_
      exact ret_tmp rfl hf152 g157 (is_cast h156 (congrArg intV hv))
end Ex
end Go.Proofs.YtnmfiiejhoafnaaGreat
