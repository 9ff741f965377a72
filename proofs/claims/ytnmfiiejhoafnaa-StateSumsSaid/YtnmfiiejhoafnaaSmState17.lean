/- The statement on sums, walked. -/
import Derived.Test.YtnmfiiejhoafnaaSmState16
set_option linter.unusedSimpArgs false
set_option linter.unusedVariables false
namespace Go.Proofs.Ytnmfiiejhoafnaa
namespace Ex
open Go Calm Go.RowKit
theorem onC_yes {l : List GDelta} {q : Nat} {c : GCell} (hq : q < l.length) (h : (l.getD q default).cell = c) : IntKind.i64.wrap ((sumf (onC c) (l.take q)).toInt + (l.getD q default).amount.toInt) = (sumf (onC c) (l.take (q + 1))).toInt := by
  rw [sumf_step hq, add_i64, show onC c (l.getD q default) = (l.getD q default).amount from if_pos h]
theorem onC_no {l : List GDelta} {q : Nat} {c : GCell} (hq : q < l.length) (h : ¬ (l.getD q default).cell = c) : (sumf (onC c) (l.take q)).toInt = (sumf (onC c) (l.take (q + 1))).toInt := by
  rw [sumf_step hq, show onC c (l.getD q default) = 0 from if_neg h, Int64.add_zero]
theorem sums_get {s : GState} {l : List GDelta} {c : GCell} (hv : valS s = true) : (getL (addS s l).cells c).toInt = IntKind.i64.wrap ((getL s.cells c).toInt + (sumf (onC c) (l.take l.length)).toInt) := by
  rw [List.take_length, add_i64]
  exact congrArg Int64.toInt (getL_putAll (ord_valS hv) l c)
theorem all_step {l : List GDelta} {i : Nat} (h : i < l.length) : (((l.take i).all inTot && decide (-1125899906842624 ≤ (l.getD i default).amount.toInt)) && decide ((l.getD i default).amount.toInt ≤ 1125899906842624)) = (l.take (i + 1)).all inTot := by
  rw [List.take_add_one, List.getElem?_eq_getElem h, List.getD_eq_getElem?_getD, List.getElem?_eq_getElem h, Option.toList_some, List.all_append]
  simp only [List.all_cons, List.all_nil, Bool.and_true, Option.getD_some, inTot, Bool.and_assoc]
theorem sums_end {s : GState} {l : List GDelta} {i : Nat} (hv : valS s = true) (hc : ∀ j, j < l.length → cellB (l.getD j default).cell = true) (hi : (addS s l).cells.length ≤ i) :
    ((decide ((tot (addS s l).cells).toInt = IntKind.i64.wrap ((tot s.cells).toInt + (tot (l.take l.length)).toInt)) && (!(((addS s l).cells.take i).all inTot) || decide ((if valS (addS s l) = true then (0 : Int) else 1) = 0))) && true) = true := by
  have h1 : (tot (addS s l).cells).toInt = IntKind.i64.wrap ((tot s.cells).toInt + (tot (l.take l.length)).toInt) := by
    rw [List.take_length, add_i64]
    exact congrArg Int64.toInt (tot_putAll s.cells l)
  rw [List.take_of_length_le hi, decide_eq_true h1, Bool.true_and, Bool.and_true]
  cases e : (addS s l).cells.all inTot with
  | false => rfl
  | true =>
    have h2 := valS_add (ds := l) hv (fun d hd => by
      obtain ⟨j, hj, rfl⟩ := List.getElem_of_mem hd
      have := hc j hj
      rwa [List.getD_eq_getElem?_getD, List.getElem?_eq_getElem hj] at this) e
    rw [h2]
    rfl
theorem sums_start {s : GState} {l : List GDelta} (h : ((bigS s || !(valS s)) || decide (100 < (l.length : Int))) = false) : (s.cells.length ≤ 100 ∧ s.seqs.length ≤ 100 ∧ s.locks.length ≤ 100 ∧ s.applied.length ≤ 100) ∧ valS s = true ∧ l.length ≤ 100 := by
  rw [Bool.or_eq_false_iff, Bool.or_eq_false_iff, decide_eq_false_iff_not, Bool.not_eq_false'] at h
  exact ⟨big_no h.1.1, h.1.2, by omega⟩
theorem cell_step {l : List GDelta} {i : Nat} {a : Bool} (h : ∀ j, j < i → cellB (l.getD j default).cell = true) (he : (a || !(cellB (l.getD i default).cell)) = false) : ∀ j, j < i + 1 → cellB (l.getD j default).cell = true := fun j hj => by
  rw [Bool.or_eq_false_iff, Bool.not_eq_false'] at he
  by_cases e : j = i
  · subst e; exact he.2
  · exact h j (by omega)
set_option maxRecDepth 100000 in
set_option maxHeartbeats 4000000 in
theorem c_StateSums {s : GState} {l : List GDelta} : Con2 25 (StF s) (Sl elDelta l) (fun _ => Is (.bool true)) := by
  intro lo v0 v1 w0 hlo hv0 hv1
  refine enter Try.func25 rfl Try.ntmps25 (by simp) ?_
  intro a0 hf0 ha
  obtain ⟨va0, vb0, vc0, vd0, he0, hva0, hvb0, hvc0, hvd0⟩ := openF hv0
  have h00 : Holds (Is _) (a0.eval (.tmp 0)) w0 := arg_holds ha rfl he0
  have h01 : Holds (Is v1) (a0.eval (.tmp 1)) w0 := arg_holds ha rfl rfl
  clear ha
  have g0 : Grow w0 w0 := Grow.refl _
  refine wp_seq ?_
  refine wp_region_lit ?_
  refine wp_all [([0], []), ([], [])] [1] w0.heap.size hf0 g0.size (by kernel_rfl) (bund_cons h00 bund_nil) ?_
  refine ch rfl (ob_box_state (arg_free 0 rfl rfl)) ?_
  refine ch rfl (ob_assign arg_c) ?_
  refine ch_nil ?_
  intro a1 w2 hf3 hg4 hk5 hn6
  have h7 : Holds _ (a1.eval (.tmp 2)) w2 := hn6.at 0 1 rfl rfl rfl
  have h8 := hk5.holds rfl h01
  have g9 := g0.trans hg4
  obtain ⟨bk10, hl11, hv12, hb13⟩ := OwnB.blk (lo := w0.heap.size) h7
  clear h01 g0 hf0 hk5 hn6
  refine then_ ?_
  refine wp_seq ?_
  refine wp_seq ?_
  have g14 : Grow w2 w2 := Grow.refl _
  have hl15 : bk10 < w2.heap.size := hb13.lt
  have hz16 : w0.heap.size ≤ w2.heap.size := g9.size
  refine wp_region_lit ?_
  refine wp_all [([2], []), ([], [0]), ([], [1]), ([2], [2]), ([], [3, 2]), ([], [4, 2]), ([], [2, 5]), ([], [6]), ([1], [7]), ([], [8, 7]), ([], [9, 7]), ([], [7, 10])] [1, 2] w2.heap.size hf3 g14.size (by kernel_rfl) (bund_cons (hb13.ownp hv12) (bund_cons (is_any h8) bund_nil)) ?_
  refine ch rfl (ob_load_state (ArgOK.ownp (arg_free 0 rfl rfl))) ?_
  refine ch rfl (ob_call1 (by kernel_rfl) (c_large) (ArgOK.val (arg_op 0 0 rfl rfl rfl rfl) (mkFs (s := s) (hva0.up g9) (hvb0.up g9) (hvc0.up g9) (hvd0.up g9)))) ?_
  refine ch rfl (ob_move (arg_op 1 0 rfl rfl rfl rfl)) ?_
  refine chg (b := _) rfl rfl (arg_op 2 0 rfl rfl rfl rfl) (fun hb2 => ob_load_state (ArgOK.ownp (arg_free 0 rfl rfl))) ?_
  refine chg (b := _) rfl rfl (arg_op 2 1 rfl rfl rfl rfl) (fun hb2 => ob_call1 (by kernel_rfl) (c_ValidState ?_) (ArgOK.val (ArgOK.when (arg_op 3 0 rfl rfl rfl rfl) hb2) (mkFs (s := s) (hva0.up g9) (hvb0.up g9) (hvc0.up g9) (hvd0.up g9)))) ?_
  · exact small_ok (big_no hb2)
  refine chg (b := _) rfl rfl (arg_op 2 2 rfl rfl rfl rfl) (fun hb2 => ob_not (ArgOK.when (arg_op 4 0 rfl rfl rfl rfl) hb2)) ?_
  refine ch rfl (ob_or (arg_op 2 3 rfl rfl rfl rfl) (arg_op 5 0 rfl rfl rfl rfl)) ?_
  refine ch rfl (ob_move (arg_op 6 0 rfl rfl rfl rfl)) ?_
  refine chg (b := _) rfl rfl (arg_op 7 0 rfl rfl rfl rfl) (fun hb7 => ob_move (arg_free 1 rfl rfl)) ?_
  refine chg (b := _) rfl rfl (arg_op 7 1 rfl rfl rfl rfl) (fun hb7 => ob_len (ArgOK.val (ArgOK.when (arg_op 8 0 rfl rfl rfl rfl) hb7) (hv1.up g9)) Try.underlying37) ?_
  refine chg (b := _) rfl rfl (arg_op 7 2 rfl rfl rfl rfl) (fun hb7 => ob_gtr (ArgOK.when (arg_op 9 0 rfl rfl rfl rfl) hb7) arg_c) ?_
  refine ch rfl (ob_or (arg_op 7 3 rfl rfl rfl rfl) (arg_op 10 0 rfl rfl rfl rfl)) ?_
  refine ch_nil ?_
  intro a17 w18 hf19 hg20 hk21 hn22
  have h23 : Holds _ (a17.eval (.tmp 24)) w18 := hn22.at 11 0 rfl rfl rfl
  have h24 := hk21.holds rfl h8
  have hv25 : Holds (Is (PtrV bk10)) (a17.eval (.tmp 2)) w18 := is_any (hk21.holds rfl hv12)
  have hb26 := hb13.up hg20
  have g27 := g9.trans hg20
  have g28 := g14.trans hg20
  clear h8 hv12 hb13 g9 g14 hf3 hk21 hn22
  refine then_ ?_
  refine wp_if h23 ?_ ?_
  · intro hc29
    refine wp_seq ?_
    have g30 : Grow w18 w18 := Grow.refl _
    have hl31 : bk10 < w18.heap.size := hb26.lt
    have hz32 : w2.heap.size ≤ w18.heap.size := g28.size
    refine wp_region_lit ?_
    refine wp_all [([], []), ([], [0])] [] w18.heap.size hf19 g30.size (by kernel_rfl) bund_nil ?_
    refine ch rfl (ob_call0 (by kernel_rfl) (c_awake21) ) ?_
    refine ch rfl (ob_assign (arg_op 0 0 rfl rfl rfl rfl)) ?_
    refine ch_nil ?_
    intro a33 w34 hf35 hg36 hk37 hn38
    have h39 : Holds _ (a33.eval (.tmp 4)) w34 := hn38.at 1 0 rfl rfl rfl
    have g40 := g27.trans hg36
    have g41 := g28.trans hg36
    have g42 := g30.trans hg36
    clear g27 g28 g30 hf19 hk37 hn38
    refine then_ ?_
    refine wp_ret ?_
    refine thenR ?_
    exact ret_tmp rfl hf35 g40 (is_cast h39 (congrArg Value.bool (by first | rfl | exact sums_end hv (by assumption) hend)))
  · intro hc29
    obtain ⟨hb, hv, hlen⟩ := sums_start hc29; have hs := small_ok hb; have ht := add_ok (l := l) hb hlen; obtain ⟨hs1, hs2, hs3, hs4⟩ := id hs; obtain ⟨ht1, ht2, ht3, ht4⟩ := id ht
    refine wp_skip ?_
    refine then_ ?_
    refine wp_seq ?_
    refine wp_region_lit ?_
    refine wp_all [([], [])] [1, 2] w2.heap.size hf19 g28.size (by kernel_rfl) bund_nil ?_
    refine ch rfl (ob_assign arg_c) ?_
    refine ch_nil ?_
    intro a43 w44 hf45 hg46 hk47 hn48
    have h49 : Holds _ (a43.eval (.tmp 5)) w44 := hn48.at 0 0 rfl rfl rfl
    have h50 := hk47.holds rfl h24
    have hv51 : Holds (Is (PtrV bk10)) (a43.eval (.tmp 2)) w44 := is_any (hk47.holds rfl hv25)
    have hb52 := hb26.up hg46
    have g53 := g27.trans hg46
    have g54 := g28.trans hg46
    clear h24 hv25 hb26 g27 g28 hf19 hk47 hn48 hg46
    refine then_ ?_
    refine wp_seq ?_
    refine wp_seq ?_
    refine wp_region_lit ?_
    refine wp_all [([], [])] [1, 2, 5] w2.heap.size hf45 g54.size (by kernel_rfl) bund_nil ?_
    refine ch rfl (ob_assign arg_c) ?_
    refine ch_nil ?_
    intro a55 w56 hf57 hg58 hk59 hn60
    have h61 : Holds _ (a55.eval (.tmp 6)) w56 := hn60.at 0 0 rfl rfl rfl
    have h62 := hk59.holds rfl (h49.up hg58)
    have h63 := hk59.holds rfl h50
    have hv64 : Holds (Is (PtrV bk10)) (a55.eval (.tmp 2)) w56 := is_any (hk59.holds rfl hv51)
    have hb65 := hb52.up hg58
    have g66 := g53.trans hg58
    have g67 := g54.trans hg58
    clear h49 h50 hv51 hb52 g53 g54 hf45 hk59 hn60 hg58
    refine then_ ?_
    refine wp_block ?_
    have g68 : Grow w56 w56 := Grow.refl _
    have hl69 : bk10 < w56.heap.size := hb65.lt
    have hz70 : w2.heap.size ≤ w56.heap.size := g67.size
    refine wp_loopL (α := Nat) (fun x a' w' => Fr 158 a' ∧ (x ≤ l.length) ∧ (∀ j, j < x → cellB (l.getD j default).cell = true) ∧ Grow w0 w' ∧ Grow w2 w' ∧ Grow w56 w' ∧ Keep [1, 2] a55 a' ∧ Holds (Is (intV (tot (l.take x)).toInt)) (a'.eval (.tmp 5)) w' ∧ Holds (Is (intV (x : Int))) (a'.eval (.tmp 6)) w' ∧ Blk bk10 (_) w') (fun x => l.length - x) (0) ⟨hf57, (by omega), (by exact fun j hj => absurd hj (Nat.not_lt_zero j)), g66, g67, g68, Keep.refl _ _, (is_cast h62 (rfl)), (is_cast h61 (by first | rfl | (refine congrArg intV ?_; (try dsimp only); omega))), hb65⟩ ?_
    intro x a71 w72 ⟨hf73, hi75, hi76, g77, g78, g79, kk74, h80, h81, hb82⟩
    have h83 := kk74.holds rfl h63
    have hv84 : Holds (Is (PtrV bk10)) (a71.eval (.tmp 2)) w72 := is_any (kk74.holds rfl hv64)
    refine wp_seq ?_
    refine wp_seq ?_
    refine wp_region_lit ?_
    refine wp_all [([6], []), ([1], []), ([], [1]), ([], [0, 2])] [1, 2, 5, 6] w56.heap.size hf73 g79.size (by kernel_rfl) (bund_cons h81 (bund_cons (is_any h83) bund_nil)) ?_
    refine ch rfl (ob_move (arg_free 0 rfl rfl)) ?_
    refine ch rfl (ob_move (arg_free 1 rfl rfl)) ?_
    refine ch rfl (ob_len (ArgOK.val (arg_op 1 0 rfl rfl rfl rfl) (hv1.up g77)) Try.underlying37) ?_
    refine ch rfl (ob_lss (arg_op 0 2 rfl rfl rfl rfl) (arg_op 2 0 rfl rfl rfl rfl)) ?_
    refine ch_nil ?_
    intro a85 w86 hf87 hg88 hk89 hn90
    have h91 : Holds _ (a85.eval (.tmp 29)) w86 := hn90.at 3 0 rfl rfl rfl
    have h92 := hk89.holds rfl (h80.up hg88)
    have h93 := hk89.holds rfl (h81.up hg88)
    have h94 := hk89.holds rfl h83
    have hv95 : Holds (Is (PtrV bk10)) (a85.eval (.tmp 2)) w86 := is_any (hk89.holds rfl hv84)
    have hb96 := hb82.up hg88
    have g97 := g77.trans hg88
    have g98 := g78.trans hg88
    have g99 := g79.trans hg88
    have kk100 : Keep _ a55 a85 := kk74.trans hk89 rfl
    clear h80 h81 h83 hv84 hb82 g77 g78 g79 kk74 hf73 hk89 hn90 hg88
    refine then_ ?_
    refine wp_if h91 ?_ ?_
    · intro hc101
      try simp only [cond_norm] at hc101
      refine wp_skip ?_
      refine then_ ?_
      refine wp_seq ?_
      refine wp_block ?_
      refine wp_seq ?_
      refine wp_seq ?_
      have g102 : Grow w86 w86 := Grow.refl _
      have hl103 : bk10 < w86.heap.size := hb96.lt
      have hz104 : w56.heap.size ≤ w86.heap.size := g99.size
      refine wp_region_lit ?_
      refine wp_all [([1], []), ([6], []), ([], [0, 1]), ([], [2]), ([], [3]), ([], [4]), ([], [5]), ([1], [6]), ([6], [6]), ([], [7, 8, 6]), ([], [9, 6]), ([], [10, 6]), ([], [11, 6]), ([], [6, 12]), ([], [13]), ([1], [14]), ([6], [14]), ([], [15, 16, 14]), ([], [17, 14]), ([], [18, 14]), ([], [19, 14]), ([], [20, 14]), ([], [14, 21])] [1, 2, 5, 6] w86.heap.size hf87 g102.size (by kernel_rfl) (bund_cons (is_any h94) (bund_cons h93 bund_nil)) ?_
      refine ch rfl (ob_move (arg_free 0 rfl rfl)) ?_
      refine ch rfl (ob_move (arg_free 1 rfl rfl)) ?_
      refine ch rfl (ob_ix (ArgOK.val (arg_op 0 1 rfl rfl rfl rfl) (hv1.up g97)) (arg_op 1 0 rfl rfl rfl rfl) (rfl) ?_ Try.underlying37 szDelta) ?_
      · omega
      refine ch rfl (ob_fa_delta1 (arg_op 2 0 rfl rfl rfl rfl)) ?_
      refine ch rfl (ob_load1 (arg_op 3 0 rfl rfl rfl rfl) Try.underlying3 rfl) ?_
      refine ch rfl (ob_lss (arg_op 4 0 rfl rfl rfl rfl) arg_c) ?_
      refine ch rfl (ob_move (arg_op 5 0 rfl rfl rfl rfl)) ?_
      refine chg (b := _) rfl rfl (arg_op 6 0 rfl rfl rfl rfl) (fun hb6 => ob_move (arg_free 0 rfl rfl)) ?_
      refine chg (b := _) rfl rfl (arg_op 6 1 rfl rfl rfl rfl) (fun hb6 => ob_move (arg_free 1 rfl rfl)) ?_
      refine chg (b := _) rfl rfl (arg_op 6 2 rfl rfl rfl rfl) (fun hb6 => ob_ix (ArgOK.val (ArgOK.when (arg_op 7 1 rfl rfl rfl rfl) hb6) (hv1.up g97)) (ArgOK.when (arg_op 8 0 rfl rfl rfl rfl) hb6) (rfl) ?_ Try.underlying37 szDelta) ?_
      · omega
      refine chg (b := _) rfl rfl (arg_op 6 3 rfl rfl rfl rfl) (fun hb6 => ob_fa_delta1 (ArgOK.when (arg_op 9 0 rfl rfl rfl rfl) hb6)) ?_
      refine chg (b := _) rfl rfl (arg_op 6 4 rfl rfl rfl rfl) (fun hb6 => ob_load1 (ArgOK.when (arg_op 10 0 rfl rfl rfl rfl) hb6) Try.underlying3 rfl) ?_
      refine chg (b := _) rfl rfl (arg_op 6 5 rfl rfl rfl rfl) (fun hb6 => ob_gtr (ArgOK.when (arg_op 11 0 rfl rfl rfl rfl) hb6) arg_c) ?_
      refine ch rfl (ob_or (arg_op 6 6 rfl rfl rfl rfl) (arg_op 12 0 rfl rfl rfl rfl)) ?_
      refine ch rfl (ob_move (arg_op 13 0 rfl rfl rfl rfl)) ?_
      refine chg (b := _) rfl rfl (arg_op 14 0 rfl rfl rfl rfl) (fun hb14 => ob_move (arg_free 0 rfl rfl)) ?_
      refine chg (b := _) rfl rfl (arg_op 14 1 rfl rfl rfl rfl) (fun hb14 => ob_move (arg_free 1 rfl rfl)) ?_
      refine chg (b := _) rfl rfl (arg_op 14 2 rfl rfl rfl rfl) (fun hb14 => ob_ix (ArgOK.val (ArgOK.when (arg_op 15 1 rfl rfl rfl rfl) hb14) (hv1.up g97)) (ArgOK.when (arg_op 16 0 rfl rfl rfl rfl) hb14) (rfl) ?_ Try.underlying37 szDelta) ?_
      · omega
      refine chg (b := _) rfl rfl (arg_op 14 3 rfl rfl rfl rfl) (fun hb14 => ob_fa_delta0 (ArgOK.when (arg_op 17 0 rfl rfl rfl rfl) hb14)) ?_
      refine chg (b := _) rfl rfl (arg_op 14 4 rfl rfl rfl rfl) (fun hb14 => ob_load_cell (ArgOK.when (arg_op 18 0 rfl rfl rfl rfl) hb14)) ?_
      refine chg (b := _) rfl rfl (arg_op 14 5 rfl rfl rfl rfl) (fun hb14 => ob_call1 (by kernel_rfl) (c_rValidCell) (ArgOK.when (arg_op 19 0 rfl rfl rfl rfl) hb14)) ?_
      refine chg (b := _) rfl rfl (arg_op 14 6 rfl rfl rfl rfl) (fun hb14 => ob_not (ArgOK.when (arg_op 20 0 rfl rfl rfl rfl) hb14)) ?_
      refine ch rfl (ob_or (arg_op 14 7 rfl rfl rfl rfl) (arg_op 21 0 rfl rfl rfl rfl)) ?_
      refine ch_nil ?_
      intro a105 w106 hf107 hg108 hk109 hn110
      have h111 : Holds _ (a105.eval (.tmp 54)) w106 := hn110.at 22 0 rfl rfl rfl
      have h112 := hk109.holds rfl h92
      have h113 := hk109.holds rfl h93
      have h114 := hk109.holds rfl h94
      have hv115 : Holds (Is (PtrV bk10)) (a105.eval (.tmp 2)) w106 := is_any (hk109.holds rfl hv95)
      have hb116 := hb96.up hg108
      have g117 := g97.trans hg108
      have g118 := g98.trans hg108
      have g119 := g99.trans hg108
      have g120 := g102.trans hg108
      have kk121 : Keep _ a55 a105 := kk100.trans hk109 rfl
      clear h92 h93 h94 hv95 hb96 g97 g98 g99 g102 kk100 hf87 hk109 hn110
      refine then_ ?_
      refine wp_if h111 ?_ ?_
      · intro hc122
        refine wp_seq ?_
        have g123 : Grow w106 w106 := Grow.refl _
        have hl124 : bk10 < w106.heap.size := hb116.lt
        have hz125 : w86.heap.size ≤ w106.heap.size := g120.size
        refine wp_region_lit ?_
        refine wp_all [([], []), ([], [0])] [1, 2] w106.heap.size hf107 g123.size (by kernel_rfl) bund_nil ?_
        refine ch rfl (ob_call0 (by kernel_rfl) (c_awake21) ) ?_
        refine ch rfl (ob_assign (arg_op 0 0 rfl rfl rfl rfl)) ?_
        refine ch_nil ?_
        intro a126 w127 hf128 hg129 hk130 hn131
        have h132 : Holds _ (a126.eval (.tmp 4)) w127 := hn131.at 1 0 rfl rfl rfl
        have h133 := hk130.holds rfl h114
        have hv134 : Holds (Is (PtrV bk10)) (a126.eval (.tmp 2)) w127 := is_any (hk130.holds rfl hv115)
        have hb135 := hb116.up hg129
        have g136 := g117.trans hg129
        have g137 := g118.trans hg129
        have g138 := g119.trans hg129
        have g139 := g120.trans hg129
        have g140 := g123.trans hg129
        have kk141 : Keep _ a55 a126 := kk121.trans hk130 rfl
        clear h114 hv115 hb116 g117 g118 g119 g120 g123 kk121 hf107 hk130 hn131
        refine then_ ?_
        refine wp_ret ?_
        refine thenR ?_
        refine blockR ?_
        refine thenR ?_
        refine thenR ?_
        refine blockR ?_
        refine thenR ?_
        exact ret_tmp rfl hf128 g136 (is_cast h132 (congrArg Value.bool (by first | rfl | exact sums_end hv (by assumption) hend)))
      · intro hc122
        have hst := cell_step (l := l) (i := x) (by assumption) hc122
        refine wp_skip ?_
        refine then_ ?_
        refine wp_region_lit ?_
        refine wp_all [([5], []), ([1], []), ([6], []), ([], [1, 2]), ([], [3]), ([], [4]), ([], [0, 5]), ([], [6])] [1, 2, 6] w86.heap.size hf107 g120.size (by kernel_rfl) (bund_cons (is_any h112) (bund_cons (is_any h114) (bund_cons (is_any h113) bund_nil))) ?_
        refine ch rfl (ob_move (arg_free 0 rfl rfl)) ?_
        refine ch rfl (ob_move (arg_free 1 rfl rfl)) ?_
        refine ch rfl (ob_move (arg_free 2 rfl rfl)) ?_
        refine ch rfl (ob_ix (ArgOK.val (arg_op 1 1 rfl rfl rfl rfl) (hv1.up g117)) (arg_op 2 0 rfl rfl rfl rfl) (rfl) ?_ Try.underlying37 szDelta) ?_
        · omega
        refine ch rfl (ob_fa_delta1 (arg_op 3 0 rfl rfl rfl rfl)) ?_
        refine ch rfl (ob_load1 (arg_op 4 0 rfl rfl rfl rfl) Try.underlying3 rfl) ?_
        first
          | (refine ch rfl (ob_add' (arg_op 0 5 rfl rfl rfl rfl) (arg_op 5 0 rfl rfl rfl rfl) ?_) ?_; · omega)
          | refine ch rfl (ob_add (arg_op 0 5 rfl rfl rfl rfl) (arg_op 5 0 rfl rfl rfl rfl)) ?_
        refine ch rfl (ob_assign (arg_op 6 0 rfl rfl rfl rfl)) ?_
        refine ch_nil ?_
        intro a142 w143 hf144 hg145 hk146 hn147
        have h148 : Holds _ (a142.eval (.tmp 5)) w143 := hn147.at 7 0 rfl rfl rfl
        have h149 := hk146.holds rfl h113
        have h150 := hk146.holds rfl h114
        have hv151 : Holds (Is (PtrV bk10)) (a142.eval (.tmp 2)) w143 := is_any (hk146.holds rfl hv115)
        have hb152 := hb116.up hg145
        have g153 := g117.trans hg145
        have g154 := g118.trans hg145
        have g155 := g119.trans hg145
        have g156 := g120.trans hg145
        have kk157 : Keep _ a55 a142 := kk121.trans hk146 rfl
        clear h113 h114 hv115 hb116 g117 g118 g119 g120 kk121 hf107 hk146 hn147 hg145
        refine blockN ?_
        refine then_ ?_
        refine wp_region_lit ?_
        refine wp_all [([6], []), ([], [0]), ([], [1])] [1, 2, 5] w86.heap.size hf144 g156.size (by kernel_rfl) (bund_cons (is_any h149) bund_nil) ?_
        refine ch rfl (ob_move (arg_free 0 rfl rfl)) ?_
        first
          | (refine ch rfl (ob_add' (arg_op 0 0 rfl rfl rfl rfl) arg_c ?_) ?_; · omega)
          | refine ch rfl (ob_add (arg_op 0 0 rfl rfl rfl rfl) arg_c) ?_
        refine ch rfl (ob_assign (arg_op 1 0 rfl rfl rfl rfl)) ?_
        refine ch_nil ?_
        intro a158 w159 hf160 hg161 hk162 hn163
        have h164 : Holds _ (a158.eval (.tmp 6)) w159 := hn163.at 2 0 rfl rfl rfl
        have h165 := hk162.holds rfl (h148.up hg161)
        have h166 := hk162.holds rfl h150
        have hv167 : Holds (Is (PtrV bk10)) (a158.eval (.tmp 2)) w159 := is_any (hk162.holds rfl hv151)
        have hb168 := hb152.up hg161
        have g169 := g153.trans hg161
        have g170 := g154.trans hg161
        have g171 := g155.trans hg161
        have g172 := g156.trans hg161
        have kk173 : Keep _ a55 a158 := kk157.trans hk162 rfl
        clear h148 h150 hv151 hb152 g153 g154 g155 g156 kk157 hf144 hk162 hn163 hg161
        refine then_ ?_
        exact ⟨(x + 1), (by ((try dsimp only); omega)), hf160, (by omega), (by exact hst), g169, g170, g171, kk173, (is_cast h165 (congrArg intV (tot_cast (by omega)))), (is_cast h164 (by first | rfl | (refine congrArg intV ?_; (try dsimp only); omega))), hb168⟩
    · intro hc101
      try simp only [cond_norm] at hc101
      obtain rfl : x = l.length := by omega
      refine wp_exit ?_
      refine thenX ?_
      refine thenX ?_
      refine blockX ?_
      refine then_ ?_
      refine wp_seq ?_
      have g174 : Grow w86 w86 := Grow.refl _
      have hl175 : bk10 < w86.heap.size := hb96.lt
      have hz176 : w56.heap.size ≤ w86.heap.size := g99.size
      refine wp_region_lit ?_
      refine wp_seg (l1 := [_, _, _]) [([2], []), ([1], []), ([], [0, 1])] [1, 2, 5] w86.heap.size hf87 g174.size (by kernel_rfl) (bund_cons (hb96.ownp hv95) (bund_cons (is_any h94) bund_nil)) ?_
      refine ch rfl (ob_load_state (ArgOK.ownp (arg_free 0 rfl rfl))) ?_
      refine ch rfl (ob_move (arg_free 1 rfl rfl)) ?_
      refine ch rfl (ob_call2 (by kernel_rfl) (c_Add ?_ ?_ ?_) (ArgOK.val (arg_op 0 1 rfl rfl rfl rfl) (mkFs (s := s) (hva0.up g97) (hvb0.up g97) (hvc0.up g97) (hvd0.up g97))) (ArgOK.val (arg_op 1 0 rfl rfl rfl rfl) (hv1.up g97))) ?_
      · assumption
      · (show s.cells.length ≤ _; omega)
      · omega
      refine ch_nil ?_
      intro a177 w178 hf179 hg180 hk181 hn182
      have h183 : Holds (StO w86.heap.size _) (a177.eval (.tmp 65)) w178 := hn182.at 2 0 rfl rfl rfl
      have h184 := hk181.holds rfl h92
      have h185 := hk181.holds rfl h94
      have hv186 : Holds (Is (PtrV bk10)) (a177.eval (.tmp 2)) w178 := is_any (hk181.holds rfl hv95)
      have hb187 := hb96.up hg180
      have g188 := g97.trans hg180
      have g189 := g98.trans hg180
      have g190 := g99.trans hg180
      have g191 := g174.trans hg180
      clear h92 h94 hv95 hb96 g97 g98 g99 g174 hf87 hk181 hn182
      obtain ⟨V192, V193, V194, V195, h196, hV197, hV198, hV199, hV200⟩ := openO h183
      have g201 : Grow w178 w178 := Grow.refl _
      have hl202 : bk10 < w178.heap.size := hb187.lt
      have hz203 : w86.heap.size ≤ w178.heap.size := g191.size
      refine wp_seg (l1 := [_]) [([], [])] [1, 2, 5, 65] w178.heap.size hf179 g201.size (by kernel_rfl) bund_nil ?_
      refine ch rfl (ob_alloc_state) ?_
      refine ch_nil ?_
      intro a204 w205 hf206 hg207 hk208 hn209
      have h210 : Holds _ (a204.eval (.tmp 7)) w205 := hn209.at 0 0 rfl rfl rfl
      have h211 := hk208.holds rfl h196
      have h212 := hk208.holds rfl h184
      have h213 := hk208.holds rfl h185
      have hv214 : Holds (Is (PtrV bk10)) (a204.eval (.tmp 2)) w205 := is_any (hk208.holds rfl hv186)
      have hb215 := hb187.up hg207
      have g216 := g188.trans hg207
      have g217 := g189.trans hg207
      have g218 := g190.trans hg207
      have g219 := g191.trans hg207
      have g220 := g201.trans hg207
      obtain ⟨bk221, hl222, hv223, hb224⟩ := OwnB.blk (lo := w178.heap.size) h210
      clear h196 h184 h185 hv186 hb187 g188 g189 g190 g191 g201 hf179 hk208 hn209
      refine wl_store_state hv223 hb224 rfl (is_any h211) (st_oneS (OwnS.sl (hV197.up g220)) (OwnS.sl (hV198.up g220)) (OwnS.sl (hV199.up g220)) (OwnS.sl (hV200.up g220))) ?_
      intro w225 ho226 hb227
      have g228 : Grow w0 w225 := g216.only ho226 (by omega)
      have g229 : Grow w2 w225 := g217.only ho226 (by omega)
      have g230 : Grow w56 w225 := g218.only ho226 (by omega)
      have g231 : Grow w86 w225 := g219.only ho226 (by omega)
      have g232 : Grow w178 w225 := g220.only ho226 (by omega)
      have hv233 : Holds (Is (PtrV bk10)) (a204.eval (.tmp 2)) w225 := is_any hv214
      have hb234 : Blk bk10 _ w225 := hb215.only ho226 (by omega)
      have hv235 : Holds (Is (PtrV bk221)) (a204.eval (.tmp 7)) w225 := is_any hv223
      refine wpList_nil ?_
      refine then_ ?_
      refine wp_seq ?_
      refine wp_region_lit ?_
      refine wp_all [([], [])] [1, 2, 5, 7] w178.heap.size hf206 g232.size (by kernel_rfl) bund_nil ?_
      refine ch rfl (ob_assign arg_c) ?_
      refine ch_nil ?_
      intro a236 w237 hf238 hg239 hk240 hn241
      have h242 : Holds _ (a236.eval (.tmp 8)) w237 := hn241.at 0 0 rfl rfl rfl
      have h243 := hk240.holds rfl h212
      have h244 := hk240.holds rfl h213
      have hv245 : Holds (Is (PtrV bk10)) (a236.eval (.tmp 2)) w237 := is_any (hk240.holds rfl hv233)
      have hb246 := hb234.up hg239
      have hv247 : Holds (Is (PtrV bk221)) (a236.eval (.tmp 7)) w237 := is_any (hk240.holds rfl hv235)
      have hb248 := hb227.up hg239
      have g249 := g228.trans hg239
      have g250 := g229.trans hg239
      have g251 := g230.trans hg239
      have g252 := g231.trans hg239
      have g253 := g232.trans hg239
      clear h212 h213 hv233 hb234 hv235 hb227 g228 g229 g230 g231 g232 hf206 hk240 hn241 hg239
      refine then_ ?_
      refine wp_seq ?_
      refine wp_seq ?_
      refine wp_region_lit ?_
      refine wp_all [([], [])] [1, 2, 5, 7, 8] w178.heap.size hf238 g253.size (by kernel_rfl) bund_nil ?_
      refine ch rfl (ob_assign arg_c) ?_
      refine ch_nil ?_
      intro a254 w255 hf256 hg257 hk258 hn259
      have h260 : Holds _ (a254.eval (.tmp 9)) w255 := hn259.at 0 0 rfl rfl rfl
      have h261 := hk258.holds rfl (h242.up hg257)
      have h262 := hk258.holds rfl h243
      have h263 := hk258.holds rfl h244
      have hv264 : Holds (Is (PtrV bk10)) (a254.eval (.tmp 2)) w255 := is_any (hk258.holds rfl hv245)
      have hb265 := hb246.up hg257
      have hv266 : Holds (Is (PtrV bk221)) (a254.eval (.tmp 7)) w255 := is_any (hk258.holds rfl hv247)
      have hb267 := hb248.up hg257
      have g268 := g249.trans hg257
      have g269 := g250.trans hg257
      have g270 := g251.trans hg257
      have g271 := g252.trans hg257
      have g272 := g253.trans hg257
      clear h242 h243 h244 hv245 hb246 hv247 hb248 g249 g250 g251 g252 g253 hf238 hk258 hn259 hg257
      refine then_ ?_
      refine wp_block ?_
      have g273 : Grow w255 w255 := Grow.refl _
      have hl274 : bk10 < w255.heap.size := hb265.lt
      have hl275 : bk221 < w255.heap.size := hb267.lt
      have hz276 : w178.heap.size ≤ w255.heap.size := g272.size
      refine wp_loopL (α := Nat) (fun y a' w' => Fr 158 a' ∧ (y ≤ (addS s l).cells.length) ∧ Grow w0 w' ∧ Grow w2 w' ∧ Grow w56 w' ∧ Grow w86 w' ∧ Grow w178 w' ∧ Grow w255 w' ∧ Keep [1, 2, 5, 7] a254 a' ∧ Holds (Is (.bool (((addS s l).cells.take y).all inTot))) (a'.eval (.tmp 8)) w' ∧ Holds (Is (intV (y : Int))) (a'.eval (.tmp 9)) w' ∧ Blk bk10 (_) w' ∧ Blk bk221 (_) w') (fun y => (addS s l).cells.length - y) (0) ⟨hf256, (by ((try dsimp only); omega)), g268, g269, g270, g271, g272, g273, Keep.refl _ _, (is_cast h261 (rfl)), (is_cast h260 (by first | rfl | (refine congrArg intV ?_; (try dsimp only); omega))), hb265, hb267⟩ ?_
      intro y a277 w278 ⟨hf279, hi281, g282, g283, g284, g285, g286, g287, kk280, h288, h289, hb290, hb291⟩
      have h292 := kk280.holds rfl h262
      have h293 := kk280.holds rfl h263
      have hv294 : Holds (Is (PtrV bk10)) (a277.eval (.tmp 2)) w278 := is_any (kk280.holds rfl hv264)
      have hv295 : Holds (Is (PtrV bk221)) (a277.eval (.tmp 7)) w278 := is_any (kk280.holds rfl hv266)
      refine wp_seq ?_
      refine wp_seq ?_
      refine wp_region_lit ?_
      refine wp_all [([9], []), ([7], []), ([], [1]), ([], [2]), ([], [0, 3])] [1, 2, 5, 7, 8, 9] w255.heap.size hf279 g287.size (by kernel_rfl) (bund_cons h289 (bund_cons (hb291.ownp hv295) bund_nil)) ?_
      refine ch rfl (ob_move (arg_free 0 rfl rfl)) ?_
      refine ch rfl (ob_faP (n := 0) (arg_free 1 rfl rfl) Try.underlying42 rfl (by kernel_rfl)) ?_
      refine ch rfl (ob_loadP (arg_op 1 0 rfl rfl rfl rfl) Try.underlying37 rfl rfl) ?_
      refine ch rfl (ob_len (ArgOK.sl (ArgOK.val (arg_op 2 0 rfl rfl rfl rfl) (hV197.up g286))) Try.underlying37) ?_
      refine ch rfl (ob_lss (arg_op 0 3 rfl rfl rfl rfl) (arg_op 3 0 rfl rfl rfl rfl)) ?_
      refine ch_nil ?_
      intro a296 w297 hf298 hg299 hk300 hn301
      have h302 : Holds _ (a296.eval (.tmp 70)) w297 := hn301.at 4 0 rfl rfl rfl
      have h303 := hk300.holds rfl (h288.up hg299)
      have h304 := hk300.holds rfl (h289.up hg299)
      have h305 := hk300.holds rfl h292
      have h306 := hk300.holds rfl h293
      have hv307 : Holds (Is (PtrV bk10)) (a296.eval (.tmp 2)) w297 := is_any (hk300.holds rfl hv294)
      have hb308 := hb290.up hg299
      have hv309 : Holds (Is (PtrV bk221)) (a296.eval (.tmp 7)) w297 := is_any (hk300.holds rfl hv295)
      have hb310 := hb291.up hg299
      have g311 := g282.trans hg299
      have g312 := g283.trans hg299
      have g313 := g284.trans hg299
      have g314 := g285.trans hg299
      have g315 := g286.trans hg299
      have g316 := g287.trans hg299
      have kk317 : Keep _ a254 a296 := kk280.trans hk300 rfl
      clear h288 h289 h292 h293 hv294 hb290 hv295 hb291 g282 g283 g284 g285 g286 g287 kk280 hf279 hk300 hn301 hg299
      refine then_ ?_
      refine wp_if h302 ?_ ?_
      · intro hc318
        try simp only [cond_norm] at hc318
        refine wp_skip ?_
        refine then_ ?_
        refine wp_seq ?_
        refine wp_block ?_
        refine wp_region_lit ?_
        refine wp_all [([8], []), ([], [0]), ([7], [1]), ([], [2, 1]), ([9], [1]), ([], [3, 4, 1]), ([], [5, 1]), ([], [6, 1]), ([], [7, 1]), ([], [1, 8]), ([], [9]), ([7], [10]), ([], [11, 10]), ([9], [10]), ([], [12, 13, 10]), ([], [14, 10]), ([], [15, 10]), ([], [16, 10]), ([], [10, 17]), ([], [18])] [1, 2, 5, 7, 9] w255.heap.size hf298 g316.size (by kernel_rfl) (bund_cons h303 (bund_cons (hb310.ownp hv309) (bund_cons h304 bund_nil))) ?_
        refine ch rfl (ob_move (arg_free 0 rfl rfl)) ?_
        refine ch rfl (ob_move (arg_op 0 0 rfl rfl rfl rfl)) ?_
        refine chg (b := _) rfl rfl (arg_op 1 0 rfl rfl rfl rfl) (fun hb1 => ob_faP (n := 0) (arg_free 1 rfl rfl) Try.underlying42 rfl (by kernel_rfl)) ?_
        refine chg (b := _) rfl rfl (arg_op 1 1 rfl rfl rfl rfl) (fun hb1 => ob_loadP (ArgOK.when (arg_op 2 0 rfl rfl rfl rfl) hb1) Try.underlying37 rfl rfl) ?_
        refine chg (b := _) rfl rfl (arg_op 1 2 rfl rfl rfl rfl) (fun hb1 => ob_move (arg_free 2 rfl rfl)) ?_
        refine chg (b := _) rfl rfl (arg_op 1 3 rfl rfl rfl rfl) (fun hb1 => ob_ix (ArgOK.sl (ArgOK.val (ArgOK.when (arg_op 3 1 rfl rfl rfl rfl) hb1) (hV197.up g315))) (ArgOK.when (arg_op 4 0 rfl rfl rfl rfl) hb1) (rfl) ?_ Try.underlying37 szDelta) ?_
        · omega
        refine chg (b := _) rfl rfl (arg_op 1 4 rfl rfl rfl rfl) (fun hb1 => ob_fa_delta1 (ArgOK.when (arg_op 5 0 rfl rfl rfl rfl) hb1)) ?_
        refine chg (b := _) rfl rfl (arg_op 1 5 rfl rfl rfl rfl) (fun hb1 => ob_load1 (ArgOK.when (arg_op 6 0 rfl rfl rfl rfl) hb1) Try.underlying3 rfl) ?_
        refine chg (b := _) rfl rfl (arg_op 1 6 rfl rfl rfl rfl) (fun hb1 => ob_geq (ArgOK.when (arg_op 7 0 rfl rfl rfl rfl) hb1) arg_c) ?_
        refine ch rfl (ob_and (arg_op 1 7 rfl rfl rfl rfl) (arg_op 8 0 rfl rfl rfl rfl)) ?_
        refine ch rfl (ob_move (arg_op 9 0 rfl rfl rfl rfl)) ?_
        refine chg (b := _) rfl rfl (arg_op 10 0 rfl rfl rfl rfl) (fun hb10 => ob_faP (n := 0) (arg_free 1 rfl rfl) Try.underlying42 rfl (by kernel_rfl)) ?_
        refine chg (b := _) rfl rfl (arg_op 10 1 rfl rfl rfl rfl) (fun hb10 => ob_loadP (ArgOK.when (arg_op 11 0 rfl rfl rfl rfl) hb10) Try.underlying37 rfl rfl) ?_
        refine chg (b := _) rfl rfl (arg_op 10 2 rfl rfl rfl rfl) (fun hb10 => ob_move (arg_free 2 rfl rfl)) ?_
        refine chg (b := _) rfl rfl (arg_op 10 3 rfl rfl rfl rfl) (fun hb10 => ob_ix (ArgOK.sl (ArgOK.val (ArgOK.when (arg_op 12 1 rfl rfl rfl rfl) hb10) (hV197.up g315))) (ArgOK.when (arg_op 13 0 rfl rfl rfl rfl) hb10) (rfl) ?_ Try.underlying37 szDelta) ?_
        · omega
        refine chg (b := _) rfl rfl (arg_op 10 4 rfl rfl rfl rfl) (fun hb10 => ob_fa_delta1 (ArgOK.when (arg_op 14 0 rfl rfl rfl rfl) hb10)) ?_
        refine chg (b := _) rfl rfl (arg_op 10 5 rfl rfl rfl rfl) (fun hb10 => ob_load1 (ArgOK.when (arg_op 15 0 rfl rfl rfl rfl) hb10) Try.underlying3 rfl) ?_
        refine chg (b := _) rfl rfl (arg_op 10 6 rfl rfl rfl rfl) (fun hb10 => ob_leq (ArgOK.when (arg_op 16 0 rfl rfl rfl rfl) hb10) arg_c) ?_
        refine ch rfl (ob_and (arg_op 10 7 rfl rfl rfl rfl) (arg_op 17 0 rfl rfl rfl rfl)) ?_
        refine ch rfl (ob_assign (arg_op 18 0 rfl rfl rfl rfl)) ?_
        refine ch_nil ?_
        intro a319 w320 hf321 hg322 hk323 hn324
        have h325 : Holds _ (a319.eval (.tmp 8)) w320 := hn324.at 19 0 rfl rfl rfl
        have h326 := hk323.holds rfl (h304.up hg322)
        have h327 := hk323.holds rfl h305
        have h328 := hk323.holds rfl h306
        have hv329 : Holds (Is (PtrV bk10)) (a319.eval (.tmp 2)) w320 := is_any (hk323.holds rfl hv307)
        have hb330 := hb308.up hg322
        have hv331 : Holds (Is (PtrV bk221)) (a319.eval (.tmp 7)) w320 := is_any (hk323.holds rfl hv309)
        have hb332 := hb310.up hg322
        have g333 := g311.trans hg322
        have g334 := g312.trans hg322
        have g335 := g313.trans hg322
        have g336 := g314.trans hg322
        have g337 := g315.trans hg322
        have g338 := g316.trans hg322
        have kk339 : Keep _ a254 a319 := kk317.trans hk323 rfl
        clear h304 h305 h306 hv307 hb308 hv309 hb310 g311 g312 g313 g314 g315 g316 kk317 hf298 hk323 hn324 hg322
        refine blockN ?_
        refine then_ ?_
        refine wp_region_lit ?_
        refine wp_all [([9], []), ([], [0]), ([], [1])] [1, 2, 5, 7, 8] w255.heap.size hf321 g338.size (by kernel_rfl) (bund_cons h326 bund_nil) ?_
        refine ch rfl (ob_move (arg_free 0 rfl rfl)) ?_
        first
          | (refine ch rfl (ob_add' (arg_op 0 0 rfl rfl rfl rfl) arg_c ?_) ?_; · omega)
          | refine ch rfl (ob_add (arg_op 0 0 rfl rfl rfl rfl) arg_c) ?_
        refine ch rfl (ob_assign (arg_op 1 0 rfl rfl rfl rfl)) ?_
        refine ch_nil ?_
        intro a340 w341 hf342 hg343 hk344 hn345
        have h346 : Holds _ (a340.eval (.tmp 9)) w341 := hn345.at 2 0 rfl rfl rfl
        have h347 := hk344.holds rfl (h325.up hg343)
        have h348 := hk344.holds rfl h327
        have h349 := hk344.holds rfl h328
        have hv350 : Holds (Is (PtrV bk10)) (a340.eval (.tmp 2)) w341 := is_any (hk344.holds rfl hv329)
        have hb351 := hb330.up hg343
        have hv352 : Holds (Is (PtrV bk221)) (a340.eval (.tmp 7)) w341 := is_any (hk344.holds rfl hv331)
        have hb353 := hb332.up hg343
        have g354 := g333.trans hg343
        have g355 := g334.trans hg343
        have g356 := g335.trans hg343
        have g357 := g336.trans hg343
        have g358 := g337.trans hg343
        have g359 := g338.trans hg343
        have kk360 : Keep _ a254 a340 := kk339.trans hk344 rfl
        clear h325 h327 h328 hv329 hb330 hv331 hb332 g333 g334 g335 g336 g337 g338 kk339 hf321 hk344 hn345 hg343
        refine then_ ?_
        exact ⟨(y + 1), (by ((try dsimp only); omega)), hf342, (by ((try dsimp only); omega)), g354, g355, g356, g357, g358, g359, kk360, (is_cast h347 (congrArg Value.bool (all_step (by omega)))), (is_cast h346 (by first | rfl | (refine congrArg intV ?_; (try dsimp only); omega))), hb351, hb353⟩
      · intro hc318
        try simp only [cond_norm] at hc318
        have hend : (addS s l).cells.length ≤ y := by omega
        refine wp_exit ?_
        refine thenX ?_
        refine thenX ?_
        refine blockX ?_
        refine then_ ?_
        refine wp_seq ?_
        refine wp_seq ?_
        refine wp_region_lit ?_
        refine wp_all [([], [])] [1, 2, 5, 7, 8] w255.heap.size hf298 g316.size (by kernel_rfl) bund_nil ?_
        refine ch rfl (ob_assign arg_c) ?_
        refine ch_nil ?_
        intro a361 w362 hf363 hg364 hk365 hn366
        have h367 : Holds _ (a361.eval (.tmp 10)) w362 := hn366.at 0 0 rfl rfl rfl
        have h368 := hk365.holds rfl (h303.up hg364)
        have h369 := hk365.holds rfl h305
        have h370 := hk365.holds rfl h306
        have hv371 : Holds (Is (PtrV bk10)) (a361.eval (.tmp 2)) w362 := is_any (hk365.holds rfl hv307)
        have hb372 := hb308.up hg364
        have hv373 : Holds (Is (PtrV bk221)) (a361.eval (.tmp 7)) w362 := is_any (hk365.holds rfl hv309)
        have hb374 := hb310.up hg364
        have g375 := g311.trans hg364
        have g376 := g312.trans hg364
        have g377 := g313.trans hg364
        have g378 := g314.trans hg364
        have g379 := g315.trans hg364
        have g380 := g316.trans hg364
        clear h303 h305 h306 hv307 hb308 hv309 hb310 g311 g312 g313 g314 g315 g316 hf298 hk365 hn366 hg364
        refine then_ ?_
        refine wp_block ?_
        have g381 : Grow w362 w362 := Grow.refl _
        have hl382 : bk10 < w362.heap.size := hb372.lt
        have hl383 : bk221 < w362.heap.size := hb374.lt
        have hz384 : w255.heap.size ≤ w362.heap.size := g380.size
        refine wp_loopL (α := Nat) (fun k a' w' => Fr 158 a' ∧ (k ≤ l.length) ∧ Grow w0 w' ∧ Grow w2 w' ∧ Grow w56 w' ∧ Grow w86 w' ∧ Grow w178 w' ∧ Grow w255 w' ∧ Grow w362 w' ∧ Keep [1, 2, 5, 7, 8] a361 a' ∧ Holds (Is (intV (k : Int))) (a'.eval (.tmp 10)) w' ∧ Blk bk10 (_) w' ∧ Blk bk221 (_) w') (fun k => l.length - k) (0) ⟨hf363, (by ((try dsimp only); omega)), g375, g376, g377, g378, g379, g380, g381, Keep.refl _ _, (is_cast h367 (by first | rfl | (refine congrArg intV ?_; (try dsimp only); omega))), hb372, hb374⟩ ?_
        intro k a385 w386 ⟨hf387, hi389, g390, g391, g392, g393, g394, g395, g396, kk388, h397, hb398, hb399⟩
        have h400 := kk388.holds rfl h368
        have h401 := kk388.holds rfl h369
        have h402 := kk388.holds rfl h370
        have hv403 : Holds (Is (PtrV bk10)) (a385.eval (.tmp 2)) w386 := is_any (kk388.holds rfl hv371)
        have hv404 : Holds (Is (PtrV bk221)) (a385.eval (.tmp 7)) w386 := is_any (kk388.holds rfl hv373)
        refine wp_seq ?_
        refine wp_seq ?_
        refine wp_region_lit ?_
        refine wp_all [([10], []), ([1], []), ([], [1]), ([], [0, 2])] [1, 2, 5, 7, 8, 10] w362.heap.size hf387 g396.size (by kernel_rfl) (bund_cons h397 (bund_cons (is_any h402) bund_nil)) ?_
        refine ch rfl (ob_move (arg_free 0 rfl rfl)) ?_
        refine ch rfl (ob_move (arg_free 1 rfl rfl)) ?_
        refine ch rfl (ob_len (ArgOK.val (arg_op 1 0 rfl rfl rfl rfl) (hv1.up g390)) Try.underlying37) ?_
        refine ch rfl (ob_lss (arg_op 0 2 rfl rfl rfl rfl) (arg_op 2 0 rfl rfl rfl rfl)) ?_
        refine ch_nil ?_
        intro a405 w406 hf407 hg408 hk409 hn410
        have h411 : Holds _ (a405.eval (.tmp 95)) w406 := hn410.at 3 0 rfl rfl rfl
        have h412 := hk409.holds rfl (h397.up hg408)
        have h413 := hk409.holds rfl h400
        have h414 := hk409.holds rfl h401
        have h415 := hk409.holds rfl h402
        have hv416 : Holds (Is (PtrV bk10)) (a405.eval (.tmp 2)) w406 := is_any (hk409.holds rfl hv403)
        have hb417 := hb398.up hg408
        have hv418 : Holds (Is (PtrV bk221)) (a405.eval (.tmp 7)) w406 := is_any (hk409.holds rfl hv404)
        have hb419 := hb399.up hg408
        have g420 := g390.trans hg408
        have g421 := g391.trans hg408
        have g422 := g392.trans hg408
        have g423 := g393.trans hg408
        have g424 := g394.trans hg408
        have g425 := g395.trans hg408
        have g426 := g396.trans hg408
        have kk427 : Keep _ a361 a405 := kk388.trans hk409 rfl
        clear h397 h400 h401 h402 hv403 hb398 hv404 hb399 g390 g391 g392 g393 g394 g395 g396 kk388 hf387 hk409 hn410 hg408
        refine then_ ?_
        refine wp_if h411 ?_ ?_
        · intro hc428
          try simp only [cond_norm] at hc428
          refine wp_skip ?_
          refine then_ ?_
          refine wp_seq ?_
          refine wp_block ?_
          refine wp_seq ?_
          refine wp_region_lit ?_
          refine wp_all [([], [])] [1, 2, 5, 7, 8, 10] w362.heap.size hf407 g426.size (by kernel_rfl) bund_nil ?_
          refine ch rfl (ob_assign arg_c) ?_
          refine ch_nil ?_
          intro a429 w430 hf431 hg432 hk433 hn434
          have h435 : Holds _ (a429.eval (.tmp 11)) w430 := hn434.at 0 0 rfl rfl rfl
          have h436 := hk433.holds rfl (h412.up hg432)
          have h437 := hk433.holds rfl h413
          have h438 := hk433.holds rfl h414
          have h439 := hk433.holds rfl h415
          have hv440 : Holds (Is (PtrV bk10)) (a429.eval (.tmp 2)) w430 := is_any (hk433.holds rfl hv416)
          have hb441 := hb417.up hg432
          have hv442 : Holds (Is (PtrV bk221)) (a429.eval (.tmp 7)) w430 := is_any (hk433.holds rfl hv418)
          have hb443 := hb419.up hg432
          have g444 := g420.trans hg432
          have g445 := g421.trans hg432
          have g446 := g422.trans hg432
          have g447 := g423.trans hg432
          have g448 := g424.trans hg432
          have g449 := g425.trans hg432
          have g450 := g426.trans hg432
          have kk451 : Keep _ a361 a429 := kk427.trans hk433 rfl
          clear h412 h413 h414 h415 hv416 hb417 hv418 hb419 g420 g421 g422 g423 g424 g425 g426 kk427 hf407 hk433 hn434 hg432
          refine then_ ?_
          refine wp_seq ?_
          refine wp_seq ?_
          refine wp_region_lit ?_
          refine wp_all [([], [])] [1, 2, 5, 7, 8, 10, 11] w362.heap.size hf431 g450.size (by kernel_rfl) bund_nil ?_
          refine ch rfl (ob_assign arg_c) ?_
          refine ch_nil ?_
          intro a452 w453 hf454 hg455 hk456 hn457
          have h458 : Holds _ (a452.eval (.tmp 12)) w453 := hn457.at 0 0 rfl rfl rfl
          have h459 := hk456.holds rfl (h435.up hg455)
          have h460 := hk456.holds rfl (h436.up hg455)
          have h461 := hk456.holds rfl h437
          have h462 := hk456.holds rfl h438
          have h463 := hk456.holds rfl h439
          have hv464 : Holds (Is (PtrV bk10)) (a452.eval (.tmp 2)) w453 := is_any (hk456.holds rfl hv440)
          have hb465 := hb441.up hg455
          have hv466 : Holds (Is (PtrV bk221)) (a452.eval (.tmp 7)) w453 := is_any (hk456.holds rfl hv442)
          have hb467 := hb443.up hg455
          have g468 := g444.trans hg455
          have g469 := g445.trans hg455
          have g470 := g446.trans hg455
          have g471 := g447.trans hg455
          have g472 := g448.trans hg455
          have g473 := g449.trans hg455
          have g474 := g450.trans hg455
          have kk475 : Keep _ a361 a452 := kk451.trans hk456 rfl
          clear h435 h436 h437 h438 h439 hv440 hb441 hv442 hb443 g444 g445 g446 g447 g448 g449 g450 kk451 hf431 hk456 hn457 hg455
          refine then_ ?_
          refine wp_block ?_
          have g476 : Grow w453 w453 := Grow.refl _
          have hl477 : bk10 < w453.heap.size := hb465.lt
          have hl478 : bk221 < w453.heap.size := hb467.lt
          have hz479 : w362.heap.size ≤ w453.heap.size := g474.size
          refine wp_loopL (α := Nat) (fun q a' w' => Fr 158 a' ∧ (q ≤ l.length) ∧ Grow w0 w' ∧ Grow w2 w' ∧ Grow w56 w' ∧ Grow w86 w' ∧ Grow w178 w' ∧ Grow w255 w' ∧ Grow w362 w' ∧ Grow w453 w' ∧ Keep [1, 2, 5, 7, 8, 10] a452 a' ∧ Holds (Is (intV (sumf (onC (l.getD k default).cell) (l.take q)).toInt)) (a'.eval (.tmp 11)) w' ∧ Holds (Is (intV (q : Int))) (a'.eval (.tmp 12)) w' ∧ Blk bk10 (_) w' ∧ Blk bk221 (_) w') (fun q => l.length - q) (0) ⟨hf454, (by ((try dsimp only); omega)), g468, g469, g470, g471, g472, g473, g474, g476, Keep.refl _ _, (is_cast h459 (rfl)), (is_cast h458 (by first | rfl | (refine congrArg intV ?_; (try dsimp only); omega))), hb465, hb467⟩ ?_
          intro q a480 w481 ⟨hf482, hi484, g485, g486, g487, g488, g489, g490, g491, g492, kk483, h493, h494, hb495, hb496⟩
          have h497 := kk483.holds rfl h460
          have h498 := kk483.holds rfl h461
          have h499 := kk483.holds rfl h462
          have h500 := kk483.holds rfl h463
          have hv501 : Holds (Is (PtrV bk10)) (a480.eval (.tmp 2)) w481 := is_any (kk483.holds rfl hv464)
          have hv502 : Holds (Is (PtrV bk221)) (a480.eval (.tmp 7)) w481 := is_any (kk483.holds rfl hv466)
          have kk503 : Keep _ a361 a480 := kk475.trans kk483 rfl
          refine wp_seq ?_
          refine wp_seq ?_
          refine wp_region_lit ?_
          refine wp_all [([12], []), ([1], []), ([], [1]), ([], [0, 2])] [1, 2, 5, 7, 8, 10, 11, 12] w453.heap.size hf482 g492.size (by kernel_rfl) (bund_cons h494 (bund_cons (is_any h500) bund_nil)) ?_
          refine ch rfl (ob_move (arg_free 0 rfl rfl)) ?_
          refine ch rfl (ob_move (arg_free 1 rfl rfl)) ?_
          refine ch rfl (ob_len (ArgOK.val (arg_op 1 0 rfl rfl rfl rfl) (hv1.up g485)) Try.underlying37) ?_
          refine ch rfl (ob_lss (arg_op 0 2 rfl rfl rfl rfl) (arg_op 2 0 rfl rfl rfl rfl)) ?_
          refine ch_nil ?_
          intro a504 w505 hf506 hg507 hk508 hn509
          have h510 : Holds _ (a504.eval (.tmp 101)) w505 := hn509.at 3 0 rfl rfl rfl
          have h511 := hk508.holds rfl (h493.up hg507)
          have h512 := hk508.holds rfl (h494.up hg507)
          have h513 := hk508.holds rfl h497
          have h514 := hk508.holds rfl h498
          have h515 := hk508.holds rfl h499
          have h516 := hk508.holds rfl h500
          have hv517 : Holds (Is (PtrV bk10)) (a504.eval (.tmp 2)) w505 := is_any (hk508.holds rfl hv501)
          have hb518 := hb495.up hg507
          have hv519 : Holds (Is (PtrV bk221)) (a504.eval (.tmp 7)) w505 := is_any (hk508.holds rfl hv502)
          have hb520 := hb496.up hg507
          have g521 := g485.trans hg507
          have g522 := g486.trans hg507
          have g523 := g487.trans hg507
          have g524 := g488.trans hg507
          have g525 := g489.trans hg507
          have g526 := g490.trans hg507
          have g527 := g491.trans hg507
          have g528 := g492.trans hg507
          have kk529 : Keep _ a361 a504 := kk503.trans hk508 rfl
          have kk530 : Keep _ a452 a504 := kk483.trans hk508 rfl
          clear h493 h494 h497 h498 h499 h500 hv501 hb495 hv502 hb496 g485 g486 g487 g488 g489 g490 g491 g492 kk503 kk483 hf482 hk508 hn509 hg507
          refine then_ ?_
          refine wp_if h510 ?_ ?_
          · intro hc531
            try simp only [cond_norm] at hc531
            refine wp_skip ?_
            refine then_ ?_
            refine wp_seq ?_
            refine wp_block ?_
            refine wp_seq ?_
            refine wp_calm [0, 0, 3, 7, 15, 0, 0, 96, 224, 480, 1023] [([1], []), ([12], []), ([], [0, 1]), ([], [2]), ([], [3]), ([1], []), ([10], []), ([], [5, 6]), ([], [7]), ([], [8]), ([], [4, 9])] [1, 2, 5, 7, 8, 10, 11, 12] w453.heap.size hf506 g528.size (by kernel_rfl) (bund_cons (is_any h516) (bund_cons h512 (bund_cons (is_any h513) bund_nil))) ?_
            intro ws532 hs533
            refine ch rfl (ob_move (arg_free 0 rfl rfl)) ?_
            refine ch rfl (ob_move (arg_free 1 rfl rfl)) ?_
            refine ch rfl (ob_ix (ArgOK.val (arg_op 0 1 rfl rfl rfl rfl) ((hv1.up g521).up hs533)) (arg_op 1 0 rfl rfl rfl rfl) (rfl) ?_ Try.underlying37 szDelta) ?_
            · omega
            refine ch rfl (ob_fa_delta0 (arg_op 2 0 rfl rfl rfl rfl)) ?_
            refine ch rfl (ob_load_cell (arg_op 3 0 rfl rfl rfl rfl)) ?_
            refine ch rfl (ob_move (arg_free 0 rfl rfl)) ?_
            refine ch rfl (ob_move (arg_free 2 rfl rfl)) ?_
            refine ch rfl (ob_ix (ArgOK.val (arg_op 5 1 rfl rfl rfl rfl) ((hv1.up g521).up hs533)) (arg_op 6 0 rfl rfl rfl rfl) (rfl) ?_ Try.underlying37 szDelta) ?_
            · omega
            refine ch rfl (ob_fa_delta0 (arg_op 7 0 rfl rfl rfl rfl)) ?_
            refine ch rfl (ob_load_cell (arg_op 8 0 rfl rfl rfl rfl)) ?_
            refine ch rfl (ob_eqcell (arg_op 4 5 rfl rfl rfl rfl) (arg_op 9 0 rfl rfl rfl rfl)) ?_
            refine ch_nil ?_
            intro a534 w535 hf536 hg537 hk538 hn539
            have h540 : Holds _ (a534.eval (.tmp 114)) w535 := hn539.at 10 0 rfl rfl rfl
            have h541 := hk538.holds rfl (h511.up hg537)
            have h542 := hk538.holds rfl (h512.up hg537)
            have h543 := hk538.holds rfl h513
            have h544 := hk538.holds rfl h514
            have h545 := hk538.holds rfl h515
            have h546 := hk538.holds rfl h516
            have hv547 : Holds (Is (PtrV bk10)) (a534.eval (.tmp 2)) w535 := is_any (hk538.holds rfl hv517)
            have hb548 := hb518.up hg537
            have hv549 : Holds (Is (PtrV bk221)) (a534.eval (.tmp 7)) w535 := is_any (hk538.holds rfl hv519)
            have hb550 := hb520.up hg537
            have g551 := g521.trans hg537
            have g552 := g522.trans hg537
            have g553 := g523.trans hg537
            have g554 := g524.trans hg537
            have g555 := g525.trans hg537
            have g556 := g526.trans hg537
            have g557 := g527.trans hg537
            have g558 := g528.trans hg537
            have kk559 : Keep _ a361 a534 := kk529.trans hk538 rfl
            have kk560 : Keep _ a452 a534 := kk530.trans hk538 rfl
            clear h511 h512 h513 h514 h515 h516 hv517 hb518 hv519 hb520 g521 g522 g523 g524 g525 g526 g527 g528 kk529 kk530 hf506 hk538 hn539 hg537
            refine then_ ?_
            refine wp_if h540 ?_ ?_
            · intro hc561
              try simp only [cond_norm] at hc561
              have hcc := hc561
              refine wp_region_lit ?_
              refine wp_all [([11], []), ([1], []), ([12], []), ([], [1, 2]), ([], [3]), ([], [4]), ([], [0, 5]), ([], [6])] [1, 2, 5, 7, 8, 10, 12] w453.heap.size hf536 g558.size (by kernel_rfl) (bund_cons h541 (bund_cons (is_any h546) (bund_cons h542 bund_nil))) ?_
              refine ch rfl (ob_move (arg_free 0 rfl rfl)) ?_
              refine ch rfl (ob_move (arg_free 1 rfl rfl)) ?_
              refine ch rfl (ob_move (arg_free 2 rfl rfl)) ?_
              refine ch rfl (ob_ix (ArgOK.val (arg_op 1 1 rfl rfl rfl rfl) (hv1.up g551)) (arg_op 2 0 rfl rfl rfl rfl) (rfl) ?_ Try.underlying37 szDelta) ?_
              · omega
              refine ch rfl (ob_fa_delta1 (arg_op 3 0 rfl rfl rfl rfl)) ?_
              refine ch rfl (ob_load1 (arg_op 4 0 rfl rfl rfl rfl) Try.underlying3 rfl) ?_
              first
                | (refine ch rfl (ob_add' (arg_op 0 5 rfl rfl rfl rfl) (arg_op 5 0 rfl rfl rfl rfl) ?_) ?_; · omega)
                | refine ch rfl (ob_add (arg_op 0 5 rfl rfl rfl rfl) (arg_op 5 0 rfl rfl rfl rfl)) ?_
              refine ch rfl (ob_assign (arg_op 6 0 rfl rfl rfl rfl)) ?_
              refine ch_nil ?_
              intro a562 w563 hf564 hg565 hk566 hn567
              have h568 : Holds _ (a562.eval (.tmp 11)) w563 := hn567.at 7 0 rfl rfl rfl
              have h569 := hk566.holds rfl (h542.up hg565)
              have h570 := hk566.holds rfl h543
              have h571 := hk566.holds rfl h544
              have h572 := hk566.holds rfl h545
              have h573 := hk566.holds rfl h546
              have hv574 : Holds (Is (PtrV bk10)) (a562.eval (.tmp 2)) w563 := is_any (hk566.holds rfl hv547)
              have hb575 := hb548.up hg565
              have hv576 : Holds (Is (PtrV bk221)) (a562.eval (.tmp 7)) w563 := is_any (hk566.holds rfl hv549)
              have hb577 := hb550.up hg565
              have g578 := g551.trans hg565
              have g579 := g552.trans hg565
              have g580 := g553.trans hg565
              have g581 := g554.trans hg565
              have g582 := g555.trans hg565
              have g583 := g556.trans hg565
              have g584 := g557.trans hg565
              have g585 := g558.trans hg565
              have kk586 : Keep _ a361 a562 := kk559.trans hk566 rfl
              have kk587 : Keep _ a452 a562 := kk560.trans hk566 rfl
              clear h542 h543 h544 h545 h546 hv547 hb548 hv549 hb550 g551 g552 g553 g554 g555 g556 g557 g558 kk559 kk560 hf536 hk566 hn567 hg565
              refine blockN ?_
              refine then_ ?_
              refine wp_region_lit ?_
              refine wp_all [([12], []), ([], [0]), ([], [1])] [1, 2, 5, 7, 8, 10, 11] w453.heap.size hf564 g585.size (by kernel_rfl) (bund_cons h569 bund_nil) ?_
              refine ch rfl (ob_move (arg_free 0 rfl rfl)) ?_
              first
                | (refine ch rfl (ob_add' (arg_op 0 0 rfl rfl rfl rfl) arg_c ?_) ?_; · omega)
                | refine ch rfl (ob_add (arg_op 0 0 rfl rfl rfl rfl) arg_c) ?_
              refine ch rfl (ob_assign (arg_op 1 0 rfl rfl rfl rfl)) ?_
              refine ch_nil ?_
              intro a588 w589 hf590 hg591 hk592 hn593
              have h594 : Holds _ (a588.eval (.tmp 12)) w589 := hn593.at 2 0 rfl rfl rfl
              have h595 := hk592.holds rfl (h568.up hg591)
              have h596 := hk592.holds rfl h570
              have h597 := hk592.holds rfl h571
              have h598 := hk592.holds rfl h572
              have h599 := hk592.holds rfl h573
              have hv600 : Holds (Is (PtrV bk10)) (a588.eval (.tmp 2)) w589 := is_any (hk592.holds rfl hv574)
              have hb601 := hb575.up hg591
              have hv602 : Holds (Is (PtrV bk221)) (a588.eval (.tmp 7)) w589 := is_any (hk592.holds rfl hv576)
              have hb603 := hb577.up hg591
              have g604 := g578.trans hg591
              have g605 := g579.trans hg591
              have g606 := g580.trans hg591
              have g607 := g581.trans hg591
              have g608 := g582.trans hg591
              have g609 := g583.trans hg591
              have g610 := g584.trans hg591
              have g611 := g585.trans hg591
              have kk612 : Keep _ a361 a588 := kk586.trans hk592 rfl
              have kk613 : Keep _ a452 a588 := kk587.trans hk592 rfl
              clear h568 h570 h571 h572 h573 hv574 hb575 hv576 hb577 g578 g579 g580 g581 g582 g583 g584 g585 kk586 kk587 hf564 hk592 hn593 hg591
              refine then_ ?_
              exact ⟨(q + 1), (by ((try dsimp only); omega)), hf590, (by ((try dsimp only); omega)), g604, g605, g606, g607, g608, g609, g610, g611, kk613, (is_cast h595 (congrArg intV (by first | exact onC_yes (by omega) hcc | exact onC_no (by omega) hcc))), (is_cast h594 (by first | rfl | (refine congrArg intV ?_; (try dsimp only); omega))), hb601, hb603⟩
            · intro hc561
              try simp only [cond_norm] at hc561
              have hcc := hc561
              refine wp_skip ?_
              refine blockN ?_
              refine then_ ?_
              refine wp_region_lit ?_
              refine wp_all [([12], []), ([], [0]), ([], [1])] [1, 2, 5, 7, 8, 10, 11] w453.heap.size hf536 g558.size (by kernel_rfl) (bund_cons h542 bund_nil) ?_
              refine ch rfl (ob_move (arg_free 0 rfl rfl)) ?_
              first
                | (refine ch rfl (ob_add' (arg_op 0 0 rfl rfl rfl rfl) arg_c ?_) ?_; · omega)
                | refine ch rfl (ob_add (arg_op 0 0 rfl rfl rfl rfl) arg_c) ?_
              refine ch rfl (ob_assign (arg_op 1 0 rfl rfl rfl rfl)) ?_
              refine ch_nil ?_
              intro a614 w615 hf616 hg617 hk618 hn619
              have h620 : Holds _ (a614.eval (.tmp 12)) w615 := hn619.at 2 0 rfl rfl rfl
              have h621 := hk618.holds rfl (h541.up hg617)
              have h622 := hk618.holds rfl h543
              have h623 := hk618.holds rfl h544
              have h624 := hk618.holds rfl h545
              have h625 := hk618.holds rfl h546
              have hv626 : Holds (Is (PtrV bk10)) (a614.eval (.tmp 2)) w615 := is_any (hk618.holds rfl hv547)
              have hb627 := hb548.up hg617
              have hv628 : Holds (Is (PtrV bk221)) (a614.eval (.tmp 7)) w615 := is_any (hk618.holds rfl hv549)
              have hb629 := hb550.up hg617
              have g630 := g551.trans hg617
              have g631 := g552.trans hg617
              have g632 := g553.trans hg617
              have g633 := g554.trans hg617
              have g634 := g555.trans hg617
              have g635 := g556.trans hg617
              have g636 := g557.trans hg617
              have g637 := g558.trans hg617
              have kk638 : Keep _ a361 a614 := kk559.trans hk618 rfl
              have kk639 : Keep _ a452 a614 := kk560.trans hk618 rfl
              clear h541 h543 h544 h545 h546 hv547 hb548 hv549 hb550 g551 g552 g553 g554 g555 g556 g557 g558 kk559 kk560 hf536 hk618 hn619 hg617
              refine then_ ?_
              exact ⟨(q + 1), (by ((try dsimp only); omega)), hf616, (by ((try dsimp only); omega)), g630, g631, g632, g633, g634, g635, g636, g637, kk639, (is_cast h621 (congrArg intV (by first | exact onC_yes (by omega) hcc | exact onC_no (by omega) hcc))), (is_cast h620 (by first | rfl | (refine congrArg intV ?_; (try dsimp only); omega))), hb627, hb629⟩
          · intro hc531
            try simp only [cond_norm] at hc531
            obtain rfl : q = l.length := by omega
            refine wp_exit ?_
            refine thenX ?_
            refine thenX ?_
            refine blockX ?_
            refine then_ ?_
            refine wp_seq ?_
            have g640 : Grow w505 w505 := Grow.refl _
            have hl641 : bk10 < w505.heap.size := hb518.lt
            have hl642 : bk221 < w505.heap.size := hb520.lt
            have hz643 : w453.heap.size ≤ w505.heap.size := g528.size
            refine wp_calm [0, 0, 0, 6, 14, 30, 63, 0, 0, 0, 768, 1792, 3840, 8191, 0, 32767, 65535] [([7], []), ([1], []), ([10], []), ([], [1, 2]), ([], [3]), ([], [4]), ([], [0, 5]), ([2], []), ([1], []), ([10], []), ([], [8, 9]), ([], [10]), ([], [11]), ([], [7, 12]), ([11], []), ([], [13, 14]), ([], [6, 15])] [1, 2, 5, 7, 8, 10] w505.heap.size hf506 g640.size (by kernel_rfl) (bund_cons (hb520.ownp hv519) (bund_cons (is_any h516) (bund_cons (is_any h513) (bund_cons (hb518.ownp hv517) (bund_cons h511 bund_nil))))) ?_
            intro ws644 hs645
            refine ch rfl (ob_load_state (ArgOK.ownp (arg_free 0 rfl rfl))) ?_
            refine ch rfl (ob_move (arg_free 1 rfl rfl)) ?_
            refine ch rfl (ob_move (arg_free 2 rfl rfl)) ?_
            refine ch rfl (ob_ix (ArgOK.val (arg_op 1 1 rfl rfl rfl rfl) ((hv1.up g521).up hs645)) (arg_op 2 0 rfl rfl rfl rfl) (rfl) ?_ Try.underlying37 szDelta) ?_
            · omega
            refine ch rfl (ob_fa_delta0 (arg_op 3 0 rfl rfl rfl rfl)) ?_
            refine ch rfl (ob_load_cell (arg_op 4 0 rfl rfl rfl rfl)) ?_
            refine ch rfl (ob_call2 (by kernel_rfl) (c_Get ?_) (ArgOK.val (arg_op 0 5 rfl rfl rfl rfl) (mkF ((OwnS.sl (hV197.up g525)).up hs645) ((OwnS.sl (hV198.up g525)).up hs645) ((OwnS.sl (hV199.up g525)).up hs645) ((OwnS.sl (hV200.up g525)).up hs645))) (arg_op 5 0 rfl rfl rfl rfl)) ?_
            · assumption
            refine ch rfl (ob_load_state (ArgOK.ownp (arg_free 3 rfl rfl))) ?_
            refine ch rfl (ob_move (arg_free 1 rfl rfl)) ?_
            refine ch rfl (ob_move (arg_free 2 rfl rfl)) ?_
            refine ch rfl (ob_ix (ArgOK.val (arg_op 8 1 rfl rfl rfl rfl) ((hv1.up g521).up hs645)) (arg_op 9 0 rfl rfl rfl rfl) (rfl) ?_ Try.underlying37 szDelta) ?_
            · omega
            refine ch rfl (ob_fa_delta0 (arg_op 10 0 rfl rfl rfl rfl)) ?_
            refine ch rfl (ob_load_cell (arg_op 11 0 rfl rfl rfl rfl)) ?_
            refine ch rfl (ob_call2 (by kernel_rfl) (c_Get ?_) (ArgOK.val (arg_op 7 5 rfl rfl rfl rfl) (mkFs (s := s) ((hva0.up g521).up hs645) ((hvb0.up g521).up hs645) ((hvc0.up g521).up hs645) ((hvd0.up g521).up hs645))) (arg_op 12 0 rfl rfl rfl rfl)) ?_
            · assumption
            refine ch rfl (ob_move (arg_free 4 rfl rfl)) ?_
            first
              | (refine ch rfl (ob_add' (arg_op 13 1 rfl rfl rfl rfl) (arg_op 14 0 rfl rfl rfl rfl) ?_) ?_; · omega)
              | refine ch rfl (ob_add (arg_op 13 1 rfl rfl rfl rfl) (arg_op 14 0 rfl rfl rfl rfl)) ?_
            refine ch rfl (ob_neq (arg_op 6 9 rfl rfl rfl rfl) (arg_op 15 0 rfl rfl rfl rfl)) ?_
            refine ch_nil ?_
            intro a646 w647 hf648 hg649 hk650 hn651
            have h652 : Holds _ (a646.eval (.tmp 138)) w647 := hn651.at 16 0 rfl rfl rfl
            have h653 := hk650.holds rfl h513
            have h654 := hk650.holds rfl h514
            have h655 := hk650.holds rfl h515
            have h656 := hk650.holds rfl h516
            have hv657 : Holds (Is (PtrV bk10)) (a646.eval (.tmp 2)) w647 := is_any (hk650.holds rfl hv517)
            have hb658 := hb518.up hg649
            have hv659 : Holds (Is (PtrV bk221)) (a646.eval (.tmp 7)) w647 := is_any (hk650.holds rfl hv519)
            have hb660 := hb520.up hg649
            have g661 := g521.trans hg649
            have g662 := g522.trans hg649
            have g663 := g523.trans hg649
            have g664 := g524.trans hg649
            have g665 := g525.trans hg649
            have g666 := g526.trans hg649
            have g667 := g527.trans hg649
            have g668 := g528.trans hg649
            have g669 := g640.trans hg649
            have kk670 : Keep _ a361 a646 := kk529.trans hk650 rfl
            clear h513 h514 h515 h516 hv517 hb518 hv519 hb520 g521 g522 g523 g524 g525 g526 g527 g528 g640 kk529 hf506 hk650 hn651
            refine then_ ?_
            refine wp_if h652 ?_ ?_
            · intro hc671
              try simp only [cond_norm] at hc671
              exact absurd (sums_get hv) hc671
            · intro hc671
              try simp only [cond_norm] at hc671
              refine wp_skip ?_
              refine blockN ?_
              refine then_ ?_
              refine wp_region_lit ?_
              refine wp_all [([10], []), ([], [0]), ([], [1])] [1, 2, 5, 7, 8] w505.heap.size hf648 g669.size (by kernel_rfl) (bund_cons (is_any h653) bund_nil) ?_
              refine ch rfl (ob_move (arg_free 0 rfl rfl)) ?_
              first
                | (refine ch rfl (ob_add' (arg_op 0 0 rfl rfl rfl rfl) arg_c ?_) ?_; · omega)
                | refine ch rfl (ob_add (arg_op 0 0 rfl rfl rfl rfl) arg_c) ?_
              refine ch rfl (ob_assign (arg_op 1 0 rfl rfl rfl rfl)) ?_
              refine ch_nil ?_
              intro a672 w673 hf674 hg675 hk676 hn677
              have h678 : Holds _ (a672.eval (.tmp 10)) w673 := hn677.at 2 0 rfl rfl rfl
              have h679 := hk676.holds rfl h654
              have h680 := hk676.holds rfl h655
              have h681 := hk676.holds rfl h656
              have hv682 : Holds (Is (PtrV bk10)) (a672.eval (.tmp 2)) w673 := is_any (hk676.holds rfl hv657)
              have hb683 := hb658.up hg675
              have hv684 : Holds (Is (PtrV bk221)) (a672.eval (.tmp 7)) w673 := is_any (hk676.holds rfl hv659)
              have hb685 := hb660.up hg675
              have g686 := g661.trans hg675
              have g687 := g662.trans hg675
              have g688 := g663.trans hg675
              have g689 := g664.trans hg675
              have g690 := g665.trans hg675
              have g691 := g666.trans hg675
              have g692 := g667.trans hg675
              have g693 := g668.trans hg675
              have g694 := g669.trans hg675
              have kk695 : Keep _ a361 a672 := kk670.trans hk676 rfl
              clear h654 h655 h656 hv657 hb658 hv659 hb660 g661 g662 g663 g664 g665 g666 g667 g668 g669 kk670 hf648 hk676 hn677 hg675
              refine then_ ?_
              exact ⟨(k + 1), (by ((try dsimp only); omega)), hf674, (by ((try dsimp only); omega)), g686, g687, g688, g689, g690, g691, g692, kk695, (is_cast h678 (by first | rfl | (refine congrArg intV ?_; (try dsimp only); omega))), hb683, hb685⟩
        · intro hc428
          try simp only [cond_norm] at hc428
          refine wp_exit ?_
          refine thenX ?_
          refine thenX ?_
          refine blockX ?_
          refine then_ ?_
          refine wp_seq ?_
          have g696 : Grow w406 w406 := Grow.refl _
          have hl697 : bk10 < w406.heap.size := hb417.lt
          have hl698 : bk221 < w406.heap.size := hb419.lt
          have hz699 : w362.heap.size ≤ w406.heap.size := g426.size
          refine wp_calm [0, 1, 0, 7, 0, 31, 63, 127, 255, 511, 1023, 2047, 4095, 8191, 16383, 32767, 65535, 131071, 262143, 524287] [([7], []), ([], [0]), ([2], []), ([], [2]), ([5], []), ([], [3, 4]), ([], [1, 5]), ([], [6]), ([8], [7]), ([], [8, 7]), ([], [9, 7]), ([7], [10]), ([], [11, 10]), ([], [12, 10]), ([], [10, 13, 7]), ([], [7, 14]), ([], [15]), ([], [16]), ([], [16, 17]), ([], [18])] [] w406.heap.size hf407 g696.size (by kernel_rfl) (bund_cons (hb419.ownp hv418) (bund_cons (hb417.ownp hv416) (bund_cons (is_any h414) (bund_cons (is_any h413) bund_nil)))) ?_
          intro ws700 hs701
          refine ch rfl (ob_load_state (ArgOK.ownp (arg_free 0 rfl rfl))) ?_
          refine ch rfl (ob_call1 (by kernel_rfl) (c_Total ?_) (ArgOK.val (arg_op 0 0 rfl rfl rfl rfl) (mkF ((OwnS.sl (hV197.up g424)).up hs701) ((OwnS.sl (hV198.up g424)).up hs701) ((OwnS.sl (hV199.up g424)).up hs701) ((OwnS.sl (hV200.up g424)).up hs701)))) ?_
          · assumption
          refine ch rfl (ob_load_state (ArgOK.ownp (arg_free 1 rfl rfl))) ?_
          refine ch rfl (ob_call1 (by kernel_rfl) (c_Total ?_) (ArgOK.val (arg_op 2 0 rfl rfl rfl rfl) (mkFs (s := s) ((hva0.up g420).up hs701) ((hvb0.up g420).up hs701) ((hvc0.up g420).up hs701) ((hvd0.up g420).up hs701)))) ?_
          · assumption
          refine ch rfl (ob_move (arg_free 2 rfl rfl)) ?_
          first
            | (refine ch rfl (ob_add' (arg_op 3 1 rfl rfl rfl rfl) (arg_op 4 0 rfl rfl rfl rfl) ?_) ?_; · omega)
            | refine ch rfl (ob_add (arg_op 3 1 rfl rfl rfl rfl) (arg_op 4 0 rfl rfl rfl rfl)) ?_
          refine ch rfl (ob_eql (arg_op 1 4 rfl rfl rfl rfl) (arg_op 5 0 rfl rfl rfl rfl)) ?_
          refine ch rfl (ob_move (arg_op 6 0 rfl rfl rfl rfl)) ?_
          refine chg (b := _) rfl rfl (arg_op 7 0 rfl rfl rfl rfl) (fun hb7 => ob_move (arg_free 3 rfl rfl)) ?_
          refine chg (b := _) rfl rfl (arg_op 7 1 rfl rfl rfl rfl) (fun hb7 => ob_not (ArgOK.when (arg_op 8 0 rfl rfl rfl rfl) hb7)) ?_
          refine chg (b := _) rfl rfl (arg_op 7 2 rfl rfl rfl rfl) (fun hb7 => ob_move (ArgOK.when (arg_op 9 0 rfl rfl rfl rfl) hb7)) ?_
          refine chgn (b := _) rfl rfl (arg_op 10 0 rfl rfl rfl rfl) (fun ⟨hb7, hb10⟩ => ob_load_state (ArgOK.ownp (arg_free 0 rfl rfl))) ?_
          refine chgn (b := _) rfl rfl (arg_op 10 1 rfl rfl rfl rfl) (fun ⟨hb7, hb10⟩ => ob_call1 (by kernel_rfl) (c_Validate ?_) (ArgOK.val (ArgOK.when (arg_op 11 0 rfl rfl rfl rfl) ⟨hb7, hb10⟩) (mkF ((OwnS.sl (hV197.up g424)).up hs701) ((OwnS.sl (hV198.up g424)).up hs701) ((OwnS.sl (hV199.up g424)).up hs701) ((OwnS.sl (hV200.up g424)).up hs701)))) ?_
          · assumption
          refine chgn (b := _) rfl rfl (arg_op 10 2 rfl rfl rfl rfl) (fun ⟨hb7, hb10⟩ => ob_eql (ArgOK.when (arg_op 12 0 rfl rfl rfl rfl) ⟨hb7, hb10⟩) arg_c) ?_
          refine chg (b := _) rfl rfl (arg_op 7 6 rfl rfl rfl rfl) (fun hb7 => ob_or (ArgOK.when (arg_op 10 3 rfl rfl rfl rfl) hb7) (ArgOK.whenAnd (arg_op 13 0 rfl rfl rfl rfl) hb7)) ?_
          refine ch rfl (ob_and (arg_op 7 7 rfl rfl rfl rfl) (arg_op 14 0 rfl rfl rfl rfl)) ?_
          refine ch rfl (ob_move (arg_op 15 0 rfl rfl rfl rfl)) ?_
          refine chg (b := _) rfl rfl (arg_op 16 0 rfl rfl rfl rfl) (fun hb16 => ob_call0 (by kernel_rfl) (c_awake21) ) ?_
          refine ch rfl (ob_and (arg_op 16 1 rfl rfl rfl rfl) (arg_op 17 0 rfl rfl rfl rfl)) ?_
          refine ch rfl (ob_assign (arg_op 18 0 rfl rfl rfl rfl)) ?_
          refine ch_nil ?_
          intro a702 w703 hf704 hg705 hk706 hn707
          have h708 : Holds _ (a702.eval (.tmp 4)) w703 := hn707.at 19 0 rfl rfl rfl
          have g709 := g420.trans hg705
          have g710 := g421.trans hg705
          have g711 := g422.trans hg705
          have g712 := g423.trans hg705
          have g713 := g424.trans hg705
          have g714 := g425.trans hg705
          have g715 := g426.trans hg705
          have g716 := g696.trans hg705
          clear g420 g421 g422 g423 g424 g425 g426 g696 hf407 hk706 hn707
          refine then_ ?_
          refine wp_ret ?_
          exact ret_tmp rfl hf704 g709 (is_cast h708 (congrArg Value.bool (by first | rfl | exact sums_end hv (by assumption) hend)))
end Ex
end Go.Proofs.Ytnmfiiejhoafnaa
