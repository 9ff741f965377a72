/- Digits: the first laws. -/
import Derived.Test.YtnmfiiejhoafnaaDigits
namespace Go.Proofs.Ytnmfiiejhoafnaa
namespace Ex
open Go Calm Go.RowKit

/-- some digit among the first k of the one is less than that of the other -/
def lessK (a b : UInt64) : Nat → Bool
  | 0 => false
  | k + 1 => lessK a b k || decide ((digits a).getD k default < (digits b).getD k default)
theorem lessK_false {a b : UInt64} : ∀ {k : Nat}, lessK a b k = false → ∀ i, i < k → dg b i ≤ dg a i
  | k + 1, h, i, hi => by
    simp only [lessK, Bool.or_eq_false_iff, decide_eq_false_iff_not] at h
    by_cases h1 : i < k
    · exact lessK_false h.1 i h1
    · obtain rfl : i = k := by omega
      have h2 : ¬ dg a i < dg b i := h.2
      omega
theorem lessK_self (a : UInt64) : ∀ k, lessK a a k = false
  | 0 => rfl
  | k + 1 => by simp [lessK, lessK_self a k]
theorem nb_of {a b : UInt64} {k : Nat} (h1 : dHi a k = dHi b k) (h2 : dLo a k = dLo b k) : nb a k = nb b k := by
  unfold dHi at h1
  unfold dLo at h2
  rw [UInt8.toNat_div, UInt8.toNat_div] at h1
  rw [UInt8.toNat_mod, UInt8.toNat_mod] at h2
  have h3 : ((((nb a k).toNat / 16 : Nat)) : Int) = (((nb b k).toNat / 16 : Nat) : Int) := h1
  have h4 : ((((nb a k).toNat % 16 : Nat)) : Int) = (((nb b k).toNat % 16 : Nat) : Int) := h2
  apply UInt8.toNat_inj.1
  omega
theorem less_all {a b : UInt64} (h : lessK a b 18 = false) : a = b := by
  have hh := lessK_false h
  have e := dgs_16 a
  have e' := dgs_16 b
  have f := digits_fit a
  have f' := digits_fit b
  rw [e] at f
  rw [e'] at f'
  have key : ∀ k, k < 8 → dHi b k ≤ dHi a k ∧ dLo b k ≤ dLo a k := fun k hk => by
    have h1 := hh (2 * k) (by omega)
    have h2 := hh (2 * k + 1) (by omega)
    rw [dg_low b _ (by omega), dg_low a _ (by omega), if_pos (by omega), if_pos (by omega), show 2 * k / 2 = k by omega] at h1
    rw [dg_low b _ (by omega), dg_low a _ (by omega), if_neg (by omega), if_neg (by omega), show (2 * k + 1) / 2 = k by omega] at h2
    exact ⟨h1, h2⟩
  have k0 := key 0 (by decide)
  have k1 := key 1 (by decide)
  have k2 := key 2 (by decide)
  have k3 := key 3 (by decide)
  have k4 := key 4 (by decide)
  have k5 := key 5 (by decide)
  have k6 := key 6 (by decide)
  have k7 := key 7 (by decide)
  have k16 := hh 16 (by decide)
  have k17 := hh 17 (by decide)
  clear key hh e e'
  simp only [dsum] at f f'
  generalize dg a 16 = x16 at *
  generalize dg a 17 = x17 at *
  generalize dg b 16 = y16 at *
  generalize dg b 17 = y17 at *
  refine nb_inj fun i hi => ?_
  match i, hi with
  | 0, _ => exact nb_of (by omega) (by omega)
  | 1, _ => exact nb_of (by omega) (by omega)
  | 2, _ => exact nb_of (by omega) (by omega)
  | 3, _ => exact nb_of (by omega) (by omega)
  | 4, _ => exact nb_of (by omega) (by omega)
  | 5, _ => exact nb_of (by omega) (by omega)
  | 6, _ => exact nb_of (by omega) (by omega)
  | 7, _ => exact nb_of (by omega) (by omega)
theorem less_iff (a b : UInt64) : lessK a b 18 = !decide (a = b) := by
  by_cases h : a = b
  · subst h; rw [lessK_self]; simp
  · cases hl : lessK a b 18 with
    | true => simp [h]
    | false => exact absurd (less_all hl) h

set_option maxRecDepth 100000 in
theorem c_awake4  : Con0 29 (fun _ => Is (.bool true)) := by
  intro lo w0 hlo 
  refine enter Try.func29 rfl Try.ntmps29 (by simp) ?_
  intro a0 hf0 ha
  clear ha
  have g0 : Grow w0 w0 := Grow.refl _
  refine wp_seq ?_
  refine wp_region_lit ?_
  refine wp_all [([], [])] [] w0.heap.size hf0 g0.size (by kernel_rfl) bund_nil ?_
  refine ch rfl (ob_assign arg_c) ?_
  refine ch_nil ?_
  intro a1 w2 hf3 hg4 hk5 hn6
  have g7 : Grow w0 w2 := g0.trans hg4
  clear g0 hf0 hk5 hn6
  refine then_ ?_
  refine wp_seq ?_
  refine wp_region_lit ?_
  refine wp_all [([], []), ([], [0]), ([], [1])] [] w0.heap.size hf3 g7.size (by kernel_rfl) bund_nil ?_
  refine ch rfl (ob_build_nm0) ?_
  refine ch rfl (ob_call1 (by kernel_rfl) (c_Digits) (arg_op 0 0 rfl rfl rfl rfl)) ?_
  refine ch rfl (ob_assign (arg_op 1 0 rfl rfl rfl rfl)) ?_
  refine ch_nil ?_
  intro a8 w9 hf10 hg11 hk12 hn13
  have h14 : Holds _ (a8.eval (.tmp 1)) w9 := hn13.at 2 0 rfl rfl rfl
  have g15 : Grow w0 w9 := g7.trans hg11
  clear g7 hf3 hk12 hn13 hg11
  refine then_ ?_
  refine wp_seq ?_
  refine wp_region_lit ?_
  refine wp_all [([1], []), ([], [0]), ([], [1]), ([], [2]), ([1], [3]), ([], [4, 3]), ([], [5, 3]), ([], [6, 3]), ([], [3, 7]), ([], [8]), ([1], [9]), ([], [10, 9]), ([], [11, 9]), ([], [12, 9]), ([], [9, 13]), ([], [14]), ([1], [15]), ([], [16, 15]), ([], [17, 15]), ([], [18, 15]), ([], [15, 19]), ([], [20])] [] w0.heap.size hf10 g15.size (by kernel_rfl) (bund_cons h14 bund_nil) ?_
  refine ch rfl (ob_move (arg_free 0 rfl rfl)) ?_
  refine ch rfl (ob_len (ArgOK.sl (arg_op 0 0 rfl rfl rfl rfl)) Try.underlying24) ?_
  refine ch rfl (ob_eql (arg_op 1 0 rfl rfl rfl rfl) arg_c) ?_
  refine ch rfl (ob_move (arg_op 2 0 rfl rfl rfl rfl)) ?_
  refine chg (b := _) rfl rfl (arg_op 3 0 rfl rfl rfl rfl) (fun hb3 => ob_move (arg_free 0 rfl rfl)) ?_
  refine chg (b := _) rfl rfl (arg_op 3 1 rfl rfl rfl rfl) (fun hb3 => ob_ix (ArgOK.sl (ArgOK.when (arg_op 4 0 rfl rfl rfl rfl) hb3)) arg_c (show (0 : Int) = ((0 : Nat) : Int) from rfl) ?_ Try.underlying24 szInt) ?_
  · (rw [digits_len]; decide)
  refine chg (b := _) rfl rfl (arg_op 3 2 rfl rfl rfl rfl) (fun hb3 => ob_load1 (ArgOK.when (arg_op 5 0 rfl rfl rfl rfl) hb3) Try.underlying3 rfl) ?_
  refine chg (b := _) rfl rfl (arg_op 3 3 rfl rfl rfl rfl) (fun hb3 => ob_eql (ArgOK.when (arg_op 6 0 rfl rfl rfl rfl) hb3) arg_c) ?_
  refine ch rfl (ob_and (arg_op 3 4 rfl rfl rfl rfl) (arg_op 7 0 rfl rfl rfl rfl)) ?_
  refine ch rfl (ob_move (arg_op 8 0 rfl rfl rfl rfl)) ?_
  refine chg (b := _) rfl rfl (arg_op 9 0 rfl rfl rfl rfl) (fun hb9 => ob_move (arg_free 0 rfl rfl)) ?_
  refine chg (b := _) rfl rfl (arg_op 9 1 rfl rfl rfl rfl) (fun hb9 => ob_ix (ArgOK.sl (ArgOK.when (arg_op 10 0 rfl rfl rfl rfl) hb9)) arg_c (show (16 : Int) = ((16 : Nat) : Int) from rfl) ?_ Try.underlying24 szInt) ?_
  · (rw [digits_len]; decide)
  refine chg (b := _) rfl rfl (arg_op 9 2 rfl rfl rfl rfl) (fun hb9 => ob_load1 (ArgOK.when (arg_op 11 0 rfl rfl rfl rfl) hb9) Try.underlying3 rfl) ?_
  refine chg (b := _) rfl rfl (arg_op 9 3 rfl rfl rfl rfl) (fun hb9 => ob_eql (ArgOK.when (arg_op 12 0 rfl rfl rfl rfl) hb9) arg_c) ?_
  refine ch rfl (ob_and (arg_op 9 4 rfl rfl rfl rfl) (arg_op 13 0 rfl rfl rfl rfl)) ?_
  refine ch rfl (ob_move (arg_op 14 0 rfl rfl rfl rfl)) ?_
  refine chg (b := _) rfl rfl (arg_op 15 0 rfl rfl rfl rfl) (fun hb15 => ob_move (arg_free 0 rfl rfl)) ?_
  refine chg (b := _) rfl rfl (arg_op 15 1 rfl rfl rfl rfl) (fun hb15 => ob_ix (ArgOK.sl (ArgOK.when (arg_op 16 0 rfl rfl rfl rfl) hb15)) arg_c (show (17 : Int) = ((17 : Nat) : Int) from rfl) ?_ Try.underlying24 szInt) ?_
  · (rw [digits_len]; decide)
  refine chg (b := _) rfl rfl (arg_op 15 2 rfl rfl rfl rfl) (fun hb15 => ob_load1 (ArgOK.when (arg_op 17 0 rfl rfl rfl rfl) hb15) Try.underlying3 rfl) ?_
  refine chg (b := _) rfl rfl (arg_op 15 3 rfl rfl rfl rfl) (fun hb15 => ob_eql (ArgOK.when (arg_op 18 0 rfl rfl rfl rfl) hb15) arg_c) ?_
  refine ch rfl (ob_and (arg_op 15 4 rfl rfl rfl rfl) (arg_op 19 0 rfl rfl rfl rfl)) ?_
  refine ch rfl (ob_assign (arg_op 20 0 rfl rfl rfl rfl)) ?_
  refine ch_nil ?_
  intro a16 w17 hf18 hg19 hk20 hn21
  have h22 : Holds _ (a16.eval (.tmp 0)) w17 := hn21.at 21 0 rfl rfl rfl
  have g23 : Grow w0 w17 := g15.trans hg19
  clear g15 hf10 hk20 hn21 hg19
  refine then_ ?_
  refine wp_ret ?_
  exact ret_tmp rfl hf18 g23 (is_cast h22 (congrArg Value.bool (by decide +kernel)))

set_option maxRecDepth 100000 in
theorem c_OnetimeDigits {n : UInt64} : Con1 3 (Is (nmV n)) (fun _ => Is (.bool true)) := by
  intro lo v0 w0 hlo hv0
  refine enter Try.func3 rfl Try.ntmps3 (by simp) ?_
  intro a0 hf0 ha
  have h00 : Holds _ (a0.eval (.tmp 0)) w0 := arg_holds ha rfl hv0
  clear ha
  have g0 : Grow w0 w0 := Grow.refl _
  refine wp_seq ?_
  refine wp_region_lit ?_
  refine wp_all [([0], []), ([], [])] [] w0.heap.size hf0 g0.size (by kernel_rfl) (bund_cons h00 bund_nil) ?_
  refine ch rfl (ob_box_nm (arg_free 0 rfl rfl)) ?_
  refine ch rfl (ob_assign arg_c) ?_
  refine ch_nil ?_
  intro a1 w2 hf3 hg4 hk5 hn6
  have h7 : Holds _ (a1.eval (.tmp 1)) w2 := hn6.at 0 1 rfl rfl rfl
  have g8 : Grow w0 w2 := g0.trans hg4
  obtain ⟨bk9, hl10, hv11, hb12⟩ := OwnB.blk (lo := w0.heap.size) h7
  clear g0 hf0 hk5 hn6
  refine then_ ?_
  refine wp_seq ?_
  refine wp_calm [0, 1, 0, 7, 15, 31] [([1], []), ([], [0]), ([1], []), ([], [2]), ([], [1]), ([], [3])] [] w0.heap.size hf3 g8.size (by kernel_rfl) (bund_cons (hb12.ownp hv11) bund_nil) ?_
  intro ws13 hs14
  refine ch rfl (ob_load_nm (ArgOK.ownp (arg_free 0 rfl rfl))) ?_
  refine ch rfl (ob_call1 (by kernel_rfl) (c_Digits) (arg_op 0 0 rfl rfl rfl rfl)) ?_
  refine ch rfl (ob_load_nm (ArgOK.ownp (arg_free 0 rfl rfl))) ?_
  refine ch rfl (ob_call1 (by kernel_rfl) (c_rDigits) (arg_op 2 0 rfl rfl rfl rfl)) ?_
  refine ch rfl (ob_assign (arg_op 1 2 rfl rfl rfl rfl)) ?_
  refine ch rfl (ob_assign (arg_op 3 1 rfl rfl rfl rfl)) ?_
  refine ch_nil ?_
  intro a15 w16 hf17 hg18 hk19 hn20
  have h21 : Holds _ (a15.eval (.tmp 3)) w16 := hn20.at 4 1 rfl rfl rfl
  have h22 : Holds _ (a15.eval (.tmp 4)) w16 := hn20.at 5 0 rfl rfl rfl
  have g23 : Grow w0 w16 := g8.trans hg18
  clear g8 hf3 hk19 hn20 hg18
  refine then_ ?_
  refine wp_seq ?_
  refine wp_seq ?_
  refine wp_region_lit ?_
  refine wp_all [([3], []), ([], [0]), ([], [1]), ([], [2]), ([4], [3]), ([], [4, 3]), ([], [5, 3]), ([], [3, 6])] [3, 4] w0.heap.size hf17 g23.size (by kernel_rfl) (bund_cons h21 (bund_cons h22 bund_nil)) ?_
  refine ch rfl (ob_move (arg_free 0 rfl rfl)) ?_
  refine ch rfl (ob_len (ArgOK.sl (arg_op 0 0 rfl rfl rfl rfl)) Try.underlying24) ?_
  refine ch rfl (ob_neq (arg_op 1 0 rfl rfl rfl rfl) arg_c) ?_
  refine ch rfl (ob_move (arg_op 2 0 rfl rfl rfl rfl)) ?_
  refine chg (b := _) rfl rfl (arg_op 3 0 rfl rfl rfl rfl) (fun hb3 => ob_move (arg_free 1 rfl rfl)) ?_
  refine chg (b := _) rfl rfl (arg_op 3 1 rfl rfl rfl rfl) (fun hb3 => ob_len (ArgOK.sl (ArgOK.when (arg_op 4 0 rfl rfl rfl rfl) hb3)) Try.underlying24) ?_
  refine chg (b := _) rfl rfl (arg_op 3 2 rfl rfl rfl rfl) (fun hb3 => ob_neq (ArgOK.when (arg_op 5 0 rfl rfl rfl rfl) hb3) arg_c) ?_
  refine ch rfl (ob_or (arg_op 3 3 rfl rfl rfl rfl) (arg_op 6 0 rfl rfl rfl rfl)) ?_
  refine ch_nil ?_
  intro a24 w25 hf26 hg27 hk28 hn29
  have h30 : Holds _ (a24.eval (.tmp 18)) w25 := hn29.at 7 0 rfl rfl rfl
  have h31 : Holds _ (a24.eval (.tmp 3)) w25 := hk28.holds rfl (h21.up hg27)
  have h32 : Holds _ (a24.eval (.tmp 4)) w25 := hk28.holds rfl (h22.up hg27)
  have g33 : Grow w0 w25 := g23.trans hg27
  clear h21 h22 g23 hf17 hk28 hn29 hg27
  refine then_ ?_
  refine wp_if h30 ?_ ?_
  · intro hc34
    try simp only [cond_norm] at hc34
    simp [digits_len] at hc34
  · intro hc34
    try simp only [cond_norm] at hc34
    refine wp_skip ?_
    refine then_ ?_
    refine wp_seq ?_
    refine wp_region_lit ?_
    refine wp_all [([], [])] [3, 4] w0.heap.size hf26 g33.size (by kernel_rfl) bund_nil ?_
    refine ch rfl (ob_assign arg_c) ?_
    refine ch_nil ?_
    intro a35 w36 hf37 hg38 hk39 hn40
    have h41 : Holds _ (a35.eval (.tmp 5)) w36 := hn40.at 0 0 rfl rfl rfl
    have h42 : Holds _ (a35.eval (.tmp 3)) w36 := hk39.holds rfl (h31.up hg38)
    have h43 : Holds _ (a35.eval (.tmp 4)) w36 := hk39.holds rfl (h32.up hg38)
    have g44 : Grow w0 w36 := g33.trans hg38
    clear h31 h32 g33 hf26 hk39 hn40 hg38
    refine then_ ?_
    refine wp_seq ?_
    refine wp_seq ?_
    refine wp_region_lit ?_
    refine wp_all [([], [])] [3, 4, 5] w0.heap.size hf37 g44.size (by kernel_rfl) bund_nil ?_
    refine ch rfl (ob_assign arg_c) ?_
    refine ch_nil ?_
    intro a45 w46 hf47 hg48 hk49 hn50
    have h51 : Holds _ (a45.eval (.tmp 6)) w46 := hn50.at 0 0 rfl rfl rfl
    have h52 : Holds _ (a45.eval (.tmp 5)) w46 := hk49.holds rfl (h41.up hg48)
    have h53 : Holds _ (a45.eval (.tmp 3)) w46 := hk49.holds rfl (h42.up hg48)
    have h54 : Holds _ (a45.eval (.tmp 4)) w46 := hk49.holds rfl (h43.up hg48)
    have g55 : Grow w0 w46 := g44.trans hg48
    clear h41 h42 h43 g44 hf37 hk49 hn50 hg48
    refine then_ ?_
    refine wp_block ?_
    have g56 : Grow w46 w46 := Grow.refl _
    have hz57 : w0.heap.size ≤ w46.heap.size := g55.size
    refine wp_loopL (α := Nat) (fun i a' w' => Fr 68 a' ∧ (i ≤ 18) ∧ Grow w0 w' ∧ Grow w46 w' ∧ Keep [3, 4] a45 a' ∧ Holds (Is (intV (i : Int))) (a'.eval (.tmp 6)) w' ∧ Holds (Is (intV (dgs n (min i 16)))) (a'.eval (.tmp 5)) w') (fun i => 18 - i) (0) ⟨hf47, (by omega), g55, g56, Keep.refl _ _, (is_cast h51 (by first | rfl | (refine congrArg intV ?_; omega))), (is_cast h52 (by first | rfl | (refine congrArg intV ?_; omega)))⟩ ?_
    intro i a58 w59 ⟨hf60, hi62, g63, g64, kk61, h65, h66⟩
    have h67 : Holds _ (a58.eval (.tmp 3)) w46 := kk61.holds rfl h53
    have h68 : Holds _ (a58.eval (.tmp 4)) w46 := kk61.holds rfl h54
    have hg := dgs_bound n (min i 16) (by omega)
    refine wp_seq ?_
    refine wp_seq ?_
    refine wp_region_lit ?_
    refine wp_all [([6], []), ([], [0])] [3, 4, 5, 6] w46.heap.size hf60 g64.size (by kernel_rfl) (bund_cons h65 bund_nil) ?_
    refine ch rfl (ob_move (arg_free 0 rfl rfl)) ?_
    refine ch rfl (ob_lss (arg_op 0 0 rfl rfl rfl rfl) arg_c) ?_
    refine ch_nil ?_
    intro a69 w70 hf71 hg72 hk73 hn74
    have h75 : Holds _ (a69.eval (.tmp 20)) w70 := hn74.at 1 0 rfl rfl rfl
    have h76 : Holds _ (a69.eval (.tmp 6)) w70 := hk73.holds rfl (h65.up hg72)
    have h77 : Holds _ (a69.eval (.tmp 5)) w70 := hk73.holds rfl (h66.up hg72)
    have h78 : Holds _ (a69.eval (.tmp 3)) w46 := hk73.holds rfl h67
    have h79 : Holds _ (a69.eval (.tmp 4)) w46 := hk73.holds rfl h68
    have g80 : Grow w0 w70 := g63.trans hg72
    have g81 : Grow w46 w70 := g64.trans hg72
    have kk82 : Keep _ a45 a69 := kk61.trans hk73 rfl
    clear h65 h66 h67 h68 g63 g64 kk61 hf60 hk73 hn74 hg72
    refine then_ ?_
    refine wp_if h75 ?_ ?_
    · intro hc83
      try simp only [cond_norm] at hc83
      have hb : 0 ≤ (digits n).getD i default ∧ (digits n).getD i default ≤ 15 := dg_bound n i (by omega)
      refine wp_skip ?_
      refine then_ ?_
      refine wp_seq ?_
      refine wp_block ?_
      refine wp_seq ?_
      refine wp_seq ?_
      refine wp_calm [0, 0, 3, 7, 0, 0, 48, 112, 255, 511, 1023, 1023, 4095, 8191, 16383, 32767, 65535, 131071, 131071, 524287, 1048575, 2097151, 4194303] [([3], []), ([6], []), ([], [0, 1]), ([], [2]), ([4], []), ([6], []), ([], [4, 5]), ([], [6]), ([], [3, 7]), ([], [8]), ([3], [9]), ([6], [9]), ([], [10, 11, 9]), ([], [12, 9]), ([], [13, 9]), ([], [9, 14]), ([], [15]), ([3], [16]), ([6], [16]), ([], [17, 18, 16]), ([], [19, 16]), ([], [20, 16]), ([], [16, 21])] [3, 4, 5, 6] w46.heap.size hf71 g81.size (by kernel_rfl) (bund_cons (h78.up g81) (bund_cons h76 (bund_cons (h79.up g81) bund_nil))) ?_
      intro ws84 hs85
      refine ch rfl (ob_move (arg_free 0 rfl rfl)) ?_
      refine ch rfl (ob_move (arg_free 1 rfl rfl)) ?_
      refine ch rfl (ob_ix (ArgOK.sl (arg_op 0 1 rfl rfl rfl rfl)) (arg_op 1 0 rfl rfl rfl rfl) (rfl) ?_ Try.underlying24 szInt) ?_
      · (rw [digits_len]; omega)
      refine ch rfl (ob_load1 (arg_op 2 0 rfl rfl rfl rfl) Try.underlying3 rfl) ?_
      refine ch rfl (ob_move (arg_free 2 rfl rfl)) ?_
      refine ch rfl (ob_move (arg_free 1 rfl rfl)) ?_
      refine ch rfl (ob_ix (ArgOK.sl (arg_op 4 1 rfl rfl rfl rfl)) (arg_op 5 0 rfl rfl rfl rfl) (rfl) ?_ Try.underlying24 szInt) ?_
      · (rw [digits_len]; omega)
      refine ch rfl (ob_load1 (arg_op 6 0 rfl rfl rfl rfl) Try.underlying3 rfl) ?_
      refine ch rfl (ob_neq (arg_op 3 4 rfl rfl rfl rfl) (arg_op 7 0 rfl rfl rfl rfl)) ?_
      refine ch rfl (ob_move (arg_op 8 0 rfl rfl rfl rfl)) ?_
      refine chg (b := _) rfl rfl (arg_op 9 0 rfl rfl rfl rfl) (fun hb9 => ob_move (arg_free 0 rfl rfl)) ?_
      refine chg (b := _) rfl rfl (arg_op 9 1 rfl rfl rfl rfl) (fun hb9 => ob_move (arg_free 1 rfl rfl)) ?_
      refine chg (b := _) rfl rfl (arg_op 9 2 rfl rfl rfl rfl) (fun hb9 => ob_ix (ArgOK.sl (ArgOK.when (arg_op 10 1 rfl rfl rfl rfl) hb9)) (ArgOK.when (arg_op 11 0 rfl rfl rfl rfl) hb9) (rfl) ?_ Try.underlying24 szInt) ?_
      · (rw [digits_len]; omega)
      refine chg (b := _) rfl rfl (arg_op 9 3 rfl rfl rfl rfl) (fun hb9 => ob_load1 (ArgOK.when (arg_op 12 0 rfl rfl rfl rfl) hb9) Try.underlying3 rfl) ?_
      refine chg (b := _) rfl rfl (arg_op 9 4 rfl rfl rfl rfl) (fun hb9 => ob_lss (ArgOK.when (arg_op 13 0 rfl rfl rfl rfl) hb9) arg_c) ?_
      refine ch rfl (ob_or (arg_op 9 5 rfl rfl rfl rfl) (arg_op 14 0 rfl rfl rfl rfl)) ?_
      refine ch rfl (ob_move (arg_op 15 0 rfl rfl rfl rfl)) ?_
      refine chg (b := _) rfl rfl (arg_op 16 0 rfl rfl rfl rfl) (fun hb16 => ob_move (arg_free 0 rfl rfl)) ?_
      refine chg (b := _) rfl rfl (arg_op 16 1 rfl rfl rfl rfl) (fun hb16 => ob_move (arg_free 1 rfl rfl)) ?_
      refine chg (b := _) rfl rfl (arg_op 16 2 rfl rfl rfl rfl) (fun hb16 => ob_ix (ArgOK.sl (ArgOK.when (arg_op 17 1 rfl rfl rfl rfl) hb16)) (ArgOK.when (arg_op 18 0 rfl rfl rfl rfl) hb16) (rfl) ?_ Try.underlying24 szInt) ?_
      · (rw [digits_len]; omega)
      refine chg (b := _) rfl rfl (arg_op 16 3 rfl rfl rfl rfl) (fun hb16 => ob_load1 (ArgOK.when (arg_op 19 0 rfl rfl rfl rfl) hb16) Try.underlying3 rfl) ?_
      refine chg (b := _) rfl rfl (arg_op 16 4 rfl rfl rfl rfl) (fun hb16 => ob_gtr (ArgOK.when (arg_op 20 0 rfl rfl rfl rfl) hb16) arg_c) ?_
      refine ch rfl (ob_or (arg_op 16 5 rfl rfl rfl rfl) (arg_op 21 0 rfl rfl rfl rfl)) ?_
      refine ch_nil ?_
      intro a86 w87 hf88 hg89 hk90 hn91
      have h92 : Holds _ (a86.eval (.tmp 45)) w87 := hn91.at 22 0 rfl rfl rfl
      have h93 : Holds _ (a86.eval (.tmp 6)) w87 := hk90.holds rfl (h76.up hg89)
      have h94 : Holds _ (a86.eval (.tmp 5)) w87 := hk90.holds rfl (h77.up hg89)
      have h95 : Holds _ (a86.eval (.tmp 3)) w46 := hk90.holds rfl h78
      have h96 : Holds _ (a86.eval (.tmp 4)) w46 := hk90.holds rfl h79
      have g97 : Grow w0 w87 := g80.trans hg89
      have g98 : Grow w46 w87 := g81.trans hg89
      have kk99 : Keep _ a45 a86 := kk82.trans hk90 rfl
      clear h76 h77 h78 h79 g80 g81 kk82 hf71 hk90 hn91 hg89
      refine then_ ?_
      refine wp_if h92 ?_ ?_
      · intro hc100
        try simp only [cond_norm] at hc100
        simp only [not_true_eq_false, false_or] at hc100; omega
      · intro hc100
        try simp only [cond_norm] at hc100
        refine wp_skip ?_
        refine then_ ?_
        refine wp_seq ?_
        refine wp_region_lit ?_
        refine wp_all [([6], []), ([], [0])] [3, 4, 5, 6] w46.heap.size hf88 g98.size (by kernel_rfl) (bund_cons h93 bund_nil) ?_
        refine ch rfl (ob_move (arg_free 0 rfl rfl)) ?_
        refine ch rfl (ob_lss (arg_op 0 0 rfl rfl rfl rfl) arg_c) ?_
        refine ch_nil ?_
        intro a101 w102 hf103 hg104 hk105 hn106
        have h107 : Holds _ (a101.eval (.tmp 47)) w102 := hn106.at 1 0 rfl rfl rfl
        have h108 : Holds _ (a101.eval (.tmp 6)) w102 := hk105.holds rfl (h93.up hg104)
        have h109 : Holds _ (a101.eval (.tmp 5)) w102 := hk105.holds rfl (h94.up hg104)
        have h110 : Holds _ (a101.eval (.tmp 3)) w46 := hk105.holds rfl h95
        have h111 : Holds _ (a101.eval (.tmp 4)) w46 := hk105.holds rfl h96
        have g112 : Grow w0 w102 := g97.trans hg104
        have g113 : Grow w46 w102 := g98.trans hg104
        have kk114 : Keep _ a45 a101 := kk99.trans hk105 rfl
        clear h93 h94 h95 h96 g97 g98 kk99 hf88 hk105 hn106 hg104
        refine then_ ?_
        refine wp_if h107 ?_ ?_
        · intro hc115
          try simp only [cond_norm] at hc115
          refine wp_region_lit ?_
          refine wp_all [([5], []), ([3], []), ([6], []), ([], [1, 2]), ([], [3]), ([], [0, 4]), ([], [5])] [3, 4, 6] w46.heap.size hf103 g113.size (by kernel_rfl) (bund_cons h109 (bund_cons (h110.up g113) (bund_cons h108 bund_nil))) ?_
          refine ch rfl (ob_move (arg_free 0 rfl rfl)) ?_
          refine ch rfl (ob_move (arg_free 1 rfl rfl)) ?_
          refine ch rfl (ob_move (arg_free 2 rfl rfl)) ?_
          refine ch rfl (ob_ix (ArgOK.sl (arg_op 1 1 rfl rfl rfl rfl)) (arg_op 2 0 rfl rfl rfl rfl) (rfl) ?_ Try.underlying24 szInt) ?_
          · (rw [digits_len]; omega)
          refine ch rfl (ob_load1 (arg_op 3 0 rfl rfl rfl rfl) Try.underlying3 rfl) ?_
          first
            | (refine ch rfl (ob_add' (arg_op 0 4 rfl rfl rfl rfl) (arg_op 4 0 rfl rfl rfl rfl) ?_) ?_; · omega)
            | refine ch rfl (ob_add (arg_op 0 4 rfl rfl rfl rfl) (arg_op 4 0 rfl rfl rfl rfl)) ?_
          refine ch rfl (ob_assign (arg_op 5 0 rfl rfl rfl rfl)) ?_
          refine ch_nil ?_
          intro a116 w117 hf118 hg119 hk120 hn121
          have h122 : Holds _ (a116.eval (.tmp 5)) w117 := hn121.at 6 0 rfl rfl rfl
          have h123 : Holds _ (a116.eval (.tmp 6)) w117 := hk120.holds rfl (h108.up hg119)
          have h124 : Holds _ (a116.eval (.tmp 3)) w46 := hk120.holds rfl h110
          have h125 : Holds _ (a116.eval (.tmp 4)) w46 := hk120.holds rfl h111
          have g126 : Grow w0 w117 := g112.trans hg119
          have g127 : Grow w46 w117 := g113.trans hg119
          have kk128 : Keep _ a45 a116 := kk114.trans hk120 rfl
          clear h108 h110 h111 g112 g113 kk114 hf103 hk120 hn121 hg119
          refine blockN ?_
          refine then_ ?_
          refine wp_region_lit ?_
          refine wp_all [([6], []), ([], [0]), ([], [1])] [3, 4, 5] w46.heap.size hf118 g127.size (by kernel_rfl) (bund_cons h123 bund_nil) ?_
          refine ch rfl (ob_move (arg_free 0 rfl rfl)) ?_
          first
            | (refine ch rfl (ob_add' (arg_op 0 0 rfl rfl rfl rfl) arg_c ?_) ?_; · omega)
            | refine ch rfl (ob_add (arg_op 0 0 rfl rfl rfl rfl) arg_c) ?_
          refine ch rfl (ob_assign (arg_op 1 0 rfl rfl rfl rfl)) ?_
          refine ch_nil ?_
          intro a129 w130 hf131 hg132 hk133 hn134
          have h135 : Holds _ (a129.eval (.tmp 6)) w130 := hn134.at 2 0 rfl rfl rfl
          have h136 : Holds _ (a129.eval (.tmp 5)) w130 := hk133.holds rfl (h122.up hg132)
          have h137 : Holds _ (a129.eval (.tmp 3)) w46 := hk133.holds rfl h124
          have h138 : Holds _ (a129.eval (.tmp 4)) w46 := hk133.holds rfl h125
          have g139 : Grow w0 w130 := g126.trans hg132
          have g140 : Grow w46 w130 := g127.trans hg132
          have kk141 : Keep _ a45 a129 := kk128.trans hk133 rfl
          clear h122 h124 h125 g126 g127 kk128 hf118 hk133 hn134 hg132
          refine then_ ?_
          exact ⟨(i + 1), (by omega), hf131, (by omega), g139, g140, kk141, (is_cast h135 (by first | rfl | (refine congrArg intV ?_; omega))), (is_cast h136 (congrArg intV (by first | (rw [Nat.min_eq_left (show i ≤ 16 by omega), Nat.min_eq_left (show i + 1 ≤ 16 by omega)]; rfl) | rw [Nat.min_eq_right (show 16 ≤ i by omega), Nat.min_eq_right (show 16 ≤ i + 1 by omega)])))⟩
        · intro hc115
          try simp only [cond_norm] at hc115
          refine wp_skip ?_
          refine blockN ?_
          refine then_ ?_
          refine wp_region_lit ?_
          refine wp_all [([6], []), ([], [0]), ([], [1])] [3, 4, 5] w46.heap.size hf103 g113.size (by kernel_rfl) (bund_cons h108 bund_nil) ?_
          refine ch rfl (ob_move (arg_free 0 rfl rfl)) ?_
          first
            | (refine ch rfl (ob_add' (arg_op 0 0 rfl rfl rfl rfl) arg_c ?_) ?_; · omega)
            | refine ch rfl (ob_add (arg_op 0 0 rfl rfl rfl rfl) arg_c) ?_
          refine ch rfl (ob_assign (arg_op 1 0 rfl rfl rfl rfl)) ?_
          refine ch_nil ?_
          intro a142 w143 hf144 hg145 hk146 hn147
          have h148 : Holds _ (a142.eval (.tmp 6)) w143 := hn147.at 2 0 rfl rfl rfl
          have h149 : Holds _ (a142.eval (.tmp 5)) w143 := hk146.holds rfl (h109.up hg145)
          have h150 : Holds _ (a142.eval (.tmp 3)) w46 := hk146.holds rfl h110
          have h151 : Holds _ (a142.eval (.tmp 4)) w46 := hk146.holds rfl h111
          have g152 : Grow w0 w143 := g112.trans hg145
          have g153 : Grow w46 w143 := g113.trans hg145
          have kk154 : Keep _ a45 a142 := kk114.trans hk146 rfl
          clear h109 h110 h111 g112 g113 kk114 hf103 hk146 hn147 hg145
          refine then_ ?_
          exact ⟨(i + 1), (by omega), hf144, (by omega), g152, g153, kk154, (is_cast h148 (by first | rfl | (refine congrArg intV ?_; omega))), (is_cast h149 (congrArg intV (by first | (rw [Nat.min_eq_left (show i ≤ 16 by omega), Nat.min_eq_left (show i + 1 ≤ 16 by omega)]; rfl) | rw [Nat.min_eq_right (show 16 ≤ i by omega), Nat.min_eq_right (show 16 ≤ i + 1 by omega)])))⟩
    · intro hc83
      try simp only [cond_norm] at hc83
      obtain rfl : i = 18 := by omega
      refine wp_exit ?_
      refine thenX ?_
      refine thenX ?_
      refine blockX ?_
      refine then_ ?_
      refine wp_seq ?_
      have h16 : 0 ≤ (digits n).getD 16 default ∧ (digits n).getD 16 default ≤ 15 := dg_bound n 16 (by decide)
      have h17 : 0 ≤ (digits n).getD 17 default ∧ (digits n).getD 17 default ≤ 15 := dg_bound n 17 (by decide)
      refine wp_calm [0, 1, 3, 7, 0, 16, 48, 127, 0, 256, 1023, 2047, 4095, 8191, 16383] [([3], []), ([], [0]), ([], [1]), ([], [2]), ([3], []), ([], [4]), ([], [5]), ([], [3, 6]), ([5], []), ([], [8]), ([], [7, 9]), ([], [10]), ([], [11]), ([], [11, 12]), ([], [13])] [] w46.heap.size hf71 g81.size (by kernel_rfl) (bund_cons (h78.up g81) (bund_cons h77 bund_nil)) ?_
      intro ws155 hs156
      refine ch rfl (ob_move (arg_free 0 rfl rfl)) ?_
      refine ch rfl (ob_ix (ArgOK.sl (arg_op 0 0 rfl rfl rfl rfl)) arg_c (show (16 : Int) = ((16 : Nat) : Int) from rfl) ?_ Try.underlying24 szInt) ?_
      · (rw [digits_len]; decide)
      refine ch rfl (ob_load1 (arg_op 1 0 rfl rfl rfl rfl) Try.underlying3 rfl) ?_
      first
        | (refine ch rfl (ob_mul' arg_c (arg_op 2 0 rfl rfl rfl rfl) ?_) ?_; · omega)
        | refine ch rfl (ob_mul arg_c (arg_op 2 0 rfl rfl rfl rfl)) ?_
      refine ch rfl (ob_move (arg_free 0 rfl rfl)) ?_
      refine ch rfl (ob_ix (ArgOK.sl (arg_op 4 0 rfl rfl rfl rfl)) arg_c (show (17 : Int) = ((17 : Nat) : Int) from rfl) ?_ Try.underlying24 szInt) ?_
      · (rw [digits_len]; decide)
      refine ch rfl (ob_load1 (arg_op 5 0 rfl rfl rfl rfl) Try.underlying3 rfl) ?_
      first
        | (refine ch rfl (ob_add' (arg_op 3 3 rfl rfl rfl rfl) (arg_op 6 0 rfl rfl rfl rfl) ?_) ?_; · omega)
        | refine ch rfl (ob_add (arg_op 3 3 rfl rfl rfl rfl) (arg_op 6 0 rfl rfl rfl rfl)) ?_
      refine ch rfl (ob_move (arg_free 1 rfl rfl)) ?_
      first
        | (refine ch rfl (ob_sub' arg_c (arg_op 8 0 rfl rfl rfl rfl) ?_) ?_; · omega)
        | refine ch rfl (ob_sub arg_c (arg_op 8 0 rfl rfl rfl rfl)) ?_
      refine ch rfl (ob_eql (arg_op 7 2 rfl rfl rfl rfl) (arg_op 9 0 rfl rfl rfl rfl)) ?_
      refine ch rfl (ob_move (arg_op 10 0 rfl rfl rfl rfl)) ?_
      refine chg (b := _) rfl rfl (arg_op 11 0 rfl rfl rfl rfl) (fun hb11 => ob_call0 (by kernel_rfl) (c_awake4) ) ?_
      refine ch rfl (ob_and (arg_op 11 1 rfl rfl rfl rfl) (arg_op 12 0 rfl rfl rfl rfl)) ?_
      refine ch rfl (ob_assign (arg_op 13 0 rfl rfl rfl rfl)) ?_
      refine ch_nil ?_
      intro a157 w158 hf159 hg160 hk161 hn162
      have h163 : Holds _ (a157.eval (.tmp 2)) w158 := hn162.at 14 0 rfl rfl rfl
      have g164 : Grow w0 w158 := g80.trans hg160
      have g165 : Grow w46 w158 := g81.trans hg160
      clear g80 g81 hf71 hk161 hn162 hg160
      refine then_ ?_
      refine wp_ret ?_
      exact ret_tmp rfl hf159 g164 (is_cast h163 (congrArg Value.bool (by have hf : 16 * (digits n).getD 16 default + (digits n).getD 17 default = 240 - dgs n (min 18 16) := digits_fit n; rw [decide_eq_true hf]; rfl)))

set_option maxRecDepth 100000 in
theorem c_OnetimeGuards {a b : UInt64} : Con2 4 (Is (nmV a)) (Is (nmV b)) (fun _ => Is (.bool true)) := by
  intro lo v0 v1 w0 hlo hv0 hv1
  refine enter Try.func4 rfl Try.ntmps4 (by simp) ?_
  intro a0 hf0 ha
  have h00 : Holds _ (a0.eval (.tmp 0)) w0 := arg_holds ha rfl hv0
  have h01 : Holds _ (a0.eval (.tmp 1)) w0 := arg_holds ha rfl hv1
  clear ha
  have g0 : Grow w0 w0 := Grow.refl _
  refine wp_seq ?_
  refine wp_region_lit ?_
  refine wp_seg (l1 := [_]) [([0], [])] [1] w0.heap.size hf0 g0.size (by kernel_rfl) (bund_cons h00 bund_nil) ?_
  refine ch rfl (ob_box_nm (arg_free 0 rfl rfl)) ?_
  refine ch_nil ?_
  intro a1 w2 hf3 hg4 hk5 hn6
  have h7 : Holds _ (a1.eval (.tmp 2)) w2 := hn6.at 0 0 rfl rfl rfl
  have h8 : Holds _ (a1.eval (.tmp 1)) w0 := hk5.holds rfl h01
  have g9 : Grow w0 w2 := g0.trans hg4
  obtain ⟨bk10, hl11, hv12, hb13⟩ := OwnB.blk (lo := w0.heap.size) h7
  clear h01 g0 hf0 hk5 hn6
  have g14 : Grow w2 w2 := Grow.refl _
  have hl15 : bk10 < w2.heap.size := hb13.lt
  have hz16 : w0.heap.size ≤ w2.heap.size := g9.size
  refine wp_all [([1], []), ([], [])] [2] w2.heap.size hf3 g14.size (by kernel_rfl) (bund_cons (is_any h8) bund_nil) ?_
  refine ch rfl (ob_box_nm (arg_free 0 rfl rfl)) ?_
  refine ch rfl (ob_assign arg_c) ?_
  refine ch_nil ?_
  intro a17 w18 hf19 hg20 hk21 hn22
  have h23 : Holds _ (a17.eval (.tmp 3)) w18 := hn22.at 0 1 rfl rfl rfl
  have hv24 : Holds (Is (PtrV bk10)) (a17.eval (.tmp 2)) w18 := is_any (hk21.holds rfl hv12)
  have hb25 : Blk bk10 _ w18 := hb13.up hg20
  have g26 : Grow w0 w18 := g9.trans hg20
  have g27 : Grow w2 w18 := g14.trans hg20
  obtain ⟨bk28, hl29, hv30, hb31⟩ := OwnB.blk (lo := w2.heap.size) h23
  clear hv12 hb13 g9 g14 hf3 hk21 hn22
  refine then_ ?_
  refine wp_seq ?_
  refine wp_calm [0, 1, 0, 7, 15, 31] [([2], []), ([], [0]), ([3], []), ([], [2]), ([], [1]), ([], [3])] [2, 3] w2.heap.size hf19 g27.size (by kernel_rfl) (bund_cons (hb25.ownp hv24) (bund_cons (hb31.ownp hv30) bund_nil)) ?_
  intro ws32 hs33
  refine ch rfl (ob_load_nm (ArgOK.ownp (arg_free 0 rfl rfl))) ?_
  refine ch rfl (ob_call1 (by kernel_rfl) (c_Digits) (arg_op 0 0 rfl rfl rfl rfl)) ?_
  refine ch rfl (ob_load_nm (ArgOK.ownp (arg_free 1 rfl rfl))) ?_
  refine ch rfl (ob_call1 (by kernel_rfl) (c_Digits) (arg_op 2 0 rfl rfl rfl rfl)) ?_
  refine ch rfl (ob_assign (arg_op 1 2 rfl rfl rfl rfl)) ?_
  refine ch rfl (ob_assign (arg_op 3 1 rfl rfl rfl rfl)) ?_
  refine ch_nil ?_
  intro a34 w35 hf36 hg37 hk38 hn39
  have h40 : Holds _ (a34.eval (.tmp 5)) w35 := hn39.at 4 1 rfl rfl rfl
  have h41 : Holds _ (a34.eval (.tmp 6)) w35 := hn39.at 5 0 rfl rfl rfl
  have hv42 : Holds (Is (PtrV bk10)) (a34.eval (.tmp 2)) w35 := is_any (hk38.holds rfl hv24)
  have hb43 : Blk bk10 _ w35 := hb25.up hg37
  have hv44 : Holds (Is (PtrV bk28)) (a34.eval (.tmp 3)) w35 := is_any (hk38.holds rfl hv30)
  have hb45 : Blk bk28 _ w35 := hb31.up hg37
  have g46 : Grow w0 w35 := g26.trans hg37
  have g47 : Grow w2 w35 := g27.trans hg37
  clear hv24 hb25 hv30 hb31 g26 g27 hf19 hk38 hn39 hg37
  refine then_ ?_
  refine wp_seq ?_
  refine wp_seq ?_
  refine wp_region_lit ?_
  refine wp_all [([5], []), ([], [0]), ([], [1]), ([], [2]), ([6], [3]), ([], [4, 3]), ([], [5, 3]), ([], [3, 6])] [2, 3, 5, 6] w2.heap.size hf36 g47.size (by kernel_rfl) (bund_cons h40 (bund_cons h41 bund_nil)) ?_
  refine ch rfl (ob_move (arg_free 0 rfl rfl)) ?_
  refine ch rfl (ob_len (ArgOK.sl (arg_op 0 0 rfl rfl rfl rfl)) Try.underlying24) ?_
  refine ch rfl (ob_neq (arg_op 1 0 rfl rfl rfl rfl) arg_c) ?_
  refine ch rfl (ob_move (arg_op 2 0 rfl rfl rfl rfl)) ?_
  refine chg (b := _) rfl rfl (arg_op 3 0 rfl rfl rfl rfl) (fun hb3 => ob_move (arg_free 1 rfl rfl)) ?_
  refine chg (b := _) rfl rfl (arg_op 3 1 rfl rfl rfl rfl) (fun hb3 => ob_len (ArgOK.sl (ArgOK.when (arg_op 4 0 rfl rfl rfl rfl) hb3)) Try.underlying24) ?_
  refine chg (b := _) rfl rfl (arg_op 3 2 rfl rfl rfl rfl) (fun hb3 => ob_neq (ArgOK.when (arg_op 5 0 rfl rfl rfl rfl) hb3) arg_c) ?_
  refine ch rfl (ob_or (arg_op 3 3 rfl rfl rfl rfl) (arg_op 6 0 rfl rfl rfl rfl)) ?_
  refine ch_nil ?_
  intro a48 w49 hf50 hg51 hk52 hn53
  have h54 : Holds _ (a48.eval (.tmp 21)) w49 := hn53.at 7 0 rfl rfl rfl
  have h55 : Holds _ (a48.eval (.tmp 5)) w49 := hk52.holds rfl (h40.up hg51)
  have h56 : Holds _ (a48.eval (.tmp 6)) w49 := hk52.holds rfl (h41.up hg51)
  have hv57 : Holds (Is (PtrV bk10)) (a48.eval (.tmp 2)) w49 := is_any (hk52.holds rfl hv42)
  have hb58 : Blk bk10 _ w49 := hb43.up hg51
  have hv59 : Holds (Is (PtrV bk28)) (a48.eval (.tmp 3)) w49 := is_any (hk52.holds rfl hv44)
  have hb60 : Blk bk28 _ w49 := hb45.up hg51
  have g61 : Grow w0 w49 := g46.trans hg51
  have g62 : Grow w2 w49 := g47.trans hg51
  clear h40 h41 hv42 hb43 hv44 hb45 g46 g47 hf36 hk52 hn53 hg51
  refine then_ ?_
  refine wp_if h54 ?_ ?_
  · intro hc63
    try simp only [cond_norm] at hc63
    simp [digits_len] at hc63
  · intro hc63
    try simp only [cond_norm] at hc63
    refine wp_skip ?_
    refine then_ ?_
    refine wp_seq ?_
    refine wp_region_lit ?_
    refine wp_all [([], []), ([], [])] [2, 3, 5, 6] w2.heap.size hf50 g62.size (by kernel_rfl) bund_nil ?_
    refine ch rfl (ob_assign arg_c) ?_
    refine ch rfl (ob_assign arg_c) ?_
    refine ch_nil ?_
    intro a64 w65 hf66 hg67 hk68 hn69
    have h70 : Holds _ (a64.eval (.tmp 7)) w65 := hn69.at 0 1 rfl rfl rfl
    have h71 : Holds _ (a64.eval (.tmp 8)) w65 := hn69.at 1 0 rfl rfl rfl
    have h72 : Holds _ (a64.eval (.tmp 5)) w65 := hk68.holds rfl (h55.up hg67)
    have h73 : Holds _ (a64.eval (.tmp 6)) w65 := hk68.holds rfl (h56.up hg67)
    have hv74 : Holds (Is (PtrV bk10)) (a64.eval (.tmp 2)) w65 := is_any (hk68.holds rfl hv57)
    have hb75 : Blk bk10 _ w65 := hb58.up hg67
    have hv76 : Holds (Is (PtrV bk28)) (a64.eval (.tmp 3)) w65 := is_any (hk68.holds rfl hv59)
    have hb77 : Blk bk28 _ w65 := hb60.up hg67
    have g78 : Grow w0 w65 := g61.trans hg67
    have g79 : Grow w2 w65 := g62.trans hg67
    clear h55 h56 hv57 hb58 hv59 hb60 g61 g62 hf50 hk68 hn69 hg67
    refine then_ ?_
    refine wp_seq ?_
    refine wp_seq ?_
    refine wp_region_lit ?_
    refine wp_all [([], [])] [2, 3, 5, 6, 7, 8] w2.heap.size hf66 g79.size (by kernel_rfl) bund_nil ?_
    refine ch rfl (ob_assign arg_c) ?_
    refine ch_nil ?_
    intro a80 w81 hf82 hg83 hk84 hn85
    have h86 : Holds _ (a80.eval (.tmp 9)) w81 := hn85.at 0 0 rfl rfl rfl
    have h87 : Holds _ (a80.eval (.tmp 7)) w81 := hk84.holds rfl (h70.up hg83)
    have h88 : Holds _ (a80.eval (.tmp 8)) w81 := hk84.holds rfl (h71.up hg83)
    have h89 : Holds _ (a80.eval (.tmp 5)) w81 := hk84.holds rfl (h72.up hg83)
    have h90 : Holds _ (a80.eval (.tmp 6)) w81 := hk84.holds rfl (h73.up hg83)
    have hv91 : Holds (Is (PtrV bk10)) (a80.eval (.tmp 2)) w81 := is_any (hk84.holds rfl hv74)
    have hb92 : Blk bk10 _ w81 := hb75.up hg83
    have hv93 : Holds (Is (PtrV bk28)) (a80.eval (.tmp 3)) w81 := is_any (hk84.holds rfl hv76)
    have hb94 : Blk bk28 _ w81 := hb77.up hg83
    have g95 : Grow w0 w81 := g78.trans hg83
    have g96 : Grow w2 w81 := g79.trans hg83
    clear h70 h71 h72 h73 hv74 hb75 hv76 hb77 g78 g79 hf66 hk84 hn85 hg83
    refine then_ ?_
    refine wp_block ?_
    have g97 : Grow w81 w81 := Grow.refl _
    have hl98 : bk10 < w81.heap.size := hb92.lt
    have hl99 : bk28 < w81.heap.size := hb94.lt
    have hz100 : w2.heap.size ≤ w81.heap.size := g96.size
    refine wp_loopL (α := Nat) (fun i a' w' => Fr 65 a' ∧ (i ≤ 18) ∧ Grow w0 w' ∧ Grow w2 w' ∧ Grow w81 w' ∧ Keep [2, 3, 5, 6] a80 a' ∧ Holds (Is (intV (i : Int))) (a'.eval (.tmp 9)) w' ∧ Holds (Is (.bool (lessK a b i))) (a'.eval (.tmp 7)) w' ∧ Holds (Is (.bool (lessK b a i))) (a'.eval (.tmp 8)) w' ∧ Blk bk10 (_) w' ∧ Blk bk28 (_) w') (fun i => 18 - i) (0) ⟨hf82, (by omega), g95, g96, g97, Keep.refl _ _, (is_cast h86 (by first | rfl | (refine congrArg intV ?_; omega))), (is_cast h87 (rfl)), (is_cast h88 (rfl)), hb92, hb94⟩ ?_
    intro i a101 w102 ⟨hf103, hi105, g106, g107, g108, kk104, h109, h110, h111, hb112, hb113⟩
    have h114 : Holds _ (a101.eval (.tmp 5)) w81 := kk104.holds rfl h89
    have h115 : Holds _ (a101.eval (.tmp 6)) w81 := kk104.holds rfl h90
    have hv116 : Holds (Is (PtrV bk10)) (a101.eval (.tmp 2)) w102 := is_any (kk104.holds rfl hv91)
    have hv117 : Holds (Is (PtrV bk28)) (a101.eval (.tmp 3)) w102 := is_any (kk104.holds rfl hv93)
    refine wp_seq ?_
    refine wp_seq ?_
    refine wp_region_lit ?_
    refine wp_all [([9], []), ([], [0])] [2, 3, 5, 6, 7, 8, 9] w81.heap.size hf103 g108.size (by kernel_rfl) (bund_cons h109 bund_nil) ?_
    refine ch rfl (ob_move (arg_free 0 rfl rfl)) ?_
    refine ch rfl (ob_lss (arg_op 0 0 rfl rfl rfl rfl) arg_c) ?_
    refine ch_nil ?_
    intro a118 w119 hf120 hg121 hk122 hn123
    have h124 : Holds _ (a118.eval (.tmp 23)) w119 := hn123.at 1 0 rfl rfl rfl
    have h125 : Holds _ (a118.eval (.tmp 9)) w119 := hk122.holds rfl (h109.up hg121)
    have h126 : Holds _ (a118.eval (.tmp 7)) w119 := hk122.holds rfl (h110.up hg121)
    have h127 : Holds _ (a118.eval (.tmp 8)) w119 := hk122.holds rfl (h111.up hg121)
    have h128 : Holds _ (a118.eval (.tmp 5)) w81 := hk122.holds rfl h114
    have h129 : Holds _ (a118.eval (.tmp 6)) w81 := hk122.holds rfl h115
    have hv130 : Holds (Is (PtrV bk10)) (a118.eval (.tmp 2)) w119 := is_any (hk122.holds rfl hv116)
    have hb131 : Blk bk10 _ w119 := hb112.up hg121
    have hv132 : Holds (Is (PtrV bk28)) (a118.eval (.tmp 3)) w119 := is_any (hk122.holds rfl hv117)
    have hb133 : Blk bk28 _ w119 := hb113.up hg121
    have g134 : Grow w0 w119 := g106.trans hg121
    have g135 : Grow w2 w119 := g107.trans hg121
    have g136 : Grow w81 w119 := g108.trans hg121
    have kk137 : Keep _ a80 a118 := kk104.trans hk122 rfl
    clear h109 h110 h111 h114 h115 hv116 hb112 hv117 hb113 g106 g107 g108 kk104 hf103 hk122 hn123 hg121
    refine then_ ?_
    refine wp_if h124 ?_ ?_
    · intro hc138
      try simp only [cond_norm] at hc138
      refine wp_skip ?_
      refine then_ ?_
      refine wp_seq ?_
      refine wp_block ?_
      refine wp_calm [0, 1, 3, 3, 15, 31, 3, 3, 195, 451, 1023, 2047, 0, 4099, 12291, 12291, 61443, 126979, 12291, 12291, 798723, 1847299, 4190211, 8384515, 16383, 33554431] [([7], []), ([], [0]), ([5], [1]), ([9], [1]), ([], [2, 3, 1]), ([], [4, 1]), ([6], [1]), ([9], [1]), ([], [6, 7, 1]), ([], [8, 1]), ([], [5, 9, 1]), ([], [1, 10]), ([8], []), ([], [12]), ([5], [13]), ([9], [13]), ([], [14, 15, 13]), ([], [16, 13]), ([6], [13]), ([9], [13]), ([], [18, 19, 13]), ([], [20, 13]), ([], [17, 21, 13]), ([], [13, 22]), ([], [11]), ([], [23])] [2, 3, 5, 6, 9] w81.heap.size hf120 g136.size (by kernel_rfl) (bund_cons h126 (bund_cons (h128.up g136) (bund_cons h125 (bund_cons (h129.up g136) (bund_cons h127 bund_nil))))) ?_
      intro ws139 hs140
      refine ch rfl (ob_move (arg_free 0 rfl rfl)) ?_
      refine ch rfl (ob_move (arg_op 0 0 rfl rfl rfl rfl)) ?_
      refine chg (b := _) rfl rfl (arg_op 1 0 rfl rfl rfl rfl) (fun hb1 => ob_move (arg_free 1 rfl rfl)) ?_
      refine chg (b := _) rfl rfl (arg_op 1 1 rfl rfl rfl rfl) (fun hb1 => ob_move (arg_free 2 rfl rfl)) ?_
      refine chg (b := _) rfl rfl (arg_op 1 2 rfl rfl rfl rfl) (fun hb1 => ob_ix (ArgOK.sl (ArgOK.when (arg_op 2 1 rfl rfl rfl rfl) hb1)) (ArgOK.when (arg_op 3 0 rfl rfl rfl rfl) hb1) (rfl) ?_ Try.underlying24 szInt) ?_
      · (rw [digits_len]; omega)
      refine chg (b := _) rfl rfl (arg_op 1 3 rfl rfl rfl rfl) (fun hb1 => ob_load1 (ArgOK.when (arg_op 4 0 rfl rfl rfl rfl) hb1) Try.underlying3 rfl) ?_
      refine chg (b := _) rfl rfl (arg_op 1 4 rfl rfl rfl rfl) (fun hb1 => ob_move (arg_free 3 rfl rfl)) ?_
      refine chg (b := _) rfl rfl (arg_op 1 5 rfl rfl rfl rfl) (fun hb1 => ob_move (arg_free 2 rfl rfl)) ?_
      refine chg (b := _) rfl rfl (arg_op 1 6 rfl rfl rfl rfl) (fun hb1 => ob_ix (ArgOK.sl (ArgOK.when (arg_op 6 1 rfl rfl rfl rfl) hb1)) (ArgOK.when (arg_op 7 0 rfl rfl rfl rfl) hb1) (rfl) ?_ Try.underlying24 szInt) ?_
      · (rw [digits_len]; omega)
      refine chg (b := _) rfl rfl (arg_op 1 7 rfl rfl rfl rfl) (fun hb1 => ob_load1 (ArgOK.when (arg_op 8 0 rfl rfl rfl rfl) hb1) Try.underlying3 rfl) ?_
      refine chg (b := _) rfl rfl (arg_op 1 8 rfl rfl rfl rfl) (fun hb1 => ob_lss (ArgOK.when (arg_op 5 4 rfl rfl rfl rfl) hb1) (ArgOK.when (arg_op 9 0 rfl rfl rfl rfl) hb1)) ?_
      refine ch rfl (ob_or (arg_op 1 9 rfl rfl rfl rfl) (arg_op 10 0 rfl rfl rfl rfl)) ?_
      refine ch rfl (ob_move (arg_free 4 rfl rfl)) ?_
      refine ch rfl (ob_move (arg_op 12 0 rfl rfl rfl rfl)) ?_
      refine chg (b := _) rfl rfl (arg_op 13 0 rfl rfl rfl rfl) (fun hb13 => ob_move (arg_free 1 rfl rfl)) ?_
      refine chg (b := _) rfl rfl (arg_op 13 1 rfl rfl rfl rfl) (fun hb13 => ob_move (arg_free 2 rfl rfl)) ?_
      refine chg (b := _) rfl rfl (arg_op 13 2 rfl rfl rfl rfl) (fun hb13 => ob_ix (ArgOK.sl (ArgOK.when (arg_op 14 1 rfl rfl rfl rfl) hb13)) (ArgOK.when (arg_op 15 0 rfl rfl rfl rfl) hb13) (rfl) ?_ Try.underlying24 szInt) ?_
      · (rw [digits_len]; omega)
      refine chg (b := _) rfl rfl (arg_op 13 3 rfl rfl rfl rfl) (fun hb13 => ob_load1 (ArgOK.when (arg_op 16 0 rfl rfl rfl rfl) hb13) Try.underlying3 rfl) ?_
      refine chg (b := _) rfl rfl (arg_op 13 4 rfl rfl rfl rfl) (fun hb13 => ob_move (arg_free 3 rfl rfl)) ?_
      refine chg (b := _) rfl rfl (arg_op 13 5 rfl rfl rfl rfl) (fun hb13 => ob_move (arg_free 2 rfl rfl)) ?_
      refine chg (b := _) rfl rfl (arg_op 13 6 rfl rfl rfl rfl) (fun hb13 => ob_ix (ArgOK.sl (ArgOK.when (arg_op 18 1 rfl rfl rfl rfl) hb13)) (ArgOK.when (arg_op 19 0 rfl rfl rfl rfl) hb13) (rfl) ?_ Try.underlying24 szInt) ?_
      · (rw [digits_len]; omega)
      refine chg (b := _) rfl rfl (arg_op 13 7 rfl rfl rfl rfl) (fun hb13 => ob_load1 (ArgOK.when (arg_op 20 0 rfl rfl rfl rfl) hb13) Try.underlying3 rfl) ?_
      refine chg (b := _) rfl rfl (arg_op 13 8 rfl rfl rfl rfl) (fun hb13 => ob_gtr (ArgOK.when (arg_op 17 4 rfl rfl rfl rfl) hb13) (ArgOK.when (arg_op 21 0 rfl rfl rfl rfl) hb13)) ?_
      refine ch rfl (ob_or (arg_op 13 9 rfl rfl rfl rfl) (arg_op 22 0 rfl rfl rfl rfl)) ?_
      refine ch rfl (ob_assign (arg_op 11 12 rfl rfl rfl rfl)) ?_
      refine ch rfl (ob_assign (arg_op 23 1 rfl rfl rfl rfl)) ?_
      refine ch_nil ?_
      intro a141 w142 hf143 hg144 hk145 hn146
      have h147 : Holds _ (a141.eval (.tmp 7)) w142 := hn146.at 24 1 rfl rfl rfl
      have h148 : Holds _ (a141.eval (.tmp 8)) w142 := hn146.at 25 0 rfl rfl rfl
      have h149 : Holds _ (a141.eval (.tmp 9)) w142 := hk145.holds rfl (h125.up hg144)
      have h150 : Holds _ (a141.eval (.tmp 5)) w81 := hk145.holds rfl h128
      have h151 : Holds _ (a141.eval (.tmp 6)) w81 := hk145.holds rfl h129
      have hv152 : Holds (Is (PtrV bk10)) (a141.eval (.tmp 2)) w142 := is_any (hk145.holds rfl hv130)
      have hb153 : Blk bk10 _ w142 := hb131.up hg144
      have hv154 : Holds (Is (PtrV bk28)) (a141.eval (.tmp 3)) w142 := is_any (hk145.holds rfl hv132)
      have hb155 : Blk bk28 _ w142 := hb133.up hg144
      have g156 : Grow w0 w142 := g134.trans hg144
      have g157 : Grow w2 w142 := g135.trans hg144
      have g158 : Grow w81 w142 := g136.trans hg144
      have kk159 : Keep _ a80 a141 := kk137.trans hk145 rfl
      clear h125 h128 h129 hv130 hb131 hv132 hb133 g134 g135 g136 kk137 hf120 hk145 hn146 hg144
      refine blockN ?_
      refine then_ ?_
      refine wp_region_lit ?_
      refine wp_all [([9], []), ([], [0]), ([], [1])] [2, 3, 5, 6, 7, 8] w81.heap.size hf143 g158.size (by kernel_rfl) (bund_cons h149 bund_nil) ?_
      refine ch rfl (ob_move (arg_free 0 rfl rfl)) ?_
      first
        | (refine ch rfl (ob_add' (arg_op 0 0 rfl rfl rfl rfl) arg_c ?_) ?_; · omega)
        | refine ch rfl (ob_add (arg_op 0 0 rfl rfl rfl rfl) arg_c) ?_
      refine ch rfl (ob_assign (arg_op 1 0 rfl rfl rfl rfl)) ?_
      refine ch_nil ?_
      intro a160 w161 hf162 hg163 hk164 hn165
      have h166 : Holds _ (a160.eval (.tmp 9)) w161 := hn165.at 2 0 rfl rfl rfl
      have h167 : Holds _ (a160.eval (.tmp 7)) w161 := hk164.holds rfl (h147.up hg163)
      have h168 : Holds _ (a160.eval (.tmp 8)) w161 := hk164.holds rfl (h148.up hg163)
      have h169 : Holds _ (a160.eval (.tmp 5)) w81 := hk164.holds rfl h150
      have h170 : Holds _ (a160.eval (.tmp 6)) w81 := hk164.holds rfl h151
      have hv171 : Holds (Is (PtrV bk10)) (a160.eval (.tmp 2)) w161 := is_any (hk164.holds rfl hv152)
      have hb172 : Blk bk10 _ w161 := hb153.up hg163
      have hv173 : Holds (Is (PtrV bk28)) (a160.eval (.tmp 3)) w161 := is_any (hk164.holds rfl hv154)
      have hb174 : Blk bk28 _ w161 := hb155.up hg163
      have g175 : Grow w0 w161 := g156.trans hg163
      have g176 : Grow w2 w161 := g157.trans hg163
      have g177 : Grow w81 w161 := g158.trans hg163
      have kk178 : Keep _ a80 a160 := kk159.trans hk164 rfl
      clear h147 h148 h150 h151 hv152 hb153 hv154 hb155 g156 g157 g158 kk159 hf143 hk164 hn165 hg163
      refine then_ ?_
      exact ⟨(i + 1), (by omega), hf162, (by omega), g175, g176, g177, kk178, (is_cast h166 (by first | rfl | (refine congrArg intV ?_; omega))), (is_cast h167 (rfl)), (is_cast h168 (rfl)), hb172, hb174⟩
    · intro hc138
      try simp only [cond_norm] at hc138
      obtain rfl : i = 18 := by omega
      refine wp_exit ?_
      refine thenX ?_
      refine thenX ?_
      refine blockX ?_
      refine then_ ?_
      refine wp_seq ?_
      refine wp_region_lit ?_
      refine wp_all [([7], []), ([2], []), ([3], []), ([], [1, 2]), ([], [0, 3]), ([], [4]), ([8], [5]), ([2], [5]), ([3], [5]), ([], [7, 8, 5]), ([], [6, 9, 5]), ([], [5, 10]), ([], [11]), ([], [12]), ([], [12, 13]), ([], [14])] [] w81.heap.size hf120 g136.size (by kernel_rfl) (bund_cons h126 (bund_cons (hb131.ownp hv130) (bund_cons (hb133.ownp hv132) (bund_cons h127 bund_nil)))) ?_
      refine ch rfl (ob_move (arg_free 0 rfl rfl)) ?_
      refine ch rfl (ob_load_nm (ArgOK.ownp (arg_free 1 rfl rfl))) ?_
      refine ch rfl (ob_load_nm (ArgOK.ownp (arg_free 2 rfl rfl))) ?_
      refine ch rfl (ob_neqnm (arg_op 1 1 rfl rfl rfl rfl) (arg_op 2 0 rfl rfl rfl rfl)) ?_
      refine ch rfl (ob_eqbool (arg_op 0 3 rfl rfl rfl rfl) (arg_op 3 0 rfl rfl rfl rfl) Try.underlying4) ?_
      refine ch rfl (ob_move (arg_op 4 0 rfl rfl rfl rfl)) ?_
      refine chg (b := _) rfl rfl (arg_op 5 0 rfl rfl rfl rfl) (fun hb5 => ob_move (arg_free 3 rfl rfl)) ?_
      refine chg (b := _) rfl rfl (arg_op 5 1 rfl rfl rfl rfl) (fun hb5 => ob_load_nm (ArgOK.ownp (arg_free 1 rfl rfl))) ?_
      refine chg (b := _) rfl rfl (arg_op 5 2 rfl rfl rfl rfl) (fun hb5 => ob_load_nm (ArgOK.ownp (arg_free 2 rfl rfl))) ?_
      refine chg (b := _) rfl rfl (arg_op 5 3 rfl rfl rfl rfl) (fun hb5 => ob_neqnm (ArgOK.when (arg_op 7 1 rfl rfl rfl rfl) hb5) (ArgOK.when (arg_op 8 0 rfl rfl rfl rfl) hb5)) ?_
      refine chg (b := _) rfl rfl (arg_op 5 4 rfl rfl rfl rfl) (fun hb5 => ob_eqbool (ArgOK.when (arg_op 6 3 rfl rfl rfl rfl) hb5) (ArgOK.when (arg_op 9 0 rfl rfl rfl rfl) hb5) Try.underlying4) ?_
      refine ch rfl (ob_and (arg_op 5 5 rfl rfl rfl rfl) (arg_op 10 0 rfl rfl rfl rfl)) ?_
      refine ch rfl (ob_move (arg_op 11 0 rfl rfl rfl rfl)) ?_
      refine chg (b := _) rfl rfl (arg_op 12 0 rfl rfl rfl rfl) (fun hb12 => ob_call0 (by kernel_rfl) (c_awake4) ) ?_
      refine ch rfl (ob_and (arg_op 12 1 rfl rfl rfl rfl) (arg_op 13 0 rfl rfl rfl rfl)) ?_
      refine ch rfl (ob_assign (arg_op 14 0 rfl rfl rfl rfl)) ?_
      refine ch_nil ?_
      intro a179 w180 hf181 hg182 hk183 hn184
      have h185 : Holds _ (a179.eval (.tmp 4)) w180 := hn184.at 15 0 rfl rfl rfl
      have g186 : Grow w0 w180 := g134.trans hg182
      have g187 : Grow w2 w180 := g135.trans hg182
      have g188 : Grow w81 w180 := g136.trans hg182
      clear g134 g135 g136 hf120 hk183 hn184 hg182
      refine then_ ?_
      refine wp_ret ?_
      exact ret_tmp rfl hf181 g186 (is_cast h185 (congrArg Value.bool (by rw [less_iff, less_iff]; simp [eq_comm])))


end Ex
end Go.Proofs.Ytnmfiiejhoafnaa
