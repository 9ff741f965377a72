/- The digits of a name: of the program, of the reference. -/
import Derived.Test.YtnmfiiejhoafnaaHsh
namespace Go.Proofs.Ytnmfiiejhoafnaa
namespace Ex
open Go Calm Go.RowKit

/-- the two digits of a byte -/
def dHi (n : UInt64) (k : Nat) : Int := ((nb n k / 16).toNat : Int)
def dLo (n : UInt64) (k : Nat) : Int := ((nb n k % 16).toNat : Int)
/-- the digits of the first k bytes, and their sum -/
def digs (n : UInt64) : Nat → List Int
  | 0 => []
  | k + 1 => digs n k ++ [dHi n k, dLo n k]
def dsum (n : UInt64) : Nat → Int
  | 0 => 0
  | k + 1 => dsum n k + (dHi n k + dLo n k)
def digits (n : UInt64) : List Int := digs n 8 ++ [(240 - dsum n 8) / 16, (240 - dsum n 8) % 16]
theorem dHi_bound (n : UInt64) (k : Nat) : 0 ≤ dHi n k ∧ dHi n k ≤ 15 := by
  unfold dHi
  have := (nb n k).toNat_lt
  rw [UInt8.toNat_div]
  show (0 : Int) ≤ (((nb n k).toNat / 16 : Nat) : Int) ∧ (((nb n k).toNat / 16 : Nat) : Int) ≤ 15
  omega
theorem dLo_bound (n : UInt64) (k : Nat) : 0 ≤ dLo n k ∧ dLo n k ≤ 15 := by
  unfold dLo
  rw [UInt8.toNat_mod]
  show (0 : Int) ≤ (((nb n k).toNat % 16 : Nat) : Int) ∧ (((nb n k).toNat % 16 : Nat) : Int) ≤ 15
  omega
theorem digs_len (n : UInt64) : ∀ k, (digs n k).length = 2 * k
  | 0 => rfl
  | k + 1 => by simp only [digs, List.length_append, digs_len n k, List.length_cons, List.length_nil]; omega
theorem dsum_bound (n : UInt64) : ∀ k : Nat, 0 ≤ dsum n k ∧ dsum n k ≤ 30 * (k : Int)
  | 0 => by simp [dsum]
  | k + 1 => by
    have h1 := dsum_bound n k
    have h2 := dHi_bound n k
    have h3 := dLo_bound n k
    simp only [dsum]
    omega
theorem digits_len (n : UInt64) : (digits n).length = 18 := by simp [digits, digs_len]
/-- digit i -/
def dg (n : UInt64) (i : Nat) : Int := (digits n).getD i 0
theorem digs_getD (n : UInt64) : ∀ (k i : Nat), i < 2 * k → (digs n k).getD i 0 = if i % 2 = 0 then dHi n (i / 2) else dLo n (i / 2)
  | k + 1, i, h => by
    simp only [digs, List.getD_eq_getElem?_getD]
    by_cases h1 : i < 2 * k
    · rw [List.getElem?_append_left (by rw [digs_len]; exact h1), ← List.getD_eq_getElem?_getD]
      exact digs_getD n k i h1
    · rw [List.getElem?_append_right (by rw [digs_len]; omega), digs_len]
      rcases (by omega : i = 2 * k ∨ i = 2 * k + 1) with rfl | rfl
      · rw [show 2 * k - 2 * k = 0 by omega, if_pos (by omega), show 2 * k / 2 = k by omega]; rfl
      · rw [show 2 * k + 1 - 2 * k = 1 by omega, if_neg (by omega), show (2 * k + 1) / 2 = k by omega]; rfl
theorem dg_low (n : UInt64) (i : Nat) (h : i < 16) : dg n i = if i % 2 = 0 then dHi n (i / 2) else dLo n (i / 2) := by
  unfold dg digits
  rw [List.getD_eq_getElem?_getD, List.getElem?_append_left (by rw [digs_len]; omega), ← List.getD_eq_getElem?_getD]
  exact digs_getD n 8 i (by omega)
theorem dg_16 (n : UInt64) : dg n 16 = (240 - dsum n 8) / 16 := by
  unfold dg digits
  rw [List.getD_eq_getElem?_getD, List.getElem?_append_right (by rw [digs_len]; omega), digs_len]; rfl
theorem dg_17 (n : UInt64) : dg n 17 = (240 - dsum n 8) % 16 := by
  unfold dg digits
  rw [List.getD_eq_getElem?_getD, List.getElem?_append_right (by rw [digs_len]; omega), digs_len]; rfl
theorem dg_bound (n : UInt64) (i : Nat) (h : i < 18) : 0 ≤ dg n i ∧ dg n i ≤ 15 := by
  by_cases h1 : i < 16
  · rw [dg_low n i h1]
    split
    · exact dHi_bound n _
    · exact dLo_bound n _
  · have h2 := dsum_bound n 8
    rcases (by omega : i = 16 ∨ i = 17) with rfl | rfl
    · rw [dg_16]; omega
    · rw [dg_17]; omega
/-- the sum of the first i digits -/
def dgs (n : UInt64) : Nat → Int
  | 0 => 0
  | i + 1 => dgs n i + dg n i
theorem dgs_bound (n : UInt64) : ∀ i : Nat, i ≤ 16 → 0 ≤ dgs n i ∧ dgs n i ≤ 15 * (i : Int)
  | 0, _ => by simp [dgs]
  | i + 1, h => by
    have h1 := dgs_bound n i (by omega)
    have h2 := dg_bound n i (by omega)
    simp only [dgs]
    omega
theorem dgs_16 (n : UInt64) : dgs n 16 = dsum n 8 := by
  simp only [dgs, dsum, dg_low n _ (show (0 : Nat) < 16 by decide), dg_low n _ (show (1 : Nat) < 16 by decide), dg_low n _ (show (2 : Nat) < 16 by decide), dg_low n _ (show (3 : Nat) < 16 by decide), dg_low n _ (show (4 : Nat) < 16 by decide), dg_low n _ (show (5 : Nat) < 16 by decide),
    dg_low n _ (show (6 : Nat) < 16 by decide), dg_low n _ (show (7 : Nat) < 16 by decide), dg_low n _ (show (8 : Nat) < 16 by decide), dg_low n _ (show (9 : Nat) < 16 by decide), dg_low n _ (show (10 : Nat) < 16 by decide), dg_low n _ (show (11 : Nat) < 16 by decide),
    dg_low n _ (show (12 : Nat) < 16 by decide), dg_low n _ (show (13 : Nat) < 16 by decide), dg_low n _ (show (14 : Nat) < 16 by decide), dg_low n _ (show (15 : Nat) < 16 by decide)]
  simp
  omega
theorem digits_fit (n : UInt64) : 16 * dg n 16 + dg n 17 = 240 - dgs n 16 := by
  rw [dgs_16, dg_16, dg_17]
  omega

set_option maxRecDepth 100000 in
theorem c_Digits {n : UInt64} : Con1 27 (Is (nmV n)) (fun lo => OwnS lo elInt (digits n)) := by
  intro lo v0 w0 hlo hv0
  refine enter Try.func27 rfl Try.ntmps27 (by simp) ?_
  intro a0 hf0 ha
  have h00 : Holds _ (a0.eval (.tmp 0)) w0 := arg_holds ha rfl hv0
  clear ha
  have g0 : Grow w0 w0 := Grow.refl _
  refine wp_seq ?_
  refine wp_region_lit ?_
  refine wp_all [([0], []), ([], [])] [] w0.heap.size hf0 g0.size (by kernel_rfl) (bund_cons h00 bund_nil) ?_
  refine ch rfl (ob_box_nm (arg_free 0 rfl rfl)) ?_
  refine ch rfl (ob_assign (arg_cg (G := Any) (fun w => trivial))) ?_
  refine ch_nil ?_
  intro a1 w2 hf3 hg4 hk5 hn6
  have h7 : Holds _ (a1.eval (.tmp 1)) w2 := hn6.at 0 1 rfl rfl rfl
  have g8 : Grow w0 w2 := g0.trans hg4
  obtain ⟨bk9, hl10, hv11, hb12⟩ := OwnB.blk (lo := w0.heap.size) h7
  clear g0 hf0 hk5 hn6
  refine then_ ?_
  refine wp_seq ?_
  have g13 : Grow w2 w2 := Grow.refl _
  have hl14 : bk9 < w2.heap.size := hb12.lt
  have hz15 : w0.heap.size ≤ w2.heap.size := g8.size
  refine wp_region_lit ?_
  refine wp_all [([], []), ([], [0])] [1] w2.heap.size hf3 g13.size (by kernel_rfl) bund_nil ?_
  refine ch rfl (ob_make0 elIntP (c := 18) Try.underlying24 arg_c arg_c ?_) ?_
  · decide
  refine ch rfl (ob_assign (arg_op 0 0 rfl rfl rfl rfl)) ?_
  refine ch_nil ?_
  intro a16 w17 hf18 hg19 hk20 hn21
  have h22 : Holds _ (a16.eval (.tmp 3)) w17 := hn21.at 1 0 rfl rfl rfl
  have hv23 : Holds (Is (PtrV bk9)) (a16.eval (.tmp 1)) w17 := is_any (hk20.holds rfl hv11)
  have hb24 : Blk bk9 _ w17 := hb12.up hg19
  have g25 : Grow w0 w17 := g8.trans hg19
  have g26 : Grow w2 w17 := g13.trans hg19
  clear hv11 hb12 g8 g13 hf3 hk20 hn21
  refine then_ ?_
  refine wp_seq ?_
  refine wp_region_lit ?_
  refine wp_all [([], [])] [1, 3] w2.heap.size hf18 g26.size (by kernel_rfl) bund_nil ?_
  refine ch rfl (ob_assign arg_c) ?_
  refine ch_nil ?_
  intro a27 w28 hf29 hg30 hk31 hn32
  have h33 : Holds _ (a27.eval (.tmp 4)) w28 := hn32.at 0 0 rfl rfl rfl
  have h34 : Holds _ (a27.eval (.tmp 3)) w28 := hk31.holds rfl (h22.up hg30)
  have hv35 : Holds (Is (PtrV bk9)) (a27.eval (.tmp 1)) w28 := is_any (hk31.holds rfl hv23)
  have hb36 : Blk bk9 _ w28 := hb24.up hg30
  have g37 : Grow w0 w28 := g25.trans hg30
  have g38 : Grow w2 w28 := g26.trans hg30
  clear h22 hv23 hb24 g25 g26 hf18 hk31 hn32 hg30
  refine then_ ?_
  refine wp_seq ?_
  refine wp_seq ?_
  refine wp_region_lit ?_
  refine wp_all [([1], []), ([], [])] [3, 4] w2.heap.size hf29 g38.size (by kernel_rfl) (bund_cons (hb36.ownp hv35) bund_nil) ?_
  refine ch rfl (ob_load_nm (ArgOK.ownp (arg_free 0 rfl rfl))) ?_
  refine ch rfl (ob_move arg_c) ?_
  refine ch_nil ?_
  intro a39 w40 hf41 hg42 hk43 hn44
  have h45 : Holds _ (a39.eval (.tmp 10)) w40 := hn44.at 0 1 rfl rfl rfl
  have h46 : Holds _ (a39.eval (.tmp 11)) w40 := hn44.at 1 0 rfl rfl rfl
  have h47 : Holds _ (a39.eval (.tmp 4)) w40 := hk43.holds rfl (h33.up hg42)
  have h48 : Holds _ (a39.eval (.tmp 3)) w40 := hk43.holds rfl (h34.up hg42)
  have g49 : Grow w0 w40 := g37.trans hg42
  have g50 : Grow w2 w40 := g38.trans hg42
  clear h33 h34 g37 g38 hf29 hk43 hn44 hg42
  refine then_ ?_
  refine wp_block ?_
  refine wp_loopL (α := Nat) (fun k a' w' => Fr 38 a' ∧ (k ≤ 8) ∧ Grow w0 w' ∧ Grow w2 w' ∧ Keep [10] a39 a' ∧ Holds (OwnS w2.heap.size elInt (digs n k)) (a'.eval (.tmp 3)) w' ∧ Holds (Is (intV (240 - dsum n k))) (a'.eval (.tmp 4)) w' ∧ Holds (Is (intV (k : Int))) (a'.eval (.tmp 11)) w') (fun k => 8 - k) (0) ⟨hf41, (by omega), g49, g50, Keep.refl _ _, h48, (is_cast h47 (by first | rfl | (refine congrArg intV ?_; omega))), (is_cast h46 (by first | rfl | (refine congrArg intV ?_; omega)))⟩ ?_
  intro k a51 w52 ⟨hf53, hi55, g56, g57, kk54, h58, h59, h60⟩
  have h61 : Holds _ (a51.eval (.tmp 10)) w52 := is_any (kk54.holds rfl h45)
  have hd1 := dsum_bound n k
  have hd2 := dHi_bound n k
  have hd3 := dLo_bound n k
  refine wp_seq ?_
  refine wp_region_lit ?_
  refine wp_all [([11], [])] [3, 4, 10, 11] w2.heap.size hf53 g57.size (by kernel_rfl) (bund_cons h60 bund_nil) ?_
  refine ch rfl (ob_lss (arg_free 0 rfl rfl) arg_c) ?_
  refine ch_nil ?_
  intro a62 w63 hf64 hg65 hk66 hn67
  have h68 : Holds _ (a62.eval (.tmp 12)) w63 := hn67.at 0 0 rfl rfl rfl
  have h69 : Holds _ (a62.eval (.tmp 3)) w63 := hk66.holds rfl (h58.up hg65)
  have h70 : Holds _ (a62.eval (.tmp 4)) w63 := hk66.holds rfl (h59.up hg65)
  have h71 : Holds _ (a62.eval (.tmp 11)) w63 := hk66.holds rfl (h60.up hg65)
  have h72 : Holds _ (a62.eval (.tmp 10)) w63 := hk66.holds rfl (h61.up hg65)
  have g73 : Grow w0 w63 := g56.trans hg65
  have g74 : Grow w2 w63 := g57.trans hg65
  have kk75 : Keep _ a39 a62 := kk54.trans hk66 rfl
  clear h58 h59 h60 h61 g56 g57 kk54 hf53 hk66 hn67 hg65
  refine then_ ?_
  refine wp_seq ?_
  refine wp_if h68 ?_ ?_
  · intro hc76
    try simp only [cond_norm] at hc76
    refine wp_skip ?_
    refine then_ ?_
    refine wp_seq ?_
    refine wp_block ?_
    refine wp_seq ?_
    refine wp_region_lit ?_
    refine wp_all [([10, 11], []), ([], [0])] [3, 4, 10, 11] w2.heap.size hf64 g74.size (by kernel_rfl) (bund_cons h72 (bund_cons h71 bund_nil)) ?_
    refine ch rfl (ob_index_nm (arg_free 0 rfl rfl) (arg_free 1 rfl rfl) (rfl) ?_) ?_
    · omega
    refine ch rfl (ob_assign (arg_op 0 0 rfl rfl rfl rfl)) ?_
    refine ch_nil ?_
    intro a77 w78 hf79 hg80 hk81 hn82
    have h83 : Holds _ (a77.eval (.tmp 6)) w78 := hn82.at 1 0 rfl rfl rfl
    have h84 : Holds _ (a77.eval (.tmp 3)) w78 := hk81.holds rfl (h69.up hg80)
    have h85 : Holds _ (a77.eval (.tmp 4)) w78 := hk81.holds rfl (h70.up hg80)
    have h86 : Holds _ (a77.eval (.tmp 11)) w78 := hk81.holds rfl (h71.up hg80)
    have h87 : Holds _ (a77.eval (.tmp 10)) w78 := hk81.holds rfl (h72.up hg80)
    have g88 : Grow w0 w78 := g73.trans hg80
    have g89 : Grow w2 w78 := g74.trans hg80
    have kk90 : Keep _ a39 a77 := kk75.trans hk81 rfl
    clear h69 h70 h71 h72 g73 g74 kk75 hf64 hk81 hn82 hg80
    refine then_ ?_
    refine wp_seq ?_
    refine wp_region_lit ?_
    refine wp_all [([6], []), ([], [0]), ([], [1]), ([6], []), ([], [3]), ([], [4]), ([], [2]), ([], [5])] [3, 4, 10, 11] w2.heap.size hf79 g89.size (by kernel_rfl) (bund_cons h83 bund_nil) ?_
    refine ch rfl (ob_move (arg_free 0 rfl rfl)) ?_
    refine ch rfl (ob_shrb (arg_op 0 0 rfl rfl rfl rfl) arg_c) ?_
    refine ch rfl (ob_byteint (arg_op 1 0 rfl rfl rfl rfl) Try.underlying5 Try.underlying3) ?_
    refine ch rfl (ob_move (arg_free 0 rfl rfl)) ?_
    refine ch rfl (ob_andb (arg_op 3 0 rfl rfl rfl rfl) (arg_cb 15 rfl)) ?_
    refine ch rfl (ob_byteint (arg_op 4 0 rfl rfl rfl rfl) Try.underlying5 Try.underlying3) ?_
    refine ch rfl (ob_assign (arg_op 2 3 rfl rfl rfl rfl)) ?_
    refine ch rfl (ob_assign (arg_op 5 1 rfl rfl rfl rfl)) ?_
    refine ch_nil ?_
    intro a91 w92 hf93 hg94 hk95 hn96
    have h97 : Holds _ (a91.eval (.tmp 7)) w92 := hn96.at 6 1 rfl rfl rfl
    have h98 : Holds _ (a91.eval (.tmp 8)) w92 := hn96.at 7 0 rfl rfl rfl
    have h99 : Holds _ (a91.eval (.tmp 3)) w92 := hk95.holds rfl (h84.up hg94)
    have h100 : Holds _ (a91.eval (.tmp 4)) w92 := hk95.holds rfl (h85.up hg94)
    have h101 : Holds _ (a91.eval (.tmp 11)) w92 := hk95.holds rfl (h86.up hg94)
    have h102 : Holds _ (a91.eval (.tmp 10)) w92 := hk95.holds rfl (h87.up hg94)
    have g103 : Grow w0 w92 := g88.trans hg94
    have g104 : Grow w2 w92 := g89.trans hg94
    have kk105 : Keep _ a39 a91 := kk90.trans hk95 rfl
    clear h84 h85 h86 h87 g88 g89 kk90 hf79 hk95 hn96 hg94
    refine then_ ?_
    refine wp_seq ?_
    have hd4 : ((nb n k / 16).toNat : Int) = dHi n k := rfl
    have hd5 : ((nb n k % 16).toNat : Int) = dLo n k := rfl
    refine wp_region_lit ?_
    refine wp_seg (l1 := [_, _, _, _]) [([3], []), ([7], []), ([8], []), ([], [1, 2])] [3, 4, 7, 8, 10, 11] w2.heap.size hf93 g104.size (by kernel_rfl) (bund_cons h99 (bund_cons h97 (bund_cons h98 bund_nil))) ?_
    refine ch rfl (ob_move (arg_free 0 rfl rfl)) ?_
    refine ch rfl (ob_move (arg_free 1 rfl rfl)) ?_
    refine ch rfl (ob_move (arg_free 2 rfl rfl)) ?_
    refine ch rfl (ob_bs2_int (arg_op 1 1 rfl rfl rfl rfl) (arg_op 2 0 rfl rfl rfl rfl)) ?_
    refine ch_nil ?_
    intro a106 w107 hf108 hg109 hk110 hn111
    have h112 : Holds _ (a106.eval (.tmp 20)) w107 := hn111.at 0 3 rfl rfl rfl
    have h113 : Holds (OwnS w2.heap.size _ _) (a106.eval (.tmp 23)) w107 := hn111.at 3 0 rfl rfl rfl
    have h114 : Holds _ (a106.eval (.tmp 7)) w107 := hk110.holds rfl (h97.up hg109)
    have h115 : Holds _ (a106.eval (.tmp 8)) w107 := hk110.holds rfl (h98.up hg109)
    have h116 : Holds _ (a106.eval (.tmp 3)) w107 := hk110.holds rfl (h99.up hg109)
    have h117 : Holds _ (a106.eval (.tmp 4)) w107 := hk110.holds rfl (h100.up hg109)
    have h118 : Holds _ (a106.eval (.tmp 11)) w107 := hk110.holds rfl (h101.up hg109)
    have h119 : Holds _ (a106.eval (.tmp 10)) w107 := hk110.holds rfl (h102.up hg109)
    have g120 : Grow w0 w107 := g103.trans hg109
    have g121 : Grow w2 w107 := g104.trans hg109
    have kk122 : Keep _ a39 a106 := kk105.trans hk110 rfl
    clear h97 h98 h99 h100 h101 h102 g103 g104 kk105 hf93 hk110 hn111 hg109
    refine wl_append elIntP [3, 4, 7, 8, 10, 11] hf108 (by kernel_rfl) rfl Try.underlying24 h112 (OwnS.sl h113) ?_ ?_ g121.size ?_
    · (simp only [digs_len, List.length_cons, List.length_nil, maxLen]; omega)
    · (simp only [digs_len, List.length_cons, List.length_nil, elInt]; omega)
    intro a123 w124 hf125 hg126 hk127 h128
    have g129 : Grow w0 w124 := g120.below hg126 (by omega)
    have g130 : Grow w2 w124 := g121.below hg126 (by omega)
    have h131 : Holds _ (a123.eval (.tmp 7)) w124 := is_any (hk127.holds rfl h114)
    have h132 : Holds _ (a123.eval (.tmp 8)) w124 := is_any (hk127.holds rfl h115)
    have h134 : Holds _ (a123.eval (.tmp 4)) w124 := is_any (hk127.holds rfl h117)
    have h135 : Holds _ (a123.eval (.tmp 11)) w124 := is_any (hk127.holds rfl h118)
    have h136 : Holds _ (a123.eval (.tmp 10)) w124 := is_any (hk127.holds rfl h119)
    have kk137 : Keep _ a39 a123 := kk122.trans hk127 rfl
    refine wp_all [([24], [])] [4, 7, 8, 10, 11] w2.heap.size hf125 g130.size (by kernel_rfl) (bund_cons h128 bund_nil) ?_
    refine ch rfl (ob_assign (arg_free 0 rfl rfl)) ?_
    refine ch_nil ?_
    intro a138 w139 hf140 hg141 hk142 hn143
    have h144 : Holds _ (a138.eval (.tmp 3)) w139 := hn143.at 0 0 rfl rfl rfl
    have h145 : Holds _ (a138.eval (.tmp 7)) w139 := hk142.holds rfl (h131.up hg141)
    have h146 : Holds _ (a138.eval (.tmp 8)) w139 := hk142.holds rfl (h132.up hg141)
    have h147 : Holds _ (a138.eval (.tmp 4)) w139 := hk142.holds rfl (h134.up hg141)
    have h148 : Holds _ (a138.eval (.tmp 11)) w139 := hk142.holds rfl (h135.up hg141)
    have h149 : Holds _ (a138.eval (.tmp 10)) w139 := hk142.holds rfl (h136.up hg141)
    have g150 : Grow w0 w139 := g129.trans hg141
    have g151 : Grow w2 w139 := g130.trans hg141
    have kk152 : Keep _ a39 a138 := kk137.trans hk142 rfl
    clear h131 h132 h134 h135 h136 g129 g130 kk137 hf125 hk142 hn143 hg141
    refine then_ ?_
    refine wp_region_lit ?_
    refine wp_all [([4], []), ([7], []), ([8], []), ([], [1, 2]), ([], [0, 3]), ([], [4])] [3, 10, 11] w2.heap.size hf140 g151.size (by kernel_rfl) (bund_cons h147 (bund_cons h145 (bund_cons h146 bund_nil))) ?_
    refine ch rfl (ob_move (arg_free 0 rfl rfl)) ?_
    refine ch rfl (ob_move (arg_free 1 rfl rfl)) ?_
    refine ch rfl (ob_move (arg_free 2 rfl rfl)) ?_
    first
      | (refine ch rfl (ob_add' (arg_op 1 1 rfl rfl rfl rfl) (arg_op 2 0 rfl rfl rfl rfl) ?_) ?_; · omega)
      | refine ch rfl (ob_add (arg_op 1 1 rfl rfl rfl rfl) (arg_op 2 0 rfl rfl rfl rfl)) ?_
    first
      | (refine ch rfl (ob_sub' (arg_op 0 3 rfl rfl rfl rfl) (arg_op 3 0 rfl rfl rfl rfl) ?_) ?_; · omega)
      | refine ch rfl (ob_sub (arg_op 0 3 rfl rfl rfl rfl) (arg_op 3 0 rfl rfl rfl rfl)) ?_
    refine ch rfl (ob_assign (arg_op 4 0 rfl rfl rfl rfl)) ?_
    refine ch_nil ?_
    intro a153 w154 hf155 hg156 hk157 hn158
    have h159 : Holds _ (a153.eval (.tmp 4)) w154 := hn158.at 5 0 rfl rfl rfl
    have h160 : Holds _ (a153.eval (.tmp 3)) w154 := hk157.holds rfl (h144.up hg156)
    have h161 : Holds _ (a153.eval (.tmp 11)) w154 := hk157.holds rfl (h148.up hg156)
    have h162 : Holds _ (a153.eval (.tmp 10)) w154 := hk157.holds rfl (h149.up hg156)
    have g163 : Grow w0 w154 := g150.trans hg156
    have g164 : Grow w2 w154 := g151.trans hg156
    have kk165 : Keep _ a39 a153 := kk152.trans hk157 rfl
    clear h144 h148 h149 g150 g151 kk152 hf140 hk157 hn158 hg156
    refine blockN ?_
    refine then_ ?_
    refine wp_region_lit ?_
    refine wp_all [([11], []), ([], [0])] [3, 4, 10] w2.heap.size hf155 g164.size (by kernel_rfl) (bund_cons h161 bund_nil) ?_
    first
      | (refine ch rfl (ob_add' (arg_free 0 rfl rfl) arg_c ?_) ?_; · omega)
      | refine ch rfl (ob_add (arg_free 0 rfl rfl) arg_c) ?_
    refine ch rfl (ob_move (arg_op 0 0 rfl rfl rfl rfl)) ?_
    refine ch_nil ?_
    intro a166 w167 hf168 hg169 hk170 hn171
    have h172 : Holds _ (a166.eval (.tmp 11)) w167 := hn171.at 1 0 rfl rfl rfl
    have h173 : Holds _ (a166.eval (.tmp 4)) w167 := hk170.holds rfl (h159.up hg169)
    have h174 : Holds _ (a166.eval (.tmp 3)) w167 := hk170.holds rfl (h160.up hg169)
    have h175 : Holds _ (a166.eval (.tmp 10)) w167 := hk170.holds rfl (h162.up hg169)
    have g176 : Grow w0 w167 := g163.trans hg169
    have g177 : Grow w2 w167 := g164.trans hg169
    have kk178 : Keep _ a39 a166 := kk165.trans hk170 rfl
    clear h159 h160 h162 g163 g164 kk165 hf155 hk170 hn171 hg169
    refine then_ ?_
    exact ⟨(k + 1), (by omega), hf168, (by omega), g176, g177, kk178, h174, (is_cast h173 (congrArg intV (by simp only [dsum, dHi, dLo]; omega))), (is_cast h172 (by first | rfl | (refine congrArg intV ?_; omega)))⟩
  · intro hc76
    try simp only [cond_norm] at hc76
    obtain rfl : k = 8 := by omega
    refine wp_exit ?_
    refine thenX ?_
    refine thenX ?_
    refine blockX ?_
    refine then_ ?_
    refine wp_seq ?_
    refine wp_region_lit ?_
    refine wp_seg (l1 := [_, _, _, _, _, _]) [([3], []), ([4], []), ([], [1]), ([4], []), ([], [3]), ([], [2, 4])] [] w2.heap.size hf64 g74.size (by kernel_rfl) (bund_cons h69 (bund_cons h70 bund_nil)) ?_
    refine ch rfl (ob_move (arg_free 0 rfl rfl)) ?_
    refine ch rfl (ob_move (arg_free 1 rfl rfl)) ?_
    refine ch rfl (ob_shr (arg_op 1 0 rfl rfl rfl rfl) arg_c ?_) ?_
    · omega
    refine ch rfl (ob_move (arg_free 1 rfl rfl)) ?_
    refine ch rfl (ob_and_i (arg_op 3 0 rfl rfl rfl rfl) arg_c ?_) ?_
    · omega
    refine ch rfl (ob_bs2_int (arg_op 2 2 rfl rfl rfl rfl) (arg_op 4 0 rfl rfl rfl rfl)) ?_
    refine ch_nil ?_
    intro a179 w180 hf181 hg182 hk183 hn184
    have h185 : Holds _ (a179.eval (.tmp 31)) w180 := hn184.at 0 5 rfl rfl rfl
    have h186 : Holds (OwnS w2.heap.size _ _) (a179.eval (.tmp 36)) w180 := hn184.at 5 0 rfl rfl rfl
    have g187 : Grow w0 w180 := g73.trans hg182
    have g188 : Grow w2 w180 := g74.trans hg182
    clear g73 g74 hf64 hk183 hn184 hg182
    refine wl_append elIntP [] hf181 (by kernel_rfl) rfl Try.underlying24 h185 (OwnS.sl h186) ?_ ?_ g188.size ?_
    · (simp only [digs_len, List.length_cons, List.length_nil, maxLen]; omega)
    · (simp only [digs_len, List.length_cons, List.length_nil, elInt]; omega)
    intro a189 w190 hf191 hg192 hk193 h194
    have g195 : Grow w0 w190 := g187.below hg192 (by omega)
    have g196 : Grow w2 w190 := g188.below hg192 (by omega)
    refine wp_all [([37], [])] [] w2.heap.size hf191 g196.size (by kernel_rfl) (bund_cons h194 bund_nil) ?_
    refine ch rfl (ob_assign (arg_free 0 rfl rfl)) ?_
    refine ch_nil ?_
    intro a197 w198 hf199 hg200 hk201 hn202
    have h203 : Holds _ (a197.eval (.tmp 2)) w198 := hn202.at 0 0 rfl rfl rfl
    have g204 : Grow w0 w198 := g195.trans hg200
    have g205 : Grow w2 w198 := g196.trans hg200
    clear g195 g196 hf191 hk201 hn202 hg200
    refine then_ ?_
    refine wp_ret ?_
    exact ret_tmp rfl hf199 g204 (OwnS.mono h203 (by omega))

set_option maxRecDepth 100000 in
theorem c_rDigits {n : UInt64} : Con1 28 (Is (nmV n)) (fun lo => OwnS lo elInt (digits n)) := by
  intro lo v0 w0 hlo hv0
  refine enter Try.func28 rfl Try.ntmps28 (by simp) ?_
  intro a0 hf0 ha
  have h00 : Holds _ (a0.eval (.tmp 0)) w0 := arg_holds ha rfl hv0
  clear ha
  have g0 : Grow w0 w0 := Grow.refl _
  refine wp_seq ?_
  refine wp_region_lit ?_
  refine wp_all [([0], []), ([], [])] [] w0.heap.size hf0 g0.size (by kernel_rfl) (bund_cons h00 bund_nil) ?_
  refine ch rfl (ob_box_nm (arg_free 0 rfl rfl)) ?_
  refine ch rfl (ob_assign (arg_cg (G := Any) (fun w => trivial))) ?_
  refine ch_nil ?_
  intro a1 w2 hf3 hg4 hk5 hn6
  have h7 : Holds _ (a1.eval (.tmp 1)) w2 := hn6.at 0 1 rfl rfl rfl
  have g8 : Grow w0 w2 := g0.trans hg4
  obtain ⟨bk9, hl10, hv11, hb12⟩ := OwnB.blk (lo := w0.heap.size) h7
  clear g0 hf0 hk5 hn6
  refine then_ ?_
  refine wp_seq ?_
  have g13 : Grow w2 w2 := Grow.refl _
  have hl14 : bk9 < w2.heap.size := hb12.lt
  have hz15 : w0.heap.size ≤ w2.heap.size := g8.size
  refine wp_region_lit ?_
  refine wp_all [([], [])] [1] w2.heap.size hf3 g13.size (by kernel_rfl) bund_nil ?_
  refine ch rfl (ob_assign (arg_cg (G := OwnS w2.heap.size elInt []) (fun w => own_nil))) ?_
  refine ch_nil ?_
  intro a16 w17 hf18 hg19 hk20 hn21
  have h22 : Holds _ (a16.eval (.tmp 3)) w17 := hn21.at 0 0 rfl rfl rfl
  have hv23 : Holds (Is (PtrV bk9)) (a16.eval (.tmp 1)) w17 := is_any (hk20.holds rfl hv11)
  have hb24 : Blk bk9 _ w17 := hb12.up hg19
  have g25 : Grow w0 w17 := g8.trans hg19
  have g26 : Grow w2 w17 := g13.trans hg19
  clear hv11 hb12 g8 g13 hf3 hk20 hn21
  refine then_ ?_
  refine wp_seq ?_
  refine wp_region_lit ?_
  refine wp_all [([], [])] [1, 3] w2.heap.size hf18 g26.size (by kernel_rfl) bund_nil ?_
  refine ch rfl (ob_assign arg_c) ?_
  refine ch_nil ?_
  intro a27 w28 hf29 hg30 hk31 hn32
  have h33 : Holds _ (a27.eval (.tmp 4)) w28 := hn32.at 0 0 rfl rfl rfl
  have h34 : Holds _ (a27.eval (.tmp 3)) w28 := hk31.holds rfl (h22.up hg30)
  have hv35 : Holds (Is (PtrV bk9)) (a27.eval (.tmp 1)) w28 := is_any (hk31.holds rfl hv23)
  have hb36 : Blk bk9 _ w28 := hb24.up hg30
  have g37 : Grow w0 w28 := g25.trans hg30
  have g38 : Grow w2 w28 := g26.trans hg30
  clear h22 hv23 hb24 g25 g26 hf18 hk31 hn32 hg30
  refine then_ ?_
  refine wp_seq ?_
  refine wp_seq ?_
  refine wp_region_lit ?_
  refine wp_all [([], [])] [1, 3, 4] w2.heap.size hf29 g38.size (by kernel_rfl) bund_nil ?_
  refine ch rfl (ob_assign arg_c) ?_
  refine ch_nil ?_
  intro a39 w40 hf41 hg42 hk43 hn44
  have h45 : Holds _ (a39.eval (.tmp 5)) w40 := hn44.at 0 0 rfl rfl rfl
  have h46 : Holds _ (a39.eval (.tmp 4)) w40 := hk43.holds rfl (h33.up hg42)
  have h47 : Holds _ (a39.eval (.tmp 3)) w40 := hk43.holds rfl (h34.up hg42)
  have hv48 : Holds (Is (PtrV bk9)) (a39.eval (.tmp 1)) w40 := is_any (hk43.holds rfl hv35)
  have hb49 : Blk bk9 _ w40 := hb36.up hg42
  have g50 : Grow w0 w40 := g37.trans hg42
  have g51 : Grow w2 w40 := g38.trans hg42
  clear h33 h34 hv35 hb36 g37 g38 hf29 hk43 hn44 hg42
  refine then_ ?_
  refine wp_block ?_
  refine wp_loopL (α := Nat) (fun k a' w' => Fr 43 a' ∧ (k ≤ 8) ∧ Grow w0 w' ∧ Grow w2 w' ∧ Keep [1] a39 a' ∧ Holds (OwnS w2.heap.size elInt (digs n k)) (a'.eval (.tmp 3)) w' ∧ Holds (Is (intV (240 - dsum n k))) (a'.eval (.tmp 4)) w' ∧ Holds (Is (intV (k : Int))) (a'.eval (.tmp 5)) w' ∧ Blk bk9 (_) w') (fun k => 8 - k) (0) ⟨hf41, (by omega), g50, g51, Keep.refl _ _, h47, (is_cast h46 (by first | rfl | (refine congrArg intV ?_; omega))), (is_cast h45 (by first | rfl | (refine congrArg intV ?_; omega))), hb49⟩ ?_
  intro k a52 w53 ⟨hf54, hi56, g57, g58, kk55, h59, h60, h61, hb62⟩
  have hv63 : Holds (Is (PtrV bk9)) (a52.eval (.tmp 1)) w53 := is_any (kk55.holds rfl hv48)
  have hd1 := dsum_bound n k
  have hd2 := dHi_bound n k
  have hd3 := dLo_bound n k
  refine wp_seq ?_
  refine wp_seq ?_
  refine wp_region_lit ?_
  refine wp_all [([5], []), ([], [0])] [1, 3, 4, 5] w2.heap.size hf54 g58.size (by kernel_rfl) (bund_cons h61 bund_nil) ?_
  refine ch rfl (ob_move (arg_free 0 rfl rfl)) ?_
  refine ch rfl (ob_lss (arg_op 0 0 rfl rfl rfl rfl) arg_c) ?_
  refine ch_nil ?_
  intro a64 w65 hf66 hg67 hk68 hn69
  have h70 : Holds _ (a64.eval (.tmp 7)) w65 := hn69.at 1 0 rfl rfl rfl
  have h71 : Holds _ (a64.eval (.tmp 3)) w65 := hk68.holds rfl (h59.up hg67)
  have h72 : Holds _ (a64.eval (.tmp 4)) w65 := hk68.holds rfl (h60.up hg67)
  have h73 : Holds _ (a64.eval (.tmp 5)) w65 := hk68.holds rfl (h61.up hg67)
  have hv74 : Holds (Is (PtrV bk9)) (a64.eval (.tmp 1)) w65 := is_any (hk68.holds rfl hv63)
  have hb75 : Blk bk9 _ w65 := hb62.up hg67
  have g76 : Grow w0 w65 := g57.trans hg67
  have g77 : Grow w2 w65 := g58.trans hg67
  have kk78 : Keep _ a39 a64 := kk55.trans hk68 rfl
  clear h59 h60 h61 hv63 hb62 g57 g58 kk55 hf54 hk68 hn69 hg67
  refine then_ ?_
  refine wp_if h70 ?_ ?_
  · intro hc79
    try simp only [cond_norm] at hc79
    refine wp_skip ?_
    refine then_ ?_
    refine wp_seq ?_
    refine wp_block ?_
    refine wp_seq ?_
    have hd4 : ((nb n k / 16).toNat : Int) = dHi n k := rfl
    have hd5 : ((nb n k % 16).toNat : Int) = dLo n k := rfl
    refine wp_calm_tail (l1 := [_, _, _, _, _, _, _, _, _, _, _, _]) [0, 0, 2, 6, 14, 30, 0, 64, 192, 448, 960, 2046, 4095, 8191] [([3], []), ([5], []), ([1], [1]), ([], [2]), ([], [3]), ([], [4]), ([5], []), ([1], [6]), ([], [7]), ([], [8]), ([], [9]), ([], [5, 10])] [1, 3, 4, 5] w2.heap.size hf66 g77.size (by kernel_rfl) (bund_cons h71 (bund_cons h73 (bund_cons (hb75.ownp hv74) bund_nil))) ?_
    intro ws80 hs81
    refine ch rfl (ob_move (arg_free 0 rfl rfl)) ?_
    refine ch rfl (ob_move (arg_free 1 rfl rfl)) ?_
    refine ch rfl (ob_ix_nm (ArgOK.ownp (arg_free 2 rfl rfl)) (arg_op 1 0 rfl rfl rfl rfl) (rfl) ?_) ?_
    · omega
    refine ch rfl (ob_load1 (arg_op 2 0 rfl rfl rfl rfl) Try.underlying5 rfl) ?_
    refine ch rfl (ob_shrb (arg_op 3 0 rfl rfl rfl rfl) arg_c) ?_
    refine ch rfl (ob_byteint (arg_op 4 0 rfl rfl rfl rfl) Try.underlying5 Try.underlying3) ?_
    refine ch rfl (ob_move (arg_free 1 rfl rfl)) ?_
    refine ch rfl (ob_ix_nm (ArgOK.ownp (arg_free 2 rfl rfl)) (arg_op 6 0 rfl rfl rfl rfl) (rfl) ?_) ?_
    · omega
    refine ch rfl (ob_load1 (arg_op 7 0 rfl rfl rfl rfl) Try.underlying5 rfl) ?_
    refine ch rfl (ob_andb (arg_op 8 0 rfl rfl rfl rfl) (arg_cb 15 rfl)) ?_
    refine ch rfl (ob_byteint (arg_op 9 0 rfl rfl rfl rfl) Try.underlying5 Try.underlying3) ?_
    refine ch rfl (ob_bs2_int (arg_op 5 5 rfl rfl rfl rfl) (arg_op 10 0 rfl rfl rfl rfl)) ?_
    refine ch_nil ?_
    intro a82 w83 hf84 hg85 hk86 hn87
    have h88 : Holds _ (a82.eval (.tmp 10)) w83 := hn87.at 0 11 rfl rfl rfl
    have h89 : Holds (OwnS w2.heap.size _ _) (a82.eval (.tmp 21)) w83 := hn87.at 11 0 rfl rfl rfl
    have h90 : Holds _ (a82.eval (.tmp 3)) w83 := hk86.holds rfl (h71.up hg85)
    have h91 : Holds _ (a82.eval (.tmp 4)) w83 := hk86.holds rfl (h72.up hg85)
    have h92 : Holds _ (a82.eval (.tmp 5)) w83 := hk86.holds rfl (h73.up hg85)
    have hv93 : Holds (Is (PtrV bk9)) (a82.eval (.tmp 1)) w83 := is_any (hk86.holds rfl hv74)
    have hb94 : Blk bk9 _ w83 := hb75.up hg85
    have g95 : Grow w0 w83 := g76.trans hg85
    have g96 : Grow w2 w83 := g77.trans hg85
    have kk97 : Keep _ a39 a82 := kk78.trans hk86 rfl
    clear h71 h72 h73 hv74 hb75 g76 g77 kk78 hf66 hk86 hn87 hg85
    refine wl_append elIntP [1, 3, 4, 5] hf84 (by kernel_rfl) rfl Try.underlying24 h88 (OwnS.sl h89) ?_ ?_ g96.size ?_
    · (simp only [digs_len, List.length_cons, List.length_nil, maxLen]; omega)
    · (simp only [digs_len, List.length_cons, List.length_nil, elInt]; omega)
    intro a98 w99 hf100 hg101 hk102 h103
    have g104 : Grow w0 w99 := g95.below hg101 (by omega)
    have g105 : Grow w2 w99 := g96.below hg101 (by omega)
    have h107 : Holds _ (a98.eval (.tmp 4)) w99 := is_any (hk102.holds rfl h91)
    have h108 : Holds _ (a98.eval (.tmp 5)) w99 := is_any (hk102.holds rfl h92)
    have hv109 : Holds (Is (PtrV bk9)) (a98.eval (.tmp 1)) w99 := is_any (hk102.holds rfl hv93)
    have hb110 : Blk bk9 _ w99 := hb94.below hg101 (by omega)
    have kk111 : Keep _ a39 a98 := kk97.trans hk102 rfl
    refine wp_all [([22], [])] [1, 4, 5] w2.heap.size hf100 g105.size (by kernel_rfl) (bund_cons h103 bund_nil) ?_
    refine ch rfl (ob_assign (arg_free 0 rfl rfl)) ?_
    refine ch_nil ?_
    intro a112 w113 hf114 hg115 hk116 hn117
    have h118 : Holds _ (a112.eval (.tmp 3)) w113 := hn117.at 0 0 rfl rfl rfl
    have h119 : Holds _ (a112.eval (.tmp 4)) w113 := hk116.holds rfl (h107.up hg115)
    have h120 : Holds _ (a112.eval (.tmp 5)) w113 := hk116.holds rfl (h108.up hg115)
    have hv121 : Holds (Is (PtrV bk9)) (a112.eval (.tmp 1)) w113 := is_any (hk116.holds rfl hv109)
    have hb122 : Blk bk9 _ w113 := hb110.up hg115
    have g123 : Grow w0 w113 := g104.trans hg115
    have g124 : Grow w2 w113 := g105.trans hg115
    have kk125 : Keep _ a39 a112 := kk111.trans hk116 rfl
    clear h107 h108 hv109 hb110 g104 g105 kk111 hf100 hk116 hn117 hg115
    refine then_ ?_
    refine wp_calm [0, 0, 2, 6, 14, 30, 63, 0, 128, 384, 896, 1920, 4095, 8191] [([4], []), ([5], []), ([1], [1]), ([], [2]), ([], [3]), ([], [4]), ([], [0, 5]), ([5], []), ([1], [7]), ([], [8]), ([], [9]), ([], [10]), ([], [6, 11]), ([], [12])] [1, 3, 5] w2.heap.size hf114 g124.size (by kernel_rfl) (bund_cons h119 (bund_cons h120 (bund_cons (hb122.ownp hv121) bund_nil))) ?_
    intro ws126 hs127
    refine ch rfl (ob_move (arg_free 0 rfl rfl)) ?_
    refine ch rfl (ob_move (arg_free 1 rfl rfl)) ?_
    refine ch rfl (ob_ix_nm (ArgOK.ownp (arg_free 2 rfl rfl)) (arg_op 1 0 rfl rfl rfl rfl) (rfl) ?_) ?_
    · omega
    refine ch rfl (ob_load1 (arg_op 2 0 rfl rfl rfl rfl) Try.underlying5 rfl) ?_
    refine ch rfl (ob_shrb (arg_op 3 0 rfl rfl rfl rfl) arg_c) ?_
    refine ch rfl (ob_byteint (arg_op 4 0 rfl rfl rfl rfl) Try.underlying5 Try.underlying3) ?_
    first
      | (refine ch rfl (ob_sub' (arg_op 0 5 rfl rfl rfl rfl) (arg_op 5 0 rfl rfl rfl rfl) ?_) ?_; · omega)
      | refine ch rfl (ob_sub (arg_op 0 5 rfl rfl rfl rfl) (arg_op 5 0 rfl rfl rfl rfl)) ?_
    refine ch rfl (ob_move (arg_free 1 rfl rfl)) ?_
    refine ch rfl (ob_ix_nm (ArgOK.ownp (arg_free 2 rfl rfl)) (arg_op 7 0 rfl rfl rfl rfl) (rfl) ?_) ?_
    · omega
    refine ch rfl (ob_load1 (arg_op 8 0 rfl rfl rfl rfl) Try.underlying5 rfl) ?_
    refine ch rfl (ob_andb (arg_op 9 0 rfl rfl rfl rfl) (arg_cb 15 rfl)) ?_
    refine ch rfl (ob_byteint (arg_op 10 0 rfl rfl rfl rfl) Try.underlying5 Try.underlying3) ?_
    first
      | (refine ch rfl (ob_sub' (arg_op 6 5 rfl rfl rfl rfl) (arg_op 11 0 rfl rfl rfl rfl) ?_) ?_; · omega)
      | refine ch rfl (ob_sub (arg_op 6 5 rfl rfl rfl rfl) (arg_op 11 0 rfl rfl rfl rfl)) ?_
    refine ch rfl (ob_assign (arg_op 12 0 rfl rfl rfl rfl)) ?_
    refine ch_nil ?_
    intro a128 w129 hf130 hg131 hk132 hn133
    have h134 : Holds _ (a128.eval (.tmp 4)) w129 := hn133.at 13 0 rfl rfl rfl
    have h135 : Holds _ (a128.eval (.tmp 3)) w129 := hk132.holds rfl (h118.up hg131)
    have h136 : Holds _ (a128.eval (.tmp 5)) w129 := hk132.holds rfl (h120.up hg131)
    have hv137 : Holds (Is (PtrV bk9)) (a128.eval (.tmp 1)) w129 := is_any (hk132.holds rfl hv121)
    have hb138 : Blk bk9 _ w129 := hb122.up hg131
    have g139 : Grow w0 w129 := g123.trans hg131
    have g140 : Grow w2 w129 := g124.trans hg131
    have kk141 : Keep _ a39 a128 := kk125.trans hk132 rfl
    clear h118 h120 hv121 hb122 g123 g124 kk125 hf114 hk132 hn133 hg131
    refine blockN ?_
    refine then_ ?_
    refine wp_region_lit ?_
    refine wp_all [([5], []), ([], [0]), ([], [1])] [1, 3, 4] w2.heap.size hf130 g140.size (by kernel_rfl) (bund_cons h136 bund_nil) ?_
    refine ch rfl (ob_move (arg_free 0 rfl rfl)) ?_
    first
      | (refine ch rfl (ob_add' (arg_op 0 0 rfl rfl rfl rfl) arg_c ?_) ?_; · omega)
      | refine ch rfl (ob_add (arg_op 0 0 rfl rfl rfl rfl) arg_c) ?_
    refine ch rfl (ob_assign (arg_op 1 0 rfl rfl rfl rfl)) ?_
    refine ch_nil ?_
    intro a142 w143 hf144 hg145 hk146 hn147
    have h148 : Holds _ (a142.eval (.tmp 5)) w143 := hn147.at 2 0 rfl rfl rfl
    have h149 : Holds _ (a142.eval (.tmp 4)) w143 := hk146.holds rfl (h134.up hg145)
    have h150 : Holds _ (a142.eval (.tmp 3)) w143 := hk146.holds rfl (h135.up hg145)
    have hv151 : Holds (Is (PtrV bk9)) (a142.eval (.tmp 1)) w143 := is_any (hk146.holds rfl hv137)
    have hb152 : Blk bk9 _ w143 := hb138.up hg145
    have g153 : Grow w0 w143 := g139.trans hg145
    have g154 : Grow w2 w143 := g140.trans hg145
    have kk155 : Keep _ a39 a142 := kk141.trans hk146 rfl
    clear h134 h135 hv137 hb138 g139 g140 kk141 hf130 hk146 hn147 hg145
    refine then_ ?_
    exact ⟨(k + 1), (by omega), hf144, (by omega), g153, g154, kk155, h150, (is_cast h149 (congrArg intV (by simp only [dsum, dHi, dLo]; omega))), (is_cast h148 (by first | rfl | (refine congrArg intV ?_; omega))), hb152⟩
  · intro hc79
    try simp only [cond_norm] at hc79
    obtain rfl : k = 8 := by omega
    refine wp_exit ?_
    refine thenX ?_
    refine thenX ?_
    refine blockX ?_
    refine then_ ?_
    refine wp_seq ?_
    refine wp_region_lit ?_
    refine wp_seg (l1 := [_, _, _, _, _, _]) [([3], []), ([4], []), ([], [1]), ([4], []), ([], [3]), ([], [2, 4])] [] w2.heap.size hf66 g77.size (by kernel_rfl) (bund_cons h71 (bund_cons h72 bund_nil)) ?_
    refine ch rfl (ob_move (arg_free 0 rfl rfl)) ?_
    refine ch rfl (ob_move (arg_free 1 rfl rfl)) ?_
    refine ch rfl (ob_quo (arg_op 1 0 rfl rfl rfl rfl) arg_c ?_) ?_
    · omega
    refine ch rfl (ob_move (arg_free 1 rfl rfl)) ?_
    refine ch rfl (ob_rem (arg_op 3 0 rfl rfl rfl rfl) arg_c ?_) ?_
    · omega
    refine ch rfl (ob_bs2_int (arg_op 2 2 rfl rfl rfl rfl) (arg_op 4 0 rfl rfl rfl rfl)) ?_
    refine ch_nil ?_
    intro a156 w157 hf158 hg159 hk160 hn161
    have h162 : Holds _ (a156.eval (.tmp 36)) w157 := hn161.at 0 5 rfl rfl rfl
    have h163 : Holds (OwnS w2.heap.size _ _) (a156.eval (.tmp 41)) w157 := hn161.at 5 0 rfl rfl rfl
    have g164 : Grow w0 w157 := g76.trans hg159
    have g165 : Grow w2 w157 := g77.trans hg159
    clear g76 g77 hf66 hk160 hn161 hg159
    refine wl_append elIntP [] hf158 (by kernel_rfl) rfl Try.underlying24 h162 (OwnS.sl h163) ?_ ?_ g165.size ?_
    · (simp only [digs_len, List.length_cons, List.length_nil, maxLen]; omega)
    · (simp only [digs_len, List.length_cons, List.length_nil, elInt]; omega)
    intro a166 w167 hf168 hg169 hk170 h171
    have g172 : Grow w0 w167 := g164.below hg169 (by omega)
    have g173 : Grow w2 w167 := g165.below hg169 (by omega)
    refine wp_all [([42], [])] [] w2.heap.size hf168 g173.size (by kernel_rfl) (bund_cons h171 bund_nil) ?_
    refine ch rfl (ob_assign (arg_free 0 rfl rfl)) ?_
    refine ch_nil ?_
    intro a174 w175 hf176 hg177 hk178 hn179
    have h180 : Holds _ (a174.eval (.tmp 2)) w175 := hn179.at 0 0 rfl rfl rfl
    have g181 : Grow w0 w175 := g172.trans hg177
    have g182 : Grow w2 w175 := g173.trans hg177
    clear g172 g173 hf168 hk178 hn179 hg177
    refine then_ ?_
    refine wp_ret ?_
    exact ret_tmp rfl hf176 g181 (OwnS.mono h180 (by omega))


end Ex
end Go.Proofs.Ytnmfiiejhoafnaa
