/- Names as numbers: Number, Of, Less of the program and of the reference. -/
import Derived.Test.YtnmfiiejhoafnaaHsh
namespace Go.Proofs.Ytnmfiiejhoafnaa
namespace Ex
open Go Calm Go.RowKit

/-- the number of the first k bytes -/
def numUp (n : UInt64) (k : Nat) : UInt64 := UInt64.ofNat (n.toNat / 2 ^ (64 - 8 * k))
theorem numUp_0 (n : UInt64) : numUp n 0 = 0 := by
  apply UInt64.toNat_inj.1
  unfold numUp
  have := n.toNat_lt
  simp
  omega
theorem numUp_8 (n : UInt64) : numUp n 8 = n := by
  apply UInt64.toNat_inj.1
  unfold numUp
  simp
theorem numUp_succ (n : UInt64) (k : Nat) (h : k < 8) : (numUp n k <<< UInt64.ofNat 8) ||| (nb n k).toUInt64 = numUp n (k + 1) := by
  apply UInt64.toNat_inj.1
  have hn := n.toNat_lt
  unfold numUp nb
  rw [UInt64.toNat_or, UInt64.toNat_shiftLeft, UInt8.toNat_toUInt64]
  simp only [UInt64.toNat_ofNat', UInt8.toNat_ofNat', Nat.reducePow, Nat.reduceMod]
  generalize hx : n.toNat = x at hn
  have e1 : x / 2 ^ (64 - 8 * k) < 2 ^ 56 ∧ x / 2 ^ (64 - 8 * (k + 1)) < 18446744073709551616 ∧ x / 2 ^ (64 - 8 * (k + 1)) = x / 2 ^ (64 - 8 * k) * 256 + x / 2 ^ (56 - 8 * k) % 256 := by
    match k, h with
    | 0, _ => simp only [Nat.reduceMul, Nat.reduceSub, Nat.reducePow, Nat.reduceAdd]; omega
    | 1, _ => simp only [Nat.reduceMul, Nat.reduceSub, Nat.reducePow, Nat.reduceAdd]; omega
    | 2, _ => simp only [Nat.reduceMul, Nat.reduceSub, Nat.reducePow, Nat.reduceAdd]; omega
    | 3, _ => simp only [Nat.reduceMul, Nat.reduceSub, Nat.reducePow, Nat.reduceAdd]; omega
    | 4, _ => simp only [Nat.reduceMul, Nat.reduceSub, Nat.reducePow, Nat.reduceAdd]; omega
    | 5, _ => simp only [Nat.reduceMul, Nat.reduceSub, Nat.reducePow, Nat.reduceAdd]; omega
    | 6, _ => simp only [Nat.reduceMul, Nat.reduceSub, Nat.reducePow, Nat.reduceAdd]; omega
    | 7, _ => simp only [Nat.reduceMul, Nat.reduceSub, Nat.reducePow, Nat.reduceAdd]; omega
  obtain ⟨h1, h2, h3⟩ := e1
  generalize x / 2 ^ (64 - 8 * (k + 1)) = r at *
  generalize x / 2 ^ (64 - 8 * k) = q at *
  have hb : x / 2 ^ (56 - 8 * k) % 256 < 256 := Nat.mod_lt _ (by decide)
  generalize x / 2 ^ (56 - 8 * k) % 256 = b at *
  subst h3
  rw [Nat.mod_eq_of_lt (show q < 18446744073709551616 by omega), Nat.mod_eq_of_lt h2]
  have e2 : (q <<< 8) % 18446744073709551616 = q <<< 8 := by rw [Nat.shiftLeft_eq]; omega
  rw [e2, ← Nat.shiftLeft_add_eq_or_of_lt (show b < 2 ^ 8 by omega), Nat.shiftLeft_eq]

theorem lt_b (x y : UInt64) : Value.bool (decide ((x.toNat : Int) < (y.toNat : Int))) = .bool (decide (x < y)) := by
  congr 1
  rw [decide_eq_decide, UInt64.lt_iff_toNat_lt]
  omega
theorem less_eq {x y : UInt64} (h : x = y) : Value.bool false = .bool (decide (x < y)) := by
  subst h
  simp

theorem ord1 {x y : UInt64} (h : (x < x ∨ x < y ∧ y < x) ∨ (¬x = y ∧ ¬x < y) ∧ ¬y < x) : False := by
  simp only [UInt64.lt_iff_toNat_lt, ← UInt64.toNat_inj] at h
  omega
theorem ord2 {x y z : UInt64} (h : (x < y ∧ y < z) ∧ ¬x < z) : False := by
  simp only [UInt64.lt_iff_toNat_lt] at h
  omega

/-- the number of a list of bytes, the highest first -/
def bnum : List UInt8 → Nat
  | [] => 0
  | b :: l => b.toNat * 256 ^ l.length + bnum l
theorem bnum_lt : ∀ l, bnum l < 256 ^ l.length
  | [] => by simp [bnum]
  | b :: l => by
    have h1 := bnum_lt l
    have h2 := b.toNat_lt
    simp only [bnum, List.length_cons, Nat.pow_succ]
    have h3 : b.toNat * 256 ^ l.length ≤ 255 * 256 ^ l.length := Nat.mul_le_mul_right _ (by omega)
    omega
theorem less_bnum : ∀ (l m : List UInt8), l.length = m.length → Op.bytesLess l m = decide (bnum l < bnum m)
  | [], [], _ => by simp [Op.bytesLess, bnum]
  | a :: l, b :: m, h => by
    have hl : l.length = m.length := by simpa using h
    have ih := less_bnum l m hl
    have h1 := bnum_lt l
    have h2 := bnum_lt m
    rw [Op.bytesLess, ih]
    simp only [bnum, hl] at h1 ⊢
    rw [Bool.eq_iff_iff]
    simp only [Bool.or_eq_true, Bool.and_eq_true, decide_eq_true_eq, beq_iff_eq, UInt8.lt_iff_toNat_lt, ← UInt8.toNat_inj]
    generalize 256 ^ m.length = p at *
    rcases Nat.lt_trichotomy a.toNat b.toNat with h3 | h3 | h3
    · have : (a.toNat + 1) * p ≤ b.toNat * p := Nat.mul_le_mul_right _ (by omega)
      rw [Nat.add_mul] at this
      constructor
      · intro _; omega
      · intro _; exact .inl h3
    · rw [h3]
      constructor
      · rintro (h | h) <;> omega
      · intro h; exact .inr ⟨rfl, by omega⟩
    · have : (b.toNat + 1) * p ≤ a.toNat * p := Nat.mul_le_mul_right _ (by omega)
      rw [Nat.add_mul] at this
      constructor
      · rintro (h | h) <;> omega
      · intro h; omega
theorem bnum_nm (x : UInt64) : bnum (nmBytes x) = x.toNat := by
  have := x.toNat_lt
  simp only [nmBytes, bnum, nb, List.length_cons, List.length_nil, UInt8.toNat_ofNat', Nat.reduceMul, Nat.reduceSub, Nat.reducePow, Nat.reduceAdd, Nat.div_one]
  omega
theorem less_bytes (x y : UInt64) : Op.bytesLess (nmBytes x) (nmBytes y) = decide (x < y) := by
  rw [less_bnum (nmBytes x) (nmBytes y) (show (nmBytes x).length = (nmBytes y).length from rfl), bnum_nm, bnum_nm, decide_eq_decide, UInt64.lt_iff_toNat_lt]

set_option maxRecDepth 100000 in
theorem c_Of {x : UInt64} : Con1 30 (Is (u64V x)) (fun _ => Is (nmV x)) := by
  intro lo v0 w0 hlo hv0
  refine enter Try.func30 rfl Try.ntmps30 (by simp) ?_
  intro a0 hf0 ha
  have h00 : Holds _ (a0.eval (.tmp 0)) w0 := arg_holds ha rfl hv0
  clear ha
  have g0 : Grow w0 w0 := Grow.refl _
  refine wp_seq ?_
  refine wp_region_lit ?_
  refine wp_all [([], [])] [0] w0.heap.size hf0 g0.size (by kernel_rfl) bund_nil ?_
  refine ch rfl (ob_alloc_nm) ?_
  refine ch_nil ?_
  intro a1 w2 hf3 hg4 hk5 hn6
  have h7 : Holds _ (a1.eval (.tmp 2)) w2 := hn6.at 0 0 rfl rfl rfl
  have h8 : Holds _ (a1.eval (.tmp 0)) w0 := hk5.holds rfl h00
  have g9 : Grow w0 w2 := g0.trans hg4
  obtain ⟨bk10, hl11, hv12, hb13⟩ := OwnB.blk (lo := w0.heap.size) h7
  clear h00 g0 hf0 hk5 hn6
  refine then_ ?_
  refine wp_seq ?_
  refine wp_region_lit ?_
  refine wp_seg (l1 := [_, _, _, _, _, _, _, _, _, _, _, _, _, _, _, _, _, _, _, _, _, _, _, _]) [([0], []), ([], [0]), ([], [1]), ([0], []), ([], [3]), ([], [4]), ([0], []), ([], [6]), ([], [7]), ([0], []), ([], [9]), ([], [10]), ([0], []), ([], [12]), ([], [13]), ([0], []), ([], [15]), ([], [16]), ([0], []), ([], [18]), ([], [19]), ([0], []), ([], [21]), ([], [2, 5, 8, 11, 14, 17, 20, 22])] [2] w0.heap.size hf3 g9.size (by kernel_rfl) (bund_cons (is_any h8) bund_nil) ?_
  refine ch rfl (ob_move (arg_free 0 rfl rfl)) ?_
  refine ch rfl (ob_shru (s := 56) (arg_op 0 0 rfl rfl rfl rfl) arg_c rfl (by decide)) ?_
  refine ch rfl (ob_u64byte (arg_op 1 0 rfl rfl rfl rfl) Try.underlying29 Try.underlying5) ?_
  refine ch rfl (ob_move (arg_free 0 rfl rfl)) ?_
  refine ch rfl (ob_shru (s := 48) (arg_op 3 0 rfl rfl rfl rfl) arg_c rfl (by decide)) ?_
  refine ch rfl (ob_u64byte (arg_op 4 0 rfl rfl rfl rfl) Try.underlying29 Try.underlying5) ?_
  refine ch rfl (ob_move (arg_free 0 rfl rfl)) ?_
  refine ch rfl (ob_shru (s := 40) (arg_op 6 0 rfl rfl rfl rfl) arg_c rfl (by decide)) ?_
  refine ch rfl (ob_u64byte (arg_op 7 0 rfl rfl rfl rfl) Try.underlying29 Try.underlying5) ?_
  refine ch rfl (ob_move (arg_free 0 rfl rfl)) ?_
  refine ch rfl (ob_shru (s := 32) (arg_op 9 0 rfl rfl rfl rfl) arg_c rfl (by decide)) ?_
  refine ch rfl (ob_u64byte (arg_op 10 0 rfl rfl rfl rfl) Try.underlying29 Try.underlying5) ?_
  refine ch rfl (ob_move (arg_free 0 rfl rfl)) ?_
  refine ch rfl (ob_shru (s := 24) (arg_op 12 0 rfl rfl rfl rfl) arg_c rfl (by decide)) ?_
  refine ch rfl (ob_u64byte (arg_op 13 0 rfl rfl rfl rfl) Try.underlying29 Try.underlying5) ?_
  refine ch rfl (ob_move (arg_free 0 rfl rfl)) ?_
  refine ch rfl (ob_shru (s := 16) (arg_op 15 0 rfl rfl rfl rfl) arg_c rfl (by decide)) ?_
  refine ch rfl (ob_u64byte (arg_op 16 0 rfl rfl rfl rfl) Try.underlying29 Try.underlying5) ?_
  refine ch rfl (ob_move (arg_free 0 rfl rfl)) ?_
  refine ch rfl (ob_shru (s := 8) (arg_op 18 0 rfl rfl rfl rfl) arg_c rfl (by decide)) ?_
  refine ch rfl (ob_u64byte (arg_op 19 0 rfl rfl rfl rfl) Try.underlying29 Try.underlying5) ?_
  refine ch rfl (ob_move (arg_free 0 rfl rfl)) ?_
  refine ch rfl (ob_u64byte (arg_op 21 0 rfl rfl rfl rfl) Try.underlying29 Try.underlying5) ?_
  refine ch rfl (ob_build_nm8 (n := x) (arg_op 2 20 rfl rfl rfl rfl) (arg_op 5 17 rfl rfl rfl rfl) (arg_op 8 14 rfl rfl rfl rfl) (arg_op 11 11 rfl rfl rfl rfl) (arg_op 14 8 rfl rfl rfl rfl) (arg_op 17 5 rfl rfl rfl rfl) (arg_op 20 2 rfl rfl rfl rfl) (arg_op 22 0 rfl rfl rfl rfl) ?_) ?_
  · exact of_cells x
  refine ch_nil ?_
  intro a14 w15 hf16 hg17 hk18 hn19
  have h20 : Holds _ (a14.eval (.tmp 26)) w15 := hn19.at 23 0 rfl rfl rfl
  have hv21 : Holds (Is (PtrV bk10)) (a14.eval (.tmp 2)) w15 := is_any (hk18.holds rfl hv12)
  have hb22 : Blk bk10 _ w15 := hb13.up hg17
  have g23 : Grow w0 w15 := g9.trans hg17
  clear hv12 hb13 g9 hf3 hk18 hn19 hg17
  refine wl_store_nm hv21 hb22 rfl h20 ?_
  intro w24 ho25 hb26
  have g27 : Grow w0 w24 := g23.only ho25 (by omega)
  have hv28 : Holds (Is (PtrV bk10)) (a14.eval (.tmp 2)) w24 := is_any hv21
  refine wpList_nil ?_
  refine then_ ?_
  refine wp_ret ?_
  refine ret_cell rfl Try.underlying23 rfl (by kernel_rfl) hf16 g27 (hb26.ptr hv28) ?_
  exact rfl

set_option maxRecDepth 100000 in
theorem c_rOf {x : UInt64} : Con1 33 (Is (u64V x)) (fun _ => Is (nmV x)) := by
  intro lo v0 w0 hlo hv0
  refine enter Try.func33 rfl Try.ntmps33 (by simp) ?_
  intro a0 hf0 ha
  have h00 : Holds _ (a0.eval (.tmp 0)) w0 := arg_holds ha rfl hv0
  clear ha
  have g0 : Grow w0 w0 := Grow.refl _
  refine wp_seq ?_
  refine wp_region_lit ?_
  refine wp_all [([], [])] [0] w0.heap.size hf0 g0.size (by kernel_rfl) bund_nil ?_
  refine ch rfl (ob_alloc_nm) ?_
  refine ch_nil ?_
  intro a1 w2 hf3 hg4 hk5 hn6
  have h7 : Holds _ (a1.eval (.tmp 2)) w2 := hn6.at 0 0 rfl rfl rfl
  have h8 : Holds _ (a1.eval (.tmp 0)) w0 := hk5.holds rfl h00
  have g9 : Grow w0 w2 := g0.trans hg4
  obtain ⟨bk10, hl11, hv12, hb13⟩ := OwnB.blk (lo := w0.heap.size) h7
  clear h00 g0 hf0 hk5 hn6
  refine then_ ?_
  refine wp_seq ?_
  refine wp_region_lit ?_
  refine wp_seg (l1 := [_, _, _, _, _, _, _, _, _, _, _, _, _, _, _, _, _, _, _, _, _, _, _, _]) [([0], []), ([], [0]), ([], [1]), ([0], []), ([], [3]), ([], [4]), ([0], []), ([], [6]), ([], [7]), ([0], []), ([], [9]), ([], [10]), ([0], []), ([], [12]), ([], [13]), ([0], []), ([], [15]), ([], [16]), ([0], []), ([], [18]), ([], [19]), ([0], []), ([], [21]), ([], [2, 5, 8, 11, 14, 17, 20, 22])] [2] w0.heap.size hf3 g9.size (by kernel_rfl) (bund_cons (is_any h8) bund_nil) ?_
  refine ch rfl (ob_move (arg_free 0 rfl rfl)) ?_
  refine ch rfl (ob_shru (s := 56) (arg_op 0 0 rfl rfl rfl rfl) arg_c rfl (by decide)) ?_
  refine ch rfl (ob_u64byte (arg_op 1 0 rfl rfl rfl rfl) Try.underlying29 Try.underlying5) ?_
  refine ch rfl (ob_move (arg_free 0 rfl rfl)) ?_
  refine ch rfl (ob_shru (s := 48) (arg_op 3 0 rfl rfl rfl rfl) arg_c rfl (by decide)) ?_
  refine ch rfl (ob_u64byte (arg_op 4 0 rfl rfl rfl rfl) Try.underlying29 Try.underlying5) ?_
  refine ch rfl (ob_move (arg_free 0 rfl rfl)) ?_
  refine ch rfl (ob_shru (s := 40) (arg_op 6 0 rfl rfl rfl rfl) arg_c rfl (by decide)) ?_
  refine ch rfl (ob_u64byte (arg_op 7 0 rfl rfl rfl rfl) Try.underlying29 Try.underlying5) ?_
  refine ch rfl (ob_move (arg_free 0 rfl rfl)) ?_
  refine ch rfl (ob_shru (s := 32) (arg_op 9 0 rfl rfl rfl rfl) arg_c rfl (by decide)) ?_
  refine ch rfl (ob_u64byte (arg_op 10 0 rfl rfl rfl rfl) Try.underlying29 Try.underlying5) ?_
  refine ch rfl (ob_move (arg_free 0 rfl rfl)) ?_
  refine ch rfl (ob_shru (s := 24) (arg_op 12 0 rfl rfl rfl rfl) arg_c rfl (by decide)) ?_
  refine ch rfl (ob_u64byte (arg_op 13 0 rfl rfl rfl rfl) Try.underlying29 Try.underlying5) ?_
  refine ch rfl (ob_move (arg_free 0 rfl rfl)) ?_
  refine ch rfl (ob_shru (s := 16) (arg_op 15 0 rfl rfl rfl rfl) arg_c rfl (by decide)) ?_
  refine ch rfl (ob_u64byte (arg_op 16 0 rfl rfl rfl rfl) Try.underlying29 Try.underlying5) ?_
  refine ch rfl (ob_move (arg_free 0 rfl rfl)) ?_
  refine ch rfl (ob_shru (s := 8) (arg_op 18 0 rfl rfl rfl rfl) arg_c rfl (by decide)) ?_
  refine ch rfl (ob_u64byte (arg_op 19 0 rfl rfl rfl rfl) Try.underlying29 Try.underlying5) ?_
  refine ch rfl (ob_move (arg_free 0 rfl rfl)) ?_
  refine ch rfl (ob_u64byte (arg_op 21 0 rfl rfl rfl rfl) Try.underlying29 Try.underlying5) ?_
  refine ch rfl (ob_build_nm8 (n := x) (arg_op 2 20 rfl rfl rfl rfl) (arg_op 5 17 rfl rfl rfl rfl) (arg_op 8 14 rfl rfl rfl rfl) (arg_op 11 11 rfl rfl rfl rfl) (arg_op 14 8 rfl rfl rfl rfl) (arg_op 17 5 rfl rfl rfl rfl) (arg_op 20 2 rfl rfl rfl rfl) (arg_op 22 0 rfl rfl rfl rfl) ?_) ?_
  · exact of_cells x
  refine ch_nil ?_
  intro a14 w15 hf16 hg17 hk18 hn19
  have h20 : Holds _ (a14.eval (.tmp 26)) w15 := hn19.at 23 0 rfl rfl rfl
  have hv21 : Holds (Is (PtrV bk10)) (a14.eval (.tmp 2)) w15 := is_any (hk18.holds rfl hv12)
  have hb22 : Blk bk10 _ w15 := hb13.up hg17
  have g23 : Grow w0 w15 := g9.trans hg17
  clear hv12 hb13 g9 hf3 hk18 hn19 hg17
  refine wl_store_nm hv21 hb22 rfl h20 ?_
  intro w24 ho25 hb26
  have g27 : Grow w0 w24 := g23.only ho25 (by omega)
  have hv28 : Holds (Is (PtrV bk10)) (a14.eval (.tmp 2)) w24 := is_any hv21
  refine wpList_nil ?_
  refine then_ ?_
  refine wp_ret ?_
  refine ret_cell rfl Try.underlying23 rfl (by kernel_rfl) hf16 g27 (hb26.ptr hv28) ?_
  exact rfl

set_option maxRecDepth 100000 in
theorem c_Number {x : UInt64} : Con1 31 (Is (nmV x)) (fun _ => Is (u64V x)) := by
  intro lo v0 w0 hlo hv0
  refine enter Try.func31 rfl Try.ntmps31 (by simp) ?_
  intro a0 hf0 ha
  have h00 : Holds _ (a0.eval (.tmp 0)) w0 := arg_holds ha rfl hv0
  clear ha
  have g0 : Grow w0 w0 := Grow.refl _
  refine wp_seq ?_
  refine wp_region_lit ?_
  refine wp_all [([0], []), ([], [])] [] w0.heap.size hf0 g0.size (by kernel_rfl) (bund_cons h00 bund_nil) ?_
  refine ch rfl (ob_box_nm (arg_free 0 rfl rfl)) ?_
  refine ch rfl (ob_assign (arg_cu 0 rfl)) ?_
  refine ch_nil ?_
  intro a1 w2 hf3 hg4 hk5 hn6
  have h7 : Holds _ (a1.eval (.tmp 1)) w2 := hn6.at 0 1 rfl rfl rfl
  have g8 : Grow w0 w2 := g0.trans hg4
  obtain ⟨bk9, hl10, hv11, hb12⟩ := OwnB.blk (lo := w0.heap.size) h7
  clear g0 hf0 hk5 hn6
  refine then_ ?_
  refine wp_seq ?_
  refine wp_region_lit ?_
  refine wp_all [([], [])] [1] w0.heap.size hf3 g8.size (by kernel_rfl) bund_nil ?_
  refine ch rfl (ob_assign (arg_cu 0 rfl)) ?_
  refine ch_nil ?_
  intro a13 w14 hf15 hg16 hk17 hn18
  have h19 : Holds _ (a13.eval (.tmp 3)) w14 := hn18.at 0 0 rfl rfl rfl
  have hv20 : Holds (Is (PtrV bk9)) (a13.eval (.tmp 1)) w14 := is_any (hk17.holds rfl hv11)
  have hb21 : Blk bk9 _ w14 := hb12.up hg16
  have g22 : Grow w0 w14 := g8.trans hg16
  clear hv11 hb12 g8 hf3 hk17 hn18 hg16
  refine then_ ?_
  refine wp_seq ?_
  refine wp_seq ?_
  refine wp_region_lit ?_
  refine wp_all [([1], []), ([], [])] [3] w0.heap.size hf15 g22.size (by kernel_rfl) (bund_cons (hb21.ownp hv20) bund_nil) ?_
  refine ch rfl (ob_load_nm (ArgOK.ownp (arg_free 0 rfl rfl))) ?_
  refine ch rfl (ob_move arg_c) ?_
  refine ch_nil ?_
  intro a23 w24 hf25 hg26 hk27 hn28
  have h29 : Holds _ (a23.eval (.tmp 6)) w24 := hn28.at 0 1 rfl rfl rfl
  have h30 : Holds _ (a23.eval (.tmp 7)) w24 := hn28.at 1 0 rfl rfl rfl
  have h31 : Holds _ (a23.eval (.tmp 3)) w24 := hk27.holds rfl (h19.up hg26)
  have g32 : Grow w0 w24 := g22.trans hg26
  clear h19 g22 hf15 hk27 hn28 hg26
  refine then_ ?_
  refine wp_block ?_
  have g33 : Grow w24 w24 := Grow.refl _
  have hz34 : w0.heap.size ≤ w24.heap.size := g32.size
  refine wp_loopL (α := Nat) (fun k a' w' => Fr 17 a' ∧ (k ≤ 8) ∧ Grow w0 w' ∧ Grow w24 w' ∧ Keep [6] a23 a' ∧ Holds (Is (u64V (numUp x k))) (a'.eval (.tmp 3)) w' ∧ Holds (Is (intV (k : Int))) (a'.eval (.tmp 7)) w') (fun k => 8 - k) (0) ⟨hf25, (by omega), g32, g33, Keep.refl _ _, (is_cast h31 (by rw [numUp_0]; first | done | rfl)), (is_cast h30 (by first | rfl | (refine congrArg intV ?_; omega)))⟩ ?_
  intro k a35 w36 ⟨hf37, hi39, g40, g41, kk38, h42, h43⟩
  have h44 : Holds _ (a35.eval (.tmp 6)) w24 := kk38.holds rfl h29
  refine wp_seq ?_
  refine wp_region_lit ?_
  refine wp_all [([7], [])] [3, 6, 7] w24.heap.size hf37 g41.size (by kernel_rfl) (bund_cons h43 bund_nil) ?_
  refine ch rfl (ob_lss (arg_free 0 rfl rfl) arg_c) ?_
  refine ch_nil ?_
  intro a45 w46 hf47 hg48 hk49 hn50
  have h51 : Holds _ (a45.eval (.tmp 8)) w46 := hn50.at 0 0 rfl rfl rfl
  have h52 : Holds _ (a45.eval (.tmp 3)) w46 := hk49.holds rfl (h42.up hg48)
  have h53 : Holds _ (a45.eval (.tmp 7)) w46 := hk49.holds rfl (h43.up hg48)
  have h54 : Holds _ (a45.eval (.tmp 6)) w24 := hk49.holds rfl h44
  have g55 : Grow w0 w46 := g40.trans hg48
  have g56 : Grow w24 w46 := g41.trans hg48
  have kk57 : Keep _ a23 a45 := kk38.trans hk49 rfl
  clear h42 h43 h44 g40 g41 kk38 hf37 hk49 hn50 hg48
  refine then_ ?_
  refine wp_seq ?_
  refine wp_if h51 ?_ ?_
  · intro hc58
    try simp only [cond_norm] at hc58
    refine wp_skip ?_
    refine then_ ?_
    refine wp_seq ?_
    refine wp_block ?_
    refine wp_seq ?_
    refine wp_region_lit ?_
    refine wp_all [([6, 7], []), ([], [0])] [3, 6, 7] w24.heap.size hf47 g56.size (by kernel_rfl) (bund_cons (is_any h54) (bund_cons h53 bund_nil)) ?_
    refine ch rfl (ob_index_nm (arg_free 0 rfl rfl) (arg_free 1 rfl rfl) (rfl) ?_) ?_
    · omega
    refine ch rfl (ob_assign (arg_op 0 0 rfl rfl rfl rfl)) ?_
    refine ch_nil ?_
    intro a59 w60 hf61 hg62 hk63 hn64
    have h65 : Holds _ (a59.eval (.tmp 5)) w60 := hn64.at 1 0 rfl rfl rfl
    have h66 : Holds _ (a59.eval (.tmp 3)) w60 := hk63.holds rfl (h52.up hg62)
    have h67 : Holds _ (a59.eval (.tmp 7)) w60 := hk63.holds rfl (h53.up hg62)
    have h68 : Holds _ (a59.eval (.tmp 6)) w24 := hk63.holds rfl h54
    have g69 : Grow w0 w60 := g55.trans hg62
    have g70 : Grow w24 w60 := g56.trans hg62
    have kk71 : Keep _ a23 a59 := kk57.trans hk63 rfl
    clear h52 h53 h54 g55 g56 kk57 hf47 hk63 hn64 hg62
    refine then_ ?_
    refine wp_region_lit ?_
    refine wp_all [([3], []), ([], [0]), ([5], []), ([], [2]), ([], [1, 3]), ([], [4])] [6, 7] w24.heap.size hf61 g70.size (by kernel_rfl) (bund_cons h66 (bund_cons h65 bund_nil)) ?_
    refine ch rfl (ob_move (arg_free 0 rfl rfl)) ?_
    refine ch rfl (ob_shlu (s := 8) (arg_op 0 0 rfl rfl rfl rfl) arg_c rfl (by decide)) ?_
    refine ch rfl (ob_move (arg_free 1 rfl rfl)) ?_
    refine ch rfl (ob_byteu64 (arg_op 2 0 rfl rfl rfl rfl) Try.underlying5 Try.underlying29) ?_
    refine ch rfl (ob_oru (arg_op 1 2 rfl rfl rfl rfl) (arg_op 3 0 rfl rfl rfl rfl)) ?_
    refine ch rfl (ob_assign (arg_op 4 0 rfl rfl rfl rfl)) ?_
    refine ch_nil ?_
    intro a72 w73 hf74 hg75 hk76 hn77
    have h78 : Holds _ (a72.eval (.tmp 3)) w73 := hn77.at 5 0 rfl rfl rfl
    have h79 : Holds _ (a72.eval (.tmp 7)) w73 := hk76.holds rfl (h67.up hg75)
    have h80 : Holds _ (a72.eval (.tmp 6)) w24 := hk76.holds rfl h68
    have g81 : Grow w0 w73 := g69.trans hg75
    have g82 : Grow w24 w73 := g70.trans hg75
    have kk83 : Keep _ a23 a72 := kk71.trans hk76 rfl
    clear h67 h68 g69 g70 kk71 hf61 hk76 hn77 hg75
    refine blockN ?_
    refine then_ ?_
    refine wp_region_lit ?_
    refine wp_all [([7], []), ([], [0])] [3, 6] w24.heap.size hf74 g82.size (by kernel_rfl) (bund_cons h79 bund_nil) ?_
    first
      | (refine ch rfl (ob_add' (arg_free 0 rfl rfl) arg_c ?_) ?_; · omega)
      | refine ch rfl (ob_add (arg_free 0 rfl rfl) arg_c) ?_
    refine ch rfl (ob_move (arg_op 0 0 rfl rfl rfl rfl)) ?_
    refine ch_nil ?_
    intro a84 w85 hf86 hg87 hk88 hn89
    have h90 : Holds _ (a84.eval (.tmp 7)) w85 := hn89.at 1 0 rfl rfl rfl
    have h91 : Holds _ (a84.eval (.tmp 3)) w85 := hk88.holds rfl (h78.up hg87)
    have h92 : Holds _ (a84.eval (.tmp 6)) w24 := hk88.holds rfl h80
    have g93 : Grow w0 w85 := g81.trans hg87
    have g94 : Grow w24 w85 := g82.trans hg87
    have kk95 : Keep _ a23 a84 := kk83.trans hk88 rfl
    clear h78 h80 g81 g82 kk83 hf74 hk88 hn89 hg87
    refine then_ ?_
    exact ⟨(k + 1), (by omega), hf86, (by omega), g93, g94, kk95, (is_cast h91 (by rw [numUp_succ x k (by omega)])), (is_cast h90 (by first | rfl | (refine congrArg intV ?_; omega)))⟩
  · intro hc58
    try simp only [cond_norm] at hc58
    refine wp_exit ?_
    refine thenX ?_
    refine thenX ?_
    refine blockX ?_
    refine then_ ?_
    refine wp_seq ?_
    refine wp_region_lit ?_
    refine wp_all [([3], []), ([], [0])] [] w24.heap.size hf47 g56.size (by kernel_rfl) (bund_cons h52 bund_nil) ?_
    refine ch rfl (ob_move (arg_free 0 rfl rfl)) ?_
    refine ch rfl (ob_assign (arg_op 0 0 rfl rfl rfl rfl)) ?_
    refine ch_nil ?_
    intro a96 w97 hf98 hg99 hk100 hn101
    have h102 : Holds _ (a96.eval (.tmp 2)) w97 := hn101.at 1 0 rfl rfl rfl
    have g103 : Grow w0 w97 := g55.trans hg99
    have g104 : Grow w24 w97 := g56.trans hg99
    clear g55 g56 hf47 hk100 hn101 hg99
    refine then_ ?_
    refine wp_ret ?_
    exact ret_tmp rfl hf98 g103 (is_cast h102 (by rw [show k = 8 by omega, numUp_8]))

set_option maxRecDepth 100000 in
theorem c_rNumber {x : UInt64} : Con1 32 (Is (nmV x)) (fun _ => Is (u64V x)) := by
  intro lo v0 w0 hlo hv0
  refine enter Try.func32 rfl Try.ntmps32 (by simp) ?_
  intro a0 hf0 ha
  have h00 : Holds _ (a0.eval (.tmp 0)) w0 := arg_holds ha rfl hv0
  clear ha
  have g0 : Grow w0 w0 := Grow.refl _
  refine wp_seq ?_
  refine wp_region_lit ?_
  refine wp_all [([0], []), ([], [])] [] w0.heap.size hf0 g0.size (by kernel_rfl) (bund_cons h00 bund_nil) ?_
  refine ch rfl (ob_box_nm (arg_free 0 rfl rfl)) ?_
  refine ch rfl (ob_assign (arg_cu 0 rfl)) ?_
  refine ch_nil ?_
  intro a1 w2 hf3 hg4 hk5 hn6
  have h7 : Holds _ (a1.eval (.tmp 1)) w2 := hn6.at 0 1 rfl rfl rfl
  have g8 : Grow w0 w2 := g0.trans hg4
  obtain ⟨bk9, hl10, hv11, hb12⟩ := OwnB.blk (lo := w0.heap.size) h7
  clear g0 hf0 hk5 hn6
  refine then_ ?_
  refine wp_seq ?_
  refine wp_region_lit ?_
  refine wp_all [([], [])] [1] w0.heap.size hf3 g8.size (by kernel_rfl) bund_nil ?_
  refine ch rfl (ob_assign (arg_cu 0 rfl)) ?_
  refine ch_nil ?_
  intro a13 w14 hf15 hg16 hk17 hn18
  have h19 : Holds _ (a13.eval (.tmp 3)) w14 := hn18.at 0 0 rfl rfl rfl
  have hv20 : Holds (Is (PtrV bk9)) (a13.eval (.tmp 1)) w14 := is_any (hk17.holds rfl hv11)
  have hb21 : Blk bk9 _ w14 := hb12.up hg16
  have g22 : Grow w0 w14 := g8.trans hg16
  clear hv11 hb12 g8 hf3 hk17 hn18 hg16
  refine then_ ?_
  refine wp_seq ?_
  refine wp_seq ?_
  refine wp_region_lit ?_
  refine wp_all [([], [])] [1, 3] w0.heap.size hf15 g22.size (by kernel_rfl) bund_nil ?_
  refine ch rfl (ob_assign arg_c) ?_
  refine ch_nil ?_
  intro a23 w24 hf25 hg26 hk27 hn28
  have h29 : Holds _ (a23.eval (.tmp 4)) w24 := hn28.at 0 0 rfl rfl rfl
  have h30 : Holds _ (a23.eval (.tmp 3)) w24 := hk27.holds rfl (h19.up hg26)
  have hv31 : Holds (Is (PtrV bk9)) (a23.eval (.tmp 1)) w24 := is_any (hk27.holds rfl hv20)
  have hb32 : Blk bk9 _ w24 := hb21.up hg26
  have g33 : Grow w0 w24 := g22.trans hg26
  clear h19 hv20 hb21 g22 hf15 hk27 hn28 hg26
  refine then_ ?_
  refine wp_block ?_
  have g34 : Grow w24 w24 := Grow.refl _
  have hl35 : bk9 < w24.heap.size := hb32.lt
  have hz36 : w0.heap.size ≤ w24.heap.size := g33.size
  refine wp_loopL (α := Nat) (fun k a' w' => Fr 17 a' ∧ (k ≤ 8) ∧ Grow w0 w' ∧ Grow w24 w' ∧ Keep [1] a23 a' ∧ Holds (Is (u64V (numUp x k))) (a'.eval (.tmp 3)) w' ∧ Holds (Is (intV (k : Int))) (a'.eval (.tmp 4)) w' ∧ Blk bk9 (_) w') (fun k => 8 - k) (0) ⟨hf25, (by omega), g33, g34, Keep.refl _ _, (is_cast h30 (by rw [numUp_0]; first | done | rfl)), (is_cast h29 (by first | rfl | (refine congrArg intV ?_; omega))), hb32⟩ ?_
  intro k a37 w38 ⟨hf39, hi41, g42, g43, kk40, h44, h45, hb46⟩
  have hv47 : Holds (Is (PtrV bk9)) (a37.eval (.tmp 1)) w38 := is_any (kk40.holds rfl hv31)
  refine wp_seq ?_
  refine wp_seq ?_
  refine wp_region_lit ?_
  refine wp_all [([4], []), ([], [0])] [1, 3, 4] w24.heap.size hf39 g43.size (by kernel_rfl) (bund_cons h45 bund_nil) ?_
  refine ch rfl (ob_move (arg_free 0 rfl rfl)) ?_
  refine ch rfl (ob_lss (arg_op 0 0 rfl rfl rfl rfl) arg_c) ?_
  refine ch_nil ?_
  intro a48 w49 hf50 hg51 hk52 hn53
  have h54 : Holds _ (a48.eval (.tmp 6)) w49 := hn53.at 1 0 rfl rfl rfl
  have h55 : Holds _ (a48.eval (.tmp 3)) w49 := hk52.holds rfl (h44.up hg51)
  have h56 : Holds _ (a48.eval (.tmp 4)) w49 := hk52.holds rfl (h45.up hg51)
  have hv57 : Holds (Is (PtrV bk9)) (a48.eval (.tmp 1)) w49 := is_any (hk52.holds rfl hv47)
  have hb58 : Blk bk9 _ w49 := hb46.up hg51
  have g59 : Grow w0 w49 := g42.trans hg51
  have g60 : Grow w24 w49 := g43.trans hg51
  have kk61 : Keep _ a23 a48 := kk40.trans hk52 rfl
  clear h44 h45 hv47 hb46 g42 g43 kk40 hf39 hk52 hn53 hg51
  refine then_ ?_
  refine wp_if h54 ?_ ?_
  · intro hc62
    try simp only [cond_norm] at hc62
    refine wp_skip ?_
    refine then_ ?_
    refine wp_seq ?_
    refine wp_block ?_
    refine wp_region_lit ?_
    refine wp_all [([3], []), ([], [0]), ([4], []), ([1], [2]), ([], [3]), ([], [4]), ([], [1, 5]), ([], [6])] [1, 4] w24.heap.size hf50 g60.size (by kernel_rfl) (bund_cons h55 (bund_cons h56 (bund_cons (hb58.ownp hv57) bund_nil))) ?_
    refine ch rfl (ob_move (arg_free 0 rfl rfl)) ?_
    refine ch rfl (ob_shlu (s := 8) (arg_op 0 0 rfl rfl rfl rfl) arg_c rfl (by decide)) ?_
    refine ch rfl (ob_move (arg_free 1 rfl rfl)) ?_
    refine ch rfl (ob_ix_nm (ArgOK.ownp (arg_free 2 rfl rfl)) (arg_op 2 0 rfl rfl rfl rfl) (rfl) ?_) ?_
    · omega
    refine ch rfl (ob_load1 (arg_op 3 0 rfl rfl rfl rfl) Try.underlying5 rfl) ?_
    refine ch rfl (ob_byteu64 (arg_op 4 0 rfl rfl rfl rfl) Try.underlying5 Try.underlying29) ?_
    refine ch rfl (ob_oru (arg_op 1 4 rfl rfl rfl rfl) (arg_op 5 0 rfl rfl rfl rfl)) ?_
    refine ch rfl (ob_assign (arg_op 6 0 rfl rfl rfl rfl)) ?_
    refine ch_nil ?_
    intro a63 w64 hf65 hg66 hk67 hn68
    have h69 : Holds _ (a63.eval (.tmp 3)) w64 := hn68.at 7 0 rfl rfl rfl
    have h70 : Holds _ (a63.eval (.tmp 4)) w64 := hk67.holds rfl (h56.up hg66)
    have hv71 : Holds (Is (PtrV bk9)) (a63.eval (.tmp 1)) w64 := is_any (hk67.holds rfl hv57)
    have hb72 : Blk bk9 _ w64 := hb58.up hg66
    have g73 : Grow w0 w64 := g59.trans hg66
    have g74 : Grow w24 w64 := g60.trans hg66
    have kk75 : Keep _ a23 a63 := kk61.trans hk67 rfl
    clear h56 hv57 hb58 g59 g60 kk61 hf50 hk67 hn68 hg66
    refine blockN ?_
    refine then_ ?_
    refine wp_region_lit ?_
    refine wp_all [([4], []), ([], [0]), ([], [1])] [1, 3] w24.heap.size hf65 g74.size (by kernel_rfl) (bund_cons h70 bund_nil) ?_
    refine ch rfl (ob_move (arg_free 0 rfl rfl)) ?_
    first
      | (refine ch rfl (ob_add' (arg_op 0 0 rfl rfl rfl rfl) arg_c ?_) ?_; · omega)
      | refine ch rfl (ob_add (arg_op 0 0 rfl rfl rfl rfl) arg_c) ?_
    refine ch rfl (ob_assign (arg_op 1 0 rfl rfl rfl rfl)) ?_
    refine ch_nil ?_
    intro a76 w77 hf78 hg79 hk80 hn81
    have h82 : Holds _ (a76.eval (.tmp 4)) w77 := hn81.at 2 0 rfl rfl rfl
    have h83 : Holds _ (a76.eval (.tmp 3)) w77 := hk80.holds rfl (h69.up hg79)
    have hv84 : Holds (Is (PtrV bk9)) (a76.eval (.tmp 1)) w77 := is_any (hk80.holds rfl hv71)
    have hb85 : Blk bk9 _ w77 := hb72.up hg79
    have g86 : Grow w0 w77 := g73.trans hg79
    have g87 : Grow w24 w77 := g74.trans hg79
    have kk88 : Keep _ a23 a76 := kk75.trans hk80 rfl
    clear h69 hv71 hb72 g73 g74 kk75 hf65 hk80 hn81 hg79
    refine then_ ?_
    exact ⟨(k + 1), (by omega), hf78, (by omega), g86, g87, kk88, (is_cast h83 (by rw [numUp_succ x k (by omega)])), (is_cast h82 (by first | rfl | (refine congrArg intV ?_; omega))), hb85⟩
  · intro hc62
    try simp only [cond_norm] at hc62
    refine wp_exit ?_
    refine thenX ?_
    refine thenX ?_
    refine blockX ?_
    refine then_ ?_
    refine wp_seq ?_
    refine wp_region_lit ?_
    refine wp_all [([3], []), ([], [0])] [] w24.heap.size hf50 g60.size (by kernel_rfl) (bund_cons h55 bund_nil) ?_
    refine ch rfl (ob_move (arg_free 0 rfl rfl)) ?_
    refine ch rfl (ob_assign (arg_op 0 0 rfl rfl rfl rfl)) ?_
    refine ch_nil ?_
    intro a89 w90 hf91 hg92 hk93 hn94
    have h95 : Holds _ (a89.eval (.tmp 2)) w90 := hn94.at 1 0 rfl rfl rfl
    have g96 : Grow w0 w90 := g59.trans hg92
    have g97 : Grow w24 w90 := g60.trans hg92
    clear g59 g60 hf50 hk93 hn94 hg92
    refine then_ ?_
    refine wp_ret ?_
    exact ret_tmp rfl hf91 g96 (is_cast h95 (by rw [show k = 8 by omega, numUp_8]))

set_option maxRecDepth 100000 in
theorem c_Less {x y : UInt64} : Con2 35 (Is (nmV x)) (Is (nmV y)) (fun _ => Is (.bool (decide (x < y)))) := by
  intro lo v0 v1 w0 hlo hv0 hv1
  refine enter Try.func35 rfl Try.ntmps35 (by simp) ?_
  intro a0 hf0 ha
  have h00 : Holds _ (a0.eval (.tmp 0)) w0 := arg_holds ha rfl hv0
  have h01 : Holds _ (a0.eval (.tmp 1)) w0 := arg_holds ha rfl hv1
  clear ha
  have g0 : Grow w0 w0 := Grow.refl _
  refine wp_seq ?_
  refine wp_region_lit ?_
  refine wp_seg (l1 := [_]) [([0], [])] [1] w0.heap.size hf0 g0.size (by kernel_rfl) (bund_cons h00 bund_nil) ?_
  refine ch rfl (ob_box_nm (arg_free 0 rfl rfl)) ?_
  refine ch_nil ?_
  intro a1 w2 hf3 hg4 hk5 hn6
  have h7 : Holds _ (a1.eval (.tmp 2)) w2 := hn6.at 0 0 rfl rfl rfl
  have h8 : Holds _ (a1.eval (.tmp 1)) w0 := hk5.holds rfl h01
  have g9 : Grow w0 w2 := g0.trans hg4
  obtain ⟨bk10, hl11, hv12, hb13⟩ := OwnB.blk (lo := w0.heap.size) h7
  clear h01 g0 hf0 hk5 hn6
  have g14 : Grow w2 w2 := Grow.refl _
  have hl15 : bk10 < w2.heap.size := hb13.lt
  have hz16 : w0.heap.size ≤ w2.heap.size := g9.size
  refine wp_all [([1], []), ([], [])] [2] w2.heap.size hf3 g14.size (by kernel_rfl) (bund_cons (is_any h8) bund_nil) ?_
  refine ch rfl (ob_box_nm (arg_free 0 rfl rfl)) ?_
  refine ch rfl (ob_assign arg_c) ?_
  refine ch_nil ?_
  intro a17 w18 hf19 hg20 hk21 hn22
  have h23 : Holds _ (a17.eval (.tmp 3)) w18 := hn22.at 0 1 rfl rfl rfl
  have hv24 : Holds (Is (PtrV bk10)) (a17.eval (.tmp 2)) w18 := is_any (hk21.holds rfl hv12)
  have hb25 : Blk bk10 _ w18 := hb13.up hg20
  have g26 : Grow w0 w18 := g9.trans hg20
  have g27 : Grow w2 w18 := g14.trans hg20
  obtain ⟨bk28, hl29, hv30, hb31⟩ := OwnB.blk (lo := w2.heap.size) h23
  clear hv12 hb13 g9 g14 hf3 hk21 hn22
  refine then_ ?_
  refine wp_seq ?_
  refine wp_seq ?_
  refine wp_region_lit ?_
  refine wp_all [([2], []), ([3], []), ([], [0, 1])] [2, 3] w2.heap.size hf19 g27.size (by kernel_rfl) (bund_cons (hb25.ownp hv24) (bund_cons (hb31.ownp hv30) bund_nil)) ?_
  refine ch rfl (ob_load_nm (ArgOK.ownp (arg_free 0 rfl rfl))) ?_
  refine ch rfl (ob_load_nm (ArgOK.ownp (arg_free 1 rfl rfl))) ?_
  refine ch rfl (ob_eqnm (arg_op 0 1 rfl rfl rfl rfl) (arg_op 1 0 rfl rfl rfl rfl)) ?_
  refine ch_nil ?_
  intro a32 w33 hf34 hg35 hk36 hn37
  have h38 : Holds _ (a32.eval (.tmp 7)) w33 := hn37.at 2 0 rfl rfl rfl
  have hv39 : Holds (Is (PtrV bk10)) (a32.eval (.tmp 2)) w33 := is_any (hk36.holds rfl hv24)
  have hb40 : Blk bk10 _ w33 := hb25.up hg35
  have hv41 : Holds (Is (PtrV bk28)) (a32.eval (.tmp 3)) w33 := is_any (hk36.holds rfl hv30)
  have hb42 : Blk bk28 _ w33 := hb31.up hg35
  have g43 : Grow w0 w33 := g26.trans hg35
  have g44 : Grow w2 w33 := g27.trans hg35
  clear hv24 hb25 hv30 hb31 g26 g27 hf19 hk36 hn37 hg35
  refine then_ ?_
  refine wp_if h38 ?_ ?_
  · intro hc45
    try simp only [cond_norm] at hc45
    refine wp_seq ?_
    refine wp_region_lit ?_
    refine wp_all [([], [])] [] w2.heap.size hf34 g44.size (by kernel_rfl) bund_nil ?_
    refine ch rfl (ob_assign arg_c) ?_
    refine ch_nil ?_
    intro a46 w47 hf48 hg49 hk50 hn51
    have h52 : Holds _ (a46.eval (.tmp 4)) w47 := hn51.at 0 0 rfl rfl rfl
    have g53 : Grow w0 w47 := g43.trans hg49
    have g54 : Grow w2 w47 := g44.trans hg49
    clear g43 g44 hf34 hk50 hn51 hg49
    refine then_ ?_
    refine wp_ret ?_
    refine thenR ?_
    exact ret_tmp rfl hf48 g53 (is_cast h52 (by first | exact lt_b x y | exact less_eq (by assumption)))
  · intro hc45
    try simp only [cond_norm] at hc45
    refine wp_skip ?_
    refine then_ ?_
    refine wp_seq ?_
    refine wp_calm [0, 1, 0, 7, 15, 31] [([2], []), ([], [0]), ([3], []), ([], [2]), ([], [1, 3]), ([], [4])] [] w2.heap.size hf34 g44.size (by kernel_rfl) (bund_cons (hb40.ownp hv39) (bund_cons (hb42.ownp hv41) bund_nil)) ?_
    intro ws55 hs56
    refine ch rfl (ob_load_nm (ArgOK.ownp (arg_free 0 rfl rfl))) ?_
    refine ch rfl (ob_call1 (by kernel_rfl) (c_Number) (arg_op 0 0 rfl rfl rfl rfl)) ?_
    refine ch rfl (ob_load_nm (ArgOK.ownp (arg_free 1 rfl rfl))) ?_
    refine ch rfl (ob_call1 (by kernel_rfl) (c_Number) (arg_op 2 0 rfl rfl rfl rfl)) ?_
    refine ch rfl (ob_lss (arg_op 1 2 rfl rfl rfl rfl) (arg_op 3 0 rfl rfl rfl rfl)) ?_
    refine ch rfl (ob_assign (arg_op 4 0 rfl rfl rfl rfl)) ?_
    refine ch_nil ?_
    intro a57 w58 hf59 hg60 hk61 hn62
    have h63 : Holds _ (a57.eval (.tmp 4)) w58 := hn62.at 5 0 rfl rfl rfl
    have g64 : Grow w0 w58 := g43.trans hg60
    have g65 : Grow w2 w58 := g44.trans hg60
    clear g43 g44 hf34 hk61 hn62 hg60
    refine then_ ?_
    refine wp_ret ?_
    exact ret_tmp rfl hf59 g64 (is_cast h63 (by first | exact lt_b x y | exact less_eq (by assumption)))

set_option maxRecDepth 100000 in
theorem c_rLess {x y : UInt64} : Con2 36 (Is (nmV x)) (Is (nmV y)) (fun _ => Is (.bool (decide (x < y)))) := by
  intro lo v0 v1 w0 hlo hv0 hv1
  refine enter Try.func36 rfl Try.ntmps36 (by simp) ?_
  intro a0 hf0 ha
  have h00 : Holds _ (a0.eval (.tmp 0)) w0 := arg_holds ha rfl hv0
  have h01 : Holds _ (a0.eval (.tmp 1)) w0 := arg_holds ha rfl hv1
  clear ha
  have g0 : Grow w0 w0 := Grow.refl _
  refine wp_seq ?_
  refine wp_region_lit ?_
  refine wp_seg (l1 := [_]) [([0], [])] [1] w0.heap.size hf0 g0.size (by kernel_rfl) (bund_cons h00 bund_nil) ?_
  refine ch rfl (ob_box_nm (arg_free 0 rfl rfl)) ?_
  refine ch_nil ?_
  intro a1 w2 hf3 hg4 hk5 hn6
  have h7 : Holds _ (a1.eval (.tmp 2)) w2 := hn6.at 0 0 rfl rfl rfl
  have h8 : Holds _ (a1.eval (.tmp 1)) w0 := hk5.holds rfl h01
  have g9 : Grow w0 w2 := g0.trans hg4
  obtain ⟨bk10, hl11, hv12, hb13⟩ := OwnB.blk (lo := w0.heap.size) h7
  clear h01 g0 hf0 hk5 hn6
  have g14 : Grow w2 w2 := Grow.refl _
  have hl15 : bk10 < w2.heap.size := hb13.lt
  have hz16 : w0.heap.size ≤ w2.heap.size := g9.size
  refine wp_all [([1], []), ([], [])] [2] w2.heap.size hf3 g14.size (by kernel_rfl) (bund_cons (is_any h8) bund_nil) ?_
  refine ch rfl (ob_box_nm (arg_free 0 rfl rfl)) ?_
  refine ch rfl (ob_assign arg_c) ?_
  refine ch_nil ?_
  intro a17 w18 hf19 hg20 hk21 hn22
  have h23 : Holds _ (a17.eval (.tmp 3)) w18 := hn22.at 0 1 rfl rfl rfl
  have hv24 : Holds (Is (PtrV bk10)) (a17.eval (.tmp 2)) w18 := is_any (hk21.holds rfl hv12)
  have hb25 : Blk bk10 _ w18 := hb13.up hg20
  have g26 : Grow w0 w18 := g9.trans hg20
  have g27 : Grow w2 w18 := g14.trans hg20
  obtain ⟨bk28, hl29, hv30, hb31⟩ := OwnB.blk (lo := w2.heap.size) h23
  clear hv12 hb13 g9 g14 hf3 hk21 hn22
  refine then_ ?_
  refine wp_seq ?_
  refine wp_calm [0, 1, 0, 7, 15, 31] [([2], []), ([], [0]), ([3], []), ([], [2]), ([], [1, 3]), ([], [4])] [] w2.heap.size hf19 g27.size (by kernel_rfl) (bund_cons (hb25.ownp hv24) (bund_cons (hb31.ownp hv30) bund_nil)) ?_
  intro ws32 hs33
  refine ch rfl (ob_load_nm (ArgOK.ownp (arg_free 0 rfl rfl))) ?_
  refine ch rfl (ob_call1 (by kernel_rfl) (c_rNumber) (arg_op 0 0 rfl rfl rfl rfl)) ?_
  refine ch rfl (ob_load_nm (ArgOK.ownp (arg_free 1 rfl rfl))) ?_
  refine ch rfl (ob_call1 (by kernel_rfl) (c_rNumber) (arg_op 2 0 rfl rfl rfl rfl)) ?_
  refine ch rfl (ob_lss (arg_op 1 2 rfl rfl rfl rfl) (arg_op 3 0 rfl rfl rfl rfl)) ?_
  refine ch rfl (ob_assign (arg_op 4 0 rfl rfl rfl rfl)) ?_
  refine ch_nil ?_
  intro a34 w35 hf36 hg37 hk38 hn39
  have h40 : Holds _ (a34.eval (.tmp 4)) w35 := hn39.at 5 0 rfl rfl rfl
  have g41 : Grow w0 w35 := g26.trans hg37
  have g42 : Grow w2 w35 := g27.trans hg37
  clear g26 g27 hf19 hk38 hn39 hg37
  refine then_ ?_
  refine wp_ret ?_
  exact ret_tmp rfl hf36 g41 (is_cast h40 (by first | exact lt_b x y | exact less_eq (by assumption)))

set_option maxRecDepth 100000 in
theorem c_awake1  : Con0 34 (fun _ => Is (.bool true)) := by
  intro lo w0 hlo 
  refine enter Try.func34 rfl Try.ntmps34 (by simp) ?_
  intro a0 hf0 ha
  clear ha
  have g0 : Grow w0 w0 := Grow.refl _
  refine wp_seq ?_
  refine wp_region_lit ?_
  refine wp_all [([], [])] [] w0.heap.size hf0 g0.size (by kernel_rfl) bund_nil ?_
  refine ch rfl (ob_assign arg_c) ?_
  refine ch_nil ?_
  intro a1 w2 hf3 hg4 hk5 hn6
  have g7 : Grow w0 w2 := g0.trans hg4
  clear g0 hf0 hk5 hn6
  refine then_ ?_
  refine wp_seq ?_
  refine wp_region_lit ?_
  refine wp_all [([], []), ([], [0]), ([], [1]), ([], [2]), ([], [3]), ([], [3]), ([], [4, 5, 3]), ([], [3, 6]), ([], [7]), ([], [8]), ([], [8]), ([], [9, 10, 8]), ([], [11, 8]), ([], [8, 12]), ([], [13])] [] w0.heap.size hf3 g7.size (by kernel_rfl) bund_nil ?_
  refine ch rfl (ob_call1 (by kernel_rfl) (c_Of) (arg_cu 5 rfl)) ?_
  refine ch rfl (ob_call1 (by kernel_rfl) (c_Number) (arg_op 0 0 rfl rfl rfl rfl)) ?_
  refine ch rfl (ob_eql (arg_op 1 0 rfl rfl rfl rfl) (arg_cu 5 rfl)) ?_
  refine ch rfl (ob_move (arg_op 2 0 rfl rfl rfl rfl)) ?_
  refine chg (b := _) rfl rfl (arg_op 3 0 rfl rfl rfl rfl) (fun hb3 => ob_call1 (by kernel_rfl) (c_Of) (arg_cu 1 rfl)) ?_
  refine chg (b := _) rfl rfl (arg_op 3 1 rfl rfl rfl rfl) (fun hb3 => ob_call1 (by kernel_rfl) (c_Of) (arg_cu 256 rfl)) ?_
  refine chg (b := _) rfl rfl (arg_op 3 2 rfl rfl rfl rfl) (fun hb3 => ob_call2 (by kernel_rfl) (c_Less) (ArgOK.when (arg_op 4 1 rfl rfl rfl rfl) hb3) (ArgOK.when (arg_op 5 0 rfl rfl rfl rfl) hb3)) ?_
  refine ch rfl (ob_and (arg_op 3 3 rfl rfl rfl rfl) (arg_op 6 0 rfl rfl rfl rfl)) ?_
  refine ch rfl (ob_move (arg_op 7 0 rfl rfl rfl rfl)) ?_
  refine chg (b := _) rfl rfl (arg_op 8 0 rfl rfl rfl rfl) (fun hb8 => ob_call1 (by kernel_rfl) (c_Of) (arg_cu 1 rfl)) ?_
  refine chg (b := _) rfl rfl (arg_op 8 1 rfl rfl rfl rfl) (fun hb8 => ob_call1 (by kernel_rfl) (c_Of) (arg_cu 1 rfl)) ?_
  refine chg (b := _) rfl rfl (arg_op 8 2 rfl rfl rfl rfl) (fun hb8 => ob_call2 (by kernel_rfl) (c_Less) (ArgOK.when (arg_op 9 1 rfl rfl rfl rfl) hb8) (ArgOK.when (arg_op 10 0 rfl rfl rfl rfl) hb8)) ?_
  refine chg (b := _) rfl rfl (arg_op 8 3 rfl rfl rfl rfl) (fun hb8 => ob_not (ArgOK.when (arg_op 11 0 rfl rfl rfl rfl) hb8)) ?_
  refine ch rfl (ob_and (arg_op 8 4 rfl rfl rfl rfl) (arg_op 12 0 rfl rfl rfl rfl)) ?_
  refine ch rfl (ob_assign (arg_op 13 0 rfl rfl rfl rfl)) ?_
  refine ch_nil ?_
  intro a8 w9 hf10 hg11 hk12 hn13
  have h14 : Holds _ (a8.eval (.tmp 0)) w9 := hn13.at 14 0 rfl rfl rfl
  have g15 : Grow w0 w9 := g7.trans hg11
  clear g7 hf3 hk12 hn13 hg11
  refine then_ ?_
  refine wp_ret ?_
  exact ret_tmp rfl hf10 g15 (is_cast h14 (congrArg Value.bool (by decide)))

set_option maxRecDepth 100000 in
theorem c_HashNumbers {x v : UInt64} : Con2 5 (Is (nmV x)) (Is (u64V v)) (fun _ => Is (.bool true)) := by
  intro lo v0 v1 w0 hlo hv0 hv1
  refine enter Try.func5 rfl Try.ntmps5 (by simp) ?_
  intro a0 hf0 ha
  have h00 : Holds _ (a0.eval (.tmp 0)) w0 := arg_holds ha rfl hv0
  have h01 : Holds _ (a0.eval (.tmp 1)) w0 := arg_holds ha rfl hv1
  clear ha
  have g0 : Grow w0 w0 := Grow.refl _
  refine wp_seq ?_
  refine wp_region_lit ?_
  refine wp_all [([0], []), ([], [])] [1] w0.heap.size hf0 g0.size (by kernel_rfl) (bund_cons h00 bund_nil) ?_
  refine ch rfl (ob_box_nm (arg_free 0 rfl rfl)) ?_
  refine ch rfl (ob_assign arg_c) ?_
  refine ch_nil ?_
  intro a1 w2 hf3 hg4 hk5 hn6
  have h7 : Holds _ (a1.eval (.tmp 2)) w2 := hn6.at 0 1 rfl rfl rfl
  have h8 : Holds _ (a1.eval (.tmp 1)) w0 := hk5.holds rfl h01
  have g9 : Grow w0 w2 := g0.trans hg4
  obtain ⟨bk10, hl11, hv12, hb13⟩ := OwnB.blk (lo := w0.heap.size) h7
  clear h01 g0 hf0 hk5 hn6
  refine then_ ?_
  refine wp_seq ?_
  refine wp_calm [0, 1, 3, 0, 15, 31, 63, 127, 255, 63, 1023, 2047, 4095, 8191, 16383, 8191, 65535, 131071, 262143, 524287, 1048575, 2097151, 1048575, 8388607, 16777215, 33554431, 67108863, 134217727, 268435455, 536870911] [([2], []), ([], [0]), ([], [1]), ([2], []), ([], [2, 3]), ([], [4]), ([1], [5]), ([], [6, 5]), ([], [7, 5]), ([1], [5]), ([], [8, 9, 5]), ([], [5, 10]), ([], [11]), ([2], [12]), ([], [13, 12]), ([2], [12]), ([], [15, 12]), ([], [14, 16, 12]), ([], [12, 17]), ([], [18]), ([1], [19]), ([], [20, 19]), ([1], [19]), ([], [22, 19]), ([], [21, 23, 19]), ([], [19, 24]), ([], [25]), ([], [26]), ([], [26, 27]), ([], [28])] [] w0.heap.size hf3 g9.size (by kernel_rfl) (bund_cons (hb13.ownp hv12) (bund_cons (is_any h8) bund_nil)) ?_
  intro ws14 hs15
  refine ch rfl (ob_load_nm (ArgOK.ownp (arg_free 0 rfl rfl))) ?_
  refine ch rfl (ob_call1 (by kernel_rfl) (c_Number) (arg_op 0 0 rfl rfl rfl rfl)) ?_
  refine ch rfl (ob_call1 (by kernel_rfl) (c_Of) (arg_op 1 0 rfl rfl rfl rfl)) ?_
  refine ch rfl (ob_load_nm (ArgOK.ownp (arg_free 0 rfl rfl))) ?_
  refine ch rfl (ob_eqnm (arg_op 2 1 rfl rfl rfl rfl) (arg_op 3 0 rfl rfl rfl rfl)) ?_
  refine ch rfl (ob_move (arg_op 4 0 rfl rfl rfl rfl)) ?_
  refine chg (b := _) rfl rfl (arg_op 5 0 rfl rfl rfl rfl) (fun hb5 => ob_move (arg_free 1 rfl rfl)) ?_
  refine chg (b := _) rfl rfl (arg_op 5 1 rfl rfl rfl rfl) (fun hb5 => ob_call1 (by kernel_rfl) (c_Of) (ArgOK.when (arg_op 6 0 rfl rfl rfl rfl) hb5)) ?_
  refine chg (b := _) rfl rfl (arg_op 5 2 rfl rfl rfl rfl) (fun hb5 => ob_call1 (by kernel_rfl) (c_Number) (ArgOK.when (arg_op 7 0 rfl rfl rfl rfl) hb5)) ?_
  refine chg (b := _) rfl rfl (arg_op 5 3 rfl rfl rfl rfl) (fun hb5 => ob_move (arg_free 1 rfl rfl)) ?_
  refine chg (b := _) rfl rfl (arg_op 5 4 rfl rfl rfl rfl) (fun hb5 => ob_eql (ArgOK.when (arg_op 8 1 rfl rfl rfl rfl) hb5) (ArgOK.when (arg_op 9 0 rfl rfl rfl rfl) hb5)) ?_
  refine ch rfl (ob_and (arg_op 5 5 rfl rfl rfl rfl) (arg_op 10 0 rfl rfl rfl rfl)) ?_
  refine ch rfl (ob_move (arg_op 11 0 rfl rfl rfl rfl)) ?_
  refine chg (b := _) rfl rfl (arg_op 12 0 rfl rfl rfl rfl) (fun hb12 => ob_load_nm (ArgOK.ownp (arg_free 0 rfl rfl))) ?_
  refine chg (b := _) rfl rfl (arg_op 12 1 rfl rfl rfl rfl) (fun hb12 => ob_call1 (by kernel_rfl) (c_Number) (ArgOK.when (arg_op 13 0 rfl rfl rfl rfl) hb12)) ?_
  refine chg (b := _) rfl rfl (arg_op 12 2 rfl rfl rfl rfl) (fun hb12 => ob_load_nm (ArgOK.ownp (arg_free 0 rfl rfl))) ?_
  refine chg (b := _) rfl rfl (arg_op 12 3 rfl rfl rfl rfl) (fun hb12 => ob_call1 (by kernel_rfl) (c_rNumber) (ArgOK.when (arg_op 15 0 rfl rfl rfl rfl) hb12)) ?_
  refine chg (b := _) rfl rfl (arg_op 12 4 rfl rfl rfl rfl) (fun hb12 => ob_eql (ArgOK.when (arg_op 14 2 rfl rfl rfl rfl) hb12) (ArgOK.when (arg_op 16 0 rfl rfl rfl rfl) hb12)) ?_
  refine ch rfl (ob_and (arg_op 12 5 rfl rfl rfl rfl) (arg_op 17 0 rfl rfl rfl rfl)) ?_
  refine ch rfl (ob_move (arg_op 18 0 rfl rfl rfl rfl)) ?_
  refine chg (b := _) rfl rfl (arg_op 19 0 rfl rfl rfl rfl) (fun hb19 => ob_move (arg_free 1 rfl rfl)) ?_
  refine chg (b := _) rfl rfl (arg_op 19 1 rfl rfl rfl rfl) (fun hb19 => ob_call1 (by kernel_rfl) (c_Of) (ArgOK.when (arg_op 20 0 rfl rfl rfl rfl) hb19)) ?_
  refine chg (b := _) rfl rfl (arg_op 19 2 rfl rfl rfl rfl) (fun hb19 => ob_move (arg_free 1 rfl rfl)) ?_
  refine chg (b := _) rfl rfl (arg_op 19 3 rfl rfl rfl rfl) (fun hb19 => ob_call1 (by kernel_rfl) (c_rOf) (ArgOK.when (arg_op 22 0 rfl rfl rfl rfl) hb19)) ?_
  refine chg (b := _) rfl rfl (arg_op 19 4 rfl rfl rfl rfl) (fun hb19 => ob_eqnm (ArgOK.when (arg_op 21 2 rfl rfl rfl rfl) hb19) (ArgOK.when (arg_op 23 0 rfl rfl rfl rfl) hb19)) ?_
  refine ch rfl (ob_and (arg_op 19 5 rfl rfl rfl rfl) (arg_op 24 0 rfl rfl rfl rfl)) ?_
  refine ch rfl (ob_move (arg_op 25 0 rfl rfl rfl rfl)) ?_
  refine chg (b := _) rfl rfl (arg_op 26 0 rfl rfl rfl rfl) (fun hb26 => ob_call0 (by kernel_rfl) (c_awake1) ) ?_
  refine ch rfl (ob_and (arg_op 26 1 rfl rfl rfl rfl) (arg_op 27 0 rfl rfl rfl rfl)) ?_
  refine ch rfl (ob_assign (arg_op 28 0 rfl rfl rfl rfl)) ?_
  refine ch_nil ?_
  intro a16 w17 hf18 hg19 hk20 hn21
  have h22 : Holds _ (a16.eval (.tmp 4)) w17 := hn21.at 29 0 rfl rfl rfl
  have g23 : Grow w0 w17 := g9.trans hg19
  clear g9 hf3 hk20 hn21 hg19
  refine then_ ?_
  refine wp_ret ?_
  exact ret_tmp rfl hf18 g23 (is_cast h22 (by simp))

set_option maxRecDepth 100000 in
theorem c_HashOrder {x y z : UInt64} : Con3 6 (Is (nmV x)) (Is (nmV y)) (Is (nmV z)) (fun _ => Is (.bool true)) := by
  intro lo v0 v1 v2 w0 hlo hv0 hv1 hv2
  refine enter Try.func6 rfl Try.ntmps6 (by simp) ?_
  intro a0 hf0 ha
  have h00 : Holds _ (a0.eval (.tmp 0)) w0 := arg_holds ha rfl hv0
  have h01 : Holds _ (a0.eval (.tmp 1)) w0 := arg_holds ha rfl hv1
  have h02 : Holds _ (a0.eval (.tmp 2)) w0 := arg_holds ha rfl hv2
  clear ha
  have g0 : Grow w0 w0 := Grow.refl _
  refine wp_seq ?_
  refine wp_region_lit ?_
  refine wp_seg (l1 := [_]) [([0], [])] [1, 2] w0.heap.size hf0 g0.size (by kernel_rfl) (bund_cons h00 bund_nil) ?_
  refine ch rfl (ob_box_nm (arg_free 0 rfl rfl)) ?_
  refine ch_nil ?_
  intro a1 w2 hf3 hg4 hk5 hn6
  have h7 : Holds _ (a1.eval (.tmp 3)) w2 := hn6.at 0 0 rfl rfl rfl
  have h8 : Holds _ (a1.eval (.tmp 1)) w0 := hk5.holds rfl h01
  have h9 : Holds _ (a1.eval (.tmp 2)) w0 := hk5.holds rfl h02
  have g10 : Grow w0 w2 := g0.trans hg4
  obtain ⟨bk11, hl12, hv13, hb14⟩ := OwnB.blk (lo := w0.heap.size) h7
  clear h01 h02 g0 hf0 hk5 hn6
  have g15 : Grow w2 w2 := Grow.refl _
  have hl16 : bk11 < w2.heap.size := hb14.lt
  have hz17 : w0.heap.size ≤ w2.heap.size := g10.size
  refine wp_seg (l1 := [_]) [([1], [])] [2, 3] w2.heap.size hf3 g15.size (by kernel_rfl) (bund_cons (is_any h8) bund_nil) ?_
  refine ch rfl (ob_box_nm (arg_free 0 rfl rfl)) ?_
  refine ch_nil ?_
  intro a18 w19 hf20 hg21 hk22 hn23
  have h24 : Holds _ (a18.eval (.tmp 4)) w19 := hn23.at 0 0 rfl rfl rfl
  have h25 : Holds _ (a18.eval (.tmp 2)) w0 := hk22.holds rfl h9
  have hv26 : Holds (Is (PtrV bk11)) (a18.eval (.tmp 3)) w19 := is_any (hk22.holds rfl hv13)
  have hb27 : Blk bk11 _ w19 := hb14.up hg21
  have g28 : Grow w0 w19 := g10.trans hg21
  have g29 : Grow w2 w19 := g15.trans hg21
  obtain ⟨bk30, hl31, hv32, hb33⟩ := OwnB.blk (lo := w2.heap.size) h24
  clear h9 hv13 hb14 g10 g15 hf3 hk22 hn23
  have g34 : Grow w19 w19 := Grow.refl _
  have hl35 : bk11 < w19.heap.size := hb27.lt
  have hl36 : bk30 < w19.heap.size := hb33.lt
  have hz37 : w2.heap.size ≤ w19.heap.size := g29.size
  refine wp_all [([2], []), ([], [])] [3, 4] w19.heap.size hf20 g34.size (by kernel_rfl) (bund_cons (is_any h25) bund_nil) ?_
  refine ch rfl (ob_box_nm (arg_free 0 rfl rfl)) ?_
  refine ch rfl (ob_assign arg_c) ?_
  refine ch_nil ?_
  intro a38 w39 hf40 hg41 hk42 hn43
  have h44 : Holds _ (a38.eval (.tmp 5)) w39 := hn43.at 0 1 rfl rfl rfl
  have hv45 : Holds (Is (PtrV bk11)) (a38.eval (.tmp 3)) w39 := is_any (hk42.holds rfl hv26)
  have hb46 : Blk bk11 _ w39 := hb27.up hg41
  have hv47 : Holds (Is (PtrV bk30)) (a38.eval (.tmp 4)) w39 := is_any (hk42.holds rfl hv32)
  have hb48 : Blk bk30 _ w39 := hb33.up hg41
  have g49 : Grow w0 w39 := g28.trans hg41
  have g50 : Grow w2 w39 := g29.trans hg41
  have g51 : Grow w19 w39 := g34.trans hg41
  obtain ⟨bk52, hl53, hv54, hb55⟩ := OwnB.blk (lo := w19.heap.size) h44
  clear hv26 hb27 hv32 hb33 g28 g29 g34 hf20 hk42 hn43
  refine then_ ?_
  refine wp_seq ?_
  refine wp_seq ?_
  refine wp_region_lit ?_
  refine wp_all [([3], []), ([3], []), ([], [0, 1]), ([], [2]), ([3], [3]), ([4], [3]), ([], [4, 5, 3]), ([], [6, 3]), ([4], [7]), ([3], [7]), ([], [8, 9, 7]), ([], [7, 10, 3]), ([], [3, 11]), ([], [12]), ([3], [13]), ([4], [13]), ([], [14, 15, 13]), ([], [16, 13]), ([3], [17]), ([4], [17]), ([], [18, 19, 17]), ([], [20, 17]), ([], [17, 21, 13]), ([], [22, 13]), ([4], [23]), ([3], [23]), ([], [24, 25, 23]), ([], [26, 23]), ([], [23, 27, 13]), ([], [13, 28])] [3, 4, 5] w19.heap.size hf40 g51.size (by kernel_rfl) (bund_cons (hb46.ownp hv45) (bund_cons (hb48.ownp hv47) bund_nil)) ?_
  refine ch rfl (ob_load_nm (ArgOK.ownp (arg_free 0 rfl rfl))) ?_
  refine ch rfl (ob_load_nm (ArgOK.ownp (arg_free 0 rfl rfl))) ?_
  refine ch rfl (ob_call2 (by kernel_rfl) (c_Less) (arg_op 0 1 rfl rfl rfl rfl) (arg_op 1 0 rfl rfl rfl rfl)) ?_
  refine ch rfl (ob_move (arg_op 2 0 rfl rfl rfl rfl)) ?_
  refine chg (b := _) rfl rfl (arg_op 3 0 rfl rfl rfl rfl) (fun hb3 => ob_load_nm (ArgOK.ownp (arg_free 0 rfl rfl))) ?_
  refine chg (b := _) rfl rfl (arg_op 3 1 rfl rfl rfl rfl) (fun hb3 => ob_load_nm (ArgOK.ownp (arg_free 1 rfl rfl))) ?_
  refine chg (b := _) rfl rfl (arg_op 3 2 rfl rfl rfl rfl) (fun hb3 => ob_call2 (by kernel_rfl) (c_Less) (ArgOK.when (arg_op 4 1 rfl rfl rfl rfl) hb3) (ArgOK.when (arg_op 5 0 rfl rfl rfl rfl) hb3)) ?_
  refine chg (b := _) rfl rfl (arg_op 3 3 rfl rfl rfl rfl) (fun hb3 => ob_move (ArgOK.when (arg_op 6 0 rfl rfl rfl rfl) hb3)) ?_
  refine chgn (b := _) rfl rfl (arg_op 7 0 rfl rfl rfl rfl) (fun ⟨hb3, hb7⟩ => ob_load_nm (ArgOK.ownp (arg_free 1 rfl rfl))) ?_
  refine chgn (b := _) rfl rfl (arg_op 7 1 rfl rfl rfl rfl) (fun ⟨hb3, hb7⟩ => ob_load_nm (ArgOK.ownp (arg_free 0 rfl rfl))) ?_
  refine chgn (b := _) rfl rfl (arg_op 7 2 rfl rfl rfl rfl) (fun ⟨hb3, hb7⟩ => ob_call2 (by kernel_rfl) (c_Less) (ArgOK.when (arg_op 8 1 rfl rfl rfl rfl) ⟨hb3, hb7⟩) (ArgOK.when (arg_op 9 0 rfl rfl rfl rfl) ⟨hb3, hb7⟩)) ?_
  refine chg (b := _) rfl rfl (arg_op 3 7 rfl rfl rfl rfl) (fun hb3 => ob_and (ArgOK.when (arg_op 7 3 rfl rfl rfl rfl) hb3) (ArgOK.whenAnd (arg_op 10 0 rfl rfl rfl rfl) hb3)) ?_
  refine ch rfl (ob_or (arg_op 3 8 rfl rfl rfl rfl) (arg_op 11 0 rfl rfl rfl rfl)) ?_
  refine ch rfl (ob_move (arg_op 12 0 rfl rfl rfl rfl)) ?_
  refine chg (b := _) rfl rfl (arg_op 13 0 rfl rfl rfl rfl) (fun hb13 => ob_load_nm (ArgOK.ownp (arg_free 0 rfl rfl))) ?_
  refine chg (b := _) rfl rfl (arg_op 13 1 rfl rfl rfl rfl) (fun hb13 => ob_load_nm (ArgOK.ownp (arg_free 1 rfl rfl))) ?_
  refine chg (b := _) rfl rfl (arg_op 13 2 rfl rfl rfl rfl) (fun hb13 => ob_neqnm (ArgOK.when (arg_op 14 1 rfl rfl rfl rfl) hb13) (ArgOK.when (arg_op 15 0 rfl rfl rfl rfl) hb13)) ?_
  refine chg (b := _) rfl rfl (arg_op 13 3 rfl rfl rfl rfl) (fun hb13 => ob_move (ArgOK.when (arg_op 16 0 rfl rfl rfl rfl) hb13)) ?_
  refine chgn (b := _) rfl rfl (arg_op 17 0 rfl rfl rfl rfl) (fun ⟨hb13, hb17⟩ => ob_load_nm (ArgOK.ownp (arg_free 0 rfl rfl))) ?_
  refine chgn (b := _) rfl rfl (arg_op 17 1 rfl rfl rfl rfl) (fun ⟨hb13, hb17⟩ => ob_load_nm (ArgOK.ownp (arg_free 1 rfl rfl))) ?_
  refine chgn (b := _) rfl rfl (arg_op 17 2 rfl rfl rfl rfl) (fun ⟨hb13, hb17⟩ => ob_call2 (by kernel_rfl) (c_Less) (ArgOK.when (arg_op 18 1 rfl rfl rfl rfl) ⟨hb13, hb17⟩) (ArgOK.when (arg_op 19 0 rfl rfl rfl rfl) ⟨hb13, hb17⟩)) ?_
  refine chgn (b := _) rfl rfl (arg_op 17 3 rfl rfl rfl rfl) (fun ⟨hb13, hb17⟩ => ob_not (ArgOK.when (arg_op 20 0 rfl rfl rfl rfl) ⟨hb13, hb17⟩)) ?_
  refine chg (b := _) rfl rfl (arg_op 13 8 rfl rfl rfl rfl) (fun hb13 => ob_and (ArgOK.when (arg_op 17 4 rfl rfl rfl rfl) hb13) (ArgOK.whenAnd (arg_op 21 0 rfl rfl rfl rfl) hb13)) ?_
  refine chg (b := _) rfl rfl (arg_op 13 9 rfl rfl rfl rfl) (fun hb13 => ob_move (ArgOK.when (arg_op 22 0 rfl rfl rfl rfl) hb13)) ?_
  refine chgn (b := _) rfl rfl (arg_op 23 0 rfl rfl rfl rfl) (fun ⟨hb13, hb23⟩ => ob_load_nm (ArgOK.ownp (arg_free 1 rfl rfl))) ?_
  refine chgn (b := _) rfl rfl (arg_op 23 1 rfl rfl rfl rfl) (fun ⟨hb13, hb23⟩ => ob_load_nm (ArgOK.ownp (arg_free 0 rfl rfl))) ?_
  refine chgn (b := _) rfl rfl (arg_op 23 2 rfl rfl rfl rfl) (fun ⟨hb13, hb23⟩ => ob_call2 (by kernel_rfl) (c_Less) (ArgOK.when (arg_op 24 1 rfl rfl rfl rfl) ⟨hb13, hb23⟩) (ArgOK.when (arg_op 25 0 rfl rfl rfl rfl) ⟨hb13, hb23⟩)) ?_
  refine chgn (b := _) rfl rfl (arg_op 23 3 rfl rfl rfl rfl) (fun ⟨hb13, hb23⟩ => ob_not (ArgOK.when (arg_op 26 0 rfl rfl rfl rfl) ⟨hb13, hb23⟩)) ?_
  refine chg (b := _) rfl rfl (arg_op 13 14 rfl rfl rfl rfl) (fun hb13 => ob_and (ArgOK.when (arg_op 23 4 rfl rfl rfl rfl) hb13) (ArgOK.whenAnd (arg_op 27 0 rfl rfl rfl rfl) hb13)) ?_
  refine ch rfl (ob_or (arg_op 13 15 rfl rfl rfl rfl) (arg_op 28 0 rfl rfl rfl rfl)) ?_
  refine ch_nil ?_
  intro a56 w57 hf58 hg59 hk60 hn61
  have h62 : Holds _ (a56.eval (.tmp 36)) w57 := hn61.at 29 0 rfl rfl rfl
  have hv63 : Holds (Is (PtrV bk11)) (a56.eval (.tmp 3)) w57 := is_any (hk60.holds rfl hv45)
  have hb64 : Blk bk11 _ w57 := hb46.up hg59
  have hv65 : Holds (Is (PtrV bk30)) (a56.eval (.tmp 4)) w57 := is_any (hk60.holds rfl hv47)
  have hb66 : Blk bk30 _ w57 := hb48.up hg59
  have hv67 : Holds (Is (PtrV bk52)) (a56.eval (.tmp 5)) w57 := is_any (hk60.holds rfl hv54)
  have hb68 : Blk bk52 _ w57 := hb55.up hg59
  have g69 : Grow w0 w57 := g49.trans hg59
  have g70 : Grow w2 w57 := g50.trans hg59
  have g71 : Grow w19 w57 := g51.trans hg59
  clear hv45 hb46 hv47 hb48 hv54 hb55 g49 g50 g51 hf40 hk60 hn61 hg59
  refine then_ ?_
  refine wp_if h62 ?_ ?_
  · intro hc72
    try simp only [cond_norm] at hc72
    exact absurd hc72 (fun h => ord1 h)
  · intro hc72
    try simp only [cond_norm] at hc72
    refine wp_skip ?_
    refine then_ ?_
    refine wp_seq ?_
    refine wp_seq ?_
    refine wp_region_lit ?_
    refine wp_all [([3], []), ([4], []), ([], [0, 1]), ([], [2]), ([4], [3]), ([5], [3]), ([], [4, 5, 3]), ([], [3, 6]), ([], [7]), ([3], [8]), ([5], [8]), ([], [9, 10, 8]), ([], [11, 8]), ([], [8, 12])] [3, 4] w19.heap.size hf58 g71.size (by kernel_rfl) (bund_cons (hb64.ownp hv63) (bund_cons (hb66.ownp hv65) (bund_cons (hb68.ownp hv67) bund_nil))) ?_
    refine ch rfl (ob_load_nm (ArgOK.ownp (arg_free 0 rfl rfl))) ?_
    refine ch rfl (ob_load_nm (ArgOK.ownp (arg_free 1 rfl rfl))) ?_
    refine ch rfl (ob_call2 (by kernel_rfl) (c_Less) (arg_op 0 1 rfl rfl rfl rfl) (arg_op 1 0 rfl rfl rfl rfl)) ?_
    refine ch rfl (ob_move (arg_op 2 0 rfl rfl rfl rfl)) ?_
    refine chg (b := _) rfl rfl (arg_op 3 0 rfl rfl rfl rfl) (fun hb3 => ob_load_nm (ArgOK.ownp (arg_free 1 rfl rfl))) ?_
    refine chg (b := _) rfl rfl (arg_op 3 1 rfl rfl rfl rfl) (fun hb3 => ob_load_nm (ArgOK.ownp (arg_free 2 rfl rfl))) ?_
    refine chg (b := _) rfl rfl (arg_op 3 2 rfl rfl rfl rfl) (fun hb3 => ob_call2 (by kernel_rfl) (c_Less) (ArgOK.when (arg_op 4 1 rfl rfl rfl rfl) hb3) (ArgOK.when (arg_op 5 0 rfl rfl rfl rfl) hb3)) ?_
    refine ch rfl (ob_and (arg_op 3 3 rfl rfl rfl rfl) (arg_op 6 0 rfl rfl rfl rfl)) ?_
    refine ch rfl (ob_move (arg_op 7 0 rfl rfl rfl rfl)) ?_
    refine chg (b := _) rfl rfl (arg_op 8 0 rfl rfl rfl rfl) (fun hb8 => ob_load_nm (ArgOK.ownp (arg_free 0 rfl rfl))) ?_
    refine chg (b := _) rfl rfl (arg_op 8 1 rfl rfl rfl rfl) (fun hb8 => ob_load_nm (ArgOK.ownp (arg_free 2 rfl rfl))) ?_
    refine chg (b := _) rfl rfl (arg_op 8 2 rfl rfl rfl rfl) (fun hb8 => ob_call2 (by kernel_rfl) (c_Less) (ArgOK.when (arg_op 9 1 rfl rfl rfl rfl) hb8) (ArgOK.when (arg_op 10 0 rfl rfl rfl rfl) hb8)) ?_
    refine chg (b := _) rfl rfl (arg_op 8 3 rfl rfl rfl rfl) (fun hb8 => ob_not (ArgOK.when (arg_op 11 0 rfl rfl rfl rfl) hb8)) ?_
    refine ch rfl (ob_and (arg_op 8 4 rfl rfl rfl rfl) (arg_op 12 0 rfl rfl rfl rfl)) ?_
    refine ch_nil ?_
    intro a73 w74 hf75 hg76 hk77 hn78
    have h79 : Holds _ (a73.eval (.tmp 50)) w74 := hn78.at 13 0 rfl rfl rfl
    have hv80 : Holds (Is (PtrV bk11)) (a73.eval (.tmp 3)) w74 := is_any (hk77.holds rfl hv63)
    have hb81 : Blk bk11 _ w74 := hb64.up hg76
    have hv82 : Holds (Is (PtrV bk30)) (a73.eval (.tmp 4)) w74 := is_any (hk77.holds rfl hv65)
    have hb83 : Blk bk30 _ w74 := hb66.up hg76
    have g84 : Grow w0 w74 := g69.trans hg76
    have g85 : Grow w2 w74 := g70.trans hg76
    have g86 : Grow w19 w74 := g71.trans hg76
    clear hv63 hb64 hv65 hb66 g69 g70 g71 hf58 hk77 hn78 hg76
    refine then_ ?_
    refine wp_if h79 ?_ ?_
    · intro hc87
      try simp only [cond_norm] at hc87
      exact absurd hc87 (fun h => ord2 h)
    · intro hc87
      try simp only [cond_norm] at hc87
      refine wp_skip ?_
      refine then_ ?_
      refine wp_seq ?_
      refine wp_calm [0, 0, 3, 0, 0, 31, 63, 127, 255, 511, 1023] [([3], []), ([4], []), ([], [0, 1]), ([3], []), ([4], []), ([], [3, 4]), ([], [2, 5]), ([], [6]), ([], [7]), ([], [7, 8]), ([], [9])] [] w19.heap.size hf75 g86.size (by kernel_rfl) (bund_cons (hb81.ownp hv80) (bund_cons (hb83.ownp hv82) bund_nil)) ?_
      intro ws88 hs89
      refine ch rfl (ob_load_nm (ArgOK.ownp (arg_free 0 rfl rfl))) ?_
      refine ch rfl (ob_load_nm (ArgOK.ownp (arg_free 1 rfl rfl))) ?_
      refine ch rfl (ob_call2 (by kernel_rfl) (c_Less) (arg_op 0 1 rfl rfl rfl rfl) (arg_op 1 0 rfl rfl rfl rfl)) ?_
      refine ch rfl (ob_load_nm (ArgOK.ownp (arg_free 0 rfl rfl))) ?_
      refine ch rfl (ob_load_nm (ArgOK.ownp (arg_free 1 rfl rfl))) ?_
      refine ch rfl (ob_call2 (by kernel_rfl) (c_rLess) (arg_op 3 1 rfl rfl rfl rfl) (arg_op 4 0 rfl rfl rfl rfl)) ?_
      refine ch rfl (ob_eqbool (arg_op 2 3 rfl rfl rfl rfl) (arg_op 5 0 rfl rfl rfl rfl) Try.underlying4) ?_
      refine ch rfl (ob_move (arg_op 6 0 rfl rfl rfl rfl)) ?_
      refine chg (b := _) rfl rfl (arg_op 7 0 rfl rfl rfl rfl) (fun hb7 => ob_call0 (by kernel_rfl) (c_awake1) ) ?_
      refine ch rfl (ob_and (arg_op 7 1 rfl rfl rfl rfl) (arg_op 8 0 rfl rfl rfl rfl)) ?_
      refine ch rfl (ob_assign (arg_op 9 0 rfl rfl rfl rfl)) ?_
      refine ch_nil ?_
      intro a90 w91 hf92 hg93 hk94 hn95
      have h96 : Holds _ (a90.eval (.tmp 6)) w91 := hn95.at 10 0 rfl rfl rfl
      have g97 : Grow w0 w91 := g84.trans hg93
      have g98 : Grow w2 w91 := g85.trans hg93
      have g99 : Grow w19 w91 := g86.trans hg93
      clear g84 g85 g86 hf75 hk94 hn95 hg93
      refine then_ ?_
      refine wp_ret ?_
      exact ret_tmp rfl hf92 g97 (is_cast h96 (by simp))

set_option maxRecDepth 100000 in
theorem c_HashBytes {x y : UInt64} : Con2 7 (Is (nmV x)) (Is (nmV y)) (fun _ => Is (.bool true)) := by
  intro lo v0 v1 w0 hlo hv0 hv1
  refine enter Try.func7 rfl Try.ntmps7 (by simp) ?_
  intro a0 hf0 ha
  have h00 : Holds _ (a0.eval (.tmp 0)) w0 := arg_holds ha rfl hv0
  have h01 : Holds _ (a0.eval (.tmp 1)) w0 := arg_holds ha rfl hv1
  clear ha
  have g0 : Grow w0 w0 := Grow.refl _
  refine wp_seq ?_
  refine wp_region_lit ?_
  refine wp_seg (l1 := [_]) [([0], [])] [1] w0.heap.size hf0 g0.size (by kernel_rfl) (bund_cons h00 bund_nil) ?_
  refine ch rfl (ob_box_nm (arg_free 0 rfl rfl)) ?_
  refine ch_nil ?_
  intro a1 w2 hf3 hg4 hk5 hn6
  have h7 : Holds _ (a1.eval (.tmp 2)) w2 := hn6.at 0 0 rfl rfl rfl
  have h8 : Holds _ (a1.eval (.tmp 1)) w0 := hk5.holds rfl h01
  have g9 : Grow w0 w2 := g0.trans hg4
  obtain ⟨bk10, hl11, hv12, hb13⟩ := OwnB.blk (lo := w0.heap.size) h7
  clear h01 g0 hf0 hk5 hn6
  have g14 : Grow w2 w2 := Grow.refl _
  have hl15 : bk10 < w2.heap.size := hb13.lt
  have hz16 : w0.heap.size ≤ w2.heap.size := g9.size
  refine wp_all [([1], []), ([], [])] [2] w2.heap.size hf3 g14.size (by kernel_rfl) (bund_cons (is_any h8) bund_nil) ?_
  refine ch rfl (ob_box_nm (arg_free 0 rfl rfl)) ?_
  refine ch rfl (ob_assign arg_c) ?_
  refine ch_nil ?_
  intro a17 w18 hf19 hg20 hk21 hn22
  have h23 : Holds _ (a17.eval (.tmp 3)) w18 := hn22.at 0 1 rfl rfl rfl
  have hv24 : Holds (Is (PtrV bk10)) (a17.eval (.tmp 2)) w18 := is_any (hk21.holds rfl hv12)
  have hb25 : Blk bk10 _ w18 := hb13.up hg20
  have g26 : Grow w0 w18 := g9.trans hg20
  have g27 : Grow w2 w18 := g14.trans hg20
  obtain ⟨bk28, hl29, hv30, hb31⟩ := OwnB.blk (lo := w2.heap.size) h23
  clear hv12 hb13 g9 g14 hf3 hk21 hn22
  refine then_ ?_
  refine wp_seq ?_
  refine wp_calm [0, 0, 3, 0, 8, 0, 32, 120, 255, 511, 1023, 2047, 4095] [([2], []), ([3], []), ([], [0, 1]), ([2], []), ([], [3]), ([3], []), ([], [5]), ([], [4, 6]), ([], [2, 7]), ([], [8]), ([], [9]), ([], [9, 10]), ([], [11])] [] w2.heap.size hf19 g27.size (by kernel_rfl) (bund_cons (hb25.ownp hv24) (bund_cons (hb31.ownp hv30) bund_nil)) ?_
  intro ws32 hs33
  refine ch rfl (ob_load_nm (ArgOK.ownp (arg_free 0 rfl rfl))) ?_
  refine ch rfl (ob_load_nm (ArgOK.ownp (arg_free 1 rfl rfl))) ?_
  refine ch rfl (ob_call2 (by kernel_rfl) (c_Less) (arg_op 0 1 rfl rfl rfl rfl) (arg_op 1 0 rfl rfl rfl rfl)) ?_
  refine ch rfl (ob_slice_nm (ArgOK.ownp (arg_free 0 rfl rfl))) ?_
  refine ch rfl (ob_b2s (arg_op 3 0 rfl rfl rfl rfl) Try.underlying34 Try.underlying9) ?_
  refine ch rfl (ob_slice_nm (ArgOK.ownp (arg_free 1 rfl rfl))) ?_
  refine ch rfl (ob_b2s (arg_op 5 0 rfl rfl rfl rfl) Try.underlying34 Try.underlying9) ?_
  refine ch rfl (ob_lss_str (arg_op 4 2 rfl rfl rfl rfl) (arg_op 6 0 rfl rfl rfl rfl)) ?_
  refine ch rfl (ob_eqbool (arg_op 2 5 rfl rfl rfl rfl) (arg_op 7 0 rfl rfl rfl rfl) Try.underlying4) ?_
  refine ch rfl (ob_move (arg_op 8 0 rfl rfl rfl rfl)) ?_
  refine chg (b := _) rfl rfl (arg_op 9 0 rfl rfl rfl rfl) (fun hb9 => ob_call0 (by kernel_rfl) (c_awake1) ) ?_
  refine ch rfl (ob_and (arg_op 9 1 rfl rfl rfl rfl) (arg_op 10 0 rfl rfl rfl rfl)) ?_
  refine ch rfl (ob_assign (arg_op 11 0 rfl rfl rfl rfl)) ?_
  refine ch_nil ?_
  intro a34 w35 hf36 hg37 hk38 hn39
  have h40 : Holds _ (a34.eval (.tmp 4)) w35 := hn39.at 12 0 rfl rfl rfl
  have g41 : Grow w0 w35 := g26.trans hg37
  have g42 : Grow w2 w35 := g27.trans hg37
  clear g26 g27 hf19 hk38 hn39 hg37
  refine then_ ?_
  refine wp_ret ?_
  exact ret_tmp rfl hf36 g41 (is_cast h40 (by simp [less_bytes]))


end Ex
end Go.Proofs.Ytnmfiiejhoafnaa
