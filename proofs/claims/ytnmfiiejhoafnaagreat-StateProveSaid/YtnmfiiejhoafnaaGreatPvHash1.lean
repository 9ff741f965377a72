/- Names as numbers: Number, Of, Less of the program and of the reference. -/
import Derived.Test.YtnmfiiejhoafnaaGreatPvHsh
set_option linter.unusedSimpArgs false
set_option linter.unusedVariables false
namespace Go.Proofs.YtnmfiiejhoafnaaGreat
namespace Ex
open Go Calm Go.RowKit
def numUp (n : UInt64) (k : Nat) : UInt64 := UInt64.ofNat (n.toNat / 2 ^ (64 - 8 * k))
theorem numUp_0 (n : UInt64) : numUp n 0 = 0 := by
  apply UInt64.toNat_inj.1
  unfold numUp
  have := n.toNat_lt
  simp
  omega
theorem numUp_8 (n : UInt64) : numUp n 8 = n := by
  apply UInt64.toNat_inj.1
  unfold numUp
  simp
theorem numUp_succ (n : UInt64) (k : Nat) (h : k < 8) : (numUp n k <<< UInt64.ofNat 8) ||| (nb n k).toUInt64 = numUp n (k + 1) := by
  apply UInt64.toNat_inj.1
  have hn := n.toNat_lt
  unfold numUp nb
  rw [UInt64.toNat_or, UInt64.toNat_shiftLeft, UInt8.toNat_toUInt64]
  simp only [UInt64.toNat_ofNat', UInt8.toNat_ofNat', Nat.reducePow, Nat.reduceMod]
  generalize hx : n.toNat = x at hn
  have e1 : x / 2 ^ (64 - 8 * k) < 2 ^ 56 ∧ x / 2 ^ (64 - 8 * (k + 1)) < 18446744073709551616 ∧ x / 2 ^ (64 - 8 * (k + 1)) = x / 2 ^ (64 - 8 * k) * 256 + x / 2 ^ (56 - 8 * k) % 256 := by
    match k, h with
    | 0, _ => simp only [Nat.reduceMul, Nat.reduceSub, Nat.reducePow, Nat.reduceAdd]; omega
    | 1, _ => simp only [Nat.reduceMul, Nat.reduceSub, Nat.reducePow, Nat.reduceAdd]; omega
    | 2, _ => simp only [Nat.reduceMul, Nat.reduceSub, Nat.reducePow, Nat.reduceAdd]; omega
    | 3, _ => simp only [Nat.reduceMul, Nat.reduceSub, Nat.reducePow, Nat.reduceAdd]; omega
    | 4, _ => simp only [Nat.reduceMul, Nat.reduceSub, Nat.reducePow, Nat.reduceAdd]; omega
    | 5, _ => simp only [Nat.reduceMul, Nat.reduceSub, Nat.reducePow, Nat.reduceAdd]; omega
    | 6, _ => simp only [Nat.reduceMul, Nat.reduceSub, Nat.reducePow, Nat.reduceAdd]; omega
    | 7, _ => simp only [Nat.reduceMul, Nat.reduceSub, Nat.reducePow, Nat.reduceAdd]; omega
  obtain ⟨h1, h2, h3⟩ := e1
  generalize x / 2 ^ (64 - 8 * (k + 1)) = r at *
  generalize x / 2 ^ (64 - 8 * k) = q at *
  have hb : x / 2 ^ (56 - 8 * k) % 256 < 256 := Nat.mod_lt _ (by decide)
  generalize x / 2 ^ (56 - 8 * k) % 256 = b at *
  subst h3
  rw [Nat.mod_eq_of_lt (show q < 18446744073709551616 by omega), Nat.mod_eq_of_lt h2]
  have e2 : (q <<< 8) % 18446744073709551616 = q <<< 8 := by rw [Nat.shiftLeft_eq]; omega
  rw [e2, ← Nat.shiftLeft_add_eq_or_of_lt (show b < 2 ^ 8 by omega), Nat.shiftLeft_eq]
set_option maxRecDepth 100000 in
theorem c_Of {x : UInt64} : Con1 121 (Is (u64V x)) (fun _ => Is (nmV x)) := by
  intro lo v0 w0 hlo hv0
  refine enter Tryz.func121 rfl Tryz.ntmps121 (by simp) ?_
  intro a0 hf0 ha
  have h00 : Holds _ (a0.eval (.tmp 0)) w0 := arg_holds ha rfl hv0
  clear ha
  have g0 : Grow w0 w0 := Grow.refl _
  refine wp_seq ?_
  refine wp_region_lit ?_
  refine wp_all [([], [])] [0] w0.heap.size hf0 g0.size (by kernel_rfl) bund_nil ?_
  refine ch rfl (ob_alloc_nm) ?_
  refine ch_nil ?_
  intro a1 w2 hf3 hg4 hk5 hn6
  have h7 : Holds _ (a1.eval (.tmp 2)) w2 := hn6.at 0 0 rfl rfl rfl
  have h8 := hk5.holds rfl h00
  have g9 := g0.trans hg4
  obtain ⟨bk10, hl11, hv12, hb13⟩ := OwnB.blk (lo := w0.heap.size) h7
  clear h00 g0 hf0 hk5 hn6
  refine then_ ?_
  refine wp_seq ?_
  refine wp_region_lit ?_
  refine wp_seg (l1 := [_, _, _, _, _, _, _, _, _, _, _, _, _, _, _, _, _, _, _, _, _, _, _, _]) [([0], []), ([], [0]), ([], [1]), ([0], []), ([], [3]), ([], [4]), ([0], []), ([], [6]), ([], [7]), ([0], []), ([], [9]), ([], [10]), ([0], []), ([], [12]), ([], [13]), ([0], []), ([], [15]), ([], [16]), ([0], []), ([], [18]), ([], [19]), ([0], []), ([], [21]), ([], [2, 5, 8, 11, 14, 17, 20, 22])] [2] w0.heap.size hf3 g9.size (by kernel_rfl) (bund_cons (is_any h8) bund_nil) ?_
  refine ch rfl (ob_move (arg_free 0 rfl rfl)) ?_
  refine ch rfl (ob_shru (s := 56) (arg_op 0 0 rfl rfl rfl rfl) arg_c rfl (by decide)) ?_
  refine ch rfl (ob_u64byte (arg_op 1 0 rfl rfl rfl rfl) Tryz.underlying102 Tryz.underlying5) ?_
  refine ch rfl (ob_move (arg_free 0 rfl rfl)) ?_
  refine ch rfl (ob_shru (s := 48) (arg_op 3 0 rfl rfl rfl rfl) arg_c rfl (by decide)) ?_
  refine ch rfl (ob_u64byte (arg_op 4 0 rfl rfl rfl rfl) Tryz.underlying102 Tryz.underlying5) ?_
  refine ch rfl (ob_move (arg_free 0 rfl rfl)) ?_
  refine ch rfl (ob_shru (s := 40) (arg_op 6 0 rfl rfl rfl rfl) arg_c rfl (by decide)) ?_
  refine ch rfl (ob_u64byte (arg_op 7 0 rfl rfl rfl rfl) Tryz.underlying102 Tryz.underlying5) ?_
  refine ch rfl (ob_move (arg_free 0 rfl rfl)) ?_
  refine ch rfl (ob_shru (s := 32) (arg_op 9 0 rfl rfl rfl rfl) arg_c rfl (by decide)) ?_
  refine ch rfl (ob_u64byte (arg_op 10 0 rfl rfl rfl rfl) Tryz.underlying102 Tryz.underlying5) ?_
  refine ch rfl (ob_move (arg_free 0 rfl rfl)) ?_
  refine ch rfl (ob_shru (s := 24) (arg_op 12 0 rfl rfl rfl rfl) arg_c rfl (by decide)) ?_
  refine ch rfl (ob_u64byte (arg_op 13 0 rfl rfl rfl rfl) Tryz.underlying102 Tryz.underlying5) ?_
  refine ch rfl (ob_move (arg_free 0 rfl rfl)) ?_
  refine ch rfl (ob_shru (s := 16) (arg_op 15 0 rfl rfl rfl rfl) arg_c rfl (by decide)) ?_
  refine ch rfl (ob_u64byte (arg_op 16 0 rfl rfl rfl rfl) Tryz.underlying102 Tryz.underlying5) ?_
  refine ch rfl (ob_move (arg_free 0 rfl rfl)) ?_
  refine ch rfl (ob_shru (s := 8) (arg_op 18 0 rfl rfl rfl rfl) arg_c rfl (by decide)) ?_
  refine ch rfl (ob_u64byte (arg_op 19 0 rfl rfl rfl rfl) Tryz.underlying102 Tryz.underlying5) ?_
  refine ch rfl (ob_move (arg_free 0 rfl rfl)) ?_
  refine ch rfl (ob_u64byte (arg_op 21 0 rfl rfl rfl rfl) Tryz.underlying102 Tryz.underlying5) ?_
  refine ch rfl (ob_build_nm8 (n := x) (arg_op 2 20 rfl rfl rfl rfl) (arg_op 5 17 rfl rfl rfl rfl) (arg_op 8 14 rfl rfl rfl rfl) (arg_op 11 11 rfl rfl rfl rfl) (arg_op 14 8 rfl rfl rfl rfl) (arg_op 17 5 rfl rfl rfl rfl) (arg_op 20 2 rfl rfl rfl rfl) (arg_op 22 0 rfl rfl rfl rfl) ?_) ?_
  · exact of_cells x
  refine ch_nil ?_
  intro a14 w15 hf16 hg17 hk18 hn19
  have h20 : Holds _ (a14.eval (.tmp 26)) w15 := hn19.at 23 0 rfl rfl rfl
  have hv21 : Holds (Is (PtrV bk10)) (a14.eval (.tmp 2)) w15 := is_any (hk18.holds rfl hv12)
  have hb22 := hb13.up hg17
  have g23 := g9.trans hg17
  clear hv12 hb13 g9 hf3 hk18 hn19 hg17
  refine wl_store_nm hv21 hb22 rfl h20 ?_
  intro w24 ho25 hb26
  have g27 : Grow w0 w24 := g23.only ho25 (by omega)
  have hv28 : Holds (Is (PtrV bk10)) (a14.eval (.tmp 2)) w24 := is_any hv21
  refine wpList_nil ?_
  refine then_ ?_
  refine wp_ret ?_
  refine ret_cell rfl Tryz.underlying30 rfl (by kernel_rfl) hf16 g27 (hb26.ptr hv28) ?_
  exact rfl
set_option maxRecDepth 100000 in
theorem c_rOf {x : UInt64} : Con1 125 (Is (u64V x)) (fun _ => Is (nmV x)) := by
  intro lo v0 w0 hlo hv0
  refine enter Tryz.func125 rfl Tryz.ntmps125 (by simp) ?_
  intro a0 hf0 ha
  have h00 : Holds _ (a0.eval (.tmp 0)) w0 := arg_holds ha rfl hv0
  clear ha
  have g0 : Grow w0 w0 := Grow.refl _
  refine wp_seq ?_
  refine wp_region_lit ?_
  refine wp_all [([], [])] [0] w0.heap.size hf0 g0.size (by kernel_rfl) bund_nil ?_
  refine ch rfl (ob_alloc_nm) ?_
  refine ch_nil ?_
  intro a1 w2 hf3 hg4 hk5 hn6
  have h7 : Holds _ (a1.eval (.tmp 2)) w2 := hn6.at 0 0 rfl rfl rfl
  have h8 := hk5.holds rfl h00
  have g9 := g0.trans hg4
  obtain ⟨bk10, hl11, hv12, hb13⟩ := OwnB.blk (lo := w0.heap.size) h7
  clear h00 g0 hf0 hk5 hn6
  refine then_ ?_
  refine wp_seq ?_
  refine wp_region_lit ?_
  refine wp_seg (l1 := [_, _, _, _, _, _, _, _, _, _, _, _, _, _, _, _, _, _, _, _, _, _, _, _]) [([0], []), ([], [0]), ([], [1]), ([0], []), ([], [3]), ([], [4]), ([0], []), ([], [6]), ([], [7]), ([0], []), ([], [9]), ([], [10]), ([0], []), ([], [12]), ([], [13]), ([0], []), ([], [15]), ([], [16]), ([0], []), ([], [18]), ([], [19]), ([0], []), ([], [21]), ([], [2, 5, 8, 11, 14, 17, 20, 22])] [2] w0.heap.size hf3 g9.size (by kernel_rfl) (bund_cons (is_any h8) bund_nil) ?_
  refine ch rfl (ob_move (arg_free 0 rfl rfl)) ?_
  refine ch rfl (ob_shru (s := 56) (arg_op 0 0 rfl rfl rfl rfl) arg_c rfl (by decide)) ?_
  refine ch rfl (ob_u64byte (arg_op 1 0 rfl rfl rfl rfl) Tryz.underlying102 Tryz.underlying5) ?_
  refine ch rfl (ob_move (arg_free 0 rfl rfl)) ?_
  refine ch rfl (ob_shru (s := 48) (arg_op 3 0 rfl rfl rfl rfl) arg_c rfl (by decide)) ?_
  refine ch rfl (ob_u64byte (arg_op 4 0 rfl rfl rfl rfl) Tryz.underlying102 Tryz.underlying5) ?_
  refine ch rfl (ob_move (arg_free 0 rfl rfl)) ?_
  refine ch rfl (ob_shru (s := 40) (arg_op 6 0 rfl rfl rfl rfl) arg_c rfl (by decide)) ?_
  refine ch rfl (ob_u64byte (arg_op 7 0 rfl rfl rfl rfl) Tryz.underlying102 Tryz.underlying5) ?_
  refine ch rfl (ob_move (arg_free 0 rfl rfl)) ?_
  refine ch rfl (ob_shru (s := 32) (arg_op 9 0 rfl rfl rfl rfl) arg_c rfl (by decide)) ?_
  refine ch rfl (ob_u64byte (arg_op 10 0 rfl rfl rfl rfl) Tryz.underlying102 Tryz.underlying5) ?_
  refine ch rfl (ob_move (arg_free 0 rfl rfl)) ?_
  refine ch rfl (ob_shru (s := 24) (arg_op 12 0 rfl rfl rfl rfl) arg_c rfl (by decide)) ?_
  refine ch rfl (ob_u64byte (arg_op 13 0 rfl rfl rfl rfl) Tryz.underlying102 Tryz.underlying5) ?_
  refine ch rfl (ob_move (arg_free 0 rfl rfl)) ?_
  refine ch rfl (ob_shru (s := 16) (arg_op 15 0 rfl rfl rfl rfl) arg_c rfl (by decide)) ?_
  refine ch rfl (ob_u64byte (arg_op 16 0 rfl rfl rfl rfl) Tryz.underlying102 Tryz.underlying5) ?_
  refine ch rfl (ob_move (arg_free 0 rfl rfl)) ?_
  refine ch rfl (ob_shru (s := 8) (arg_op 18 0 rfl rfl rfl rfl) arg_c rfl (by decide)) ?_
  refine ch rfl (ob_u64byte (arg_op 19 0 rfl rfl rfl rfl) Tryz.underlying102 Tryz.underlying5) ?_
  refine ch rfl (ob_move (arg_free 0 rfl rfl)) ?_
  refine ch rfl (ob_u64byte (arg_op 21 0 rfl rfl rfl rfl) Tryz.underlying102 Tryz.underlying5) ?_
  refine ch rfl (ob_build_nm8 (n := x) (arg_op 2 20 rfl rfl rfl rfl) (arg_op 5 17 rfl rfl rfl rfl) (arg_op 8 14 rfl rfl rfl rfl) (arg_op 11 11 rfl rfl rfl rfl) (arg_op 14 8 rfl rfl rfl rfl) (arg_op 17 5 rfl rfl rfl rfl) (arg_op 20 2 rfl rfl rfl rfl) (arg_op 22 0 rfl rfl rfl rfl) ?_) ?_
  · exact of_cells x
  refine ch_nil ?_
  intro a14 w15 hf16 hg17 hk18 hn19
  have h20 : Holds _ (a14.eval (.tmp 26)) w15 := hn19.at 23 0 rfl rfl rfl
  have hv21 : Holds (Is (PtrV bk10)) (a14.eval (.tmp 2)) w15 := is_any (hk18.holds rfl hv12)
  have hb22 := hb13.up hg17
  have g23 := g9.trans hg17
  clear hv12 hb13 g9 hf3 hk18 hn19 hg17
  refine wl_store_nm hv21 hb22 rfl h20 ?_
  intro w24 ho25 hb26
  have g27 : Grow w0 w24 := g23.only ho25 (by omega)
  have hv28 : Holds (Is (PtrV bk10)) (a14.eval (.tmp 2)) w24 := is_any hv21
  refine wpList_nil ?_
  refine then_ ?_
  refine wp_ret ?_
  refine ret_cell rfl Tryz.underlying30 rfl (by kernel_rfl) hf16 g27 (hb26.ptr hv28) ?_
  exact rfl
set_option maxRecDepth 100000 in
theorem c_Number {x : UInt64} : Con1 102 (Is (nmV x)) (fun _ => Is (u64V x)) := by
  intro lo v0 w0 hlo hv0
  refine enter Tryz.func102 rfl Tryz.ntmps102 (by simp) ?_
  intro a0 hf0 ha
  have h00 : Holds _ (a0.eval (.tmp 0)) w0 := arg_holds ha rfl hv0
  clear ha
  have g0 : Grow w0 w0 := Grow.refl _
  refine wp_seq ?_
  refine wp_region_lit ?_
  refine wp_all [([0], []), ([], [])] [] w0.heap.size hf0 g0.size (by kernel_rfl) (bund_cons h00 bund_nil) ?_
  refine ch rfl (ob_box_nm (arg_free 0 rfl rfl)) ?_
  refine ch rfl (ob_assign (arg_cu 0 rfl)) ?_
  refine ch_nil ?_
  intro a1 w2 hf3 hg4 hk5 hn6
  have h7 : Holds _ (a1.eval (.tmp 1)) w2 := hn6.at 0 1 rfl rfl rfl
  have g8 := g0.trans hg4
  obtain ⟨bk9, hl10, hv11, hb12⟩ := OwnB.blk (lo := w0.heap.size) h7
  clear g0 hf0 hk5 hn6
  refine then_ ?_
  refine wp_seq ?_
  refine wp_region_lit ?_
  refine wp_all [([], [])] [1] w0.heap.size hf3 g8.size (by kernel_rfl) bund_nil ?_
  refine ch rfl (ob_assign (arg_cu 0 rfl)) ?_
  refine ch_nil ?_
  intro a13 w14 hf15 hg16 hk17 hn18
  have h19 : Holds _ (a13.eval (.tmp 3)) w14 := hn18.at 0 0 rfl rfl rfl
  have hv20 : Holds (Is (PtrV bk9)) (a13.eval (.tmp 1)) w14 := is_any (hk17.holds rfl hv11)
  have hb21 := hb12.up hg16
  have g22 := g8.trans hg16
  clear hv11 hb12 g8 hf3 hk17 hn18 hg16
  refine then_ ?_
  refine wp_seq ?_
  refine wp_seq ?_
  refine wp_region_lit ?_
  refine wp_all [([1], []), ([], [])] [3] w0.heap.size hf15 g22.size (by kernel_rfl) (bund_cons (hb21.ownp hv20) bund_nil) ?_
  refine ch rfl (ob_load_nm (ArgOK.ownp (arg_free 0 rfl rfl))) ?_
  refine ch rfl (ob_move arg_c) ?_
  refine ch_nil ?_
  intro a23 w24 hf25 hg26 hk27 hn28
  have h29 : Holds _ (a23.eval (.tmp 6)) w24 := hn28.at 0 1 rfl rfl rfl
  have h30 : Holds _ (a23.eval (.tmp 7)) w24 := hn28.at 1 0 rfl rfl rfl
  have h31 := hk27.holds rfl (h19.up hg26)
  have g32 := g22.trans hg26
  clear h19 g22 hf15 hk27 hn28 hg26
  refine then_ ?_
  refine wp_block ?_
  have g33 : Grow w24 w24 := Grow.refl _
  have hz34 : w0.heap.size ≤ w24.heap.size := g32.size
  refine wp_loopL (α := Nat) (fun k a' w' => Fr 17 a' ∧ (k ≤ 8) ∧ Grow w0 w' ∧ Grow w24 w' ∧ Keep [6] a23 a' ∧ Holds (Is (u64V (numUp x k))) (a'.eval (.tmp 3)) w' ∧ Holds (Is (intV (k : Int))) (a'.eval (.tmp 7)) w') (fun k => 8 - k) (0) ⟨hf25, (by omega), g32, g33, Keep.refl _ _, (is_cast h31 (by rw [numUp_0]; first | done | rfl)), (is_cast h30 (by first | rfl | (refine congrArg intV ?_; omega)))⟩ ?_
  intro k a35 w36 ⟨hf37, hi39, g40, g41, kk38, h42, h43⟩
  have h44 := kk38.holds rfl h29
  refine wp_seq ?_
  refine wp_region_lit ?_
  refine wp_all [([7], [])] [3, 6, 7] w24.heap.size hf37 g41.size (by kernel_rfl) (bund_cons h43 bund_nil) ?_
  refine ch rfl (ob_lss (arg_free 0 rfl rfl) arg_c) ?_
  refine ch_nil ?_
  intro a45 w46 hf47 hg48 hk49 hn50
  have h51 : Holds _ (a45.eval (.tmp 8)) w46 := hn50.at 0 0 rfl rfl rfl
  have h52 := hk49.holds rfl (h42.up hg48)
  have h53 := hk49.holds rfl (h43.up hg48)
  have h54 := hk49.holds rfl h44
  have g55 := g40.trans hg48
  have g56 := g41.trans hg48
  have kk57 : Keep _ a23 a45 := kk38.trans hk49 rfl
  clear h42 h43 h44 g40 g41 kk38 hf37 hk49 hn50 hg48
  refine then_ ?_
  refine wp_seq ?_
  refine wp_if h51 ?_ ?_
  · intro hc58
    try simp only [cond_norm] at hc58
    refine wp_skip ?_
    refine then_ ?_
    refine wp_seq ?_
    refine wp_block ?_
    refine wp_seq ?_
    refine wp_region_lit ?_
    refine wp_all [([6, 7], []), ([], [0])] [3, 6, 7] w24.heap.size hf47 g56.size (by kernel_rfl) (bund_cons (is_any h54) (bund_cons h53 bund_nil)) ?_
    refine ch rfl (ob_index_nm (arg_free 0 rfl rfl) (arg_free 1 rfl rfl) (rfl) ?_) ?_
    · omega
    refine ch rfl (ob_assign (arg_op 0 0 rfl rfl rfl rfl)) ?_
    refine ch_nil ?_
    intro a59 w60 hf61 hg62 hk63 hn64
    have h65 : Holds _ (a59.eval (.tmp 5)) w60 := hn64.at 1 0 rfl rfl rfl
    have h66 := hk63.holds rfl (h52.up hg62)
    have h67 := hk63.holds rfl (h53.up hg62)
    have h68 := hk63.holds rfl h54
    have g69 := g55.trans hg62
    have g70 := g56.trans hg62
    have kk71 : Keep _ a23 a59 := kk57.trans hk63 rfl
    clear h52 h53 h54 g55 g56 kk57 hf47 hk63 hn64 hg62
    refine then_ ?_
    refine wp_region_lit ?_
    refine wp_all [([3], []), ([], [0]), ([5], []), ([], [2]), ([], [1, 3]), ([], [4])] [6, 7] w24.heap.size hf61 g70.size (by kernel_rfl) (bund_cons h66 (bund_cons h65 bund_nil)) ?_
    refine ch rfl (ob_move (arg_free 0 rfl rfl)) ?_
    refine ch rfl (ob_shlu (s := 8) (arg_op 0 0 rfl rfl rfl rfl) arg_c rfl (by decide)) ?_
    refine ch rfl (ob_move (arg_free 1 rfl rfl)) ?_
    refine ch rfl (ob_byteu64 (arg_op 2 0 rfl rfl rfl rfl) Tryz.underlying5 Tryz.underlying102) ?_
    refine ch rfl (ob_oru (arg_op 1 2 rfl rfl rfl rfl) (arg_op 3 0 rfl rfl rfl rfl)) ?_
    refine ch rfl (ob_assign (arg_op 4 0 rfl rfl rfl rfl)) ?_
    refine ch_nil ?_
    intro a72 w73 hf74 hg75 hk76 hn77
    have h78 : Holds _ (a72.eval (.tmp 3)) w73 := hn77.at 5 0 rfl rfl rfl
    have h79 := hk76.holds rfl (h67.up hg75)
    have h80 := hk76.holds rfl h68
    have g81 := g69.trans hg75
    have g82 := g70.trans hg75
    have kk83 : Keep _ a23 a72 := kk71.trans hk76 rfl
    clear h67 h68 g69 g70 kk71 hf61 hk76 hn77 hg75
    refine blockN ?_
    refine then_ ?_
    refine wp_region_lit ?_
    refine wp_all [([7], []), ([], [0])] [3, 6] w24.heap.size hf74 g82.size (by kernel_rfl) (bund_cons h79 bund_nil) ?_
    first
      | (refine ch rfl (ob_add' (arg_free 0 rfl rfl) arg_c ?_) ?_; · omega)
      | refine ch rfl (ob_add (arg_free 0 rfl rfl) arg_c) ?_
    refine ch rfl (ob_move (arg_op 0 0 rfl rfl rfl rfl)) ?_
    refine ch_nil ?_
    intro a84 w85 hf86 hg87 hk88 hn89
    have h90 : Holds _ (a84.eval (.tmp 7)) w85 := hn89.at 1 0 rfl rfl rfl
    have h91 := hk88.holds rfl (h78.up hg87)
    have h92 := hk88.holds rfl h80
    have g93 := g81.trans hg87
    have g94 := g82.trans hg87
    have kk95 : Keep _ a23 a84 := kk83.trans hk88 rfl
    clear h78 h80 g81 g82 kk83 hf74 hk88 hn89 hg87
    refine then_ ?_
    exact ⟨(k + 1), (by omega), hf86, (by omega), g93, g94, kk95, (is_cast h91 (by rw [numUp_succ x k (by omega)])), (is_cast h90 (by first | rfl | (refine congrArg intV ?_; omega)))⟩
  · intro hc58
    try simp only [cond_norm] at hc58
    refine wp_exit ?_
    refine thenX ?_
    refine thenX ?_
    refine blockX ?_
    refine then_ ?_
    refine wp_seq ?_
    refine wp_region_lit ?_
    refine wp_all [([3], []), ([], [0])] [] w24.heap.size hf47 g56.size (by kernel_rfl) (bund_cons h52 bund_nil) ?_
    refine ch rfl (ob_move (arg_free 0 rfl rfl)) ?_
    refine ch rfl (ob_assign (arg_op 0 0 rfl rfl rfl rfl)) ?_
    refine ch_nil ?_
    intro a96 w97 hf98 hg99 hk100 hn101
    have h102 : Holds _ (a96.eval (.tmp 2)) w97 := hn101.at 1 0 rfl rfl rfl
    have g103 := g55.trans hg99
    have g104 := g56.trans hg99
    clear g55 g56 hf47 hk100 hn101 hg99
    refine then_ ?_
    refine wp_ret ?_
    exact ret_tmp rfl hf98 g103 (is_cast h102 (by rw [show k = 8 by omega, numUp_8]))
end Ex
end Go.Proofs.YtnmfiiejhoafnaaGreat
