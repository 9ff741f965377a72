/- The first state, made; what the reference holds for valid. -/
import Derived.Test.YtnmfiiejhoafnaaSmState11
import Derived.Test.YtnmfiiejhoafnaaSmSum
import Derived.Test.YtnmfiiejhoafnaaSmGen
set_option linter.unusedSimpArgs false
set_option linter.unusedVariables false
namespace Go.Proofs.Ytnmfiiejhoafnaa
namespace Ex
open Go Calm Go.RowKit
theorem mem_getD {α : Type} [Inhabited α] {l : List α} {i : Nat} (h : i < l.length) : l.getD i default ∈ l := by
  rw [List.getD_eq_getElem?_getD, List.getElem?_eq_getElem h]; exact List.getElem_mem h
theorem vs_cell {s : GState} {i : Nat} (hi : i < s.cells.length) (h : deltaBad (s.cells.getD i default) = true) : false = valS s := by
  cases e : valS s with
  | false => rfl
  | true =>
    rw [(valS_iff.1 e).1 _ (mem_getD hi)] at h
    cases h
theorem vs_ord {s : GState} {i : Nat} (h1 : 1 ≤ i) (hi : i < s.cells.length) (h : 0 ≤ cmpD (s.cells.getD (i - 1) default) (s.cells.getD i default)) : false = valS s := by
  cases e : valS s with
  | false => rfl
  | true => have := asc_iff.1 (valS_iff.1 e).2.1 i h1 hi; omega
theorem bad_eq {d : GDelta} : deltaBad d = ((!(cellB d.cell) || decide (d.amount.toInt = 0)) || !(decide (-1125899906842624 ≤ d.amount.toInt) && decide (d.amount.toInt ≤ 1125899906842624))) := by
  unfold deltaBad
  rw [Bool.eq_iff_iff]
  simp only [Bool.or_eq_true, Bool.not_eq_true', decide_eq_true_eq, Bool.and_eq_false_iff, decide_eq_false_iff_not, or_assoc]
  constructor
  · rintro (h | h | h | h)
    · exact .inl h
    · exact .inr (.inl h)
    · exact .inr (.inr (.inr (by omega)))
    · exact .inr (.inr (.inl (by omega)))
  · rintro (h | h | h | h)
    · exact .inl h
    · exact .inr (.inl h)
    · exact .inr (.inr (.inr (by omega)))
    · exact .inr (.inr (.inl (by omega)))
theorem vs_no1 {s : GState} {i : Nat} (hi : i < s.cells.length) (h : (((!(cellB (s.cells.getD i default).cell) || decide ((s.cells.getD i default).amount.toInt = 0)) || !(decide (-1125899906842624 ≤ (s.cells.getD i default).amount.toInt) && decide ((s.cells.getD i default).amount.toInt ≤ 1125899906842624))) || (decide (0 < (i : Int)) && decide (0 ≤ cmpC (s.cells.getD (i - 1) default).cell (s.cells.getD i default).cell))) = true) : false = valS s := by
  rw [← bad_eq, Bool.or_eq_true, Bool.and_eq_true, decide_eq_true_eq, decide_eq_true_eq] at h
  rcases h with h | ⟨h1, h2⟩
  · exact vs_cell hi h
  · exact vs_ord (by omega) hi h2
theorem vs_ok1 {s : GState} {i : Nat} (h0 : ∀ j, j < i → deltaBad (s.cells.getD j default) = false) (h1 : ∀ j, 1 ≤ j → j < i → cmpD (s.cells.getD (j - 1) default) (s.cells.getD j default) < 0) (h : (((!(cellB (s.cells.getD i default).cell) || decide ((s.cells.getD i default).amount.toInt = 0)) || !(decide (-1125899906842624 ≤ (s.cells.getD i default).amount.toInt) && decide ((s.cells.getD i default).amount.toInt ≤ 1125899906842624))) || (decide (0 < (i : Int)) && decide (0 ≤ cmpC (s.cells.getD (i - 1) default).cell (s.cells.getD i default).cell))) = false) :
    (∀ j, j < i + 1 → deltaBad (s.cells.getD j default) = false) ∧ (∀ j, 1 ≤ j → j < i + 1 → cmpD (s.cells.getD (j - 1) default) (s.cells.getD j default) < 0) := by
  rw [← bad_eq, Bool.or_eq_false_iff] at h
  refine ⟨fun j hj => ?_, fun j hj1 hj2 => ?_⟩
  · by_cases e : j = i
    · subst e; exact h.1
    · exact h0 j (by omega)
  · by_cases e : j = i
    · subst e
      have h3 := h.2
      rw [decide_eq_true (show 0 < (j : Int) by omega), Bool.true_and, decide_eq_false_iff_not] at h3
      exact Int.not_le.1 h3
    · exact h1 j hj1 (by omega)
theorem all_bad {α : Type} [Inhabited α] {p : α → Bool} {l : List α} {i : Nat} (h : ∀ j, j < i → p (l.getD j default) = false) (hi : l.length ≤ i) : ∀ y ∈ l, p y = false := fun y hy => by
  obtain ⟨j, hj, rfl⟩ := List.getElem_of_mem hy
  have := h j (by omega)
  rwa [List.getD_eq_getElem?_getD, List.getElem?_eq_getElem hj] at this
theorem vs_seqs {s : GState} (h : (!(decide (1 ≤ (s.seqs.length : Int)) && decide ((s.seqs.length : Int) ≤ 16))) = true) : false = valS s := by
  cases e : valS s with
  | false => rfl
  | true =>
    have h1 := valS_iff.1 e
    rw [Bool.not_eq_true', Bool.and_eq_false_iff, decide_eq_false_iff_not, decide_eq_false_iff_not] at h
    omega
theorem vs_seqs_ok {s : GState} (h : (!(decide (1 ≤ (s.seqs.length : Int)) && decide ((s.seqs.length : Int) ≤ 16))) = false) : 1 ≤ s.seqs.length ∧ s.seqs.length ≤ 16 := by
  rw [Bool.not_eq_false', Bool.and_eq_true, decide_eq_true_eq, decide_eq_true_eq] at h
  omega
theorem seq_eq {n : Int} : seqBad n = !(decide (0 ≤ n) && decide (n ≤ 32)) := by
  unfold seqBad
  rw [Bool.eq_iff_iff]
  simp only [Bool.or_eq_true, Bool.not_eq_true', decide_eq_true_eq, Bool.and_eq_false_iff, decide_eq_false_iff_not]
  omega
theorem vs_seq {s : GState} {i : Nat} (hi : i < s.seqs.length) (h : (!(decide (0 ≤ s.seqs.getD i default) && decide (s.seqs.getD i default ≤ 32))) = true) : false = valS s := by
  cases e : valS s with
  | false => rfl
  | true =>
    rw [← seq_eq, (valS_iff.1 e).2.2.2.2.1 _ (mem_getD hi)] at h
    cases h
theorem bad_step {α : Type} [Inhabited α] {p : α → Bool} {l : List α} {i : Nat} (h : ∀ j, j < i → p (l.getD j default) = false) (he : p (l.getD i default) = false) : ∀ j, j < i + 1 → p (l.getD j default) = false := none_step h he
theorem lock_eq {k : GLock} : lockBad k = ((!(decide (0 ≤ k.owner.toInt) && decide (k.owner.toInt ≤ 15)) || !(decide (0 ≤ k.to.toInt) && decide (k.to.toInt ≤ 15))) || !(decide (1 ≤ k.till.toInt) && decide (k.till.toInt ≤ 1000))) := by
  unfold lockBad
  rw [Bool.eq_iff_iff]
  simp only [Bool.or_eq_true, Bool.not_eq_true', decide_eq_true_eq, Bool.and_eq_false_iff, decide_eq_false_iff_not]
  omega
theorem cmpN_lt {a b : UInt64} : cmpN a b < 0 ↔ a < b := by
  unfold cmpN
  rw [cmpI_lt, UInt64.lt_iff_toNat_lt]
  omega
theorem vs_no3 {s : GState} {i : Nat} (hi : i < s.locks.length) (h : ((((!(decide (0 ≤ (s.locks.getD i default).owner.toInt) && decide ((s.locks.getD i default).owner.toInt ≤ 15)) || !(decide (0 ≤ (s.locks.getD i default).to.toInt) && decide ((s.locks.getD i default).to.toInt ≤ 15))) || !(decide (1 ≤ (s.locks.getD i default).till.toInt) && decide ((s.locks.getD i default).till.toInt ≤ 1000)))) || (decide (0 < (i : Int)) && !(decide ((s.locks.getD (i - 1) default).name < (s.locks.getD i default).name)))) = true) : false = valS s := by
  rw [← lock_eq, Bool.or_eq_true, Bool.and_eq_true, decide_eq_true_eq, Bool.not_eq_true', decide_eq_false_iff_not] at h
  cases e : valS s with
  | false => rfl
  | true =>
    rcases h with h | ⟨h1, h2⟩
    · rw [(valS_iff.1 e).2.2.2.2.2.1 _ (mem_getD hi)] at h
      cases h
    · exact absurd (cmpN_lt.1 (asc_iff.1 (valS_iff.1 e).2.2.2.2.2.2.1 i (by omega) hi)) h2
theorem vs_ok3 {s : GState} {i : Nat} (h0 : ∀ j, j < i → lockBad (s.locks.getD j default) = false) (h1 : ∀ j, 1 ≤ j → j < i → cmpK (s.locks.getD (j - 1) default) (s.locks.getD j default) < 0) (h : ((((!(decide (0 ≤ (s.locks.getD i default).owner.toInt) && decide ((s.locks.getD i default).owner.toInt ≤ 15)) || !(decide (0 ≤ (s.locks.getD i default).to.toInt) && decide ((s.locks.getD i default).to.toInt ≤ 15))) || !(decide (1 ≤ (s.locks.getD i default).till.toInt) && decide ((s.locks.getD i default).till.toInt ≤ 1000)))) || (decide (0 < (i : Int)) && !(decide ((s.locks.getD (i - 1) default).name < (s.locks.getD i default).name)))) = false) :
    (∀ j, j < i + 1 → lockBad (s.locks.getD j default) = false) ∧ (∀ j, 1 ≤ j → j < i + 1 → cmpK (s.locks.getD (j - 1) default) (s.locks.getD j default) < 0) := by
  rw [← lock_eq, Bool.or_eq_false_iff] at h
  refine ⟨fun j hj => ?_, fun j hj1 hj2 => ?_⟩
  · by_cases e : j = i
    · subst e; exact h.1
    · exact h0 j (by omega)
  · by_cases e : j = i
    · subst e
      have h3 := h.2
      rw [decide_eq_true (show 0 < (j : Int) by omega), Bool.true_and, Bool.not_eq_false', decide_eq_true_eq] at h3
      exact cmpN_lt.2 h3
    · exact h1 j hj1 (by omega)
theorem vs_no4 {s : GState} {i : Nat} (h1 : 1 ≤ i) (hi : i < s.applied.length) (h : (!(decide (s.applied.getD (i - 1) default < s.applied.getD i default))) = true) : false = valS s := by
  rw [Bool.not_eq_true', decide_eq_false_iff_not] at h
  cases e : valS s with
  | false => rfl
  | true => exact absurd (cmpN_lt.1 (asc_iff.1 (valS_iff.1 e).2.2.2.2.2.2.2.1 i h1 hi)) h
theorem vs_ok4 {l : List UInt64} {i : Nat} (h1 : ∀ j, 1 ≤ j → j < i → cmpN (l.getD (j - 1) default) (l.getD j default) < 0) (h : (!(decide (l.getD (i - 1) default < l.getD i default))) = false) : ∀ j, 1 ≤ j → j < i + 1 → cmpN (l.getD (j - 1) default) (l.getD j default) < 0 := fun j hj1 hj2 => by
  rw [Bool.not_eq_false', decide_eq_true_eq] at h
  by_cases e : j = i
  · subst e; exact cmpN_lt.2 h
  · exact h1 j hj1 (by omega)
theorem vs_end {s : GState} (h1 : ∀ d ∈ s.cells, deltaBad d = false) (h2 : asc cmpD s.cells = true) (h3 : 1 ≤ s.seqs.length ∧ s.seqs.length ≤ 16) (h5 : ∀ n ∈ s.seqs, seqBad n = false) (h6 : ∀ k ∈ s.locks, lockBad k = false) (h7 : asc cmpK s.locks = true) (h8 : asc cmpN s.applied = true) :
    (decide (0 ≤ s.guilty.toInt) && decide (s.guilty.toInt ≤ 1023)) = valS s := by
  rw [Bool.eq_iff_iff, valS_iff, Bool.and_eq_true, decide_eq_true_eq, decide_eq_true_eq]
  exact ⟨fun h => ⟨h1, h2, h3.1, h3.2, h5, h6, h7, h8, h.1, h.2⟩, fun h => h.2.2.2.2.2.2.2.2⟩
set_option maxRecDepth 100000 in
theorem c_ValidState {s : GState} (hs : stOK s) : Con1 78 (StF s) (fun _ => Is (.bool (valS s))) := by
  intro lo v0 w0 hlo hv0
  refine enter Try.func78 rfl Try.ntmps78 (by simp) ?_
  intro a0 hf0 ha
  obtain ⟨va0, vb0, vc0, vd0, he0, hva0, hvb0, hvc0, hvd0⟩ := openF hv0
  have h00 : Holds (Is _) (a0.eval (.tmp 0)) w0 := arg_holds ha rfl he0
  clear ha
  have g0 : Grow w0 w0 := Grow.refl _
  obtain ⟨hs1, hs2, hs3, hs4⟩ := id hs
  refine wp_seq ?_
  refine wp_region_lit ?_
  refine wp_all [([0], []), ([], [])] [] w0.heap.size hf0 g0.size (by kernel_rfl) (bund_cons h00 bund_nil) ?_
  refine ch rfl (ob_box_state (arg_free 0 rfl rfl)) ?_
  refine ch rfl (ob_assign arg_c) ?_
  refine ch_nil ?_
  intro a1 w2 hf3 hg4 hk5 hn6
  have h7 : Holds _ (a1.eval (.tmp 1)) w2 := hn6.at 0 1 rfl rfl rfl
  have g8 := g0.trans hg4
  obtain ⟨bk9, hl10, hv11, hb12⟩ := OwnB.blk (lo := w0.heap.size) h7
  clear g0 hf0 hk5 hn6
  refine then_ ?_
  refine wp_seq ?_
  refine wp_seq ?_
  refine wp_region_lit ?_
  refine wp_all [([], [])] [1] w0.heap.size hf3 g8.size (by kernel_rfl) bund_nil ?_
  refine ch rfl (ob_assign arg_c) ?_
  refine ch_nil ?_
  intro a13 w14 hf15 hg16 hk17 hn18
  have h19 : Holds _ (a13.eval (.tmp 3)) w14 := hn18.at 0 0 rfl rfl rfl
  have hv20 : Holds (Is (PtrV bk9)) (a13.eval (.tmp 1)) w14 := is_any (hk17.holds rfl hv11)
  have hb21 := hb12.up hg16
  have g22 := g8.trans hg16
  clear hv11 hb12 g8 hf3 hk17 hn18 hg16
  refine then_ ?_
  refine wp_block ?_
  have g23 : Grow w14 w14 := Grow.refl _
  have hl24 : bk9 < w14.heap.size := hb21.lt
  have hz25 : w0.heap.size ≤ w14.heap.size := g22.size
  refine wp_loopL (α := Nat) (fun i a' w' => Fr 140 a' ∧ (i ≤ s.cells.length) ∧ (∀ j, j < i → deltaBad (s.cells.getD j default) = false) ∧ (∀ j, 1 ≤ j → j < i → cmpD (s.cells.getD (j - 1) default) (s.cells.getD j default) < 0) ∧ Grow w0 w' ∧ Grow w14 w' ∧ Keep [1] a13 a' ∧ Holds (Is (intV (i : Int))) (a'.eval (.tmp 3)) w' ∧ Blk bk9 (_) w') (fun i => s.cells.length - i) (0) ⟨hf15, (by omega), (by exact fun j hj => absurd hj (Nat.not_lt_zero j)), (by exact fun j _ hj => absurd hj (Nat.not_lt_zero j)), g22, g23, Keep.refl _ _, (is_cast h19 (by first | rfl | (refine congrArg intV ?_; (try dsimp only); omega))), hb21⟩ ?_
  intro i a26 w27 ⟨hf28, hi30, hi31, hi32, g33, g34, kk29, h35, hb36⟩
  have hv37 : Holds (Is (PtrV bk9)) (a26.eval (.tmp 1)) w27 := is_any (kk29.holds rfl hv20)
  refine wp_seq ?_
  refine wp_seq ?_
  refine wp_region_lit ?_
  refine wp_all [([3], []), ([1], []), ([], [1]), ([], [2]), ([], [0, 3])] [1, 3] w14.heap.size hf28 g34.size (by kernel_rfl) (bund_cons h35 (bund_cons (hb36.ownp hv37) bund_nil)) ?_
  refine ch rfl (ob_move (arg_free 0 rfl rfl)) ?_
  refine ch rfl (ob_faP (n := 0) (arg_free 1 rfl rfl) Try.underlying42 rfl (by kernel_rfl)) ?_
  refine ch rfl (ob_loadP (arg_op 1 0 rfl rfl rfl rfl) Try.underlying37 rfl rfl) ?_
  refine ch rfl (ob_len (ArgOK.val (arg_op 2 0 rfl rfl rfl rfl) (hva0.up g33)) Try.underlying37) ?_
  refine ch rfl (ob_lss (arg_op 0 3 rfl rfl rfl rfl) (arg_op 3 0 rfl rfl rfl rfl)) ?_
  refine ch_nil ?_
  intro a38 w39 hf40 hg41 hk42 hn43
  have h44 : Holds _ (a38.eval (.tmp 13)) w39 := hn43.at 4 0 rfl rfl rfl
  have h45 := hk42.holds rfl (h35.up hg41)
  have hv46 : Holds (Is (PtrV bk9)) (a38.eval (.tmp 1)) w39 := is_any (hk42.holds rfl hv37)
  have hb47 := hb36.up hg41
  have g48 := g33.trans hg41
  have g49 := g34.trans hg41
  have kk50 : Keep _ a13 a38 := kk29.trans hk42 rfl
  clear h35 hv37 hb36 g33 g34 kk29 hf28 hk42 hn43 hg41
  refine then_ ?_
  refine wp_if h44 ?_ ?_
  · intro hc51
    try simp only [cond_norm] at hc51
    refine wp_skip ?_
    refine then_ ?_
    refine wp_seq ?_
    refine wp_block ?_
    refine wp_seq ?_
    have g52 : Grow w39 w39 := Grow.refl _
    have hl53 : bk9 < w39.heap.size := hb47.lt
    have hz54 : w14.heap.size ≤ w39.heap.size := g49.size
    refine wp_region_lit ?_
    refine wp_seg (l1 := [_, _, _, _, _, _]) [([1], []), ([], [0]), ([3], []), ([], [1, 2]), ([], [3]), ([], [])] [1, 3] w39.heap.size hf40 g52.size (by kernel_rfl) (bund_cons (hb47.ownp hv46) (bund_cons h45 bund_nil)) ?_
    refine ch rfl (ob_faP (n := 0) (arg_free 0 rfl rfl) Try.underlying42 rfl (by kernel_rfl)) ?_
    refine ch rfl (ob_loadP (arg_op 0 0 rfl rfl rfl rfl) Try.underlying37 rfl rfl) ?_
    refine ch rfl (ob_move (arg_free 1 rfl rfl)) ?_
    refine ch rfl (ob_ix (ArgOK.val (arg_op 1 1 rfl rfl rfl rfl) (hva0.up g48)) (arg_op 2 0 rfl rfl rfl rfl) (rfl) ?_ Try.underlying37 szDelta) ?_
    · omega
    refine ch rfl (ob_load_delta (arg_op 3 0 rfl rfl rfl rfl)) ?_
    refine ch rfl (ob_alloc_delta) ?_
    refine ch_nil ?_
    intro a55 w56 hf57 hg58 hk59 hn60
    have h61 : Holds _ (a55.eval (.tmp 20)) w56 := hn60.at 4 1 rfl rfl rfl
    have h62 : Holds _ (a55.eval (.tmp 4)) w56 := hn60.at 5 0 rfl rfl rfl
    have h63 := hk59.holds rfl h45
    have hv64 : Holds (Is (PtrV bk9)) (a55.eval (.tmp 1)) w56 := is_any (hk59.holds rfl hv46)
    have hb65 := hb47.up hg58
    have g66 := g48.trans hg58
    have g67 := g49.trans hg58
    have g68 := g52.trans hg58
    have kk69 : Keep _ a13 a55 := kk50.trans hk59 rfl
    obtain ⟨bk70, hl71, hv72, hb73⟩ := OwnB.blk (lo := w39.heap.size) h62
    clear h45 hv46 hb47 g48 g49 g52 kk50 hf40 hk59 hn60
    refine wl_store_delta hv72 hb73 rfl h61 ?_
    intro w74 ho75 hb76
    have g77 : Grow w0 w74 := g66.only ho75 (by omega)
    have g78 : Grow w14 w74 := g67.only ho75 (by omega)
    have g79 : Grow w39 w74 := g68.only ho75 (by omega)
    have hv80 : Holds (Is (PtrV bk9)) (a55.eval (.tmp 1)) w74 := is_any hv64
    have hb81 : Blk bk9 _ w74 := hb65.only ho75 (by omega)
    have hv82 : Holds (Is (PtrV bk70)) (a55.eval (.tmp 4)) w74 := is_any hv72
    refine wpList_nil ?_
    refine then_ ?_
    refine wp_seq ?_
    have g83 : Grow w74 w74 := Grow.refl _
    have hl84 : bk9 < w74.heap.size := hb81.lt
    have hl85 : bk70 < w74.heap.size := hb76.lt
    have hz86 : w39.heap.size ≤ w74.heap.size := g79.size
    refine wp_calm [0, 1, 3, 7, 15, 31, 63, 127, 255, 511, 1023, 2047, 4095, 8191, 16383, 32767, 65535, 131071, 262143, 524287, 1048575, 524287, 2621439, 8388607, 16777215, 33554431, 524287, 67633151, 268435455, 536870911, 1073741823, 2147483647] [([4], []), ([], [0]), ([], [1]), ([], [2]), ([], [3]), ([4], [4]), ([], [5, 4]), ([], [6, 4]), ([], [4, 7]), ([], [8]), ([4], [9]), ([], [10, 9]), ([], [11, 9]), ([], [12, 9]), ([], [9, 13]), ([], [14]), ([3], [15]), ([], [16, 15]), ([], [17, 15]), ([1], [18]), ([], [19, 18]), ([3], [18]), ([], [21, 18]), ([], [20, 22, 18]), ([], [23, 18]), ([], [24, 18]), ([4], [18]), ([], [26, 18]), ([], [25, 27, 18]), ([], [28, 18]), ([], [18, 29, 15]), ([], [15, 30])] [1, 3] w74.heap.size hf57 g83.size (by kernel_rfl) (bund_cons (hb76.ownp hv82) (bund_cons (is_any h63) (bund_cons (hb81.ownp hv80) bund_nil))) ?_
    intro ws87 hs88
    refine ch rfl (ob_fa_delta0 (ArgOK.ownp (arg_free 0 rfl rfl))) ?_
    refine ch rfl (ob_load_cell (arg_op 0 0 rfl rfl rfl rfl)) ?_
    refine ch rfl (ob_call1 (by kernel_rfl) (c_rValidCell) (arg_op 1 0 rfl rfl rfl rfl)) ?_
    refine ch rfl (ob_not (arg_op 2 0 rfl rfl rfl rfl)) ?_
    refine ch rfl (ob_move (arg_op 3 0 rfl rfl rfl rfl)) ?_
    refine chg (b := _) rfl rfl (arg_op 4 0 rfl rfl rfl rfl) (fun hb4 => ob_fa_delta1 (ArgOK.ownp (arg_free 0 rfl rfl))) ?_
    refine chg (b := _) rfl rfl (arg_op 4 1 rfl rfl rfl rfl) (fun hb4 => ob_load1 (ArgOK.when (arg_op 5 0 rfl rfl rfl rfl) hb4) Try.underlying3 rfl) ?_
    refine chg (b := _) rfl rfl (arg_op 4 2 rfl rfl rfl rfl) (fun hb4 => ob_eql (ArgOK.when (arg_op 6 0 rfl rfl rfl rfl) hb4) arg_c) ?_
    refine ch rfl (ob_or (arg_op 4 3 rfl rfl rfl rfl) (arg_op 7 0 rfl rfl rfl rfl)) ?_
    refine ch rfl (ob_move (arg_op 8 0 rfl rfl rfl rfl)) ?_
    refine chg (b := _) rfl rfl (arg_op 9 0 rfl rfl rfl rfl) (fun hb9 => ob_fa_delta1 (ArgOK.ownp (arg_free 0 rfl rfl))) ?_
    refine chg (b := _) rfl rfl (arg_op 9 1 rfl rfl rfl rfl) (fun hb9 => ob_load1 (ArgOK.when (arg_op 10 0 rfl rfl rfl rfl) hb9) Try.underlying3 rfl) ?_
    refine chg (b := _) rfl rfl (arg_op 9 2 rfl rfl rfl rfl) (fun hb9 => ob_call3 (by kernel_rfl) (c_within) (ArgOK.when (arg_op 11 0 rfl rfl rfl rfl) hb9) arg_c arg_c) ?_
    refine chg (b := _) rfl rfl (arg_op 9 3 rfl rfl rfl rfl) (fun hb9 => ob_not (ArgOK.when (arg_op 12 0 rfl rfl rfl rfl) hb9)) ?_
    refine ch rfl (ob_or (arg_op 9 4 rfl rfl rfl rfl) (arg_op 13 0 rfl rfl rfl rfl)) ?_
    refine ch rfl (ob_move (arg_op 14 0 rfl rfl rfl rfl)) ?_
    refine chg (b := _) rfl rfl (arg_op 15 0 rfl rfl rfl rfl) (fun hb15 => ob_move (arg_free 1 rfl rfl)) ?_
    refine chg (b := _) rfl rfl (arg_op 15 1 rfl rfl rfl rfl) (fun hb15 => ob_gtr (ArgOK.when (arg_op 16 0 rfl rfl rfl rfl) hb15) arg_c) ?_
    refine chg (b := _) rfl rfl (arg_op 15 2 rfl rfl rfl rfl) (fun hb15 => ob_move (ArgOK.when (arg_op 17 0 rfl rfl rfl rfl) hb15)) ?_
    refine chgn (b := _) rfl rfl (arg_op 18 0 rfl rfl rfl rfl) (fun ⟨hb15, hb18⟩ => ob_faP (n := 0) (arg_free 2 rfl rfl) Try.underlying42 rfl (by kernel_rfl)) ?_
    refine chgn (b := _) rfl rfl (arg_op 18 1 rfl rfl rfl rfl) (fun ⟨hb15, hb18⟩ => ob_loadP (ArgOK.when (arg_op 19 0 rfl rfl rfl rfl) ⟨hb15, hb18⟩) Try.underlying37 rfl rfl) ?_
    refine chgn (b := _) rfl rfl (arg_op 18 2 rfl rfl rfl rfl) (fun ⟨hb15, hb18⟩ => ob_move (arg_free 1 rfl rfl)) ?_
    first
      | (refine chgn (b := _) rfl rfl (arg_op 18 3 rfl rfl rfl rfl) (fun ⟨hb15, hb18⟩ => ob_sub' (ArgOK.when (arg_op 21 0 rfl rfl rfl rfl) ⟨hb15, hb18⟩) arg_c ?_) ?_; · omega)
      | refine chgn (b := _) rfl rfl (arg_op 18 3 rfl rfl rfl rfl) (fun ⟨hb15, hb18⟩ => ob_sub (ArgOK.when (arg_op 21 0 rfl rfl rfl rfl) ⟨hb15, hb18⟩) arg_c) ?_
    refine chgn (b := _) rfl rfl (arg_op 18 4 rfl rfl rfl rfl) (fun ⟨hb15, hb18⟩ => ob_ix (ArgOK.val (ArgOK.when (arg_op 20 2 rfl rfl rfl rfl) ⟨hb15, hb18⟩) ((hva0.up g77).up hs88)) (ArgOK.when (arg_op 22 0 rfl rfl rfl rfl) ⟨hb15, hb18⟩) (show (i : Int) - 1 = ((i - 1 : Nat) : Int) from (by have hq := of_decide_eq_true hb18; omega)) ?_ Try.underlying37 szDelta) ?_
    · (have hq := of_decide_eq_true hb18; omega)
    refine chgn (b := _) rfl rfl (arg_op 18 5 rfl rfl rfl rfl) (fun ⟨hb15, hb18⟩ => ob_fa_delta0 (ArgOK.when (arg_op 23 0 rfl rfl rfl rfl) ⟨hb15, hb18⟩)) ?_
    refine chgn (b := _) rfl rfl (arg_op 18 6 rfl rfl rfl rfl) (fun ⟨hb15, hb18⟩ => ob_load_cell (ArgOK.when (arg_op 24 0 rfl rfl rfl rfl) ⟨hb15, hb18⟩)) ?_
    refine chgn (b := _) rfl rfl (arg_op 18 7 rfl rfl rfl rfl) (fun ⟨hb15, hb18⟩ => ob_fa_delta0 (ArgOK.ownp (arg_free 0 rfl rfl))) ?_
    refine chgn (b := _) rfl rfl (arg_op 18 8 rfl rfl rfl rfl) (fun ⟨hb15, hb18⟩ => ob_load_cell (ArgOK.when (arg_op 26 0 rfl rfl rfl rfl) ⟨hb15, hb18⟩)) ?_
    refine chgn (b := _) rfl rfl (arg_op 18 9 rfl rfl rfl rfl) (fun ⟨hb15, hb18⟩ => ob_call2 (by kernel_rfl) (c_rcmpC) (ArgOK.when (arg_op 25 2 rfl rfl rfl rfl) ⟨hb15, hb18⟩) (ArgOK.when (arg_op 27 0 rfl rfl rfl rfl) ⟨hb15, hb18⟩)) ?_
    refine chgn (b := _) rfl rfl (arg_op 18 10 rfl rfl rfl rfl) (fun ⟨hb15, hb18⟩ => ob_geq (ArgOK.when (arg_op 28 0 rfl rfl rfl rfl) ⟨hb15, hb18⟩) arg_c) ?_
    refine chg (b := _) rfl rfl (arg_op 15 14 rfl rfl rfl rfl) (fun hb15 => ob_and (ArgOK.when (arg_op 18 11 rfl rfl rfl rfl) hb15) (ArgOK.whenAnd (arg_op 29 0 rfl rfl rfl rfl) hb15)) ?_
    refine ch rfl (ob_or (arg_op 15 15 rfl rfl rfl rfl) (arg_op 30 0 rfl rfl rfl rfl)) ?_
    refine ch_nil ?_
    intro a89 w90 hf91 hg92 hk93 hn94
    have h95 : Holds _ (a89.eval (.tmp 52)) w90 := hn94.at 31 0 rfl rfl rfl
    have h96 := hk93.holds rfl h63
    have hv97 : Holds (Is (PtrV bk9)) (a89.eval (.tmp 1)) w90 := is_any (hk93.holds rfl hv80)
    have hb98 := hb81.up hg92
    have g99 := g77.trans hg92
    have g100 := g78.trans hg92
    have g101 := g79.trans hg92
    have g102 := g83.trans hg92
    have kk103 : Keep _ a13 a89 := kk69.trans hk93 rfl
    clear h63 hv80 hb81 g77 g78 g79 g83 kk69 hf57 hk93 hn94
    refine then_ ?_
    refine wp_if h95 ?_ ?_
    · intro hc104
      have hz := vs_no1 (s := s) (i := i) (by omega) hc104
      refine wp_seq ?_
      refine wp_region_lit ?_
      refine wp_all [([], [])] [1] w74.heap.size hf91 g102.size (by kernel_rfl) bund_nil ?_
      refine ch rfl (ob_assign arg_c) ?_
      refine ch_nil ?_
      intro a105 w106 hf107 hg108 hk109 hn110
      have h111 : Holds _ (a105.eval (.tmp 2)) w106 := hn110.at 0 0 rfl rfl rfl
      have hv112 : Holds (Is (PtrV bk9)) (a105.eval (.tmp 1)) w106 := is_any (hk109.holds rfl hv97)
      have hb113 := hb98.up hg108
      have g114 := g99.trans hg108
      have g115 := g100.trans hg108
      have g116 := g101.trans hg108
      have g117 := g102.trans hg108
      have kk118 : Keep _ a13 a105 := kk103.trans hk109 rfl
      clear hv97 hb98 g99 g100 g101 g102 kk103 hf91 hk109 hn110 hg108
      refine then_ ?_
      refine wp_ret ?_
      refine blockR ?_
      refine thenR ?_
      refine thenR ?_
      refine blockR ?_
      refine thenR ?_
      exact ret_tmp rfl hf107 g114 (is_cast h111 (congrArg Value.bool hz))
    · intro hc104
      have hst := vs_ok1 (s := s) (i := i) (by assumption) (by assumption) hc104
      refine wp_skip ?_
      refine blockN ?_
      refine then_ ?_
      refine wp_region_lit ?_
      refine wp_all [([3], []), ([], [0]), ([], [1])] [1] w74.heap.size hf91 g102.size (by kernel_rfl) (bund_cons (is_any h96) bund_nil) ?_
      refine ch rfl (ob_move (arg_free 0 rfl rfl)) ?_
      first
        | (refine ch rfl (ob_add' (arg_op 0 0 rfl rfl rfl rfl) arg_c ?_) ?_; · omega)
        | refine ch rfl (ob_add (arg_op 0 0 rfl rfl rfl rfl) arg_c) ?_
      refine ch rfl (ob_assign (arg_op 1 0 rfl rfl rfl rfl)) ?_
      refine ch_nil ?_
      intro a119 w120 hf121 hg122 hk123 hn124
      have h125 : Holds _ (a119.eval (.tmp 3)) w120 := hn124.at 2 0 rfl rfl rfl
      have hv126 : Holds (Is (PtrV bk9)) (a119.eval (.tmp 1)) w120 := is_any (hk123.holds rfl hv97)
      have hb127 := hb98.up hg122
      have g128 := g99.trans hg122
      have g129 := g100.trans hg122
      have g130 := g101.trans hg122
      have g131 := g102.trans hg122
      have kk132 : Keep _ a13 a119 := kk103.trans hk123 rfl
      clear hv97 hb98 g99 g100 g101 g102 kk103 hf91 hk123 hn124 hg122
      refine then_ ?_
      exact ⟨(i + 1), (by ((try dsimp only); omega)), hf121, (by omega), (by exact hst.1), (by exact hst.2), g128, g129, kk132, (is_cast h125 (by first | rfl | (refine congrArg intV ?_; (try dsimp only); omega))), hb127⟩
  · intro hc51
    try simp only [cond_norm] at hc51
    have hc1 := all_bad (p := deltaBad) (l := s.cells) (i := i) (by assumption) (by omega); have hc2 := (asc_yes (c := cmpD) (l := s.cells) (i := i) (by assumption) (by omega)).symm
    refine wp_exit ?_
    refine thenX ?_
    refine thenX ?_
    refine blockX ?_
    refine then_ ?_
    refine wp_seq ?_
    refine wp_seq ?_
    have g133 : Grow w39 w39 := Grow.refl _
    have hl134 : bk9 < w39.heap.size := hb47.lt
    have hz135 : w14.heap.size ≤ w39.heap.size := g49.size
    refine wp_region_lit ?_
    refine wp_all [([1], []), ([], [0]), ([], [1]), ([], [2]), ([], [3])] [1] w39.heap.size hf40 g133.size (by kernel_rfl) (bund_cons (hb47.ownp hv46) bund_nil) ?_
    refine ch rfl (ob_faP (n := 0) (arg_free 0 rfl rfl) Try.underlying42 rfl (by kernel_rfl)) ?_
    refine ch rfl (ob_loadP (arg_op 0 0 rfl rfl rfl rfl) Try.underlying24 rfl rfl) ?_
    refine ch rfl (ob_len (ArgOK.val (arg_op 1 0 rfl rfl rfl rfl) (hvb0.up g48)) Try.underlying24) ?_
    refine ch rfl (ob_call3 (by kernel_rfl) (c_within) (arg_op 2 0 rfl rfl rfl rfl) arg_c arg_c) ?_
    refine ch rfl (ob_not (arg_op 3 0 rfl rfl rfl rfl)) ?_
    refine ch_nil ?_
    intro a136 w137 hf138 hg139 hk140 hn141
    have h142 : Holds _ (a136.eval (.tmp 57)) w137 := hn141.at 4 0 rfl rfl rfl
    have hv143 : Holds (Is (PtrV bk9)) (a136.eval (.tmp 1)) w137 := is_any (hk140.holds rfl hv46)
    have hb144 := hb47.up hg139
    have g145 := g48.trans hg139
    have g146 := g49.trans hg139
    have g147 := g133.trans hg139
    clear hv46 hb47 g48 g49 g133 hf40 hk140 hn141
    refine then_ ?_
    refine wp_if h142 ?_ ?_
    · intro hc148
      have hz := vs_seqs hc148
      refine wp_seq ?_
      refine wp_region_lit ?_
      refine wp_all [([], [])] [] w39.heap.size hf138 g147.size (by kernel_rfl) bund_nil ?_
      refine ch rfl (ob_assign arg_c) ?_
      refine ch_nil ?_
      intro a149 w150 hf151 hg152 hk153 hn154
      have h155 : Holds _ (a149.eval (.tmp 2)) w150 := hn154.at 0 0 rfl rfl rfl
      have g156 := g145.trans hg152
      have g157 := g146.trans hg152
      have g158 := g147.trans hg152
      clear g145 g146 g147 hf138 hk153 hn154 hg152
      refine then_ ?_
      refine wp_ret ?_
      refine thenR ?_
      exact ret_tmp rfl hf151 g156 (is_cast h155 (congrArg Value.bool hz))
    · intro hc148
      have hc3 := vs_seqs_ok hc148
      refine wp_skip ?_
      refine then_ ?_
      refine wp_seq ?_
      refine wp_seq ?_
      refine wp_region_lit ?_
      refine wp_all [([], [])] [1] w39.heap.size hf138 g147.size (by kernel_rfl) bund_nil ?_
      refine ch rfl (ob_assign arg_c) ?_
      refine ch_nil ?_
      intro a159 w160 hf161 hg162 hk163 hn164
      have h165 : Holds _ (a159.eval (.tmp 5)) w160 := hn164.at 0 0 rfl rfl rfl
      have hv166 : Holds (Is (PtrV bk9)) (a159.eval (.tmp 1)) w160 := is_any (hk163.holds rfl hv143)
      have hb167 := hb144.up hg162
      have g168 := g145.trans hg162
      have g169 := g146.trans hg162
      have g170 := g147.trans hg162
      clear hv143 hb144 g145 g146 g147 hf138 hk163 hn164 hg162
      refine then_ ?_
      refine wp_block ?_
      have g171 : Grow w160 w160 := Grow.refl _
      have hl172 : bk9 < w160.heap.size := hb167.lt
      have hz173 : w39.heap.size ≤ w160.heap.size := g170.size
      refine wp_loopL (α := Nat) (fun i a' w' => Fr 140 a' ∧ (i ≤ s.seqs.length) ∧ (∀ j, j < i → seqBad (s.seqs.getD j default) = false) ∧ Grow w0 w' ∧ Grow w14 w' ∧ Grow w39 w' ∧ Grow w160 w' ∧ Keep [1] a159 a' ∧ Holds (Is (intV (i : Int))) (a'.eval (.tmp 5)) w' ∧ Blk bk9 (_) w') (fun i => s.seqs.length - i) (0) ⟨hf161, (by omega), (by exact fun j hj => absurd hj (Nat.not_lt_zero j)), g168, g169, g170, g171, Keep.refl _ _, (is_cast h165 (by first | rfl | (refine congrArg intV ?_; (try dsimp only); omega))), hb167⟩ ?_
      intro i a174 w175 ⟨hf176, hi178, hi179, g180, g181, g182, g183, kk177, h184, hb185⟩
      have hv186 : Holds (Is (PtrV bk9)) (a174.eval (.tmp 1)) w175 := is_any (kk177.holds rfl hv166)
      refine wp_seq ?_
      refine wp_seq ?_
      refine wp_region_lit ?_
      refine wp_all [([5], []), ([1], []), ([], [1]), ([], [2]), ([], [0, 3])] [1, 5] w160.heap.size hf176 g183.size (by kernel_rfl) (bund_cons h184 (bund_cons (hb185.ownp hv186) bund_nil)) ?_
      refine ch rfl (ob_move (arg_free 0 rfl rfl)) ?_
      refine ch rfl (ob_faP (n := 0) (arg_free 1 rfl rfl) Try.underlying42 rfl (by kernel_rfl)) ?_
      refine ch rfl (ob_loadP (arg_op 1 0 rfl rfl rfl rfl) Try.underlying24 rfl rfl) ?_
      refine ch rfl (ob_len (ArgOK.val (arg_op 2 0 rfl rfl rfl rfl) (hvb0.up g180)) Try.underlying24) ?_
      refine ch rfl (ob_lss (arg_op 0 3 rfl rfl rfl rfl) (arg_op 3 0 rfl rfl rfl rfl)) ?_
      refine ch_nil ?_
      intro a187 w188 hf189 hg190 hk191 hn192
      have h193 : Holds _ (a187.eval (.tmp 62)) w188 := hn192.at 4 0 rfl rfl rfl
      have h194 := hk191.holds rfl (h184.up hg190)
      have hv195 : Holds (Is (PtrV bk9)) (a187.eval (.tmp 1)) w188 := is_any (hk191.holds rfl hv186)
      have hb196 := hb185.up hg190
      have g197 := g180.trans hg190
      have g198 := g181.trans hg190
      have g199 := g182.trans hg190
      have g200 := g183.trans hg190
      have kk201 : Keep _ a159 a187 := kk177.trans hk191 rfl
      clear h184 hv186 hb185 g180 g181 g182 g183 kk177 hf176 hk191 hn192 hg190
      refine then_ ?_
      refine wp_if h193 ?_ ?_
      · intro hc202
        try simp only [cond_norm] at hc202
        refine wp_skip ?_
        refine then_ ?_
        refine wp_seq ?_
        refine wp_block ?_
        refine wp_seq ?_
        have g203 : Grow w188 w188 := Grow.refl _
        have hl204 : bk9 < w188.heap.size := hb196.lt
        have hz205 : w160.heap.size ≤ w188.heap.size := g200.size
        refine wp_region_lit ?_
        refine wp_all [([1], []), ([], [0]), ([5], []), ([], [1, 2]), ([], [3]), ([], [4]), ([], [5])] [1, 5] w188.heap.size hf189 g203.size (by kernel_rfl) (bund_cons (hb196.ownp hv195) (bund_cons h194 bund_nil)) ?_
        refine ch rfl (ob_faP (n := 0) (arg_free 0 rfl rfl) Try.underlying42 rfl (by kernel_rfl)) ?_
        refine ch rfl (ob_loadP (arg_op 0 0 rfl rfl rfl rfl) Try.underlying24 rfl rfl) ?_
        refine ch rfl (ob_move (arg_free 1 rfl rfl)) ?_
        refine ch rfl (ob_ix (ArgOK.val (arg_op 1 1 rfl rfl rfl rfl) (hvb0.up g197)) (arg_op 2 0 rfl rfl rfl rfl) (rfl) ?_ Try.underlying24 szInt) ?_
        · omega
        refine ch rfl (ob_load1 (arg_op 3 0 rfl rfl rfl rfl) Try.underlying3 rfl) ?_
        refine ch rfl (ob_call3 (by kernel_rfl) (c_within) (arg_op 4 0 rfl rfl rfl rfl) arg_c arg_c) ?_
        refine ch rfl (ob_not (arg_op 5 0 rfl rfl rfl rfl)) ?_
        refine ch_nil ?_
        intro a206 w207 hf208 hg209 hk210 hn211
        have h212 : Holds _ (a206.eval (.tmp 71)) w207 := hn211.at 6 0 rfl rfl rfl
        have h213 := hk210.holds rfl h194
        have hv214 : Holds (Is (PtrV bk9)) (a206.eval (.tmp 1)) w207 := is_any (hk210.holds rfl hv195)
        have hb215 := hb196.up hg209
        have g216 := g197.trans hg209
        have g217 := g198.trans hg209
        have g218 := g199.trans hg209
        have g219 := g200.trans hg209
        have g220 := g203.trans hg209
        have kk221 : Keep _ a159 a206 := kk201.trans hk210 rfl
        clear h194 hv195 hb196 g197 g198 g199 g200 g203 kk201 hf189 hk210 hn211
        refine then_ ?_
        refine wp_if h212 ?_ ?_
        · intro hc222
          have hz := vs_seq (s := s) (i := i) (by omega) hc222
          refine wp_seq ?_
          refine wp_region_lit ?_
          refine wp_all [([], [])] [1] w188.heap.size hf208 g220.size (by kernel_rfl) bund_nil ?_
          refine ch rfl (ob_assign arg_c) ?_
          refine ch_nil ?_
          intro a223 w224 hf225 hg226 hk227 hn228
          have h229 : Holds _ (a223.eval (.tmp 2)) w224 := hn228.at 0 0 rfl rfl rfl
          have hv230 : Holds (Is (PtrV bk9)) (a223.eval (.tmp 1)) w224 := is_any (hk227.holds rfl hv214)
          have hb231 := hb215.up hg226
          have g232 := g216.trans hg226
          have g233 := g217.trans hg226
          have g234 := g218.trans hg226
          have g235 := g219.trans hg226
          have g236 := g220.trans hg226
          have kk237 : Keep _ a159 a223 := kk221.trans hk227 rfl
          clear hv214 hb215 g216 g217 g218 g219 g220 kk221 hf208 hk227 hn228 hg226
          refine then_ ?_
          refine wp_ret ?_
          refine blockR ?_
          refine thenR ?_
          refine thenR ?_
          refine blockR ?_
          refine thenR ?_
          exact ret_tmp rfl hf225 g232 (is_cast h229 (congrArg Value.bool hz))
        · intro hc222
          have hst := bad_step (p := seqBad) (l := s.seqs) (i := i) (by assumption) (by rw [seq_eq]; exact hc222)
          refine wp_skip ?_
          refine blockN ?_
          refine then_ ?_
          refine wp_region_lit ?_
          refine wp_all [([5], []), ([], [0]), ([], [1])] [1] w188.heap.size hf208 g220.size (by kernel_rfl) (bund_cons (is_any h213) bund_nil) ?_
          refine ch rfl (ob_move (arg_free 0 rfl rfl)) ?_
          first
            | (refine ch rfl (ob_add' (arg_op 0 0 rfl rfl rfl rfl) arg_c ?_) ?_; · omega)
            | refine ch rfl (ob_add (arg_op 0 0 rfl rfl rfl rfl) arg_c) ?_
          refine ch rfl (ob_assign (arg_op 1 0 rfl rfl rfl rfl)) ?_
          refine ch_nil ?_
          intro a238 w239 hf240 hg241 hk242 hn243
          have h244 : Holds _ (a238.eval (.tmp 5)) w239 := hn243.at 2 0 rfl rfl rfl
          have hv245 : Holds (Is (PtrV bk9)) (a238.eval (.tmp 1)) w239 := is_any (hk242.holds rfl hv214)
          have hb246 := hb215.up hg241
          have g247 := g216.trans hg241
          have g248 := g217.trans hg241
          have g249 := g218.trans hg241
          have g250 := g219.trans hg241
          have g251 := g220.trans hg241
          have kk252 : Keep _ a159 a238 := kk221.trans hk242 rfl
          clear hv214 hb215 g216 g217 g218 g219 g220 kk221 hf208 hk242 hn243 hg241
          refine then_ ?_
          exact ⟨(i + 1), (by ((try dsimp only); omega)), hf240, (by omega), (by exact hst), g247, g248, g249, g250, kk252, (is_cast h244 (by first | rfl | (refine congrArg intV ?_; (try dsimp only); omega))), hb246⟩
      · intro hc202
        try simp only [cond_norm] at hc202
        have hc5 := all_bad (p := seqBad) (l := s.seqs) (i := i) (by assumption) (by omega)
        refine wp_exit ?_
        refine thenX ?_
        refine thenX ?_
        refine blockX ?_
        refine then_ ?_
        refine wp_seq ?_
        refine wp_seq ?_
        refine wp_region_lit ?_
        refine wp_all [([], [])] [1] w160.heap.size hf189 g200.size (by kernel_rfl) bund_nil ?_
        refine ch rfl (ob_assign arg_c) ?_
        refine ch_nil ?_
        intro a253 w254 hf255 hg256 hk257 hn258
        have h259 : Holds _ (a253.eval (.tmp 6)) w254 := hn258.at 0 0 rfl rfl rfl
        have hv260 : Holds (Is (PtrV bk9)) (a253.eval (.tmp 1)) w254 := is_any (hk257.holds rfl hv195)
        have hb261 := hb196.up hg256
        have g262 := g197.trans hg256
        have g263 := g198.trans hg256
        have g264 := g199.trans hg256
        have g265 := g200.trans hg256
        clear hv195 hb196 g197 g198 g199 g200 hf189 hk257 hn258 hg256
        refine then_ ?_
        refine wp_block ?_
        have g266 : Grow w254 w254 := Grow.refl _
        have hl267 : bk9 < w254.heap.size := hb261.lt
        have hz268 : w160.heap.size ≤ w254.heap.size := g265.size
        refine wp_loopL (α := Nat) (fun i a' w' => Fr 140 a' ∧ (i ≤ s.locks.length) ∧ (∀ j, j < i → lockBad (s.locks.getD j default) = false) ∧ (∀ j, 1 ≤ j → j < i → cmpK (s.locks.getD (j - 1) default) (s.locks.getD j default) < 0) ∧ Grow w0 w' ∧ Grow w14 w' ∧ Grow w39 w' ∧ Grow w160 w' ∧ Grow w254 w' ∧ Keep [1] a253 a' ∧ Holds (Is (intV (i : Int))) (a'.eval (.tmp 6)) w' ∧ Blk bk9 (_) w') (fun i => s.locks.length - i) (0) ⟨hf255, (by omega), (by exact fun j hj => absurd hj (Nat.not_lt_zero j)), (by exact fun j _ hj => absurd hj (Nat.not_lt_zero j)), g262, g263, g264, g265, g266, Keep.refl _ _, (is_cast h259 (by first | rfl | (refine congrArg intV ?_; (try dsimp only); omega))), hb261⟩ ?_
        intro i a269 w270 ⟨hf271, hi273, hi274, hi275, g276, g277, g278, g279, g280, kk272, h281, hb282⟩
        have hv283 : Holds (Is (PtrV bk9)) (a269.eval (.tmp 1)) w270 := is_any (kk272.holds rfl hv260)
        refine wp_seq ?_
        refine wp_seq ?_
        refine wp_region_lit ?_
        refine wp_all [([6], []), ([1], []), ([], [1]), ([], [2]), ([], [0, 3])] [1, 6] w254.heap.size hf271 g280.size (by kernel_rfl) (bund_cons h281 (bund_cons (hb282.ownp hv283) bund_nil)) ?_
        refine ch rfl (ob_move (arg_free 0 rfl rfl)) ?_
        refine ch rfl (ob_faP (n := 0) (arg_free 1 rfl rfl) Try.underlying42 rfl (by kernel_rfl)) ?_
        refine ch rfl (ob_loadP (arg_op 1 0 rfl rfl rfl rfl) Try.underlying38 rfl rfl) ?_
        refine ch rfl (ob_len (ArgOK.val (arg_op 2 0 rfl rfl rfl rfl) (hvc0.up g276)) Try.underlying38) ?_
        refine ch rfl (ob_lss (arg_op 0 3 rfl rfl rfl rfl) (arg_op 3 0 rfl rfl rfl rfl)) ?_
        refine ch_nil ?_
        intro a284 w285 hf286 hg287 hk288 hn289
        have h290 : Holds _ (a284.eval (.tmp 76)) w285 := hn289.at 4 0 rfl rfl rfl
        have h291 := hk288.holds rfl (h281.up hg287)
        have hv292 : Holds (Is (PtrV bk9)) (a284.eval (.tmp 1)) w285 := is_any (hk288.holds rfl hv283)
        have hb293 := hb282.up hg287
        have g294 := g276.trans hg287
        have g295 := g277.trans hg287
        have g296 := g278.trans hg287
        have g297 := g279.trans hg287
        have g298 := g280.trans hg287
        have kk299 : Keep _ a253 a284 := kk272.trans hk288 rfl
        clear h281 hv283 hb282 g276 g277 g278 g279 g280 kk272 hf271 hk288 hn289 hg287
        refine then_ ?_
        refine wp_if h290 ?_ ?_
        · intro hc300
          try simp only [cond_norm] at hc300
          refine wp_skip ?_
          refine then_ ?_
          refine wp_seq ?_
          refine wp_block ?_
          refine wp_seq ?_
          have g301 : Grow w285 w285 := Grow.refl _
          have hl302 : bk9 < w285.heap.size := hb293.lt
          have hz303 : w254.heap.size ≤ w285.heap.size := g298.size
          refine wp_region_lit ?_
          refine wp_seg (l1 := [_, _, _, _, _, _]) [([1], []), ([], [0]), ([6], []), ([], [1, 2]), ([], [3]), ([], [])] [1, 6] w285.heap.size hf286 g301.size (by kernel_rfl) (bund_cons (hb293.ownp hv292) (bund_cons h291 bund_nil)) ?_
          refine ch rfl (ob_faP (n := 0) (arg_free 0 rfl rfl) Try.underlying42 rfl (by kernel_rfl)) ?_
          refine ch rfl (ob_loadP (arg_op 0 0 rfl rfl rfl rfl) Try.underlying38 rfl rfl) ?_
          refine ch rfl (ob_move (arg_free 1 rfl rfl)) ?_
          refine ch rfl (ob_ix (ArgOK.val (arg_op 1 1 rfl rfl rfl rfl) (hvc0.up g294)) (arg_op 2 0 rfl rfl rfl rfl) (rfl) ?_ Try.underlying38 szLock) ?_
          · omega
          refine ch rfl (ob_load_lock (arg_op 3 0 rfl rfl rfl rfl)) ?_
          refine ch rfl (ob_alloc_lock) ?_
          refine ch_nil ?_
          intro a304 w305 hf306 hg307 hk308 hn309
          have h310 : Holds _ (a304.eval (.tmp 83)) w305 := hn309.at 4 1 rfl rfl rfl
          have h311 : Holds _ (a304.eval (.tmp 7)) w305 := hn309.at 5 0 rfl rfl rfl
          have h312 := hk308.holds rfl h291
          have hv313 : Holds (Is (PtrV bk9)) (a304.eval (.tmp 1)) w305 := is_any (hk308.holds rfl hv292)
          have hb314 := hb293.up hg307
          have g315 := g294.trans hg307
          have g316 := g295.trans hg307
          have g317 := g296.trans hg307
          have g318 := g297.trans hg307
          have g319 := g298.trans hg307
          have g320 := g301.trans hg307
          have kk321 : Keep _ a253 a304 := kk299.trans hk308 rfl
          obtain ⟨bk322, hl323, hv324, hb325⟩ := OwnB.blk (lo := w285.heap.size) h311
          clear h291 hv292 hb293 g294 g295 g296 g297 g298 g301 kk299 hf286 hk308 hn309
          refine wl_store_lock hv324 hb325 rfl h310 ?_
          intro w326 ho327 hb328
          have g329 : Grow w0 w326 := g315.only ho327 (by omega)
          have g330 : Grow w14 w326 := g316.only ho327 (by omega)
          have g331 : Grow w39 w326 := g317.only ho327 (by omega)
          have g332 : Grow w160 w326 := g318.only ho327 (by omega)
          have g333 : Grow w254 w326 := g319.only ho327 (by omega)
          have g334 : Grow w285 w326 := g320.only ho327 (by omega)
          have hv335 : Holds (Is (PtrV bk9)) (a304.eval (.tmp 1)) w326 := is_any hv313
          have hb336 : Blk bk9 _ w326 := hb314.only ho327 (by omega)
          have hv337 : Holds (Is (PtrV bk322)) (a304.eval (.tmp 7)) w326 := is_any hv324
          refine wpList_nil ?_
          refine then_ ?_
          refine wp_seq ?_
          have g338 : Grow w326 w326 := Grow.refl _
          have hl339 : bk9 < w326.heap.size := hb336.lt
          have hl340 : bk322 < w326.heap.size := hb328.lt
          have hz341 : w285.heap.size ≤ w326.heap.size := g334.size
          refine wp_calm [0, 1, 3, 7, 15, 31, 63, 127, 255, 511, 1023, 2047, 4095, 8191, 16383, 32767, 65535, 131071, 262143, 524287, 1048575, 2097151, 1048575, 5242879, 16777215, 33554431, 67108863, 1048575, 135266303, 536870911, 1073741823, 2147483647, 4294967295] [([7], []), ([], [0]), ([], [1]), ([], [2]), ([], [3]), ([7], [4]), ([], [5, 4]), ([], [6, 4]), ([], [7, 4]), ([], [4, 8]), ([], [9]), ([7], [10]), ([], [11, 10]), ([], [12, 10]), ([], [13, 10]), ([], [10, 14]), ([], [15]), ([6], [16]), ([], [17, 16]), ([], [18, 16]), ([1], [19]), ([], [20, 19]), ([6], [19]), ([], [22, 19]), ([], [21, 23, 19]), ([], [24, 19]), ([], [25, 19]), ([7], [19]), ([], [27, 19]), ([], [26, 28, 19]), ([], [29, 19]), ([], [19, 30, 16]), ([], [16, 31])] [1, 6] w326.heap.size hf306 g338.size (by kernel_rfl) (bund_cons (hb328.ownp hv337) (bund_cons (is_any h312) (bund_cons (hb336.ownp hv335) bund_nil))) ?_
          intro ws342 hs343
          refine ch rfl (ob_fa_lock2 (ArgOK.ownp (arg_free 0 rfl rfl))) ?_
          refine ch rfl (ob_load1 (arg_op 0 0 rfl rfl rfl rfl) Try.underlying3 rfl) ?_
          refine ch rfl (ob_call3 (by kernel_rfl) (c_within) (arg_op 1 0 rfl rfl rfl rfl) arg_c arg_c) ?_
          refine ch rfl (ob_not (arg_op 2 0 rfl rfl rfl rfl)) ?_
          refine ch rfl (ob_move (arg_op 3 0 rfl rfl rfl rfl)) ?_
          refine chg (b := _) rfl rfl (arg_op 4 0 rfl rfl rfl rfl) (fun hb4 => ob_fa_lock3 (ArgOK.ownp (arg_free 0 rfl rfl))) ?_
          refine chg (b := _) rfl rfl (arg_op 4 1 rfl rfl rfl rfl) (fun hb4 => ob_load1 (ArgOK.when (arg_op 5 0 rfl rfl rfl rfl) hb4) Try.underlying3 rfl) ?_
          refine chg (b := _) rfl rfl (arg_op 4 2 rfl rfl rfl rfl) (fun hb4 => ob_call3 (by kernel_rfl) (c_within) (ArgOK.when (arg_op 6 0 rfl rfl rfl rfl) hb4) arg_c arg_c) ?_
          refine chg (b := _) rfl rfl (arg_op 4 3 rfl rfl rfl rfl) (fun hb4 => ob_not (ArgOK.when (arg_op 7 0 rfl rfl rfl rfl) hb4)) ?_
          refine ch rfl (ob_or (arg_op 4 4 rfl rfl rfl rfl) (arg_op 8 0 rfl rfl rfl rfl)) ?_
          refine ch rfl (ob_move (arg_op 9 0 rfl rfl rfl rfl)) ?_
          refine chg (b := _) rfl rfl (arg_op 10 0 rfl rfl rfl rfl) (fun hb10 => ob_fa_lock4 (ArgOK.ownp (arg_free 0 rfl rfl))) ?_
          refine chg (b := _) rfl rfl (arg_op 10 1 rfl rfl rfl rfl) (fun hb10 => ob_load1 (ArgOK.when (arg_op 11 0 rfl rfl rfl rfl) hb10) Try.underlying3 rfl) ?_
          refine chg (b := _) rfl rfl (arg_op 10 2 rfl rfl rfl rfl) (fun hb10 => ob_call3 (by kernel_rfl) (c_within) (ArgOK.when (arg_op 12 0 rfl rfl rfl rfl) hb10) arg_c arg_c) ?_
          refine chg (b := _) rfl rfl (arg_op 10 3 rfl rfl rfl rfl) (fun hb10 => ob_not (ArgOK.when (arg_op 13 0 rfl rfl rfl rfl) hb10)) ?_
          refine ch rfl (ob_or (arg_op 10 4 rfl rfl rfl rfl) (arg_op 14 0 rfl rfl rfl rfl)) ?_
          refine ch rfl (ob_move (arg_op 15 0 rfl rfl rfl rfl)) ?_
          refine chg (b := _) rfl rfl (arg_op 16 0 rfl rfl rfl rfl) (fun hb16 => ob_move (arg_free 1 rfl rfl)) ?_
          refine chg (b := _) rfl rfl (arg_op 16 1 rfl rfl rfl rfl) (fun hb16 => ob_gtr (ArgOK.when (arg_op 17 0 rfl rfl rfl rfl) hb16) arg_c) ?_
          refine chg (b := _) rfl rfl (arg_op 16 2 rfl rfl rfl rfl) (fun hb16 => ob_move (ArgOK.when (arg_op 18 0 rfl rfl rfl rfl) hb16)) ?_
          refine chgn (b := _) rfl rfl (arg_op 19 0 rfl rfl rfl rfl) (fun ⟨hb16, hb19⟩ => ob_faP (n := 0) (arg_free 2 rfl rfl) Try.underlying42 rfl (by kernel_rfl)) ?_
          refine chgn (b := _) rfl rfl (arg_op 19 1 rfl rfl rfl rfl) (fun ⟨hb16, hb19⟩ => ob_loadP (ArgOK.when (arg_op 20 0 rfl rfl rfl rfl) ⟨hb16, hb19⟩) Try.underlying38 rfl rfl) ?_
          refine chgn (b := _) rfl rfl (arg_op 19 2 rfl rfl rfl rfl) (fun ⟨hb16, hb19⟩ => ob_move (arg_free 1 rfl rfl)) ?_
          first
            | (refine chgn (b := _) rfl rfl (arg_op 19 3 rfl rfl rfl rfl) (fun ⟨hb16, hb19⟩ => ob_sub' (ArgOK.when (arg_op 22 0 rfl rfl rfl rfl) ⟨hb16, hb19⟩) arg_c ?_) ?_; · omega)
            | refine chgn (b := _) rfl rfl (arg_op 19 3 rfl rfl rfl rfl) (fun ⟨hb16, hb19⟩ => ob_sub (ArgOK.when (arg_op 22 0 rfl rfl rfl rfl) ⟨hb16, hb19⟩) arg_c) ?_
          refine chgn (b := _) rfl rfl (arg_op 19 4 rfl rfl rfl rfl) (fun ⟨hb16, hb19⟩ => ob_ix (ArgOK.val (ArgOK.when (arg_op 21 2 rfl rfl rfl rfl) ⟨hb16, hb19⟩) ((hvc0.up g329).up hs343)) (ArgOK.when (arg_op 23 0 rfl rfl rfl rfl) ⟨hb16, hb19⟩) (show (i : Int) - 1 = ((i - 1 : Nat) : Int) from (by have hq := of_decide_eq_true hb19; omega)) ?_ Try.underlying38 szLock) ?_
          · (have hq := of_decide_eq_true hb19; omega)
          refine chgn (b := _) rfl rfl (arg_op 19 5 rfl rfl rfl rfl) (fun ⟨hb16, hb19⟩ => ob_fa_lock0 (ArgOK.when (arg_op 24 0 rfl rfl rfl rfl) ⟨hb16, hb19⟩)) ?_
          refine chgn (b := _) rfl rfl (arg_op 19 6 rfl rfl rfl rfl) (fun ⟨hb16, hb19⟩ => ob_load_nm (ArgOK.when (arg_op 25 0 rfl rfl rfl rfl) ⟨hb16, hb19⟩)) ?_
          refine chgn (b := _) rfl rfl (arg_op 19 7 rfl rfl rfl rfl) (fun ⟨hb16, hb19⟩ => ob_fa_lock0 (ArgOK.ownp (arg_free 0 rfl rfl))) ?_
          refine chgn (b := _) rfl rfl (arg_op 19 8 rfl rfl rfl rfl) (fun ⟨hb16, hb19⟩ => ob_load_nm (ArgOK.when (arg_op 27 0 rfl rfl rfl rfl) ⟨hb16, hb19⟩)) ?_
          refine chgn (b := _) rfl rfl (arg_op 19 9 rfl rfl rfl rfl) (fun ⟨hb16, hb19⟩ => ob_call2 (by kernel_rfl) (c_rLess) (ArgOK.when (arg_op 26 2 rfl rfl rfl rfl) ⟨hb16, hb19⟩) (ArgOK.when (arg_op 28 0 rfl rfl rfl rfl) ⟨hb16, hb19⟩)) ?_
          refine chgn (b := _) rfl rfl (arg_op 19 10 rfl rfl rfl rfl) (fun ⟨hb16, hb19⟩ => ob_not (ArgOK.when (arg_op 29 0 rfl rfl rfl rfl) ⟨hb16, hb19⟩)) ?_
          refine chg (b := _) rfl rfl (arg_op 16 14 rfl rfl rfl rfl) (fun hb16 => ob_and (ArgOK.when (arg_op 19 11 rfl rfl rfl rfl) hb16) (ArgOK.whenAnd (arg_op 30 0 rfl rfl rfl rfl) hb16)) ?_
          refine ch rfl (ob_or (arg_op 16 15 rfl rfl rfl rfl) (arg_op 31 0 rfl rfl rfl rfl)) ?_
          refine ch_nil ?_
          intro a344 w345 hf346 hg347 hk348 hn349
          have h350 : Holds _ (a344.eval (.tmp 116)) w345 := hn349.at 32 0 rfl rfl rfl
          have h351 := hk348.holds rfl h312
          have hv352 : Holds (Is (PtrV bk9)) (a344.eval (.tmp 1)) w345 := is_any (hk348.holds rfl hv335)
          have hb353 := hb336.up hg347
          have g354 := g329.trans hg347
          have g355 := g330.trans hg347
          have g356 := g331.trans hg347
          have g357 := g332.trans hg347
          have g358 := g333.trans hg347
          have g359 := g334.trans hg347
          have g360 := g338.trans hg347
          have kk361 : Keep _ a253 a344 := kk321.trans hk348 rfl
          clear h312 hv335 hb336 g329 g330 g331 g332 g333 g334 g338 kk321 hf306 hk348 hn349
          refine then_ ?_
          refine wp_if h350 ?_ ?_
          · intro hc362
            have hz := vs_no3 (s := s) (i := i) (by omega) hc362
            refine wp_seq ?_
            refine wp_region_lit ?_
            refine wp_all [([], [])] [1] w326.heap.size hf346 g360.size (by kernel_rfl) bund_nil ?_
            refine ch rfl (ob_assign arg_c) ?_
            refine ch_nil ?_
            intro a363 w364 hf365 hg366 hk367 hn368
            have h369 : Holds _ (a363.eval (.tmp 2)) w364 := hn368.at 0 0 rfl rfl rfl
            have hv370 : Holds (Is (PtrV bk9)) (a363.eval (.tmp 1)) w364 := is_any (hk367.holds rfl hv352)
            have hb371 := hb353.up hg366
            have g372 := g354.trans hg366
            have g373 := g355.trans hg366
            have g374 := g356.trans hg366
            have g375 := g357.trans hg366
            have g376 := g358.trans hg366
            have g377 := g359.trans hg366
            have g378 := g360.trans hg366
            have kk379 : Keep _ a253 a363 := kk361.trans hk367 rfl
            clear hv352 hb353 g354 g355 g356 g357 g358 g359 g360 kk361 hf346 hk367 hn368 hg366
            refine then_ ?_
            refine wp_ret ?_
            refine blockR ?_
            refine thenR ?_
            refine thenR ?_
            refine blockR ?_
            refine thenR ?_
            exact ret_tmp rfl hf365 g372 (is_cast h369 (congrArg Value.bool hz))
          · intro hc362
            have hst := vs_ok3 (s := s) (i := i) (by assumption) (by assumption) hc362
            refine wp_skip ?_
            refine blockN ?_
            refine then_ ?_
            refine wp_region_lit ?_
            refine wp_all [([6], []), ([], [0]), ([], [1])] [1] w326.heap.size hf346 g360.size (by kernel_rfl) (bund_cons (is_any h351) bund_nil) ?_
            refine ch rfl (ob_move (arg_free 0 rfl rfl)) ?_
            first
              | (refine ch rfl (ob_add' (arg_op 0 0 rfl rfl rfl rfl) arg_c ?_) ?_; · omega)
              | refine ch rfl (ob_add (arg_op 0 0 rfl rfl rfl rfl) arg_c) ?_
            refine ch rfl (ob_assign (arg_op 1 0 rfl rfl rfl rfl)) ?_
            refine ch_nil ?_
            intro a380 w381 hf382 hg383 hk384 hn385
            have h386 : Holds _ (a380.eval (.tmp 6)) w381 := hn385.at 2 0 rfl rfl rfl
            have hv387 : Holds (Is (PtrV bk9)) (a380.eval (.tmp 1)) w381 := is_any (hk384.holds rfl hv352)
            have hb388 := hb353.up hg383
            have g389 := g354.trans hg383
            have g390 := g355.trans hg383
            have g391 := g356.trans hg383
            have g392 := g357.trans hg383
            have g393 := g358.trans hg383
            have g394 := g359.trans hg383
            have g395 := g360.trans hg383
            have kk396 : Keep _ a253 a380 := kk361.trans hk384 rfl
            clear hv352 hb353 g354 g355 g356 g357 g358 g359 g360 kk361 hf346 hk384 hn385 hg383
            refine then_ ?_
            exact ⟨(i + 1), (by ((try dsimp only); omega)), hf382, (by omega), (by exact hst.1), (by exact hst.2), g389, g390, g391, g392, g393, kk396, (is_cast h386 (by first | rfl | (refine congrArg intV ?_; (try dsimp only); omega))), hb388⟩
        · intro hc300
          try simp only [cond_norm] at hc300
          have hc6 := all_bad (p := lockBad) (l := s.locks) (i := i) (by assumption) (by omega); have hc7 := (asc_yes (c := cmpK) (l := s.locks) (i := i) (by assumption) (by omega)).symm
          refine wp_exit ?_
          refine thenX ?_
          refine thenX ?_
          refine blockX ?_
          refine then_ ?_
          refine wp_seq ?_
          refine wp_seq ?_
          refine wp_region_lit ?_
          refine wp_all [([], [])] [1] w254.heap.size hf286 g298.size (by kernel_rfl) bund_nil ?_
          refine ch rfl (ob_assign arg_c) ?_
          refine ch_nil ?_
          intro a397 w398 hf399 hg400 hk401 hn402
          have h403 : Holds _ (a397.eval (.tmp 8)) w398 := hn402.at 0 0 rfl rfl rfl
          have hv404 : Holds (Is (PtrV bk9)) (a397.eval (.tmp 1)) w398 := is_any (hk401.holds rfl hv292)
          have hb405 := hb293.up hg400
          have g406 := g294.trans hg400
          have g407 := g295.trans hg400
          have g408 := g296.trans hg400
          have g409 := g297.trans hg400
          have g410 := g298.trans hg400
          clear hv292 hb293 g294 g295 g296 g297 g298 hf286 hk401 hn402 hg400
          refine then_ ?_
          refine wp_block ?_
          have g411 : Grow w398 w398 := Grow.refl _
          have hl412 : bk9 < w398.heap.size := hb405.lt
          have hz413 : w254.heap.size ≤ w398.heap.size := g410.size
          refine wp_loopL (α := Nat) (fun i a' w' => Fr 140 a' ∧ (1 ≤ i) ∧ (∀ j, 1 ≤ j → j < i → cmpN (s.applied.getD (j - 1) default) (s.applied.getD j default) < 0) ∧ Grow w0 w' ∧ Grow w14 w' ∧ Grow w39 w' ∧ Grow w160 w' ∧ Grow w254 w' ∧ Grow w398 w' ∧ Keep [1] a397 a' ∧ Holds (Is (intV (i : Int))) (a'.eval (.tmp 8)) w' ∧ Blk bk9 (_) w') (fun i => s.applied.length - i) (1) ⟨hf399, (by omega), (by exact fun j h1 h2 => absurd h2 (by omega)), g406, g407, g408, g409, g410, g411, Keep.refl _ _, (is_cast h403 (by first | rfl | (refine congrArg intV ?_; (try dsimp only); omega))), hb405⟩ ?_
          intro i a414 w415 ⟨hf416, hi418, hi419, g420, g421, g422, g423, g424, g425, kk417, h426, hb427⟩
          have hv428 : Holds (Is (PtrV bk9)) (a414.eval (.tmp 1)) w415 := is_any (kk417.holds rfl hv404)
          refine wp_seq ?_
          refine wp_seq ?_
          refine wp_region_lit ?_
          refine wp_all [([8], []), ([1], []), ([], [1]), ([], [2]), ([], [0, 3])] [1, 8] w398.heap.size hf416 g425.size (by kernel_rfl) (bund_cons h426 (bund_cons (hb427.ownp hv428) bund_nil)) ?_
          refine ch rfl (ob_move (arg_free 0 rfl rfl)) ?_
          refine ch rfl (ob_faP (n := 0) (arg_free 1 rfl rfl) Try.underlying42 rfl (by kernel_rfl)) ?_
          refine ch rfl (ob_loadP (arg_op 1 0 rfl rfl rfl rfl) Try.underlying39 rfl rfl) ?_
          refine ch rfl (ob_len (ArgOK.val (arg_op 2 0 rfl rfl rfl rfl) (hvd0.up g420)) Try.underlying39) ?_
          refine ch rfl (ob_lss (arg_op 0 3 rfl rfl rfl rfl) (arg_op 3 0 rfl rfl rfl rfl)) ?_
          refine ch_nil ?_
          intro a429 w430 hf431 hg432 hk433 hn434
          have h435 : Holds _ (a429.eval (.tmp 121)) w430 := hn434.at 4 0 rfl rfl rfl
          have h436 := hk433.holds rfl (h426.up hg432)
          have hv437 : Holds (Is (PtrV bk9)) (a429.eval (.tmp 1)) w430 := is_any (hk433.holds rfl hv428)
          have hb438 := hb427.up hg432
          have g439 := g420.trans hg432
          have g440 := g421.trans hg432
          have g441 := g422.trans hg432
          have g442 := g423.trans hg432
          have g443 := g424.trans hg432
          have g444 := g425.trans hg432
          have kk445 : Keep _ a397 a429 := kk417.trans hk433 rfl
          clear h426 hv428 hb427 g420 g421 g422 g423 g424 g425 kk417 hf416 hk433 hn434 hg432
          refine then_ ?_
          refine wp_if h435 ?_ ?_
          · intro hc446
            try simp only [cond_norm] at hc446
            refine wp_skip ?_
            refine then_ ?_
            refine wp_seq ?_
            refine wp_block ?_
            refine wp_seq ?_
            have g447 : Grow w430 w430 := Grow.refl _
            have hl448 : bk9 < w430.heap.size := hb438.lt
            have hz449 : w398.heap.size ≤ w430.heap.size := g444.size
            refine wp_calm [0, 1, 0, 4, 15, 31, 0, 64, 0, 448, 960, 2047, 4095] [([1], []), ([], [0]), ([8], []), ([], [2]), ([], [1, 3]), ([], [4]), ([1], []), ([], [6]), ([8], []), ([], [7, 8]), ([], [9]), ([], [5, 10]), ([], [11])] [1, 8] w430.heap.size hf431 g447.size (by kernel_rfl) (bund_cons (hb438.ownp hv437) (bund_cons h436 bund_nil)) ?_
            intro ws450 hs451
            refine ch rfl (ob_faP (n := 0) (arg_free 0 rfl rfl) Try.underlying42 rfl (by kernel_rfl)) ?_
            refine ch rfl (ob_loadP (arg_op 0 0 rfl rfl rfl rfl) Try.underlying39 rfl rfl) ?_
            refine ch rfl (ob_move (arg_free 1 rfl rfl)) ?_
            first
              | (refine ch rfl (ob_sub' (arg_op 2 0 rfl rfl rfl rfl) arg_c ?_) ?_; · omega)
              | refine ch rfl (ob_sub (arg_op 2 0 rfl rfl rfl rfl) arg_c) ?_
            refine ch rfl (ob_ix (ArgOK.val (arg_op 1 2 rfl rfl rfl rfl) ((hvd0.up g439).up hs451)) (arg_op 3 0 rfl rfl rfl rfl) (show (i : Int) - 1 = ((i - 1 : Nat) : Int) by omega) ?_ Try.underlying39 szNm) ?_
            · omega
            refine ch rfl (ob_load_nm (arg_op 4 0 rfl rfl rfl rfl)) ?_
            refine ch rfl (ob_faP (n := 0) (arg_free 0 rfl rfl) Try.underlying42 rfl (by kernel_rfl)) ?_
            refine ch rfl (ob_loadP (arg_op 6 0 rfl rfl rfl rfl) Try.underlying39 rfl rfl) ?_
            refine ch rfl (ob_move (arg_free 1 rfl rfl)) ?_
            refine ch rfl (ob_ix (ArgOK.val (arg_op 7 1 rfl rfl rfl rfl) ((hvd0.up g439).up hs451)) (arg_op 8 0 rfl rfl rfl rfl) (rfl) ?_ Try.underlying39 szNm) ?_
            · omega
            refine ch rfl (ob_load_nm (arg_op 9 0 rfl rfl rfl rfl)) ?_
            refine ch rfl (ob_call2 (by kernel_rfl) (c_rLess) (arg_op 5 5 rfl rfl rfl rfl) (arg_op 10 0 rfl rfl rfl rfl)) ?_
            refine ch rfl (ob_not (arg_op 11 0 rfl rfl rfl rfl)) ?_
            refine ch_nil ?_
            intro a452 w453 hf454 hg455 hk456 hn457
            have h458 : Holds _ (a452.eval (.tmp 136)) w453 := hn457.at 12 0 rfl rfl rfl
            have h459 := hk456.holds rfl h436
            have hv460 : Holds (Is (PtrV bk9)) (a452.eval (.tmp 1)) w453 := is_any (hk456.holds rfl hv437)
            have hb461 := hb438.up hg455
            have g462 := g439.trans hg455
            have g463 := g440.trans hg455
            have g464 := g441.trans hg455
            have g465 := g442.trans hg455
            have g466 := g443.trans hg455
            have g467 := g444.trans hg455
            have g468 := g447.trans hg455
            have kk469 : Keep _ a397 a452 := kk445.trans hk456 rfl
            clear h436 hv437 hb438 g439 g440 g441 g442 g443 g444 g447 kk445 hf431 hk456 hn457
            refine then_ ?_
            refine wp_if h458 ?_ ?_
            · intro hc470
              have hz := vs_no4 (s := s) (i := i) (by omega) (by omega) hc470
              refine wp_seq ?_
              refine wp_region_lit ?_
              refine wp_all [([], [])] [1] w430.heap.size hf454 g468.size (by kernel_rfl) bund_nil ?_
              refine ch rfl (ob_assign arg_c) ?_
              refine ch_nil ?_
              intro a471 w472 hf473 hg474 hk475 hn476
              have h477 : Holds _ (a471.eval (.tmp 2)) w472 := hn476.at 0 0 rfl rfl rfl
              have hv478 : Holds (Is (PtrV bk9)) (a471.eval (.tmp 1)) w472 := is_any (hk475.holds rfl hv460)
              have hb479 := hb461.up hg474
              have g480 := g462.trans hg474
              have g481 := g463.trans hg474
              have g482 := g464.trans hg474
              have g483 := g465.trans hg474
              have g484 := g466.trans hg474
              have g485 := g467.trans hg474
              have g486 := g468.trans hg474
              have kk487 : Keep _ a397 a471 := kk469.trans hk475 rfl
              clear hv460 hb461 g462 g463 g464 g465 g466 g467 g468 kk469 hf454 hk475 hn476 hg474
              refine then_ ?_
              refine wp_ret ?_
              refine blockR ?_
              refine thenR ?_
              refine thenR ?_
              refine blockR ?_
              refine thenR ?_
              exact ret_tmp rfl hf473 g480 (is_cast h477 (congrArg Value.bool hz))
            · intro hc470
              have hst := vs_ok4 (l := s.applied) (i := i) (by assumption) hc470
              refine wp_skip ?_
              refine blockN ?_
              refine then_ ?_
              refine wp_region_lit ?_
              refine wp_all [([8], []), ([], [0]), ([], [1])] [1] w430.heap.size hf454 g468.size (by kernel_rfl) (bund_cons (is_any h459) bund_nil) ?_
              refine ch rfl (ob_move (arg_free 0 rfl rfl)) ?_
              first
                | (refine ch rfl (ob_add' (arg_op 0 0 rfl rfl rfl rfl) arg_c ?_) ?_; · omega)
                | refine ch rfl (ob_add (arg_op 0 0 rfl rfl rfl rfl) arg_c) ?_
              refine ch rfl (ob_assign (arg_op 1 0 rfl rfl rfl rfl)) ?_
              refine ch_nil ?_
              intro a488 w489 hf490 hg491 hk492 hn493
              have h494 : Holds _ (a488.eval (.tmp 8)) w489 := hn493.at 2 0 rfl rfl rfl
              have hv495 : Holds (Is (PtrV bk9)) (a488.eval (.tmp 1)) w489 := is_any (hk492.holds rfl hv460)
              have hb496 := hb461.up hg491
              have g497 := g462.trans hg491
              have g498 := g463.trans hg491
              have g499 := g464.trans hg491
              have g500 := g465.trans hg491
              have g501 := g466.trans hg491
              have g502 := g467.trans hg491
              have g503 := g468.trans hg491
              have kk504 : Keep _ a397 a488 := kk469.trans hk492 rfl
              clear hv460 hb461 g462 g463 g464 g465 g466 g467 g468 kk469 hf454 hk492 hn493 hg491
              refine then_ ?_
              exact ⟨(i + 1), (by ((try dsimp only); omega)), hf490, (by omega), (by exact hst), g497, g498, g499, g500, g501, g502, kk504, (is_cast h494 (by first | rfl | (refine congrArg intV ?_; (try dsimp only); omega))), hb496⟩
          · intro hc446
            try simp only [cond_norm] at hc446
            have hc8 := (asc_yes (c := cmpN) (l := s.applied) (i := i) (by assumption) (by omega)).symm; have hz := vs_end hc1 hc2 hc3 hc5 hc6 hc7 hc8
            refine wp_exit ?_
            refine thenX ?_
            refine thenX ?_
            refine blockX ?_
            refine then_ ?_
            refine wp_seq ?_
            have g505 : Grow w430 w430 := Grow.refl _
            have hl506 : bk9 < w430.heap.size := hb438.lt
            have hz507 : w398.heap.size ≤ w430.heap.size := g444.size
            refine wp_region_lit ?_
            refine wp_all [([1], []), ([], [0]), ([], [1]), ([], [2])] [] w430.heap.size hf431 g505.size (by kernel_rfl) (bund_cons (hb438.ownp hv437) bund_nil) ?_
            refine ch rfl (ob_faP (n := 0) (arg_free 0 rfl rfl) Try.underlying42 rfl (by kernel_rfl)) ?_
            refine ch rfl (ob_loadP (arg_op 0 0 rfl rfl rfl rfl) Try.underlying40 rfl rfl) ?_
            refine ch rfl (ob_call3 (by kernel_rfl) (c_within) (arg_op 1 0 rfl rfl rfl rfl) arg_c arg_c) ?_
            refine ch rfl (ob_assign (arg_op 2 0 rfl rfl rfl rfl)) ?_
            refine ch_nil ?_
            intro a508 w509 hf510 hg511 hk512 hn513
            have h514 : Holds _ (a508.eval (.tmp 2)) w509 := hn513.at 3 0 rfl rfl rfl
            have g515 := g439.trans hg511
            have g516 := g440.trans hg511
            have g517 := g441.trans hg511
            have g518 := g442.trans hg511
            have g519 := g443.trans hg511
            have g520 := g444.trans hg511
            have g521 := g505.trans hg511
            clear g439 g440 g441 g442 g443 g444 g505 hf431 hk512 hn513
            refine then_ ?_
            refine wp_ret ?_
            exact ret_tmp rfl hf510 g515 (is_cast h514 (congrArg Value.bool hz))
end Ex
end Go.Proofs.Ytnmfiiejhoafnaa
