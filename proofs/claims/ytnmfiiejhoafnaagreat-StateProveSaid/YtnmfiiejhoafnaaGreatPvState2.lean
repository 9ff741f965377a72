/- Lists and states, read: of the program and of the reference. -/
import Derived.Test.YtnmfiiejhoafnaaGreatPvState1
import Derived.Test.YtnmfiiejhoafnaaGreatPvFnv
set_option linter.unusedSimpArgs false
set_option linter.unusedVariables false
namespace Go.Proofs.YtnmfiiejhoafnaaGreat
namespace Ex
open Go Calm Go.RowKit
theorem sameG_len {α : Type} [DecidableEq α] {a b : List α} (h : a.length ≠ b.length) : false = decide (a = b) := (decide_eq_false fun e => h (by rw [e])).symm
theorem sameG_ne {α : Type} [DecidableEq α] [Inhabited α] {a b : List α} {i : Nat} (h : a.getD i default ≠ b.getD i default) : false = decide (a = b) := (decide_eq_false fun e => h (by rw [e])).symm
theorem sameG_all {α : Type} [DecidableEq α] {a b : List α} {i : Nat} (h1 : a.length = b.length) (h2 : a.take i = b.take i) (h3 : a.length ≤ i) : true = decide (a = b) :=
  (decide_eq_true (by rw [List.take_of_length_le h3, List.take_of_length_le (by omega)] at h2; exact h2)).symm
theorem sameG_step {α : Type} [Inhabited α] {a b : List α} {i : Nat} (h1 : a.take i = b.take i) (h2 : a.getD i default = b.getD i default) (ha : i < a.length) (hb : i < b.length) : a.take (i + 1) = b.take (i + 1) := by
  rw [List.take_add_one, List.take_add_one, h1, List.getElem?_eq_getElem ha, List.getElem?_eq_getElem hb]
  rw [List.getD_eq_getElem?_getD, List.getD_eq_getElem?_getD, List.getElem?_eq_getElem ha, List.getElem?_eq_getElem hb] at h2
  simp only [Option.getD_some] at h2
  rw [h2]
def idxN {α : Type} (p : α → Bool) : List α → Nat
  | [] => 0
  | a :: l => if p a then 0 else idxN p l + 1
def idx {α : Type} (p : α → Bool) (l : List α) : Int := if idxN p l < l.length then (idxN p l : Int) else -1
theorem idxN_hit {α : Type} [Inhabited α] {p : α → Bool} : ∀ {l : List α} {i : Nat}, (∀ j, j < i → p (l.getD j default) = false) → i < l.length → p (l.getD i default) = true → idxN p l = i
  | [], i, _, h, _ => absurd h (Nat.not_lt_zero i)
  | a :: l, 0, _, _, h => by
    have h0 : p a = true := h
    simp [idxN, h0]
  | a :: l, i + 1, h1, h2, h3 => by
    have h0 : p a = false := h1 0 (by omega)
    simp only [idxN, h0, Bool.false_eq_true, if_false]
    rw [idxN_hit (l := l) (i := i) (fun j hj => h1 (j + 1) (by omega)) (by simpa using h2) h3]
theorem idxN_none {α : Type} [Inhabited α] {p : α → Bool} : ∀ {l : List α}, (∀ j, j < l.length → p (l.getD j default) = false) → idxN p l = l.length
  | [], _ => rfl
  | a :: l, h => by
    have h0 : p a = false := h 0 (by simp)
    simp only [idxN, h0, Bool.false_eq_true, if_false, List.length_cons]
    rw [idxN_none (l := l) (fun j hj => h (j + 1) (by simpa using hj))]
theorem idx_hit {α : Type} [Inhabited α] {p : α → Bool} {l : List α} {i : Nat} (h1 : ∀ j, j < i → p (l.getD j default) = false) (h2 : i < l.length) (h3 : p (l.getD i default) = true) : (i : Int) = idx p l := by
  unfold idx
  rw [idxN_hit h1 h2 h3, if_pos h2]
theorem idx_none {α : Type} [Inhabited α] {p : α → Bool} {l : List α} {i : Nat} (h1 : ∀ j, j < i → p (l.getD j default) = false) (h2 : l.length ≤ i) : -1 = idx p l := by
  unfold idx
  rw [idxN_none (fun j hj => h1 j (by omega)), if_neg (Nat.lt_irrefl _)]
theorem none_step {α : Type} [Inhabited α] {p : α → Bool} {l : List α} {i : Nat} (h1 : ∀ j, j < i → p (l.getD j default) = false) (h2 : p (l.getD i default) = false) : ∀ j, j < i + 1 → p (l.getD j default) = false := fun j hj => by
  by_cases e : j = i
  · subst e; exact h2
  · exact h1 j (by omega)
theorem idx_lt {α : Type} {p : α → Bool} {l : List α} (h : 0 ≤ idx p l) : (idx p l).toNat < l.length ∧ ((idx p l).toNat : Int) = idx p l := by
  unfold idx at h ⊢
  split
  · next h1 => exact ⟨by simpa using h1, by simp⟩
  · next h1 => rw [if_neg h1] at h; omega
theorem idx_neg {α : Type} {p : α → Bool} {l : List α} (h : idx p l < 0) : idx p l = -1 := by
  unfold idx at h ⊢
  split
  · next h1 => rw [if_pos h1] at h; omega
  · rfl
theorem idx_any {α : Type} (p : α → Bool) : ∀ (l : List α), decide (0 ≤ idx p l) = l.any p
  | [] => rfl
  | a :: l => by
    have ih := idx_any p l
    unfold idx at ih ⊢
    simp only [idxN, List.any_cons, List.length_cons]
    by_cases h : p a = true
    · simp only [h, if_true, Bool.true_or]
      simp
    · have h' : p a = false := by simpa using h
      simp only [h', Bool.false_eq_true, if_false, Bool.false_or, Nat.add_lt_add_iff_right]
      rw [← ih]
      split
      · simp
        omega
      · rfl
def tot (l : List GDelta) : Int64 := l.foldl (fun n d => n + d.amount) 0
theorem tot_step {l : List GDelta} {i : Nat} (h : i < l.length) : tot (l.take (i + 1)) = tot (l.take i) + (l.getD i default).amount := by
  unfold tot
  rw [List.take_add_one, List.getElem?_eq_getElem h, List.getD_eq_getElem?_getD, List.getElem?_eq_getElem h]
  simp only [Option.toList_some, List.foldl_append, List.foldl_cons, List.foldl_nil, Option.getD_some]
theorem add_i64 (a b : Int64) : IntKind.i64.wrap (a.toInt + b.toInt) = (a + b).toInt := by
  rw [IntKind.wrap_i64, Int64.toInt_add, Int.bmod_def]
  omega
theorem tot_cast {l : List GDelta} {i : Nat} (h : i < l.length) : IntKind.i64.wrap ((tot (l.take i)).toInt + (l.getD i default).amount.toInt) = (tot (l.take (i + 1))).toInt := by
  rw [tot_step h, add_i64]
def fnd (l : List GDelta) (c : GCell) : Int := idx (fun d => decide (d.cell = c)) l
def getL (l : List GDelta) (c : GCell) : Int64 := if 0 ≤ fnd l c then (l.getD (fnd l c).toNat default).amount else 0
theorem getL_no {l : List GDelta} {c : GCell} (h : fnd l c < 0) : 0 = (getL l c).toInt := by unfold getL; rw [if_neg (by omega)]; rfl
theorem getL_yes {l : List GDelta} {c : GCell} (h : 0 ≤ fnd l c) : (l.getD (fnd l c).toNat default).amount.toInt = (getL l c).toInt := by unfold getL; rw [if_pos h]
def bef {α : Type} (c : α → α → Int) (l : List α) (x : α) : Int := if 0 ≤ idx (fun y => decide (0 < c y x)) l then idx (fun y => decide (0 < c y x)) l else (l.length : Int)
def cmpD (a b : GDelta) : Int := cmpC a.cell b.cell
def cmpK (a b : GLock) : Int := cmpN a.name b.name
def asc {α : Type} [Inhabited α] (c : α → α → Int) (l : List α) : Bool := (List.range (l.length - 1)).all fun i => decide (c (l.getD i default) (l.getD (i + 1) default) < 0)
theorem asc_iff {α : Type} [Inhabited α] {c : α → α → Int} {l : List α} : asc c l = true ↔ ∀ j, 1 ≤ j → j < l.length → c (l.getD (j - 1) default) (l.getD j default) < 0 := by
  unfold asc
  simp only [List.all_eq_true, List.mem_range, decide_eq_true_eq]
  constructor
  · intro h j h1 h2
    have := h (j - 1) (by omega)
    rwa [show j - 1 + 1 = j by omega] at this
  · intro h i hi
    have := h (i + 1) (by omega) (by omega)
    rwa [show i + 1 - 1 = i by omega] at this
theorem asc_yes {α : Type} [Inhabited α] {c : α → α → Int} {l : List α} {i : Nat} (h : ∀ j, 1 ≤ j → j < i → c (l.getD (j - 1) default) (l.getD j default) < 0) (hi : l.length ≤ i) : true = asc c l := (asc_iff.2 fun j h1 h2 => h j h1 (by omega)).symm
theorem asc_no {α : Type} [Inhabited α] {c : α → α → Int} {l : List α} {i : Nat} (h1 : 1 ≤ i) (hi : i < l.length) (h : 0 ≤ c (l.getD (i - 1) default) (l.getD i default)) : false = asc c l := by
  cases e : asc c l with
  | false => rfl
  | true =>
    have := asc_iff.1 e i h1 hi
    omega
theorem asc_step {α : Type} [Inhabited α] {c : α → α → Int} {l : List α} {i : Nat} (h : ∀ j, 1 ≤ j → j < i → c (l.getD (j - 1) default) (l.getD j default) < 0) (hn : ¬ 0 ≤ c (l.getD (i - 1) default) (l.getD i default)) : ∀ j, 1 ≤ j → j < i + 1 → c (l.getD (j - 1) default) (l.getD j default) < 0 := fun j h1 h2 => by
  by_cases e : j = i
  · subst e; omega
  · exact h j h1 (by omega)
def bigS (s : GState) : Bool := (((decide (100 < (s.cells.length : Int))) || decide (100 < (s.seqs.length : Int))) || decide (100 < (s.locks.length : Int))) || decide (100 < (s.applied.length : Int))
def stOK (s : GState) : Prop := s.cells.length ≤ 100000 ∧ s.seqs.length ≤ 100000 ∧ s.locks.length ≤ 100000 ∧ s.applied.length ≤ 100000
def valS (s : GState) : Bool := !((((((((((s.cells.any deltaBad) || !(asc cmpD s.cells)) || decide ((s.seqs.length : Int) < 1)) || decide (16 < (s.seqs.length : Int))) || s.seqs.any seqBad) || s.locks.any lockBad) || !(asc cmpK s.locks)) || !(asc cmpN s.applied)) || decide (s.guilty.toInt < 0)) || decide (1023 < s.guilty.toInt))
theorem valS_no {s : GState} (h : valS s = false) : 1 = if valS s then (0 : Int) else 1 := by rw [h]; rfl
theorem valS_yes {s : GState} (h : valS s = true) : 0 = if valS s then (0 : Int) else 1 := by rw [h]; rfl
set_option maxRecDepth 100000 in
theorem c_sameN {a b : List UInt64} (ha : a.length ≤ 1000000) : Con2 41 (Sl elNm a) (Sl elNm b) (fun _ => Is (.bool (decide (a = b)))) := by
  intro lo v0 v1 w0 hlo hv0 hv1
  refine enter Tryz.func41 rfl Tryz.ntmps41 (by simp) ?_
  intro a0 hf0 ha
  have h00 : Holds (Is v0) (a0.eval (.tmp 0)) w0 := arg_holds ha rfl rfl
  have h01 : Holds (Is v1) (a0.eval (.tmp 1)) w0 := arg_holds ha rfl rfl
  clear ha
  have g0 : Grow w0 w0 := Grow.refl _
  refine wp_seq ?_
  refine wp_region_lit ?_
  refine wp_all [([], [])] [0, 1] w0.heap.size hf0 g0.size (by kernel_rfl) bund_nil ?_
  refine ch rfl (ob_assign arg_c) ?_
  refine ch_nil ?_
  intro a1 w2 hf3 hg4 hk5 hn6
  have h7 := hk5.holds rfl h00
  have h8 := hk5.holds rfl h01
  have g9 := g0.trans hg4
  clear h00 h01 g0 hf0 hk5 hn6
  refine then_ ?_
  refine wp_seq ?_
  refine wp_seq ?_
  refine wp_region_lit ?_
  refine wp_all [([0], []), ([], [0]), ([1], []), ([], [2]), ([], [1, 3])] [0, 1] w0.heap.size hf3 g9.size (by kernel_rfl) (bund_cons (is_any h7) (bund_cons (is_any h8) bund_nil)) ?_
  refine ch rfl (ob_move (arg_free 0 rfl rfl)) ?_
  refine ch rfl (ob_len (ArgOK.val (arg_op 0 0 rfl rfl rfl rfl) (hv0.up g9)) Tryz.underlying25) ?_
  refine ch rfl (ob_move (arg_free 1 rfl rfl)) ?_
  refine ch rfl (ob_len (ArgOK.val (arg_op 2 0 rfl rfl rfl rfl) (hv1.up g9)) Tryz.underlying25) ?_
  refine ch rfl (ob_neq (arg_op 1 2 rfl rfl rfl rfl) (arg_op 3 0 rfl rfl rfl rfl)) ?_
  refine ch_nil ?_
  intro a10 w11 hf12 hg13 hk14 hn15
  have h16 : Holds _ (a10.eval (.tmp 10)) w11 := hn15.at 4 0 rfl rfl rfl
  have h17 := hk14.holds rfl h7
  have h18 := hk14.holds rfl h8
  have g19 := g9.trans hg13
  clear h7 h8 g9 hf3 hk14 hn15 hg13
  refine then_ ?_
  refine wp_if h16 ?_ ?_
  · intro hc20
    try simp only [cond_norm] at hc20
    have hs := sameG_len (a := a) (b := b) (by omega)
    refine wp_seq ?_
    refine wp_region_lit ?_
    refine wp_all [([], [])] [] w0.heap.size hf12 g19.size (by kernel_rfl) bund_nil ?_
    refine ch rfl (ob_assign arg_c) ?_
    refine ch_nil ?_
    intro a21 w22 hf23 hg24 hk25 hn26
    have h27 : Holds _ (a21.eval (.tmp 4)) w22 := hn26.at 0 0 rfl rfl rfl
    have g28 := g19.trans hg24
    clear g19 hf12 hk25 hn26 hg24
    refine then_ ?_
    refine wp_ret ?_
    refine thenR ?_
    exact ret_tmp rfl hf23 g28 (is_cast h27 (congrArg Value.bool hs))
  · intro hc20
    try simp only [cond_norm] at hc20
    have hlen := hc20
    refine wp_skip ?_
    refine then_ ?_
    refine wp_seq ?_
    refine wp_seq ?_
    refine wp_region_lit ?_
    refine wp_all [([], [])] [0, 1] w0.heap.size hf12 g19.size (by kernel_rfl) bund_nil ?_
    refine ch rfl (ob_assign arg_c) ?_
    refine ch_nil ?_
    intro a29 w30 hf31 hg32 hk33 hn34
    have h35 : Holds _ (a29.eval (.tmp 5)) w30 := hn34.at 0 0 rfl rfl rfl
    have h36 := hk33.holds rfl h17
    have h37 := hk33.holds rfl h18
    have g38 := g19.trans hg32
    clear h17 h18 g19 hf12 hk33 hn34 hg32
    refine then_ ?_
    refine wp_block ?_
    have g39 : Grow w30 w30 := Grow.refl _
    have hz40 : w0.heap.size ≤ w30.heap.size := g38.size
    refine wp_loopL (α := Nat) (fun i a' w' => Fr 26 a' ∧ (i ≤ a.length) ∧ (a.take i = b.take i) ∧ Grow w0 w' ∧ Grow w30 w' ∧ Keep [0, 1] a29 a' ∧ Holds (Is (intV (i : Int))) (a'.eval (.tmp 5)) w') (fun i => a.length - i) (0) ⟨hf31, (by omega), (by rfl), g38, g39, Keep.refl _ _, (is_cast h35 (by first | rfl | (refine congrArg intV ?_; (try dsimp only); omega)))⟩ ?_
    intro i a41 w42 ⟨hf43, hi45, hi46, g47, g48, kk44, h49⟩
    have h50 := kk44.holds rfl h36
    have h51 := kk44.holds rfl h37
    refine wp_seq ?_
    refine wp_seq ?_
    refine wp_region_lit ?_
    refine wp_all [([5], []), ([0], []), ([], [1]), ([], [0, 2])] [0, 1, 5] w30.heap.size hf43 g48.size (by kernel_rfl) (bund_cons h49 (bund_cons (is_any h50) bund_nil)) ?_
    refine ch rfl (ob_move (arg_free 0 rfl rfl)) ?_
    refine ch rfl (ob_move (arg_free 1 rfl rfl)) ?_
    refine ch rfl (ob_len (ArgOK.val (arg_op 1 0 rfl rfl rfl rfl) (hv0.up g47)) Tryz.underlying25) ?_
    refine ch rfl (ob_lss (arg_op 0 2 rfl rfl rfl rfl) (arg_op 2 0 rfl rfl rfl rfl)) ?_
    refine ch_nil ?_
    intro a52 w53 hf54 hg55 hk56 hn57
    have h58 : Holds _ (a52.eval (.tmp 14)) w53 := hn57.at 3 0 rfl rfl rfl
    have h59 := hk56.holds rfl (h49.up hg55)
    have h60 := hk56.holds rfl h50
    have h61 := hk56.holds rfl h51
    have g62 := g47.trans hg55
    have g63 := g48.trans hg55
    have kk64 : Keep _ a29 a52 := kk44.trans hk56 rfl
    clear h49 h50 h51 g47 g48 kk44 hf43 hk56 hn57 hg55
    refine then_ ?_
    refine wp_if h58 ?_ ?_
    · intro hc65
      try simp only [cond_norm] at hc65
      refine wp_skip ?_
      refine then_ ?_
      refine wp_seq ?_
      refine wp_block ?_
      refine wp_seq ?_
      refine wp_calm [0, 0, 3, 7, 0, 0, 48, 112, 255] [([0], []), ([5], []), ([], [0, 1]), ([], [2]), ([1], []), ([5], []), ([], [4, 5]), ([], [6]), ([], [3, 7])] [0, 1, 5] w30.heap.size hf54 g63.size (by kernel_rfl) (bund_cons (is_any h60) (bund_cons h59 (bund_cons (is_any h61) bund_nil))) ?_
      intro ws66 hs67
      refine ch rfl (ob_move (arg_free 0 rfl rfl)) ?_
      refine ch rfl (ob_move (arg_free 1 rfl rfl)) ?_
      refine ch rfl (ob_ix (ArgOK.val (arg_op 0 1 rfl rfl rfl rfl) ((hv0.up g62).up hs67)) (arg_op 1 0 rfl rfl rfl rfl) (rfl) ?_ Tryz.underlying25 szNm) ?_
      · omega
      refine ch rfl (ob_load_nm (arg_op 2 0 rfl rfl rfl rfl)) ?_
      refine ch rfl (ob_move (arg_free 2 rfl rfl)) ?_
      refine ch rfl (ob_move (arg_free 1 rfl rfl)) ?_
      refine ch rfl (ob_ix (ArgOK.val (arg_op 4 1 rfl rfl rfl rfl) ((hv1.up g62).up hs67)) (arg_op 5 0 rfl rfl rfl rfl) (rfl) ?_ Tryz.underlying25 szNm) ?_
      · omega
      refine ch rfl (ob_load_nm (arg_op 6 0 rfl rfl rfl rfl)) ?_
      refine ch rfl (ob_neqnm (arg_op 3 4 rfl rfl rfl rfl) (arg_op 7 0 rfl rfl rfl rfl)) ?_
      refine ch_nil ?_
      intro a68 w69 hf70 hg71 hk72 hn73
      have h74 : Holds _ (a68.eval (.tmp 25)) w69 := hn73.at 8 0 rfl rfl rfl
      have h75 := hk72.holds rfl (h59.up hg71)
      have h76 := hk72.holds rfl h60
      have h77 := hk72.holds rfl h61
      have g78 := g62.trans hg71
      have g79 := g63.trans hg71
      have kk80 : Keep _ a29 a68 := kk64.trans hk72 rfl
      clear h59 h60 h61 g62 g63 kk64 hf54 hk72 hn73 hg71
      refine then_ ?_
      refine wp_if h74 ?_ ?_
      · intro hc81
        try simp only [cond_norm] at hc81
        have hs := sameG_ne hc81
        refine wp_seq ?_
        refine wp_region_lit ?_
        refine wp_all [([], [])] [0, 1] w30.heap.size hf70 g79.size (by kernel_rfl) bund_nil ?_
        refine ch rfl (ob_assign arg_c) ?_
        refine ch_nil ?_
        intro a82 w83 hf84 hg85 hk86 hn87
        have h88 : Holds _ (a82.eval (.tmp 4)) w83 := hn87.at 0 0 rfl rfl rfl
        have h89 := hk86.holds rfl h76
        have h90 := hk86.holds rfl h77
        have g91 := g78.trans hg85
        have g92 := g79.trans hg85
        have kk93 : Keep _ a29 a82 := kk80.trans hk86 rfl
        clear h76 h77 g78 g79 kk80 hf70 hk86 hn87 hg85
        refine then_ ?_
        refine wp_ret ?_
        refine blockR ?_
        refine thenR ?_
        refine thenR ?_
        refine blockR ?_
        refine thenR ?_
        exact ret_tmp rfl hf84 g91 (is_cast h88 (congrArg Value.bool hs))
      · intro hc81
        try simp only [cond_norm] at hc81
        have hst := sameG_step (a := a) (b := b) (i := i) (by assumption) (by first | exact hc81 | exact Classical.not_not.1 hc81) (by omega) (by omega)
        refine wp_skip ?_
        refine blockN ?_
        refine then_ ?_
        refine wp_region_lit ?_
        refine wp_all [([5], []), ([], [0]), ([], [1])] [0, 1] w30.heap.size hf70 g79.size (by kernel_rfl) (bund_cons h75 bund_nil) ?_
        refine ch rfl (ob_move (arg_free 0 rfl rfl)) ?_
        first
          | (refine ch rfl (ob_add' (arg_op 0 0 rfl rfl rfl rfl) arg_c ?_) ?_; · omega)
          | refine ch rfl (ob_add (arg_op 0 0 rfl rfl rfl rfl) arg_c) ?_
        refine ch rfl (ob_assign (arg_op 1 0 rfl rfl rfl rfl)) ?_
        refine ch_nil ?_
        intro a94 w95 hf96 hg97 hk98 hn99
        have h100 : Holds _ (a94.eval (.tmp 5)) w95 := hn99.at 2 0 rfl rfl rfl
        have h101 := hk98.holds rfl h76
        have h102 := hk98.holds rfl h77
        have g103 := g78.trans hg97
        have g104 := g79.trans hg97
        have kk105 : Keep _ a29 a94 := kk80.trans hk98 rfl
        clear h76 h77 g78 g79 kk80 hf70 hk98 hn99 hg97
        refine then_ ?_
        exact ⟨(i + 1), (by ((try dsimp only); omega)), hf96, (by omega), (by exact hst), g103, g104, kk105, (is_cast h100 (by first | rfl | (refine congrArg intV ?_; (try dsimp only); omega)))⟩
    · intro hc65
      try simp only [cond_norm] at hc65
      have hs := sameG_all (a := a) (b := b) (i := i) (by omega) (by assumption) (by omega)
      refine wp_exit ?_
      refine thenX ?_
      refine thenX ?_
      refine blockX ?_
      refine then_ ?_
      refine wp_seq ?_
      refine wp_region_lit ?_
      refine wp_all [([], [])] [] w30.heap.size hf54 g63.size (by kernel_rfl) bund_nil ?_
      refine ch rfl (ob_assign arg_c) ?_
      refine ch_nil ?_
      intro a106 w107 hf108 hg109 hk110 hn111
      have h112 : Holds _ (a106.eval (.tmp 4)) w107 := hn111.at 0 0 rfl rfl rfl
      have g113 := g62.trans hg109
      have g114 := g63.trans hg109
      clear g62 g63 hf54 hk110 hn111 hg109
      refine then_ ?_
      refine wp_ret ?_
      exact ret_tmp rfl hf108 g113 (is_cast h112 (congrArg Value.bool hs))
set_option maxRecDepth 100000 in
theorem c_index {l : List UInt64} {x : UInt64} (hl : l.length ≤ 1000000) : Con2 48 (Sl elNm l) (Is (nmV x)) (fun _ => Is (intV (idx (fun y => decide (x = y)) l))) := by
  intro lo v0 v1 w0 hlo hv0 hv1
  refine enter Tryz.func48 rfl Tryz.ntmps48 (by simp) ?_
  intro a0 hf0 ha
  have h00 : Holds (Is v0) (a0.eval (.tmp 0)) w0 := arg_holds ha rfl rfl
  have h01 : Holds _ (a0.eval (.tmp 1)) w0 := arg_holds ha rfl hv1
  clear ha
  have g0 : Grow w0 w0 := Grow.refl _
  refine wp_seq ?_
  refine wp_region_lit ?_
  refine wp_all [([1], []), ([], [])] [0] w0.heap.size hf0 g0.size (by kernel_rfl) (bund_cons h01 bund_nil) ?_
  refine ch rfl (ob_box_nm (arg_free 0 rfl rfl)) ?_
  refine ch rfl (ob_assign arg_c) ?_
  refine ch_nil ?_
  intro a1 w2 hf3 hg4 hk5 hn6
  have h7 : Holds _ (a1.eval (.tmp 3)) w2 := hn6.at 0 1 rfl rfl rfl
  have h8 := hk5.holds rfl h00
  have g9 := g0.trans hg4
  obtain ⟨bk10, hl11, hv12, hb13⟩ := OwnB.blk (lo := w0.heap.size) h7
  clear h00 g0 hf0 hk5 hn6
  refine then_ ?_
  refine wp_seq ?_
  refine wp_seq ?_
  refine wp_region_lit ?_
  refine wp_all [([0], []), ([], [0]), ([], [])] [0, 3] w0.heap.size hf3 g9.size (by kernel_rfl) (bund_cons (is_any h8) bund_nil) ?_
  refine ch rfl (ob_move (arg_free 0 rfl rfl)) ?_
  refine ch rfl (ob_len (ArgOK.val (arg_op 0 0 rfl rfl rfl rfl) (hv0.up g9)) Tryz.underlying25) ?_
  refine ch rfl (ob_move arg_c) ?_
  refine ch_nil ?_
  intro a14 w15 hf16 hg17 hk18 hn19
  have h20 : Holds _ (a14.eval (.tmp 7)) w15 := hn19.at 1 1 rfl rfl rfl
  have h21 : Holds _ (a14.eval (.tmp 8)) w15 := hn19.at 2 0 rfl rfl rfl
  have h22 := hk18.holds rfl h8
  have hv23 : Holds (Is (PtrV bk10)) (a14.eval (.tmp 3)) w15 := is_any (hk18.holds rfl hv12)
  have hb24 := hb13.up hg17
  have g25 := g9.trans hg17
  clear h8 hv12 hb13 g9 hf3 hk18 hn19 hg17
  refine then_ ?_
  refine wp_block ?_
  have g26 : Grow w15 w15 := Grow.refl _
  have hl27 : bk10 < w15.heap.size := hb24.lt
  have hz28 : w0.heap.size ≤ w15.heap.size := g25.size
  refine wp_loopL (α := Nat) (fun i a' w' => Fr 19 a' ∧ (i ≤ l.length) ∧ (∀ j, j < i → (fun y => decide (x = y)) (l.getD j default) = false) ∧ Grow w0 w' ∧ Grow w15 w' ∧ Keep [0, 3, 7] a14 a' ∧ Holds (Is (intV (i : Int))) (a'.eval (.tmp 8)) w' ∧ Blk bk10 (_) w') (fun i => l.length - i) (0) ⟨hf16, (by omega), (by exact fun j hj => absurd hj (Nat.not_lt_zero j)), g25, g26, Keep.refl _ _, (is_cast h21 (by first | rfl | (refine congrArg intV ?_; (try dsimp only); omega))), hb24⟩ ?_
  intro i a29 w30 ⟨hf31, hi33, hi34, g35, g36, kk32, h37, hb38⟩
  have h39 := kk32.holds rfl h20
  have h40 := kk32.holds rfl h22
  have hv41 : Holds (Is (PtrV bk10)) (a29.eval (.tmp 3)) w30 := is_any (kk32.holds rfl hv23)
  refine wp_seq ?_
  refine wp_region_lit ?_
  refine wp_all [([8, 7], [])] [0, 3, 7, 8] w15.heap.size hf31 g36.size (by kernel_rfl) (bund_cons h37 (bund_cons (is_any h39) bund_nil)) ?_
  refine ch rfl (ob_lss (arg_free 0 rfl rfl) (arg_free 1 rfl rfl)) ?_
  refine ch_nil ?_
  intro a42 w43 hf44 hg45 hk46 hn47
  have h48 : Holds _ (a42.eval (.tmp 9)) w43 := hn47.at 0 0 rfl rfl rfl
  have h49 := hk46.holds rfl (h37.up hg45)
  have h50 := hk46.holds rfl h39
  have h51 := hk46.holds rfl h40
  have hv52 : Holds (Is (PtrV bk10)) (a42.eval (.tmp 3)) w43 := is_any (hk46.holds rfl hv41)
  have hb53 := hb38.up hg45
  have g54 := g35.trans hg45
  have g55 := g36.trans hg45
  have kk56 : Keep _ a14 a42 := kk32.trans hk46 rfl
  clear h37 h39 h40 hv41 hb38 g35 g36 kk32 hf31 hk46 hn47 hg45
  refine then_ ?_
  refine wp_seq ?_
  refine wp_if h48 ?_ ?_
  · intro hc57
    try simp only [cond_norm] at hc57
    refine wp_skip ?_
    refine then_ ?_
    refine wp_seq ?_
    refine wp_block ?_
    refine wp_seq ?_
    refine wp_region_lit ?_
    refine wp_all [([8], []), ([], [0])] [0, 3, 7, 8] w15.heap.size hf44 g55.size (by kernel_rfl) (bund_cons h49 bund_nil) ?_
    refine ch rfl (ob_move (arg_free 0 rfl rfl)) ?_
    refine ch rfl (ob_assign (arg_op 0 0 rfl rfl rfl rfl)) ?_
    refine ch_nil ?_
    intro a58 w59 hf60 hg61 hk62 hn63
    have h64 : Holds _ (a58.eval (.tmp 5)) w59 := hn63.at 1 0 rfl rfl rfl
    have h65 := hk62.holds rfl (h49.up hg61)
    have h66 := hk62.holds rfl h50
    have h67 := hk62.holds rfl h51
    have hv68 : Holds (Is (PtrV bk10)) (a58.eval (.tmp 3)) w59 := is_any (hk62.holds rfl hv52)
    have hb69 := hb53.up hg61
    have g70 := g54.trans hg61
    have g71 := g55.trans hg61
    have kk72 : Keep _ a14 a58 := kk56.trans hk62 rfl
    clear h49 h50 h51 hv52 hb53 g54 g55 kk56 hf44 hk62 hn63 hg61
    refine then_ ?_
    refine wp_seq ?_
    refine wp_calm [0, 0, 0, 6, 14, 31] [([3], []), ([0], []), ([5], []), ([], [1, 2]), ([], [3]), ([], [0, 4])] [0, 3, 5, 7, 8] w15.heap.size hf60 g71.size (by kernel_rfl) (bund_cons (hb69.ownp hv68) (bund_cons (is_any h67) (bund_cons h64 bund_nil))) ?_
    intro ws73 hs74
    refine ch rfl (ob_load_nm (ArgOK.ownp (arg_free 0 rfl rfl))) ?_
    refine ch rfl (ob_move (arg_free 1 rfl rfl)) ?_
    refine ch rfl (ob_move (arg_free 2 rfl rfl)) ?_
    refine ch rfl (ob_ix (ArgOK.val (arg_op 1 1 rfl rfl rfl rfl) ((hv0.up g70).up hs74)) (arg_op 2 0 rfl rfl rfl rfl) (rfl) ?_ Tryz.underlying25 szNm) ?_
    · omega
    refine ch rfl (ob_load_nm (arg_op 3 0 rfl rfl rfl rfl)) ?_
    refine ch rfl (ob_eqnm (arg_op 0 4 rfl rfl rfl rfl) (arg_op 4 0 rfl rfl rfl rfl)) ?_
    refine ch_nil ?_
    intro a75 w76 hf77 hg78 hk79 hn80
    have h81 : Holds _ (a75.eval (.tmp 16)) w76 := hn80.at 5 0 rfl rfl rfl
    have h82 := hk79.holds rfl (h64.up hg78)
    have h83 := hk79.holds rfl (h65.up hg78)
    have h84 := hk79.holds rfl h66
    have h85 := hk79.holds rfl h67
    have hv86 : Holds (Is (PtrV bk10)) (a75.eval (.tmp 3)) w76 := is_any (hk79.holds rfl hv68)
    have hb87 := hb69.up hg78
    have g88 := g70.trans hg78
    have g89 := g71.trans hg78
    have kk90 : Keep _ a14 a75 := kk72.trans hk79 rfl
    clear h64 h65 h66 h67 hv68 hb69 g70 g71 kk72 hf60 hk79 hn80 hg78
    refine then_ ?_
    refine wp_if h81 ?_ ?_
    · intro hc91
      try simp only [cond_norm] at hc91
      have hz := idx_hit (p := fun y => decide (x = y)) (l := l) (i := i) (by assumption) (by omega) (decide_eq_true hc91)
      refine wp_seq ?_
      refine wp_region_lit ?_
      refine wp_all [([5], []), ([], [0])] [0, 3, 7] w15.heap.size hf77 g89.size (by kernel_rfl) (bund_cons h82 bund_nil) ?_
      refine ch rfl (ob_move (arg_free 0 rfl rfl)) ?_
      refine ch rfl (ob_assign (arg_op 0 0 rfl rfl rfl rfl)) ?_
      refine ch_nil ?_
      intro a92 w93 hf94 hg95 hk96 hn97
      have h98 : Holds _ (a92.eval (.tmp 4)) w93 := hn97.at 1 0 rfl rfl rfl
      have h99 := hk96.holds rfl h84
      have h100 := hk96.holds rfl h85
      have hv101 : Holds (Is (PtrV bk10)) (a92.eval (.tmp 3)) w93 := is_any (hk96.holds rfl hv86)
      have hb102 := hb87.up hg95
      have g103 := g88.trans hg95
      have g104 := g89.trans hg95
      have kk105 : Keep _ a14 a92 := kk90.trans hk96 rfl
      clear h84 h85 hv86 hb87 g88 g89 kk90 hf77 hk96 hn97 hg95
      refine then_ ?_
      refine wp_ret ?_
      refine blockR ?_
      refine thenR ?_
      refine thenR ?_
      refine blockR ?_
      refine thenR ?_
      exact ret_tmp rfl hf94 g103 (is_cast h98 (congrArg intV hz))
    · intro hc91
      try simp only [cond_norm] at hc91
      have hst := none_step (p := fun y => decide (x = y)) (l := l) (i := i) (by assumption) (decide_eq_false hc91)
      refine wp_skip ?_
      refine blockN ?_
      refine then_ ?_
      refine wp_region_lit ?_
      refine wp_all [([8], []), ([], [0])] [0, 3, 7] w15.heap.size hf77 g89.size (by kernel_rfl) (bund_cons h83 bund_nil) ?_
      first
        | (refine ch rfl (ob_add' (arg_free 0 rfl rfl) arg_c ?_) ?_; · omega)
        | refine ch rfl (ob_add (arg_free 0 rfl rfl) arg_c) ?_
      refine ch rfl (ob_move (arg_op 0 0 rfl rfl rfl rfl)) ?_
      refine ch_nil ?_
      intro a106 w107 hf108 hg109 hk110 hn111
      have h112 : Holds _ (a106.eval (.tmp 8)) w107 := hn111.at 1 0 rfl rfl rfl
      have h113 := hk110.holds rfl h84
      have h114 := hk110.holds rfl h85
      have hv115 : Holds (Is (PtrV bk10)) (a106.eval (.tmp 3)) w107 := is_any (hk110.holds rfl hv86)
      have hb116 := hb87.up hg109
      have g117 := g88.trans hg109
      have g118 := g89.trans hg109
      have kk119 : Keep _ a14 a106 := kk90.trans hk110 rfl
      clear h84 h85 hv86 hb87 g88 g89 kk90 hf77 hk110 hn111 hg109
      refine then_ ?_
      exact ⟨(i + 1), (by ((try dsimp only); omega)), hf108, (by omega), (by exact hst), g117, g118, kk119, (is_cast h112 (by first | rfl | (refine congrArg intV ?_; (try dsimp only); omega))), hb116⟩
  · intro hc57
    try simp only [cond_norm] at hc57
    have hz := idx_none (p := fun y => decide (x = y)) (l := l) (i := i) (by assumption) (by omega)
    refine wp_exit ?_
    refine thenX ?_
    refine thenX ?_
    refine blockX ?_
    refine then_ ?_
    refine wp_seq ?_
    refine wp_region_lit ?_
    refine wp_all [([], [])] [] w15.heap.size hf44 g55.size (by kernel_rfl) bund_nil ?_
    refine ch rfl (ob_assign arg_c) ?_
    refine ch_nil ?_
    intro a120 w121 hf122 hg123 hk124 hn125
    have h126 : Holds _ (a120.eval (.tmp 4)) w121 := hn125.at 0 0 rfl rfl rfl
    have g127 := g54.trans hg123
    have g128 := g55.trans hg123
    clear g54 g55 hf44 hk124 hn125 hg123
    refine then_ ?_
    refine wp_ret ?_
    exact ret_tmp rfl hf122 g127 (is_cast h126 (congrArg intV hz))
set_option maxRecDepth 100000 in
theorem c_ixfD {l : List GDelta} {p : GDelta → Bool} (hl : l.length ≤ 1000000) : Con2 84 (Sl elDelta l) (Fn1 deltaV p) (fun _ => Is (intV (idx p l))) := by
  intro lo v0 v1 w0 hlo hv0 hv1
  refine enter Tryz.func84 rfl Tryz.ntmps84 (by simp) ?_
  intro a0 hf0 ha
  have h00 : Holds (Is v0) (a0.eval (.tmp 0)) w0 := arg_holds ha rfl rfl
  have h01 : Holds (Is v1) (a0.eval (.tmp 1)) w0 := arg_holds ha rfl rfl
  clear ha
  have g0 : Grow w0 w0 := Grow.refl _
  refine wp_seq ?_
  refine wp_region_lit ?_
  refine wp_all [([], [])] [0, 1] w0.heap.size hf0 g0.size (by kernel_rfl) bund_nil ?_
  refine ch rfl (ob_assign arg_c) ?_
  refine ch_nil ?_
  intro a1 w2 hf3 hg4 hk5 hn6
  have h7 := hk5.holds rfl h00
  have h8 := hk5.holds rfl h01
  have g9 := g0.trans hg4
  clear h00 h01 g0 hf0 hk5 hn6
  refine then_ ?_
  refine wp_seq ?_
  refine wp_seq ?_
  refine wp_region_lit ?_
  refine wp_all [([0], []), ([], [0]), ([], [])] [0, 1] w0.heap.size hf3 g9.size (by kernel_rfl) (bund_cons (is_any h7) bund_nil) ?_
  refine ch rfl (ob_move (arg_free 0 rfl rfl)) ?_
  refine ch rfl (ob_len (ArgOK.val (arg_op 0 0 rfl rfl rfl rfl) (hv0.up g9)) Tryz.underlying22) ?_
  refine ch rfl (ob_move arg_c) ?_
  refine ch_nil ?_
  intro a10 w11 hf12 hg13 hk14 hn15
  have h16 : Holds _ (a10.eval (.tmp 7)) w11 := hn15.at 1 1 rfl rfl rfl
  have h17 : Holds _ (a10.eval (.tmp 8)) w11 := hn15.at 2 0 rfl rfl rfl
  have h18 := hk14.holds rfl h7
  have h19 := hk14.holds rfl h8
  have g20 := g9.trans hg13
  clear h7 h8 g9 hf3 hk14 hn15 hg13
  refine then_ ?_
  refine wp_block ?_
  have g21 : Grow w11 w11 := Grow.refl _
  have hz22 : w0.heap.size ≤ w11.heap.size := g20.size
  refine wp_loopL (α := Nat) (fun i a' w' => Fr 19 a' ∧ (i ≤ l.length) ∧ (∀ j, j < i → (p) (l.getD j default) = false) ∧ Grow w0 w' ∧ Grow w11 w' ∧ Keep [0, 1, 7] a10 a' ∧ Holds (Is (intV (i : Int))) (a'.eval (.tmp 8)) w') (fun i => l.length - i) (0) ⟨hf12, (by omega), (by exact fun j hj => absurd hj (Nat.not_lt_zero j)), g20, g21, Keep.refl _ _, (is_cast h17 (by first | rfl | (refine congrArg intV ?_; (try dsimp only); omega)))⟩ ?_
  intro i a23 w24 ⟨hf25, hi27, hi28, g29, g30, kk26, h31⟩
  have h32 := kk26.holds rfl h16
  have h33 := kk26.holds rfl h18
  have h34 := kk26.holds rfl h19
  refine wp_seq ?_
  refine wp_region_lit ?_
  refine wp_all [([8, 7], [])] [0, 1, 7, 8] w11.heap.size hf25 g30.size (by kernel_rfl) (bund_cons h31 (bund_cons (is_any h32) bund_nil)) ?_
  refine ch rfl (ob_lss (arg_free 0 rfl rfl) (arg_free 1 rfl rfl)) ?_
  refine ch_nil ?_
  intro a35 w36 hf37 hg38 hk39 hn40
  have h41 : Holds _ (a35.eval (.tmp 9)) w36 := hn40.at 0 0 rfl rfl rfl
  have h42 := hk39.holds rfl (h31.up hg38)
  have h43 := hk39.holds rfl h32
  have h44 := hk39.holds rfl h33
  have h45 := hk39.holds rfl h34
  have g46 := g29.trans hg38
  have g47 := g30.trans hg38
  have kk48 : Keep _ a10 a35 := kk26.trans hk39 rfl
  clear h31 h32 h33 h34 g29 g30 kk26 hf25 hk39 hn40 hg38
  refine then_ ?_
  refine wp_seq ?_
  refine wp_if h41 ?_ ?_
  · intro hc49
    try simp only [cond_norm] at hc49
    refine wp_skip ?_
    refine then_ ?_
    refine wp_seq ?_
    refine wp_block ?_
    refine wp_seq ?_
    refine wp_region_lit ?_
    refine wp_all [([8], []), ([], [0])] [0, 1, 7, 8] w11.heap.size hf37 g47.size (by kernel_rfl) (bund_cons h42 bund_nil) ?_
    refine ch rfl (ob_move (arg_free 0 rfl rfl)) ?_
    refine ch rfl (ob_assign (arg_op 0 0 rfl rfl rfl rfl)) ?_
    refine ch_nil ?_
    intro a50 w51 hf52 hg53 hk54 hn55
    have h56 : Holds _ (a50.eval (.tmp 5)) w51 := hn55.at 1 0 rfl rfl rfl
    have h57 := hk54.holds rfl (h42.up hg53)
    have h58 := hk54.holds rfl h43
    have h59 := hk54.holds rfl h44
    have h60 := hk54.holds rfl h45
    have g61 := g46.trans hg53
    have g62 := g47.trans hg53
    have kk63 : Keep _ a10 a50 := kk48.trans hk54 rfl
    clear h42 h43 h44 h45 g46 g47 kk48 hf37 hk54 hn55 hg53
    refine then_ ?_
    refine wp_seq ?_
    have g64 : Grow w51 w51 := Grow.refl _
    have hz65 : w11.heap.size ≤ w51.heap.size := g62.size
    refine wp_region_lit ?_
    refine wp_all [([1], []), ([0], []), ([5], []), ([], [1, 2]), ([], [3]), ([], [0, 4])] [0, 1, 5, 7, 8] w51.heap.size hf52 g64.size (by kernel_rfl) (bund_cons (is_any h60) (bund_cons (is_any h59) (bund_cons h56 bund_nil))) ?_
    refine ch rfl (ob_move (arg_free 0 rfl rfl)) ?_
    refine ch rfl (ob_move (arg_free 1 rfl rfl)) ?_
    refine ch rfl (ob_move (arg_free 2 rfl rfl)) ?_
    refine ch rfl (ob_ix (ArgOK.val (arg_op 1 1 rfl rfl rfl rfl) (hv0.up g61)) (arg_op 2 0 rfl rfl rfl rfl) (rfl) ?_ Tryz.underlying22 szDelta) ?_
    · omega
    refine ch rfl (ob_load_delta (arg_op 3 0 rfl rfl rfl rfl)) ?_
    refine ch rfl (ob_callv1 (ArgOK.val (arg_op 0 4 rfl rfl rfl rfl) (hv1.up g61)) (arg_op 4 0 rfl rfl rfl rfl)) ?_
    refine ch_nil ?_
    intro a66 w67 hf68 hg69 hk70 hn71
    have h72 : Holds _ (a66.eval (.tmp 16)) w67 := hn71.at 5 0 rfl rfl rfl
    have h73 := hk70.holds rfl h56
    have h74 := hk70.holds rfl h57
    have h75 := hk70.holds rfl h58
    have h76 := hk70.holds rfl h59
    have h77 := hk70.holds rfl h60
    have g78 := g61.trans hg69
    have g79 := g62.trans hg69
    have g80 := g64.trans hg69
    have kk81 : Keep _ a10 a66 := kk63.trans hk70 rfl
    clear h56 h57 h58 h59 h60 g61 g62 g64 kk63 hf52 hk70 hn71
    refine then_ ?_
    refine wp_if h72 ?_ ?_
    · intro hc82
      have hz := idx_hit (p := p) (l := l) (i := i) (by assumption) (by omega) hc82
      refine wp_seq ?_
      refine wp_region_lit ?_
      refine wp_all [([5], []), ([], [0])] [0, 1, 7] w51.heap.size hf68 g80.size (by kernel_rfl) (bund_cons (is_any h73) bund_nil) ?_
      refine ch rfl (ob_move (arg_free 0 rfl rfl)) ?_
      refine ch rfl (ob_assign (arg_op 0 0 rfl rfl rfl rfl)) ?_
      refine ch_nil ?_
      intro a83 w84 hf85 hg86 hk87 hn88
      have h89 : Holds _ (a83.eval (.tmp 4)) w84 := hn88.at 1 0 rfl rfl rfl
      have h90 := hk87.holds rfl h75
      have h91 := hk87.holds rfl h76
      have h92 := hk87.holds rfl h77
      have g93 := g78.trans hg86
      have g94 := g79.trans hg86
      have g95 := g80.trans hg86
      have kk96 : Keep _ a10 a83 := kk81.trans hk87 rfl
      clear h75 h76 h77 g78 g79 g80 kk81 hf68 hk87 hn88 hg86
      refine then_ ?_
      refine wp_ret ?_
      refine blockR ?_
      refine thenR ?_
      refine thenR ?_
      refine blockR ?_
      refine thenR ?_
      exact ret_tmp rfl hf85 g93 (is_cast h89 (congrArg intV hz))
    · intro hc82
      have hst := none_step (p := p) (l := l) (i := i) (by assumption) (by first | exact hc82 | exact Bool.eq_false_iff.2 hc82)
      refine wp_skip ?_
      refine blockN ?_
      refine then_ ?_
      refine wp_region_lit ?_
      refine wp_all [([8], []), ([], [0])] [0, 1, 7] w51.heap.size hf68 g80.size (by kernel_rfl) (bund_cons (is_any h74) bund_nil) ?_
      first
        | (refine ch rfl (ob_add' (arg_free 0 rfl rfl) arg_c ?_) ?_; · omega)
        | refine ch rfl (ob_add (arg_free 0 rfl rfl) arg_c) ?_
      refine ch rfl (ob_move (arg_op 0 0 rfl rfl rfl rfl)) ?_
      refine ch_nil ?_
      intro a97 w98 hf99 hg100 hk101 hn102
      have h103 : Holds _ (a97.eval (.tmp 8)) w98 := hn102.at 1 0 rfl rfl rfl
      have h104 := hk101.holds rfl h75
      have h105 := hk101.holds rfl h76
      have h106 := hk101.holds rfl h77
      have g107 := g78.trans hg100
      have g108 := g79.trans hg100
      have g109 := g80.trans hg100
      have kk110 : Keep _ a10 a97 := kk81.trans hk101 rfl
      clear h75 h76 h77 g78 g79 g80 kk81 hf68 hk101 hn102 hg100
      refine then_ ?_
      exact ⟨(i + 1), (by ((try dsimp only); omega)), hf99, (by omega), (by exact hst), g107, g108, kk110, (is_cast h103 (by first | rfl | (refine congrArg intV ?_; (try dsimp only); omega)))⟩
  · intro hc49
    try simp only [cond_norm] at hc49
    have hz := idx_none (p := p) (l := l) (i := i) (by assumption) (by omega)
    refine wp_exit ?_
    refine thenX ?_
    refine thenX ?_
    refine blockX ?_
    refine then_ ?_
    refine wp_seq ?_
    refine wp_region_lit ?_
    refine wp_all [([], [])] [] w11.heap.size hf37 g47.size (by kernel_rfl) bund_nil ?_
    refine ch rfl (ob_assign arg_c) ?_
    refine ch_nil ?_
    intro a111 w112 hf113 hg114 hk115 hn116
    have h117 : Holds _ (a111.eval (.tmp 4)) w112 := hn116.at 0 0 rfl rfl rfl
    have g118 := g46.trans hg114
    have g119 := g47.trans hg114
    clear g46 g47 hf37 hk115 hn116 hg114
    refine then_ ?_
    refine wp_ret ?_
    exact ret_tmp rfl hf113 g118 (is_cast h117 (congrArg intV hz))
set_option maxRecDepth 100000 in
theorem c_ixfK {l : List GLock} {p : GLock → Bool} (hl : l.length ≤ 1000000) : Con2 78 (Sl elLock l) (Fn1 lockV p) (fun _ => Is (intV (idx p l))) := by
  intro lo v0 v1 w0 hlo hv0 hv1
  refine enter Tryz.func78 rfl Tryz.ntmps78 (by simp) ?_
  intro a0 hf0 ha
  have h00 : Holds (Is v0) (a0.eval (.tmp 0)) w0 := arg_holds ha rfl rfl
  have h01 : Holds (Is v1) (a0.eval (.tmp 1)) w0 := arg_holds ha rfl rfl
  clear ha
  have g0 : Grow w0 w0 := Grow.refl _
  refine wp_seq ?_
  refine wp_region_lit ?_
  refine wp_all [([], [])] [0, 1] w0.heap.size hf0 g0.size (by kernel_rfl) bund_nil ?_
  refine ch rfl (ob_assign arg_c) ?_
  refine ch_nil ?_
  intro a1 w2 hf3 hg4 hk5 hn6
  have h7 := hk5.holds rfl h00
  have h8 := hk5.holds rfl h01
  have g9 := g0.trans hg4
  clear h00 h01 g0 hf0 hk5 hn6
  refine then_ ?_
  refine wp_seq ?_
  refine wp_seq ?_
  refine wp_region_lit ?_
  refine wp_all [([0], []), ([], [0]), ([], [])] [0, 1] w0.heap.size hf3 g9.size (by kernel_rfl) (bund_cons (is_any h7) bund_nil) ?_
  refine ch rfl (ob_move (arg_free 0 rfl rfl)) ?_
  refine ch rfl (ob_len (ArgOK.val (arg_op 0 0 rfl rfl rfl rfl) (hv0.up g9)) Tryz.underlying24) ?_
  refine ch rfl (ob_move arg_c) ?_
  refine ch_nil ?_
  intro a10 w11 hf12 hg13 hk14 hn15
  have h16 : Holds _ (a10.eval (.tmp 7)) w11 := hn15.at 1 1 rfl rfl rfl
  have h17 : Holds _ (a10.eval (.tmp 8)) w11 := hn15.at 2 0 rfl rfl rfl
  have h18 := hk14.holds rfl h7
  have h19 := hk14.holds rfl h8
  have g20 := g9.trans hg13
  clear h7 h8 g9 hf3 hk14 hn15 hg13
  refine then_ ?_
  refine wp_block ?_
  have g21 : Grow w11 w11 := Grow.refl _
  have hz22 : w0.heap.size ≤ w11.heap.size := g20.size
  refine wp_loopL (α := Nat) (fun i a' w' => Fr 19 a' ∧ (i ≤ l.length) ∧ (∀ j, j < i → (p) (l.getD j default) = false) ∧ Grow w0 w' ∧ Grow w11 w' ∧ Keep [0, 1, 7] a10 a' ∧ Holds (Is (intV (i : Int))) (a'.eval (.tmp 8)) w') (fun i => l.length - i) (0) ⟨hf12, (by omega), (by exact fun j hj => absurd hj (Nat.not_lt_zero j)), g20, g21, Keep.refl _ _, (is_cast h17 (by first | rfl | (refine congrArg intV ?_; (try dsimp only); omega)))⟩ ?_
  intro i a23 w24 ⟨hf25, hi27, hi28, g29, g30, kk26, h31⟩
  have h32 := kk26.holds rfl h16
  have h33 := kk26.holds rfl h18
  have h34 := kk26.holds rfl h19
  refine wp_seq ?_
  refine wp_region_lit ?_
  refine wp_all [([8, 7], [])] [0, 1, 7, 8] w11.heap.size hf25 g30.size (by kernel_rfl) (bund_cons h31 (bund_cons (is_any h32) bund_nil)) ?_
  refine ch rfl (ob_lss (arg_free 0 rfl rfl) (arg_free 1 rfl rfl)) ?_
  refine ch_nil ?_
  intro a35 w36 hf37 hg38 hk39 hn40
  have h41 : Holds _ (a35.eval (.tmp 9)) w36 := hn40.at 0 0 rfl rfl rfl
  have h42 := hk39.holds rfl (h31.up hg38)
  have h43 := hk39.holds rfl h32
  have h44 := hk39.holds rfl h33
  have h45 := hk39.holds rfl h34
  have g46 := g29.trans hg38
  have g47 := g30.trans hg38
  have kk48 : Keep _ a10 a35 := kk26.trans hk39 rfl
  clear h31 h32 h33 h34 g29 g30 kk26 hf25 hk39 hn40 hg38
  refine then_ ?_
  refine wp_seq ?_
  refine wp_if h41 ?_ ?_
  · intro hc49
    try simp only [cond_norm] at hc49
    refine wp_skip ?_
    refine then_ ?_
    refine wp_seq ?_
    refine wp_block ?_
    refine wp_seq ?_
    refine wp_region_lit ?_
    refine wp_all [([8], []), ([], [0])] [0, 1, 7, 8] w11.heap.size hf37 g47.size (by kernel_rfl) (bund_cons h42 bund_nil) ?_
    refine ch rfl (ob_move (arg_free 0 rfl rfl)) ?_
    refine ch rfl (ob_assign (arg_op 0 0 rfl rfl rfl rfl)) ?_
    refine ch_nil ?_
    intro a50 w51 hf52 hg53 hk54 hn55
    have h56 : Holds _ (a50.eval (.tmp 5)) w51 := hn55.at 1 0 rfl rfl rfl
    have h57 := hk54.holds rfl (h42.up hg53)
    have h58 := hk54.holds rfl h43
    have h59 := hk54.holds rfl h44
    have h60 := hk54.holds rfl h45
    have g61 := g46.trans hg53
    have g62 := g47.trans hg53
    have kk63 : Keep _ a10 a50 := kk48.trans hk54 rfl
    clear h42 h43 h44 h45 g46 g47 kk48 hf37 hk54 hn55 hg53
    refine then_ ?_
    refine wp_seq ?_
    have g64 : Grow w51 w51 := Grow.refl _
    have hz65 : w11.heap.size ≤ w51.heap.size := g62.size
    refine wp_region_lit ?_
    refine wp_all [([1], []), ([0], []), ([5], []), ([], [1, 2]), ([], [3]), ([], [0, 4])] [0, 1, 5, 7, 8] w51.heap.size hf52 g64.size (by kernel_rfl) (bund_cons (is_any h60) (bund_cons (is_any h59) (bund_cons h56 bund_nil))) ?_
    refine ch rfl (ob_move (arg_free 0 rfl rfl)) ?_
    refine ch rfl (ob_move (arg_free 1 rfl rfl)) ?_
    refine ch rfl (ob_move (arg_free 2 rfl rfl)) ?_
    refine ch rfl (ob_ix (ArgOK.val (arg_op 1 1 rfl rfl rfl rfl) (hv0.up g61)) (arg_op 2 0 rfl rfl rfl rfl) (rfl) ?_ Tryz.underlying24 szLock) ?_
    · omega
    refine ch rfl (ob_load_lock (arg_op 3 0 rfl rfl rfl rfl)) ?_
    refine ch rfl (ob_callv1 (ArgOK.val (arg_op 0 4 rfl rfl rfl rfl) (hv1.up g61)) (arg_op 4 0 rfl rfl rfl rfl)) ?_
    refine ch_nil ?_
    intro a66 w67 hf68 hg69 hk70 hn71
    have h72 : Holds _ (a66.eval (.tmp 16)) w67 := hn71.at 5 0 rfl rfl rfl
    have h73 := hk70.holds rfl h56
    have h74 := hk70.holds rfl h57
    have h75 := hk70.holds rfl h58
    have h76 := hk70.holds rfl h59
    have h77 := hk70.holds rfl h60
    have g78 := g61.trans hg69
    have g79 := g62.trans hg69
    have g80 := g64.trans hg69
    have kk81 : Keep _ a10 a66 := kk63.trans hk70 rfl
    clear h56 h57 h58 h59 h60 g61 g62 g64 kk63 hf52 hk70 hn71
    refine then_ ?_
    refine wp_if h72 ?_ ?_
    · intro hc82
      have hz := idx_hit (p := p) (l := l) (i := i) (by assumption) (by omega) hc82
      refine wp_seq ?_
      refine wp_region_lit ?_
      refine wp_all [([5], []), ([], [0])] [0, 1, 7] w51.heap.size hf68 g80.size (by kernel_rfl) (bund_cons (is_any h73) bund_nil) ?_
      refine ch rfl (ob_move (arg_free 0 rfl rfl)) ?_
      refine ch rfl (ob_assign (arg_op 0 0 rfl rfl rfl rfl)) ?_
      refine ch_nil ?_
      intro a83 w84 hf85 hg86 hk87 hn88
      have h89 : Holds _ (a83.eval (.tmp 4)) w84 := hn88.at 1 0 rfl rfl rfl
      have h90 := hk87.holds rfl h75
      have h91 := hk87.holds rfl h76
      have h92 := hk87.holds rfl h77
      have g93 := g78.trans hg86
      have g94 := g79.trans hg86
      have g95 := g80.trans hg86
      have kk96 : Keep _ a10 a83 := kk81.trans hk87 rfl
      clear h75 h76 h77 g78 g79 g80 kk81 hf68 hk87 hn88 hg86
      refine then_ ?_
      refine wp_ret ?_
      refine blockR ?_
      refine thenR ?_
      refine thenR ?_
      refine blockR ?_
      refine thenR ?_
      exact ret_tmp rfl hf85 g93 (is_cast h89 (congrArg intV hz))
    · intro hc82
      have hst := none_step (p := p) (l := l) (i := i) (by assumption) (by first | exact hc82 | exact Bool.eq_false_iff.2 hc82)
      refine wp_skip ?_
      refine blockN ?_
      refine then_ ?_
      refine wp_region_lit ?_
      refine wp_all [([8], []), ([], [0])] [0, 1, 7] w51.heap.size hf68 g80.size (by kernel_rfl) (bund_cons (is_any h74) bund_nil) ?_
      first
        | (refine ch rfl (ob_add' (arg_free 0 rfl rfl) arg_c ?_) ?_; · omega)
        | refine ch rfl (ob_add (arg_free 0 rfl rfl) arg_c) ?_
      refine ch rfl (ob_move (arg_op 0 0 rfl rfl rfl rfl)) ?_
      refine ch_nil ?_
      intro a97 w98 hf99 hg100 hk101 hn102
      have h103 : Holds _ (a97.eval (.tmp 8)) w98 := hn102.at 1 0 rfl rfl rfl
      have h104 := hk101.holds rfl h75
      have h105 := hk101.holds rfl h76
      have h106 := hk101.holds rfl h77
      have g107 := g78.trans hg100
      have g108 := g79.trans hg100
      have g109 := g80.trans hg100
      have kk110 : Keep _ a10 a97 := kk81.trans hk101 rfl
      clear h75 h76 h77 g78 g79 g80 kk81 hf68 hk101 hn102 hg100
      refine then_ ?_
      exact ⟨(i + 1), (by ((try dsimp only); omega)), hf99, (by omega), (by exact hst), g107, g108, kk110, (is_cast h103 (by first | rfl | (refine congrArg intV ?_; (try dsimp only); omega)))⟩
  · intro hc49
    try simp only [cond_norm] at hc49
    have hz := idx_none (p := p) (l := l) (i := i) (by assumption) (by omega)
    refine wp_exit ?_
    refine thenX ?_
    refine thenX ?_
    refine blockX ?_
    refine then_ ?_
    refine wp_seq ?_
    refine wp_region_lit ?_
    refine wp_all [([], [])] [] w11.heap.size hf37 g47.size (by kernel_rfl) bund_nil ?_
    refine ch rfl (ob_assign arg_c) ?_
    refine ch_nil ?_
    intro a111 w112 hf113 hg114 hk115 hn116
    have h117 : Holds _ (a111.eval (.tmp 4)) w112 := hn116.at 0 0 rfl rfl rfl
    have g118 := g46.trans hg114
    have g119 := g47.trans hg114
    clear g46 g47 hf37 hk115 hn116 hg114
    refine then_ ?_
    refine wp_ret ?_
    exact ret_tmp rfl hf113 g118 (is_cast h117 (congrArg intV hz))
set_option maxRecDepth 100000 in
theorem c_ixfI {l : List Int} {p : Int → Bool} (hl : l.length ≤ 1000000) : Con2 100 (Sl elInt l) (Fn1 intV p) (fun _ => Is (intV (idx p l))) := by
  intro lo v0 v1 w0 hlo hv0 hv1
  refine enter Tryz.func100 rfl Tryz.ntmps100 (by simp) ?_
  intro a0 hf0 ha
  have h00 : Holds (Is v0) (a0.eval (.tmp 0)) w0 := arg_holds ha rfl rfl
  have h01 : Holds (Is v1) (a0.eval (.tmp 1)) w0 := arg_holds ha rfl rfl
  clear ha
  have g0 : Grow w0 w0 := Grow.refl _
  refine wp_seq ?_
  refine wp_region_lit ?_
  refine wp_all [([], [])] [0, 1] w0.heap.size hf0 g0.size (by kernel_rfl) bund_nil ?_
  refine ch rfl (ob_assign arg_c) ?_
  refine ch_nil ?_
  intro a1 w2 hf3 hg4 hk5 hn6
  have h7 := hk5.holds rfl h00
  have h8 := hk5.holds rfl h01
  have g9 := g0.trans hg4
  clear h00 h01 g0 hf0 hk5 hn6
  refine then_ ?_
  refine wp_seq ?_
  refine wp_seq ?_
  refine wp_region_lit ?_
  refine wp_all [([0], []), ([], [0]), ([], [])] [0, 1] w0.heap.size hf3 g9.size (by kernel_rfl) (bund_cons (is_any h7) bund_nil) ?_
  refine ch rfl (ob_move (arg_free 0 rfl rfl)) ?_
  refine ch rfl (ob_len (ArgOK.val (arg_op 0 0 rfl rfl rfl rfl) (hv0.up g9)) Tryz.underlying23) ?_
  refine ch rfl (ob_move arg_c) ?_
  refine ch_nil ?_
  intro a10 w11 hf12 hg13 hk14 hn15
  have h16 : Holds _ (a10.eval (.tmp 7)) w11 := hn15.at 1 1 rfl rfl rfl
  have h17 : Holds _ (a10.eval (.tmp 8)) w11 := hn15.at 2 0 rfl rfl rfl
  have h18 := hk14.holds rfl h7
  have h19 := hk14.holds rfl h8
  have g20 := g9.trans hg13
  clear h7 h8 g9 hf3 hk14 hn15 hg13
  refine then_ ?_
  refine wp_block ?_
  have g21 : Grow w11 w11 := Grow.refl _
  have hz22 : w0.heap.size ≤ w11.heap.size := g20.size
  refine wp_loopL (α := Nat) (fun i a' w' => Fr 19 a' ∧ (i ≤ l.length) ∧ (∀ j, j < i → (p) (l.getD j default) = false) ∧ Grow w0 w' ∧ Grow w11 w' ∧ Keep [0, 1, 7] a10 a' ∧ Holds (Is (intV (i : Int))) (a'.eval (.tmp 8)) w') (fun i => l.length - i) (0) ⟨hf12, (by omega), (by exact fun j hj => absurd hj (Nat.not_lt_zero j)), g20, g21, Keep.refl _ _, (is_cast h17 (by first | rfl | (refine congrArg intV ?_; (try dsimp only); omega)))⟩ ?_
  intro i a23 w24 ⟨hf25, hi27, hi28, g29, g30, kk26, h31⟩
  have h32 := kk26.holds rfl h16
  have h33 := kk26.holds rfl h18
  have h34 := kk26.holds rfl h19
  refine wp_seq ?_
  refine wp_region_lit ?_
  refine wp_all [([8, 7], [])] [0, 1, 7, 8] w11.heap.size hf25 g30.size (by kernel_rfl) (bund_cons h31 (bund_cons (is_any h32) bund_nil)) ?_
  refine ch rfl (ob_lss (arg_free 0 rfl rfl) (arg_free 1 rfl rfl)) ?_
  refine ch_nil ?_
  intro a35 w36 hf37 hg38 hk39 hn40
  have h41 : Holds _ (a35.eval (.tmp 9)) w36 := hn40.at 0 0 rfl rfl rfl
  have h42 := hk39.holds rfl (h31.up hg38)
  have h43 := hk39.holds rfl h32
  have h44 := hk39.holds rfl h33
  have h45 := hk39.holds rfl h34
  have g46 := g29.trans hg38
  have g47 := g30.trans hg38
  have kk48 : Keep _ a10 a35 := kk26.trans hk39 rfl
  clear h31 h32 h33 h34 g29 g30 kk26 hf25 hk39 hn40 hg38
  refine then_ ?_
  refine wp_seq ?_
  refine wp_if h41 ?_ ?_
  · intro hc49
    try simp only [cond_norm] at hc49
    refine wp_skip ?_
    refine then_ ?_
    refine wp_seq ?_
    refine wp_block ?_
    refine wp_seq ?_
    refine wp_region_lit ?_
    refine wp_all [([8], []), ([], [0])] [0, 1, 7, 8] w11.heap.size hf37 g47.size (by kernel_rfl) (bund_cons h42 bund_nil) ?_
    refine ch rfl (ob_move (arg_free 0 rfl rfl)) ?_
    refine ch rfl (ob_assign (arg_op 0 0 rfl rfl rfl rfl)) ?_
    refine ch_nil ?_
    intro a50 w51 hf52 hg53 hk54 hn55
    have h56 : Holds _ (a50.eval (.tmp 5)) w51 := hn55.at 1 0 rfl rfl rfl
    have h57 := hk54.holds rfl (h42.up hg53)
    have h58 := hk54.holds rfl h43
    have h59 := hk54.holds rfl h44
    have h60 := hk54.holds rfl h45
    have g61 := g46.trans hg53
    have g62 := g47.trans hg53
    have kk63 : Keep _ a10 a50 := kk48.trans hk54 rfl
    clear h42 h43 h44 h45 g46 g47 kk48 hf37 hk54 hn55 hg53
    refine then_ ?_
    refine wp_seq ?_
    have g64 : Grow w51 w51 := Grow.refl _
    have hz65 : w11.heap.size ≤ w51.heap.size := g62.size
    refine wp_region_lit ?_
    refine wp_all [([1], []), ([0], []), ([5], []), ([], [1, 2]), ([], [3]), ([], [0, 4])] [0, 1, 5, 7, 8] w51.heap.size hf52 g64.size (by kernel_rfl) (bund_cons (is_any h60) (bund_cons (is_any h59) (bund_cons h56 bund_nil))) ?_
    refine ch rfl (ob_move (arg_free 0 rfl rfl)) ?_
    refine ch rfl (ob_move (arg_free 1 rfl rfl)) ?_
    refine ch rfl (ob_move (arg_free 2 rfl rfl)) ?_
    refine ch rfl (ob_ix (ArgOK.val (arg_op 1 1 rfl rfl rfl rfl) (hv0.up g61)) (arg_op 2 0 rfl rfl rfl rfl) (rfl) ?_ Tryz.underlying23 szInt) ?_
    · omega
    refine ch rfl (ob_load1 (arg_op 3 0 rfl rfl rfl rfl) Tryz.underlying3 rfl) ?_
    refine ch rfl (ob_callv1 (ArgOK.val (arg_op 0 4 rfl rfl rfl rfl) (hv1.up g61)) (arg_op 4 0 rfl rfl rfl rfl)) ?_
    refine ch_nil ?_
    intro a66 w67 hf68 hg69 hk70 hn71
    have h72 : Holds _ (a66.eval (.tmp 16)) w67 := hn71.at 5 0 rfl rfl rfl
    have h73 := hk70.holds rfl h56
    have h74 := hk70.holds rfl h57
    have h75 := hk70.holds rfl h58
    have h76 := hk70.holds rfl h59
    have h77 := hk70.holds rfl h60
    have g78 := g61.trans hg69
    have g79 := g62.trans hg69
    have g80 := g64.trans hg69
    have kk81 : Keep _ a10 a66 := kk63.trans hk70 rfl
    clear h56 h57 h58 h59 h60 g61 g62 g64 kk63 hf52 hk70 hn71
    refine then_ ?_
    refine wp_if h72 ?_ ?_
    · intro hc82
      have hz := idx_hit (p := p) (l := l) (i := i) (by assumption) (by omega) hc82
      refine wp_seq ?_
      refine wp_region_lit ?_
      refine wp_all [([5], []), ([], [0])] [0, 1, 7] w51.heap.size hf68 g80.size (by kernel_rfl) (bund_cons (is_any h73) bund_nil) ?_
      refine ch rfl (ob_move (arg_free 0 rfl rfl)) ?_
      refine ch rfl (ob_assign (arg_op 0 0 rfl rfl rfl rfl)) ?_
      refine ch_nil ?_
      intro a83 w84 hf85 hg86 hk87 hn88
      have h89 : Holds _ (a83.eval (.tmp 4)) w84 := hn88.at 1 0 rfl rfl rfl
      have h90 := hk87.holds rfl h75
      have h91 := hk87.holds rfl h76
      have h92 := hk87.holds rfl h77
      have g93 := g78.trans hg86
      have g94 := g79.trans hg86
      have g95 := g80.trans hg86
      have kk96 : Keep _ a10 a83 := kk81.trans hk87 rfl
      clear h75 h76 h77 g78 g79 g80 kk81 hf68 hk87 hn88 hg86
      refine then_ ?_
      refine wp_ret ?_
      refine blockR ?_
      refine thenR ?_
      refine thenR ?_
      refine blockR ?_
      refine thenR ?_
      exact ret_tmp rfl hf85 g93 (is_cast h89 (congrArg intV hz))
    · intro hc82
      have hst := none_step (p := p) (l := l) (i := i) (by assumption) (by first | exact hc82 | exact Bool.eq_false_iff.2 hc82)
      refine wp_skip ?_
      refine blockN ?_
      refine then_ ?_
      refine wp_region_lit ?_
      refine wp_all [([8], []), ([], [0])] [0, 1, 7] w51.heap.size hf68 g80.size (by kernel_rfl) (bund_cons (is_any h74) bund_nil) ?_
      first
        | (refine ch rfl (ob_add' (arg_free 0 rfl rfl) arg_c ?_) ?_; · omega)
        | refine ch rfl (ob_add (arg_free 0 rfl rfl) arg_c) ?_
      refine ch rfl (ob_move (arg_op 0 0 rfl rfl rfl rfl)) ?_
      refine ch_nil ?_
      intro a97 w98 hf99 hg100 hk101 hn102
      have h103 : Holds _ (a97.eval (.tmp 8)) w98 := hn102.at 1 0 rfl rfl rfl
      have h104 := hk101.holds rfl h75
      have h105 := hk101.holds rfl h76
      have h106 := hk101.holds rfl h77
      have g107 := g78.trans hg100
      have g108 := g79.trans hg100
      have g109 := g80.trans hg100
      have kk110 : Keep _ a10 a97 := kk81.trans hk101 rfl
      clear h75 h76 h77 g78 g79 g80 kk81 hf68 hk101 hn102 hg100
      refine then_ ?_
      exact ⟨(i + 1), (by ((try dsimp only); omega)), hf99, (by omega), (by exact hst), g107, g108, kk110, (is_cast h103 (by first | rfl | (refine congrArg intV ?_; (try dsimp only); omega)))⟩
  · intro hc49
    try simp only [cond_norm] at hc49
    have hz := idx_none (p := p) (l := l) (i := i) (by assumption) (by omega)
    refine wp_exit ?_
    refine thenX ?_
    refine thenX ?_
    refine blockX ?_
    refine then_ ?_
    refine wp_seq ?_
    refine wp_region_lit ?_
    refine wp_all [([], [])] [] w11.heap.size hf37 g47.size (by kernel_rfl) bund_nil ?_
    refine ch rfl (ob_assign arg_c) ?_
    refine ch_nil ?_
    intro a111 w112 hf113 hg114 hk115 hn116
    have h117 : Holds _ (a111.eval (.tmp 4)) w112 := hn116.at 0 0 rfl rfl rfl
    have g118 := g46.trans hg114
    have g119 := g47.trans hg114
    clear g46 g47 hf37 hk115 hn116 hg114
    refine then_ ?_
    refine wp_ret ?_
    exact ret_tmp rfl hf113 g118 (is_cast h117 (congrArg intV hz))
set_option maxRecDepth 100000 in
theorem c_conD {l : List GDelta} {p : GDelta → Bool} (hl : l.length ≤ 1000000) : Con2 60 (Sl elDelta l) (Fn1 deltaV p) (fun _ => Is (.bool (l.any p))) := by
  intro lo v0 v1 w0 hlo hv0 hv1
  refine enter Tryz.func60 rfl Tryz.ntmps60 (by simp) ?_
  intro a0 hf0 ha
  have h00 : Holds (Is v0) (a0.eval (.tmp 0)) w0 := arg_holds ha rfl rfl
  have h01 : Holds (Is v1) (a0.eval (.tmp 1)) w0 := arg_holds ha rfl rfl
  clear ha
  have g0 : Grow w0 w0 := Grow.refl _
  refine wp_seq ?_
  refine wp_region_lit ?_
  refine wp_all [([], [])] [0, 1] w0.heap.size hf0 g0.size (by kernel_rfl) bund_nil ?_
  refine ch rfl (ob_assign arg_c) ?_
  refine ch_nil ?_
  intro a1 w2 hf3 hg4 hk5 hn6
  have h7 := hk5.holds rfl h00
  have h8 := hk5.holds rfl h01
  have g9 := g0.trans hg4
  clear h00 h01 g0 hf0 hk5 hn6
  refine then_ ?_
  refine wp_seq ?_
  have g10 : Grow w2 w2 := Grow.refl _
  have hz11 : w0.heap.size ≤ w2.heap.size := g9.size
  refine wp_region_lit ?_
  refine wp_all [([0], []), ([1], []), ([], [0, 1]), ([], [2]), ([], [3])] [] w2.heap.size hf3 g10.size (by kernel_rfl) (bund_cons (is_any h7) (bund_cons (is_any h8) bund_nil)) ?_
  refine ch rfl (ob_move (arg_free 0 rfl rfl)) ?_
  refine ch rfl (ob_move (arg_free 1 rfl rfl)) ?_
  refine ch rfl (ob_call2 (by kernel_rfl) (c_ixfD ?_) (ArgOK.val (arg_op 0 1 rfl rfl rfl rfl) (hv0.up g9)) (ArgOK.val (arg_op 1 0 rfl rfl rfl rfl) (hv1.up g9))) ?_
  · omega
  refine ch rfl (ob_geq (arg_op 2 0 rfl rfl rfl rfl) arg_c) ?_
  refine ch rfl (ob_assign (arg_op 3 0 rfl rfl rfl rfl)) ?_
  refine ch_nil ?_
  intro a12 w13 hf14 hg15 hk16 hn17
  have h18 : Holds _ (a12.eval (.tmp 4)) w13 := hn17.at 4 0 rfl rfl rfl
  have g19 := g9.trans hg15
  have g20 := g10.trans hg15
  clear g9 g10 hf3 hk16 hn17
  refine then_ ?_
  refine wp_ret ?_
  exact ret_tmp rfl hf14 g19 (is_cast h18 (congrArg Value.bool (idx_any _ _)))
set_option maxRecDepth 100000 in
theorem c_conK {l : List GLock} {p : GLock → Bool} (hl : l.length ≤ 1000000) : Con2 64 (Sl elLock l) (Fn1 lockV p) (fun _ => Is (.bool (l.any p))) := by
  intro lo v0 v1 w0 hlo hv0 hv1
  refine enter Tryz.func64 rfl Tryz.ntmps64 (by simp) ?_
  intro a0 hf0 ha
  have h00 : Holds (Is v0) (a0.eval (.tmp 0)) w0 := arg_holds ha rfl rfl
  have h01 : Holds (Is v1) (a0.eval (.tmp 1)) w0 := arg_holds ha rfl rfl
  clear ha
  have g0 : Grow w0 w0 := Grow.refl _
  refine wp_seq ?_
  refine wp_region_lit ?_
  refine wp_all [([], [])] [0, 1] w0.heap.size hf0 g0.size (by kernel_rfl) bund_nil ?_
  refine ch rfl (ob_assign arg_c) ?_
  refine ch_nil ?_
  intro a1 w2 hf3 hg4 hk5 hn6
  have h7 := hk5.holds rfl h00
  have h8 := hk5.holds rfl h01
  have g9 := g0.trans hg4
  clear h00 h01 g0 hf0 hk5 hn6
  refine then_ ?_
  refine wp_seq ?_
  have g10 : Grow w2 w2 := Grow.refl _
  have hz11 : w0.heap.size ≤ w2.heap.size := g9.size
  refine wp_region_lit ?_
  refine wp_all [([0], []), ([1], []), ([], [0, 1]), ([], [2]), ([], [3])] [] w2.heap.size hf3 g10.size (by kernel_rfl) (bund_cons (is_any h7) (bund_cons (is_any h8) bund_nil)) ?_
  refine ch rfl (ob_move (arg_free 0 rfl rfl)) ?_
  refine ch rfl (ob_move (arg_free 1 rfl rfl)) ?_
  refine ch rfl (ob_call2 (by kernel_rfl) (c_ixfK ?_) (ArgOK.val (arg_op 0 1 rfl rfl rfl rfl) (hv0.up g9)) (ArgOK.val (arg_op 1 0 rfl rfl rfl rfl) (hv1.up g9))) ?_
  · omega
  refine ch rfl (ob_geq (arg_op 2 0 rfl rfl rfl rfl) arg_c) ?_
  refine ch rfl (ob_assign (arg_op 3 0 rfl rfl rfl rfl)) ?_
  refine ch_nil ?_
  intro a12 w13 hf14 hg15 hk16 hn17
  have h18 : Holds _ (a12.eval (.tmp 4)) w13 := hn17.at 4 0 rfl rfl rfl
  have g19 := g9.trans hg15
  have g20 := g10.trans hg15
  clear g9 g10 hf3 hk16 hn17
  refine then_ ?_
  refine wp_ret ?_
  exact ret_tmp rfl hf14 g19 (is_cast h18 (congrArg Value.bool (idx_any _ _)))
set_option maxRecDepth 100000 in
theorem c_conI {l : List Int} {p : Int → Bool} (hl : l.length ≤ 1000000) : Con2 63 (Sl elInt l) (Fn1 intV p) (fun _ => Is (.bool (l.any p))) := by
  intro lo v0 v1 w0 hlo hv0 hv1
  refine enter Tryz.func63 rfl Tryz.ntmps63 (by simp) ?_
  intro a0 hf0 ha
  have h00 : Holds (Is v0) (a0.eval (.tmp 0)) w0 := arg_holds ha rfl rfl
  have h01 : Holds (Is v1) (a0.eval (.tmp 1)) w0 := arg_holds ha rfl rfl
  clear ha
  have g0 : Grow w0 w0 := Grow.refl _
  refine wp_seq ?_
  refine wp_region_lit ?_
  refine wp_all [([], [])] [0, 1] w0.heap.size hf0 g0.size (by kernel_rfl) bund_nil ?_
  refine ch rfl (ob_assign arg_c) ?_
  refine ch_nil ?_
  intro a1 w2 hf3 hg4 hk5 hn6
  have h7 := hk5.holds rfl h00
  have h8 := hk5.holds rfl h01
  have g9 := g0.trans hg4
  clear h00 h01 g0 hf0 hk5 hn6
  refine then_ ?_
  refine wp_seq ?_
  have g10 : Grow w2 w2 := Grow.refl _
  have hz11 : w0.heap.size ≤ w2.heap.size := g9.size
  refine wp_region_lit ?_
  refine wp_all [([0], []), ([1], []), ([], [0, 1]), ([], [2]), ([], [3])] [] w2.heap.size hf3 g10.size (by kernel_rfl) (bund_cons (is_any h7) (bund_cons (is_any h8) bund_nil)) ?_
  refine ch rfl (ob_move (arg_free 0 rfl rfl)) ?_
  refine ch rfl (ob_move (arg_free 1 rfl rfl)) ?_
  refine ch rfl (ob_call2 (by kernel_rfl) (c_ixfI ?_) (ArgOK.val (arg_op 0 1 rfl rfl rfl rfl) (hv0.up g9)) (ArgOK.val (arg_op 1 0 rfl rfl rfl rfl) (hv1.up g9))) ?_
  · omega
  refine ch rfl (ob_geq (arg_op 2 0 rfl rfl rfl rfl) arg_c) ?_
  refine ch rfl (ob_assign (arg_op 3 0 rfl rfl rfl rfl)) ?_
  refine ch_nil ?_
  intro a12 w13 hf14 hg15 hk16 hn17
  have h18 : Holds _ (a12.eval (.tmp 4)) w13 := hn17.at 4 0 rfl rfl rfl
  have g19 := g9.trans hg15
  have g20 := g10.trans hg15
  clear g9 g10 hf3 hk16 hn17
  refine then_ ?_
  refine wp_ret ?_
  exact ret_tmp rfl hf14 g19 (is_cast h18 (congrArg Value.bool (idx_any _ _)))
set_option maxRecDepth 100000 in
theorem c_cmpD {a b : GDelta} : Con2 62 (Is (deltaV a)) (Is (deltaV b)) (fun _ => Is (intV (cmpD a b))) := by
  intro lo v0 v1 w0 hlo hv0 hv1
  refine enter Tryz.func62 rfl Tryz.ntmps62 (by simp) ?_
  intro a0 hf0 ha
  have h00 : Holds _ (a0.eval (.tmp 0)) w0 := arg_holds ha rfl hv0
  have h01 : Holds _ (a0.eval (.tmp 1)) w0 := arg_holds ha rfl hv1
  clear ha
  have g0 : Grow w0 w0 := Grow.refl _
  refine wp_seq ?_
  refine wp_region_lit ?_
  refine wp_seg (l1 := [_]) [([0], [])] [1] w0.heap.size hf0 g0.size (by kernel_rfl) (bund_cons h00 bund_nil) ?_
  refine ch rfl (ob_box_delta (arg_free 0 rfl rfl)) ?_
  refine ch_nil ?_
  intro a1 w2 hf3 hg4 hk5 hn6
  have h7 : Holds _ (a1.eval (.tmp 2)) w2 := hn6.at 0 0 rfl rfl rfl
  have h8 := hk5.holds rfl h01
  have g9 := g0.trans hg4
  obtain ⟨bk10, hl11, hv12, hb13⟩ := OwnB.blk (lo := w0.heap.size) h7
  clear h01 g0 hf0 hk5 hn6
  have g14 : Grow w2 w2 := Grow.refl _
  have hl15 : bk10 < w2.heap.size := hb13.lt
  have hz16 : w0.heap.size ≤ w2.heap.size := g9.size
  refine wp_all [([1], []), ([], [])] [2] w2.heap.size hf3 g14.size (by kernel_rfl) (bund_cons (is_any h8) bund_nil) ?_
  refine ch rfl (ob_box_delta (arg_free 0 rfl rfl)) ?_
  refine ch rfl (ob_assign arg_c) ?_
  refine ch_nil ?_
  intro a17 w18 hf19 hg20 hk21 hn22
  have h23 : Holds _ (a17.eval (.tmp 3)) w18 := hn22.at 0 1 rfl rfl rfl
  have hv24 : Holds (Is (PtrV bk10)) (a17.eval (.tmp 2)) w18 := is_any (hk21.holds rfl hv12)
  have hb25 := hb13.up hg20
  have g26 := g9.trans hg20
  have g27 := g14.trans hg20
  obtain ⟨bk28, hl29, hv30, hb31⟩ := OwnB.blk (lo := w2.heap.size) h23
  clear hv12 hb13 g9 g14 hf3 hk21 hn22
  refine then_ ?_
  refine wp_seq ?_
  have g32 : Grow w18 w18 := Grow.refl _
  have hl33 : bk10 < w18.heap.size := hb25.lt
  have hl34 : bk28 < w18.heap.size := hb31.lt
  have hz35 : w2.heap.size ≤ w18.heap.size := g27.size
  refine wp_region_lit ?_
  refine wp_all [([2], []), ([], [0]), ([3], []), ([], [2]), ([], [1, 3]), ([], [4])] [] w18.heap.size hf19 g32.size (by kernel_rfl) (bund_cons (hb25.ownp hv24) (bund_cons (hb31.ownp hv30) bund_nil)) ?_
  refine ch rfl (ob_fa_delta0 (ArgOK.ownp (arg_free 0 rfl rfl))) ?_
  refine ch rfl (ob_load_cell (arg_op 0 0 rfl rfl rfl rfl)) ?_
  refine ch rfl (ob_fa_delta0 (ArgOK.ownp (arg_free 1 rfl rfl))) ?_
  refine ch rfl (ob_load_cell (arg_op 2 0 rfl rfl rfl rfl)) ?_
  refine ch rfl (ob_call2 (by kernel_rfl) (c_cmpC) (arg_op 1 2 rfl rfl rfl rfl) (arg_op 3 0 rfl rfl rfl rfl)) ?_
  refine ch rfl (ob_assign (arg_op 4 0 rfl rfl rfl rfl)) ?_
  refine ch_nil ?_
  intro a36 w37 hf38 hg39 hk40 hn41
  have h42 : Holds _ (a36.eval (.tmp 4)) w37 := hn41.at 5 0 rfl rfl rfl
  have g43 := g26.trans hg39
  have g44 := g27.trans hg39
  have g45 := g32.trans hg39
  clear g26 g27 g32 hf19 hk40 hn41
  refine then_ ?_
  refine wp_ret ?_
  exact ret_tmp rfl hf38 g43 h42
set_option maxRecDepth 100000 in
theorem c_cmpK {a b : GLock} : Con2 37 (Is (lockV a)) (Is (lockV b)) (fun _ => Is (intV (cmpK a b))) := by
  intro lo v0 v1 w0 hlo hv0 hv1
  refine enter Tryz.func37 rfl Tryz.ntmps37 (by simp) ?_
  intro a0 hf0 ha
  have h00 : Holds _ (a0.eval (.tmp 0)) w0 := arg_holds ha rfl hv0
  have h01 : Holds _ (a0.eval (.tmp 1)) w0 := arg_holds ha rfl hv1
  clear ha
  have g0 : Grow w0 w0 := Grow.refl _
  refine wp_seq ?_
  refine wp_region_lit ?_
  refine wp_seg (l1 := [_]) [([0], [])] [1] w0.heap.size hf0 g0.size (by kernel_rfl) (bund_cons h00 bund_nil) ?_
  refine ch rfl (ob_box_lock (arg_free 0 rfl rfl)) ?_
  refine ch_nil ?_
  intro a1 w2 hf3 hg4 hk5 hn6
  have h7 : Holds _ (a1.eval (.tmp 2)) w2 := hn6.at 0 0 rfl rfl rfl
  have h8 := hk5.holds rfl h01
  have g9 := g0.trans hg4
  obtain ⟨bk10, hl11, hv12, hb13⟩ := OwnB.blk (lo := w0.heap.size) h7
  clear h01 g0 hf0 hk5 hn6
  have g14 : Grow w2 w2 := Grow.refl _
  have hl15 : bk10 < w2.heap.size := hb13.lt
  have hz16 : w0.heap.size ≤ w2.heap.size := g9.size
  refine wp_all [([1], []), ([], [])] [2] w2.heap.size hf3 g14.size (by kernel_rfl) (bund_cons (is_any h8) bund_nil) ?_
  refine ch rfl (ob_box_lock (arg_free 0 rfl rfl)) ?_
  refine ch rfl (ob_assign arg_c) ?_
  refine ch_nil ?_
  intro a17 w18 hf19 hg20 hk21 hn22
  have h23 : Holds _ (a17.eval (.tmp 3)) w18 := hn22.at 0 1 rfl rfl rfl
  have hv24 : Holds (Is (PtrV bk10)) (a17.eval (.tmp 2)) w18 := is_any (hk21.holds rfl hv12)
  have hb25 := hb13.up hg20
  have g26 := g9.trans hg20
  have g27 := g14.trans hg20
  obtain ⟨bk28, hl29, hv30, hb31⟩ := OwnB.blk (lo := w2.heap.size) h23
  clear hv12 hb13 g9 g14 hf3 hk21 hn22
  refine then_ ?_
  refine wp_seq ?_
  have g32 : Grow w18 w18 := Grow.refl _
  have hl33 : bk10 < w18.heap.size := hb25.lt
  have hl34 : bk28 < w18.heap.size := hb31.lt
  have hz35 : w2.heap.size ≤ w18.heap.size := g27.size
  refine wp_region_lit ?_
  refine wp_all [([2], []), ([], [0]), ([3], []), ([], [2]), ([], [1, 3]), ([], [4])] [] w18.heap.size hf19 g32.size (by kernel_rfl) (bund_cons (hb25.ownp hv24) (bund_cons (hb31.ownp hv30) bund_nil)) ?_
  refine ch rfl (ob_fa_lock0 (ArgOK.ownp (arg_free 0 rfl rfl))) ?_
  refine ch rfl (ob_load_nm (arg_op 0 0 rfl rfl rfl rfl)) ?_
  refine ch rfl (ob_fa_lock0 (ArgOK.ownp (arg_free 1 rfl rfl))) ?_
  refine ch rfl (ob_load_nm (arg_op 2 0 rfl rfl rfl rfl)) ?_
  refine ch rfl (ob_call2 (by kernel_rfl) (c_cmpNm) (arg_op 1 2 rfl rfl rfl rfl) (arg_op 3 0 rfl rfl rfl rfl)) ?_
  refine ch rfl (ob_assign (arg_op 4 0 rfl rfl rfl rfl)) ?_
  refine ch_nil ?_
  intro a36 w37 hf38 hg39 hk40 hn41
  have h42 : Holds _ (a36.eval (.tmp 4)) w37 := hn41.at 5 0 rfl rfl rfl
  have g43 := g26.trans hg39
  have g44 := g27.trans hg39
  have g45 := g32.trans hg39
  clear g26 g27 g32 hf19 hk40 hn41
  refine then_ ?_
  refine wp_ret ?_
  exact ret_tmp rfl hf38 g43 h42
set_option maxRecDepth 100000 in
theorem c_ascN {l : List UInt64} {c : UInt64 → UInt64 → Int} (hl : l.length ≤ 1000000) : Con2 66 (Sl elNm l) (Fn2 nmV c) (fun _ => Is (.bool (asc c l))) := by
  intro lo v0 v1 w0 hlo hv0 hv1
  refine enter Tryz.func66 rfl Tryz.ntmps66 (by simp) ?_
  intro a0 hf0 ha
  have h00 : Holds (Is v0) (a0.eval (.tmp 0)) w0 := arg_holds ha rfl rfl
  have h01 : Holds (Is v1) (a0.eval (.tmp 1)) w0 := arg_holds ha rfl rfl
  clear ha
  have g0 : Grow w0 w0 := Grow.refl _
  refine wp_seq ?_
  refine wp_region_lit ?_
  refine wp_all [([], [])] [0, 1] w0.heap.size hf0 g0.size (by kernel_rfl) bund_nil ?_
  refine ch rfl (ob_assign arg_c) ?_
  refine ch_nil ?_
  intro a1 w2 hf3 hg4 hk5 hn6
  have h7 := hk5.holds rfl h00
  have h8 := hk5.holds rfl h01
  have g9 := g0.trans hg4
  clear h00 h01 g0 hf0 hk5 hn6
  refine then_ ?_
  refine wp_seq ?_
  refine wp_seq ?_
  refine wp_region_lit ?_
  refine wp_all [([], [])] [0, 1] w0.heap.size hf3 g9.size (by kernel_rfl) bund_nil ?_
  refine ch rfl (ob_assign arg_c) ?_
  refine ch_nil ?_
  intro a10 w11 hf12 hg13 hk14 hn15
  have h16 : Holds _ (a10.eval (.tmp 5)) w11 := hn15.at 0 0 rfl rfl rfl
  have h17 := hk14.holds rfl h7
  have h18 := hk14.holds rfl h8
  have g19 := g9.trans hg13
  clear h7 h8 g9 hf3 hk14 hn15 hg13
  refine then_ ?_
  refine wp_block ?_
  have g20 : Grow w11 w11 := Grow.refl _
  have hz21 : w0.heap.size ≤ w11.heap.size := g19.size
  refine wp_loopL (α := Nat) (fun i a' w' => Fr 24 a' ∧ (1 ≤ i) ∧ (∀ j, 1 ≤ j → j < i → c (l.getD (j - 1) default) (l.getD j default) < 0) ∧ Grow w0 w' ∧ Grow w11 w' ∧ Keep [0, 1] a10 a' ∧ Holds (Is (intV (i : Int))) (a'.eval (.tmp 5)) w') (fun i => l.length - i) (1) ⟨hf12, (by omega), (by exact fun j h1 h2 => absurd h2 (by omega)), g19, g20, Keep.refl _ _, (is_cast h16 (by first | rfl | (refine congrArg intV ?_; (try dsimp only); omega)))⟩ ?_
  intro i a22 w23 ⟨hf24, hi26, hi27, g28, g29, kk25, h30⟩
  have h31 := kk25.holds rfl h17
  have h32 := kk25.holds rfl h18
  refine wp_seq ?_
  refine wp_seq ?_
  refine wp_region_lit ?_
  refine wp_all [([5], []), ([0], []), ([], [1]), ([], [0, 2])] [0, 1, 5] w11.heap.size hf24 g29.size (by kernel_rfl) (bund_cons h30 (bund_cons (is_any h31) bund_nil)) ?_
  refine ch rfl (ob_move (arg_free 0 rfl rfl)) ?_
  refine ch rfl (ob_move (arg_free 1 rfl rfl)) ?_
  refine ch rfl (ob_len (ArgOK.val (arg_op 1 0 rfl rfl rfl rfl) (hv0.up g28)) Tryz.underlying25) ?_
  refine ch rfl (ob_lss (arg_op 0 2 rfl rfl rfl rfl) (arg_op 2 0 rfl rfl rfl rfl)) ?_
  refine ch_nil ?_
  intro a33 w34 hf35 hg36 hk37 hn38
  have h39 : Holds _ (a33.eval (.tmp 9)) w34 := hn38.at 3 0 rfl rfl rfl
  have h40 := hk37.holds rfl (h30.up hg36)
  have h41 := hk37.holds rfl h31
  have h42 := hk37.holds rfl h32
  have g43 := g28.trans hg36
  have g44 := g29.trans hg36
  have kk45 : Keep _ a10 a33 := kk25.trans hk37 rfl
  clear h30 h31 h32 g28 g29 kk25 hf24 hk37 hn38 hg36
  refine then_ ?_
  refine wp_if h39 ?_ ?_
  · intro hc46
    try simp only [cond_norm] at hc46
    refine wp_skip ?_
    refine then_ ?_
    refine wp_seq ?_
    refine wp_block ?_
    refine wp_seq ?_
    have g47 : Grow w34 w34 := Grow.refl _
    have hz48 : w11.heap.size ≤ w34.heap.size := g44.size
    refine wp_calm [0, 0, 0, 4, 14, 30, 0, 0, 192, 448, 1023, 2047] [([1], []), ([0], []), ([5], []), ([], [2]), ([], [1, 3]), ([], [4]), ([0], []), ([5], []), ([], [6, 7]), ([], [8]), ([], [0, 5, 9]), ([], [10])] [0, 1, 5] w34.heap.size hf35 g47.size (by kernel_rfl) (bund_cons (is_any h42) (bund_cons (is_any h41) (bund_cons h40 bund_nil))) ?_
    intro ws49 hs50
    refine ch rfl (ob_move (arg_free 0 rfl rfl)) ?_
    refine ch rfl (ob_move (arg_free 1 rfl rfl)) ?_
    refine ch rfl (ob_move (arg_free 2 rfl rfl)) ?_
    first
      | (refine ch rfl (ob_sub' (arg_op 2 0 rfl rfl rfl rfl) arg_c ?_) ?_; · omega)
      | refine ch rfl (ob_sub (arg_op 2 0 rfl rfl rfl rfl) arg_c) ?_
    refine ch rfl (ob_ix (ArgOK.val (arg_op 1 2 rfl rfl rfl rfl) ((hv0.up g43).up hs50)) (arg_op 3 0 rfl rfl rfl rfl) (show (i : Int) - 1 = ((i - 1 : Nat) : Int) by omega) ?_ Tryz.underlying25 szNm) ?_
    · omega
    refine ch rfl (ob_load_nm (arg_op 4 0 rfl rfl rfl rfl)) ?_
    refine ch rfl (ob_move (arg_free 1 rfl rfl)) ?_
    refine ch rfl (ob_move (arg_free 2 rfl rfl)) ?_
    refine ch rfl (ob_ix (ArgOK.val (arg_op 6 1 rfl rfl rfl rfl) ((hv0.up g43).up hs50)) (arg_op 7 0 rfl rfl rfl rfl) (rfl) ?_ Tryz.underlying25 szNm) ?_
    · omega
    refine ch rfl (ob_load_nm (arg_op 8 0 rfl rfl rfl rfl)) ?_
    refine ch rfl (ob_callv2 (ArgOK.val (arg_op 0 9 rfl rfl rfl rfl) ((hv1.up g43).up hs50)) (arg_op 5 4 rfl rfl rfl rfl) (arg_op 9 0 rfl rfl rfl rfl)) ?_
    refine ch rfl (ob_geq (arg_op 10 0 rfl rfl rfl rfl) arg_c) ?_
    refine ch_nil ?_
    intro a51 w52 hf53 hg54 hk55 hn56
    have h57 : Holds _ (a51.eval (.tmp 23)) w52 := hn56.at 11 0 rfl rfl rfl
    have h58 := hk55.holds rfl h40
    have h59 := hk55.holds rfl h41
    have h60 := hk55.holds rfl h42
    have g61 := g43.trans hg54
    have g62 := g44.trans hg54
    have g63 := g47.trans hg54
    have kk64 : Keep _ a10 a51 := kk45.trans hk55 rfl
    clear h40 h41 h42 g43 g44 g47 kk45 hf35 hk55 hn56
    refine then_ ?_
    refine wp_if h57 ?_ ?_
    · intro hc65
      try simp only [cond_norm] at hc65
      have hz := asc_no (c := c) (l := l) (i := i) (by omega) (by omega) hc65
      refine wp_seq ?_
      refine wp_region_lit ?_
      refine wp_all [([], [])] [0, 1] w34.heap.size hf53 g63.size (by kernel_rfl) bund_nil ?_
      refine ch rfl (ob_assign arg_c) ?_
      refine ch_nil ?_
      intro a66 w67 hf68 hg69 hk70 hn71
      have h72 : Holds _ (a66.eval (.tmp 4)) w67 := hn71.at 0 0 rfl rfl rfl
      have h73 := hk70.holds rfl h59
      have h74 := hk70.holds rfl h60
      have g75 := g61.trans hg69
      have g76 := g62.trans hg69
      have g77 := g63.trans hg69
      have kk78 : Keep _ a10 a66 := kk64.trans hk70 rfl
      clear h59 h60 g61 g62 g63 kk64 hf53 hk70 hn71 hg69
      refine then_ ?_
      refine wp_ret ?_
      refine blockR ?_
      refine thenR ?_
      refine thenR ?_
      refine blockR ?_
      refine thenR ?_
      exact ret_tmp rfl hf68 g75 (is_cast h72 (congrArg Value.bool hz))
    · intro hc65
      try simp only [cond_norm] at hc65
      have hst := asc_step (c := c) (l := l) (i := i) (by assumption) hc65
      refine wp_skip ?_
      refine blockN ?_
      refine then_ ?_
      refine wp_region_lit ?_
      refine wp_all [([5], []), ([], [0]), ([], [1])] [0, 1] w34.heap.size hf53 g63.size (by kernel_rfl) (bund_cons (is_any h58) bund_nil) ?_
      refine ch rfl (ob_move (arg_free 0 rfl rfl)) ?_
      first
        | (refine ch rfl (ob_add' (arg_op 0 0 rfl rfl rfl rfl) arg_c ?_) ?_; · omega)
        | refine ch rfl (ob_add (arg_op 0 0 rfl rfl rfl rfl) arg_c) ?_
      refine ch rfl (ob_assign (arg_op 1 0 rfl rfl rfl rfl)) ?_
      refine ch_nil ?_
      intro a79 w80 hf81 hg82 hk83 hn84
      have h85 : Holds _ (a79.eval (.tmp 5)) w80 := hn84.at 2 0 rfl rfl rfl
      have h86 := hk83.holds rfl h59
      have h87 := hk83.holds rfl h60
      have g88 := g61.trans hg82
      have g89 := g62.trans hg82
      have g90 := g63.trans hg82
      have kk91 : Keep _ a10 a79 := kk64.trans hk83 rfl
      clear h59 h60 g61 g62 g63 kk64 hf53 hk83 hn84 hg82
      refine then_ ?_
      exact ⟨(i + 1), (by ((try dsimp only); omega)), hf81, (by omega), (by exact hst), g88, g89, kk91, (is_cast h85 (by first | rfl | (refine congrArg intV ?_; (try dsimp only); omega)))⟩
  · intro hc46
    try simp only [cond_norm] at hc46
    have hz := asc_yes (c := c) (l := l) (i := i) (by assumption) (by omega)
    refine wp_exit ?_
    refine thenX ?_
    refine thenX ?_
    refine blockX ?_
    refine then_ ?_
    refine wp_seq ?_
    refine wp_region_lit ?_
    refine wp_all [([], [])] [] w11.heap.size hf35 g44.size (by kernel_rfl) bund_nil ?_
    refine ch rfl (ob_assign arg_c) ?_
    refine ch_nil ?_
    intro a92 w93 hf94 hg95 hk96 hn97
    have h98 : Holds _ (a92.eval (.tmp 4)) w93 := hn97.at 0 0 rfl rfl rfl
    have g99 := g43.trans hg95
    have g100 := g44.trans hg95
    clear g43 g44 hf35 hk96 hn97 hg95
    refine then_ ?_
    refine wp_ret ?_
    exact ret_tmp rfl hf94 g99 (is_cast h98 (congrArg Value.bool hz))
set_option maxRecDepth 100000 in
theorem c_ascD {l : List GDelta} {c : GDelta → GDelta → Int} (hl : l.length ≤ 1000000) : Con2 61 (Sl elDelta l) (Fn2 deltaV c) (fun _ => Is (.bool (asc c l))) := by
  intro lo v0 v1 w0 hlo hv0 hv1
  refine enter Tryz.func61 rfl Tryz.ntmps61 (by simp) ?_
  intro a0 hf0 ha
  have h00 : Holds (Is v0) (a0.eval (.tmp 0)) w0 := arg_holds ha rfl rfl
  have h01 : Holds (Is v1) (a0.eval (.tmp 1)) w0 := arg_holds ha rfl rfl
  clear ha
  have g0 : Grow w0 w0 := Grow.refl _
  refine wp_seq ?_
  refine wp_region_lit ?_
  refine wp_all [([], [])] [0, 1] w0.heap.size hf0 g0.size (by kernel_rfl) bund_nil ?_
  refine ch rfl (ob_assign arg_c) ?_
  refine ch_nil ?_
  intro a1 w2 hf3 hg4 hk5 hn6
  have h7 := hk5.holds rfl h00
  have h8 := hk5.holds rfl h01
  have g9 := g0.trans hg4
  clear h00 h01 g0 hf0 hk5 hn6
  refine then_ ?_
  refine wp_seq ?_
  refine wp_seq ?_
  refine wp_region_lit ?_
  refine wp_all [([], [])] [0, 1] w0.heap.size hf3 g9.size (by kernel_rfl) bund_nil ?_
  refine ch rfl (ob_assign arg_c) ?_
  refine ch_nil ?_
  intro a10 w11 hf12 hg13 hk14 hn15
  have h16 : Holds _ (a10.eval (.tmp 5)) w11 := hn15.at 0 0 rfl rfl rfl
  have h17 := hk14.holds rfl h7
  have h18 := hk14.holds rfl h8
  have g19 := g9.trans hg13
  clear h7 h8 g9 hf3 hk14 hn15 hg13
  refine then_ ?_
  refine wp_block ?_
  have g20 : Grow w11 w11 := Grow.refl _
  have hz21 : w0.heap.size ≤ w11.heap.size := g19.size
  refine wp_loopL (α := Nat) (fun i a' w' => Fr 24 a' ∧ (1 ≤ i) ∧ (∀ j, 1 ≤ j → j < i → c (l.getD (j - 1) default) (l.getD j default) < 0) ∧ Grow w0 w' ∧ Grow w11 w' ∧ Keep [0, 1] a10 a' ∧ Holds (Is (intV (i : Int))) (a'.eval (.tmp 5)) w') (fun i => l.length - i) (1) ⟨hf12, (by omega), (by exact fun j h1 h2 => absurd h2 (by omega)), g19, g20, Keep.refl _ _, (is_cast h16 (by first | rfl | (refine congrArg intV ?_; (try dsimp only); omega)))⟩ ?_
  intro i a22 w23 ⟨hf24, hi26, hi27, g28, g29, kk25, h30⟩
  have h31 := kk25.holds rfl h17
  have h32 := kk25.holds rfl h18
  refine wp_seq ?_
  refine wp_seq ?_
  refine wp_region_lit ?_
  refine wp_all [([5], []), ([0], []), ([], [1]), ([], [0, 2])] [0, 1, 5] w11.heap.size hf24 g29.size (by kernel_rfl) (bund_cons h30 (bund_cons (is_any h31) bund_nil)) ?_
  refine ch rfl (ob_move (arg_free 0 rfl rfl)) ?_
  refine ch rfl (ob_move (arg_free 1 rfl rfl)) ?_
  refine ch rfl (ob_len (ArgOK.val (arg_op 1 0 rfl rfl rfl rfl) (hv0.up g28)) Tryz.underlying22) ?_
  refine ch rfl (ob_lss (arg_op 0 2 rfl rfl rfl rfl) (arg_op 2 0 rfl rfl rfl rfl)) ?_
  refine ch_nil ?_
  intro a33 w34 hf35 hg36 hk37 hn38
  have h39 : Holds _ (a33.eval (.tmp 9)) w34 := hn38.at 3 0 rfl rfl rfl
  have h40 := hk37.holds rfl (h30.up hg36)
  have h41 := hk37.holds rfl h31
  have h42 := hk37.holds rfl h32
  have g43 := g28.trans hg36
  have g44 := g29.trans hg36
  have kk45 : Keep _ a10 a33 := kk25.trans hk37 rfl
  clear h30 h31 h32 g28 g29 kk25 hf24 hk37 hn38 hg36
  refine then_ ?_
  refine wp_if h39 ?_ ?_
  · intro hc46
    try simp only [cond_norm] at hc46
    refine wp_skip ?_
    refine then_ ?_
    refine wp_seq ?_
    refine wp_block ?_
    refine wp_seq ?_
    have g47 : Grow w34 w34 := Grow.refl _
    have hz48 : w11.heap.size ≤ w34.heap.size := g44.size
    refine wp_calm [0, 0, 0, 4, 14, 30, 0, 0, 192, 448, 1023, 2047] [([1], []), ([0], []), ([5], []), ([], [2]), ([], [1, 3]), ([], [4]), ([0], []), ([5], []), ([], [6, 7]), ([], [8]), ([], [0, 5, 9]), ([], [10])] [0, 1, 5] w34.heap.size hf35 g47.size (by kernel_rfl) (bund_cons (is_any h42) (bund_cons (is_any h41) (bund_cons h40 bund_nil))) ?_
    intro ws49 hs50
    refine ch rfl (ob_move (arg_free 0 rfl rfl)) ?_
    refine ch rfl (ob_move (arg_free 1 rfl rfl)) ?_
    refine ch rfl (ob_move (arg_free 2 rfl rfl)) ?_
    first
      | (refine ch rfl (ob_sub' (arg_op 2 0 rfl rfl rfl rfl) arg_c ?_) ?_; · omega)
      | refine ch rfl (ob_sub (arg_op 2 0 rfl rfl rfl rfl) arg_c) ?_
    refine ch rfl (ob_ix (ArgOK.val (arg_op 1 2 rfl rfl rfl rfl) ((hv0.up g43).up hs50)) (arg_op 3 0 rfl rfl rfl rfl) (show (i : Int) - 1 = ((i - 1 : Nat) : Int) by omega) ?_ Tryz.underlying22 szDelta) ?_
    · omega
    refine ch rfl (ob_load_delta (arg_op 4 0 rfl rfl rfl rfl)) ?_
    refine ch rfl (ob_move (arg_free 1 rfl rfl)) ?_
    refine ch rfl (ob_move (arg_free 2 rfl rfl)) ?_
    refine ch rfl (ob_ix (ArgOK.val (arg_op 6 1 rfl rfl rfl rfl) ((hv0.up g43).up hs50)) (arg_op 7 0 rfl rfl rfl rfl) (rfl) ?_ Tryz.underlying22 szDelta) ?_
    · omega
    refine ch rfl (ob_load_delta (arg_op 8 0 rfl rfl rfl rfl)) ?_
    refine ch rfl (ob_callv2 (ArgOK.val (arg_op 0 9 rfl rfl rfl rfl) ((hv1.up g43).up hs50)) (arg_op 5 4 rfl rfl rfl rfl) (arg_op 9 0 rfl rfl rfl rfl)) ?_
    refine ch rfl (ob_geq (arg_op 10 0 rfl rfl rfl rfl) arg_c) ?_
    refine ch_nil ?_
    intro a51 w52 hf53 hg54 hk55 hn56
    have h57 : Holds _ (a51.eval (.tmp 23)) w52 := hn56.at 11 0 rfl rfl rfl
    have h58 := hk55.holds rfl h40
    have h59 := hk55.holds rfl h41
    have h60 := hk55.holds rfl h42
    have g61 := g43.trans hg54
    have g62 := g44.trans hg54
    have g63 := g47.trans hg54
    have kk64 : Keep _ a10 a51 := kk45.trans hk55 rfl
    clear h40 h41 h42 g43 g44 g47 kk45 hf35 hk55 hn56
    refine then_ ?_
    refine wp_if h57 ?_ ?_
    · intro hc65
      try simp only [cond_norm] at hc65
      have hz := asc_no (c := c) (l := l) (i := i) (by omega) (by omega) hc65
      refine wp_seq ?_
      refine wp_region_lit ?_
      refine wp_all [([], [])] [0, 1] w34.heap.size hf53 g63.size (by kernel_rfl) bund_nil ?_
      refine ch rfl (ob_assign arg_c) ?_
      refine ch_nil ?_
      intro a66 w67 hf68 hg69 hk70 hn71
      have h72 : Holds _ (a66.eval (.tmp 4)) w67 := hn71.at 0 0 rfl rfl rfl
      have h73 := hk70.holds rfl h59
      have h74 := hk70.holds rfl h60
      have g75 := g61.trans hg69
      have g76 := g62.trans hg69
      have g77 := g63.trans hg69
      have kk78 : Keep _ a10 a66 := kk64.trans hk70 rfl
      clear h59 h60 g61 g62 g63 kk64 hf53 hk70 hn71 hg69
      refine then_ ?_
      refine wp_ret ?_
      refine blockR ?_
      refine thenR ?_
      refine thenR ?_
      refine blockR ?_
      refine thenR ?_
      exact ret_tmp rfl hf68 g75 (is_cast h72 (congrArg Value.bool hz))
    · intro hc65
      try simp only [cond_norm] at hc65
      have hst := asc_step (c := c) (l := l) (i := i) (by assumption) hc65
      refine wp_skip ?_
      refine blockN ?_
      refine then_ ?_
      refine wp_region_lit ?_
      refine wp_all [([5], []), ([], [0]), ([], [1])] [0, 1] w34.heap.size hf53 g63.size (by kernel_rfl) (bund_cons (is_any h58) bund_nil) ?_
      refine ch rfl (ob_move (arg_free 0 rfl rfl)) ?_
      first
        | (refine ch rfl (ob_add' (arg_op 0 0 rfl rfl rfl rfl) arg_c ?_) ?_; · omega)
        | refine ch rfl (ob_add (arg_op 0 0 rfl rfl rfl rfl) arg_c) ?_
      refine ch rfl (ob_assign (arg_op 1 0 rfl rfl rfl rfl)) ?_
      refine ch_nil ?_
      intro a79 w80 hf81 hg82 hk83 hn84
      have h85 : Holds _ (a79.eval (.tmp 5)) w80 := hn84.at 2 0 rfl rfl rfl
      have h86 := hk83.holds rfl h59
      have h87 := hk83.holds rfl h60
      have g88 := g61.trans hg82
      have g89 := g62.trans hg82
      have g90 := g63.trans hg82
      have kk91 : Keep _ a10 a79 := kk64.trans hk83 rfl
      clear h59 h60 g61 g62 g63 kk64 hf53 hk83 hn84 hg82
      refine then_ ?_
      exact ⟨(i + 1), (by ((try dsimp only); omega)), hf81, (by omega), (by exact hst), g88, g89, kk91, (is_cast h85 (by first | rfl | (refine congrArg intV ?_; (try dsimp only); omega)))⟩
  · intro hc46
    try simp only [cond_norm] at hc46
    have hz := asc_yes (c := c) (l := l) (i := i) (by assumption) (by omega)
    refine wp_exit ?_
    refine thenX ?_
    refine thenX ?_
    refine blockX ?_
    refine then_ ?_
    refine wp_seq ?_
    refine wp_region_lit ?_
    refine wp_all [([], [])] [] w11.heap.size hf35 g44.size (by kernel_rfl) bund_nil ?_
    refine ch rfl (ob_assign arg_c) ?_
    refine ch_nil ?_
    intro a92 w93 hf94 hg95 hk96 hn97
    have h98 : Holds _ (a92.eval (.tmp 4)) w93 := hn97.at 0 0 rfl rfl rfl
    have g99 := g43.trans hg95
    have g100 := g44.trans hg95
    clear g43 g44 hf35 hk96 hn97 hg95
    refine then_ ?_
    refine wp_ret ?_
    exact ret_tmp rfl hf94 g99 (is_cast h98 (congrArg Value.bool hz))
set_option maxRecDepth 100000 in
theorem c_ascK {l : List GLock} {c : GLock → GLock → Int} (hl : l.length ≤ 1000000) : Con2 65 (Sl elLock l) (Fn2 lockV c) (fun _ => Is (.bool (asc c l))) := by
  intro lo v0 v1 w0 hlo hv0 hv1
  refine enter Tryz.func65 rfl Tryz.ntmps65 (by simp) ?_
  intro a0 hf0 ha
  have h00 : Holds (Is v0) (a0.eval (.tmp 0)) w0 := arg_holds ha rfl rfl
  have h01 : Holds (Is v1) (a0.eval (.tmp 1)) w0 := arg_holds ha rfl rfl
  clear ha
  have g0 : Grow w0 w0 := Grow.refl _
  refine wp_seq ?_
  refine wp_region_lit ?_
  refine wp_all [([], [])] [0, 1] w0.heap.size hf0 g0.size (by kernel_rfl) bund_nil ?_
  refine ch rfl (ob_assign arg_c) ?_
  refine ch_nil ?_
  intro a1 w2 hf3 hg4 hk5 hn6
  have h7 := hk5.holds rfl h00
  have h8 := hk5.holds rfl h01
  have g9 := g0.trans hg4
  clear h00 h01 g0 hf0 hk5 hn6
  refine then_ ?_
  refine wp_seq ?_
  refine wp_seq ?_
  refine wp_region_lit ?_
  refine wp_all [([], [])] [0, 1] w0.heap.size hf3 g9.size (by kernel_rfl) bund_nil ?_
  refine ch rfl (ob_assign arg_c) ?_
  refine ch_nil ?_
  intro a10 w11 hf12 hg13 hk14 hn15
  have h16 : Holds _ (a10.eval (.tmp 5)) w11 := hn15.at 0 0 rfl rfl rfl
  have h17 := hk14.holds rfl h7
  have h18 := hk14.holds rfl h8
  have g19 := g9.trans hg13
  clear h7 h8 g9 hf3 hk14 hn15 hg13
  refine then_ ?_
  refine wp_block ?_
  have g20 : Grow w11 w11 := Grow.refl _
  have hz21 : w0.heap.size ≤ w11.heap.size := g19.size
  refine wp_loopL (α := Nat) (fun i a' w' => Fr 24 a' ∧ (1 ≤ i) ∧ (∀ j, 1 ≤ j → j < i → c (l.getD (j - 1) default) (l.getD j default) < 0) ∧ Grow w0 w' ∧ Grow w11 w' ∧ Keep [0, 1] a10 a' ∧ Holds (Is (intV (i : Int))) (a'.eval (.tmp 5)) w') (fun i => l.length - i) (1) ⟨hf12, (by omega), (by exact fun j h1 h2 => absurd h2 (by omega)), g19, g20, Keep.refl _ _, (is_cast h16 (by first | rfl | (refine congrArg intV ?_; (try dsimp only); omega)))⟩ ?_
  intro i a22 w23 ⟨hf24, hi26, hi27, g28, g29, kk25, h30⟩
  have h31 := kk25.holds rfl h17
  have h32 := kk25.holds rfl h18
  refine wp_seq ?_
  refine wp_seq ?_
  refine wp_region_lit ?_
  refine wp_all [([5], []), ([0], []), ([], [1]), ([], [0, 2])] [0, 1, 5] w11.heap.size hf24 g29.size (by kernel_rfl) (bund_cons h30 (bund_cons (is_any h31) bund_nil)) ?_
  refine ch rfl (ob_move (arg_free 0 rfl rfl)) ?_
  refine ch rfl (ob_move (arg_free 1 rfl rfl)) ?_
  refine ch rfl (ob_len (ArgOK.val (arg_op 1 0 rfl rfl rfl rfl) (hv0.up g28)) Tryz.underlying24) ?_
  refine ch rfl (ob_lss (arg_op 0 2 rfl rfl rfl rfl) (arg_op 2 0 rfl rfl rfl rfl)) ?_
  refine ch_nil ?_
  intro a33 w34 hf35 hg36 hk37 hn38
  have h39 : Holds _ (a33.eval (.tmp 9)) w34 := hn38.at 3 0 rfl rfl rfl
  have h40 := hk37.holds rfl (h30.up hg36)
  have h41 := hk37.holds rfl h31
  have h42 := hk37.holds rfl h32
  have g43 := g28.trans hg36
  have g44 := g29.trans hg36
  have kk45 : Keep _ a10 a33 := kk25.trans hk37 rfl
  clear h30 h31 h32 g28 g29 kk25 hf24 hk37 hn38 hg36
  refine then_ ?_
  refine wp_if h39 ?_ ?_
  · intro hc46
    try simp only [cond_norm] at hc46
    refine wp_skip ?_
    refine then_ ?_
    refine wp_seq ?_
    refine wp_block ?_
    refine wp_seq ?_
    have g47 : Grow w34 w34 := Grow.refl _
    have hz48 : w11.heap.size ≤ w34.heap.size := g44.size
    refine wp_calm [0, 0, 0, 4, 14, 30, 0, 0, 192, 448, 1023, 2047] [([1], []), ([0], []), ([5], []), ([], [2]), ([], [1, 3]), ([], [4]), ([0], []), ([5], []), ([], [6, 7]), ([], [8]), ([], [0, 5, 9]), ([], [10])] [0, 1, 5] w34.heap.size hf35 g47.size (by kernel_rfl) (bund_cons (is_any h42) (bund_cons (is_any h41) (bund_cons h40 bund_nil))) ?_
    intro ws49 hs50
    refine ch rfl (ob_move (arg_free 0 rfl rfl)) ?_
    refine ch rfl (ob_move (arg_free 1 rfl rfl)) ?_
    refine ch rfl (ob_move (arg_free 2 rfl rfl)) ?_
    first
      | (refine ch rfl (ob_sub' (arg_op 2 0 rfl rfl rfl rfl) arg_c ?_) ?_; · omega)
      | refine ch rfl (ob_sub (arg_op 2 0 rfl rfl rfl rfl) arg_c) ?_
    refine ch rfl (ob_ix (ArgOK.val (arg_op 1 2 rfl rfl rfl rfl) ((hv0.up g43).up hs50)) (arg_op 3 0 rfl rfl rfl rfl) (show (i : Int) - 1 = ((i - 1 : Nat) : Int) by omega) ?_ Tryz.underlying24 szLock) ?_
    · omega
    refine ch rfl (ob_load_lock (arg_op 4 0 rfl rfl rfl rfl)) ?_
    refine ch rfl (ob_move (arg_free 1 rfl rfl)) ?_
    refine ch rfl (ob_move (arg_free 2 rfl rfl)) ?_
    refine ch rfl (ob_ix (ArgOK.val (arg_op 6 1 rfl rfl rfl rfl) ((hv0.up g43).up hs50)) (arg_op 7 0 rfl rfl rfl rfl) (rfl) ?_ Tryz.underlying24 szLock) ?_
    · omega
    refine ch rfl (ob_load_lock (arg_op 8 0 rfl rfl rfl rfl)) ?_
    refine ch rfl (ob_callv2 (ArgOK.val (arg_op 0 9 rfl rfl rfl rfl) ((hv1.up g43).up hs50)) (arg_op 5 4 rfl rfl rfl rfl) (arg_op 9 0 rfl rfl rfl rfl)) ?_
    refine ch rfl (ob_geq (arg_op 10 0 rfl rfl rfl rfl) arg_c) ?_
    refine ch_nil ?_
    intro a51 w52 hf53 hg54 hk55 hn56
    have h57 : Holds _ (a51.eval (.tmp 23)) w52 := hn56.at 11 0 rfl rfl rfl
    have h58 := hk55.holds rfl h40
    have h59 := hk55.holds rfl h41
    have h60 := hk55.holds rfl h42
    have g61 := g43.trans hg54
    have g62 := g44.trans hg54
    have g63 := g47.trans hg54
    have kk64 : Keep _ a10 a51 := kk45.trans hk55 rfl
    clear h40 h41 h42 g43 g44 g47 kk45 hf35 hk55 hn56
    refine then_ ?_
    refine wp_if h57 ?_ ?_
    · intro hc65
      try simp only [cond_norm] at hc65
      have hz := asc_no (c := c) (l := l) (i := i) (by omega) (by omega) hc65
      refine wp_seq ?_
      refine wp_region_lit ?_
      refine wp_all [([], [])] [0, 1] w34.heap.size hf53 g63.size (by kernel_rfl) bund_nil ?_
      refine ch rfl (ob_assign arg_c) ?_
      refine ch_nil ?_
      intro a66 w67 hf68 hg69 hk70 hn71
      have h72 : Holds _ (a66.eval (.tmp 4)) w67 := hn71.at 0 0 rfl rfl rfl
      have h73 := hk70.holds rfl h59
      have h74 := hk70.holds rfl h60
      have g75 := g61.trans hg69
      have g76 := g62.trans hg69
      have g77 := g63.trans hg69
      have kk78 : Keep _ a10 a66 := kk64.trans hk70 rfl
      clear h59 h60 g61 g62 g63 kk64 hf53 hk70 hn71 hg69
      refine then_ ?_
      refine wp_ret ?_
      refine blockR ?_
      refine thenR ?_
      refine thenR ?_
      refine blockR ?_
      refine thenR ?_
      exact ret_tmp rfl hf68 g75 (is_cast h72 (congrArg Value.bool hz))
    · intro hc65
      try simp only [cond_norm] at hc65
      have hst := asc_step (c := c) (l := l) (i := i) (by assumption) hc65
      refine wp_skip ?_
      refine blockN ?_
      refine then_ ?_
      refine wp_region_lit ?_
      refine wp_all [([5], []), ([], [0]), ([], [1])] [0, 1] w34.heap.size hf53 g63.size (by kernel_rfl) (bund_cons (is_any h58) bund_nil) ?_
      refine ch rfl (ob_move (arg_free 0 rfl rfl)) ?_
      first
        | (refine ch rfl (ob_add' (arg_op 0 0 rfl rfl rfl rfl) arg_c ?_) ?_; · omega)
        | refine ch rfl (ob_add (arg_op 0 0 rfl rfl rfl rfl) arg_c) ?_
      refine ch rfl (ob_assign (arg_op 1 0 rfl rfl rfl rfl)) ?_
      refine ch_nil ?_
      intro a79 w80 hf81 hg82 hk83 hn84
      have h85 : Holds _ (a79.eval (.tmp 5)) w80 := hn84.at 2 0 rfl rfl rfl
      have h86 := hk83.holds rfl h59
      have h87 := hk83.holds rfl h60
      have g88 := g61.trans hg82
      have g89 := g62.trans hg82
      have g90 := g63.trans hg82
      have kk91 : Keep _ a10 a79 := kk64.trans hk83 rfl
      clear h59 h60 g61 g62 g63 kk64 hf53 hk83 hn84 hg82
      refine then_ ?_
      exact ⟨(i + 1), (by ((try dsimp only); omega)), hf81, (by omega), (by exact hst), g88, g89, kk91, (is_cast h85 (by first | rfl | (refine congrArg intV ?_; (try dsimp only); omega)))⟩
  · intro hc46
    try simp only [cond_norm] at hc46
    have hz := asc_yes (c := c) (l := l) (i := i) (by assumption) (by omega)
    refine wp_exit ?_
    refine thenX ?_
    refine thenX ?_
    refine blockX ?_
    refine then_ ?_
    refine wp_seq ?_
    refine wp_region_lit ?_
    refine wp_all [([], [])] [] w11.heap.size hf35 g44.size (by kernel_rfl) bund_nil ?_
    refine ch rfl (ob_assign arg_c) ?_
    refine ch_nil ?_
    intro a92 w93 hf94 hg95 hk96 hn97
    have h98 : Holds _ (a92.eval (.tmp 4)) w93 := hn97.at 0 0 rfl rfl rfl
    have g99 := g43.trans hg95
    have g100 := g44.trans hg95
    clear g43 g44 hf35 hk96 hn97 hg95
    refine then_ ?_
    refine wp_ret ?_
    exact ret_tmp rfl hf94 g99 (is_cast h98 (congrArg Value.bool hz))
set_option maxRecDepth 100000 in
theorem c_large {s : GState} : Con1 5 (StF s) (fun _ => Is (.bool (bigS s))) := by
  intro lo v0 w0 hlo hv0
  refine enter Tryz.func5 rfl Tryz.ntmps5 (by simp) ?_
  intro a0 hf0 ha
  obtain ⟨va0, vb0, vc0, vd0, he0, hva0, hvb0, hvc0, hvd0⟩ := openF hv0
  have h00 : Holds (Is _) (a0.eval (.tmp 0)) w0 := arg_holds ha rfl he0
  clear ha
  have g0 : Grow w0 w0 := Grow.refl _
  refine wp_seq ?_
  refine wp_region_lit ?_
  refine wp_all [([0], []), ([], [])] [] w0.heap.size hf0 g0.size (by kernel_rfl) (bund_cons h00 bund_nil) ?_
  refine ch rfl (ob_box_state (arg_free 0 rfl rfl)) ?_
  refine ch rfl (ob_assign arg_c) ?_
  refine ch_nil ?_
  intro a1 w2 hf3 hg4 hk5 hn6
  have h7 : Holds _ (a1.eval (.tmp 1)) w2 := hn6.at 0 1 rfl rfl rfl
  have g8 := g0.trans hg4
  obtain ⟨bk9, hl10, hv11, hb12⟩ := OwnB.blk (lo := w0.heap.size) h7
  clear g0 hf0 hk5 hn6
  refine then_ ?_
  refine wp_seq ?_
  refine wp_region_lit ?_
  refine wp_all [([1], []), ([], [0]), ([], [1]), ([], [2]), ([], [3]), ([1], [4]), ([], [5, 4]), ([], [6, 4]), ([], [7, 4]), ([], [4, 8]), ([], [9]), ([1], [10]), ([], [11, 10]), ([], [12, 10]), ([], [13, 10]), ([], [10, 14]), ([], [15]), ([1], [16]), ([], [17, 16]), ([], [18, 16]), ([], [19, 16]), ([], [16, 20]), ([], [21])] [] w0.heap.size hf3 g8.size (by kernel_rfl) (bund_cons (hb12.ownp hv11) bund_nil) ?_
  refine ch rfl (ob_faP (n := 0) (arg_free 0 rfl rfl) Tryz.underlying28 rfl (by kernel_rfl)) ?_
  refine ch rfl (ob_loadP (arg_op 0 0 rfl rfl rfl rfl) Tryz.underlying22 rfl rfl) ?_
  refine ch rfl (ob_len (ArgOK.val (arg_op 1 0 rfl rfl rfl rfl) (hva0.up g8)) Tryz.underlying22) ?_
  refine ch rfl (ob_gtr (arg_op 2 0 rfl rfl rfl rfl) arg_c) ?_
  refine ch rfl (ob_move (arg_op 3 0 rfl rfl rfl rfl)) ?_
  refine chg (b := _) rfl rfl (arg_op 4 0 rfl rfl rfl rfl) (fun hb4 => ob_faP (n := 0) (arg_free 0 rfl rfl) Tryz.underlying28 rfl (by kernel_rfl)) ?_
  refine chg (b := _) rfl rfl (arg_op 4 1 rfl rfl rfl rfl) (fun hb4 => ob_loadP (ArgOK.when (arg_op 5 0 rfl rfl rfl rfl) hb4) Tryz.underlying23 rfl rfl) ?_
  refine chg (b := _) rfl rfl (arg_op 4 2 rfl rfl rfl rfl) (fun hb4 => ob_len (ArgOK.val (ArgOK.when (arg_op 6 0 rfl rfl rfl rfl) hb4) (hvb0.up g8)) Tryz.underlying23) ?_
  refine chg (b := _) rfl rfl (arg_op 4 3 rfl rfl rfl rfl) (fun hb4 => ob_gtr (ArgOK.when (arg_op 7 0 rfl rfl rfl rfl) hb4) arg_c) ?_
  refine ch rfl (ob_or (arg_op 4 4 rfl rfl rfl rfl) (arg_op 8 0 rfl rfl rfl rfl)) ?_
  refine ch rfl (ob_move (arg_op 9 0 rfl rfl rfl rfl)) ?_
  refine chg (b := _) rfl rfl (arg_op 10 0 rfl rfl rfl rfl) (fun hb10 => ob_faP (n := 0) (arg_free 0 rfl rfl) Tryz.underlying28 rfl (by kernel_rfl)) ?_
  refine chg (b := _) rfl rfl (arg_op 10 1 rfl rfl rfl rfl) (fun hb10 => ob_loadP (ArgOK.when (arg_op 11 0 rfl rfl rfl rfl) hb10) Tryz.underlying24 rfl rfl) ?_
  refine chg (b := _) rfl rfl (arg_op 10 2 rfl rfl rfl rfl) (fun hb10 => ob_len (ArgOK.val (ArgOK.when (arg_op 12 0 rfl rfl rfl rfl) hb10) (hvc0.up g8)) Tryz.underlying24) ?_
  refine chg (b := _) rfl rfl (arg_op 10 3 rfl rfl rfl rfl) (fun hb10 => ob_gtr (ArgOK.when (arg_op 13 0 rfl rfl rfl rfl) hb10) arg_c) ?_
  refine ch rfl (ob_or (arg_op 10 4 rfl rfl rfl rfl) (arg_op 14 0 rfl rfl rfl rfl)) ?_
  refine ch rfl (ob_move (arg_op 15 0 rfl rfl rfl rfl)) ?_
  refine chg (b := _) rfl rfl (arg_op 16 0 rfl rfl rfl rfl) (fun hb16 => ob_faP (n := 0) (arg_free 0 rfl rfl) Tryz.underlying28 rfl (by kernel_rfl)) ?_
  refine chg (b := _) rfl rfl (arg_op 16 1 rfl rfl rfl rfl) (fun hb16 => ob_loadP (ArgOK.when (arg_op 17 0 rfl rfl rfl rfl) hb16) Tryz.underlying25 rfl rfl) ?_
  refine chg (b := _) rfl rfl (arg_op 16 2 rfl rfl rfl rfl) (fun hb16 => ob_len (ArgOK.val (ArgOK.when (arg_op 18 0 rfl rfl rfl rfl) hb16) (hvd0.up g8)) Tryz.underlying25) ?_
  refine chg (b := _) rfl rfl (arg_op 16 3 rfl rfl rfl rfl) (fun hb16 => ob_gtr (ArgOK.when (arg_op 19 0 rfl rfl rfl rfl) hb16) arg_c) ?_
  refine ch rfl (ob_or (arg_op 16 4 rfl rfl rfl rfl) (arg_op 20 0 rfl rfl rfl rfl)) ?_
  refine ch rfl (ob_assign (arg_op 21 0 rfl rfl rfl rfl)) ?_
  refine ch_nil ?_
  intro a13 w14 hf15 hg16 hk17 hn18
  have h19 : Holds _ (a13.eval (.tmp 2)) w14 := hn18.at 22 0 rfl rfl rfl
  have g20 := g8.trans hg16
  clear g8 hf3 hk17 hn18 hg16
  refine then_ ?_
  refine wp_ret ?_
  exact ret_tmp rfl hf15 g20 h19
end Ex
end Go.Proofs.YtnmfiiejhoafnaaGreat
