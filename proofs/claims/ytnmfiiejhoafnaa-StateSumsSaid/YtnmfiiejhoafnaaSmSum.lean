/- Amounts added: the sums, the single amounts, the order and the validity of what comes out; in plain Lean. -/
import Derived.Test.YtnmfiiejhoafnaaSmState10
set_option linter.unusedSimpArgs false
set_option linter.unusedVariables false
namespace Go.Proofs.Ytnmfiiejhoafnaa
namespace Ex
open Go Calm Go.RowKit
theorem cmpI_lt {a b : Int} : cmpI a b < 0 ↔ a < b := by unfold cmpI; (repeat' split) <;> omega
theorem cmpI_eq {a b : Int} : cmpI a b = 0 ↔ a = b := by unfold cmpI; (repeat' split) <;> omega
theorem cmpI_neg (a b : Int) : cmpI b a = -cmpI a b := by unfold cmpI; (repeat' split) <;> omega
theorem or3_lt {a b c : Int} : or3 a b c < 0 ↔ a < 0 ∨ (a = 0 ∧ (b < 0 ∨ (b = 0 ∧ c < 0))) := by unfold or3; (repeat' split) <;> omega
theorem or3_eq {a b c : Int} : or3 a b c = 0 ↔ a = 0 ∧ b = 0 ∧ c = 0 := by unfold or3; (repeat' split) <;> omega
theorem or3_neg (a b c : Int) : or3 (-a) (-b) (-c) = -or3 a b c := by unfold or3; (repeat' split) <;> omega
theorem cmpC_lt {a b : GCell} : cmpC a b < 0 ↔ a.kind.toInt < b.kind.toInt ∨ (a.kind.toInt = b.kind.toInt ∧ (a.id.toInt < b.id.toInt ∨ (a.id.toInt = b.id.toInt ∧ (a.lock.toNat : Int) < (b.lock.toNat : Int)))) := by
  unfold cmpC cmpN; rw [or3_lt]; simp only [cmpI_lt, cmpI_eq]
theorem cmpC_eq {a b : GCell} : cmpC a b = 0 ↔ a = b := by
  unfold cmpC cmpN
  rw [or3_eq]
  simp only [cmpI_eq]
  constructor
  · rintro ⟨h1, h2, h3⟩
    cases a; cases b
    simp only at h1 h2 h3
    rw [Int64.toInt_inj.1 h1, Int64.toInt_inj.1 h2, UInt64.toNat_inj.1 (Int.ofNat.inj h3)]
  · rintro rfl
    exact ⟨rfl, rfl, rfl⟩
theorem cmpC_neg (a b : GCell) : cmpC b a = -cmpC a b := by
  unfold cmpC cmpN
  rw [cmpI_neg a.kind.toInt, cmpI_neg a.id.toInt, cmpI_neg (a.lock.toNat : Int), or3_neg]
theorem cmpC_trans {a b c : GCell} (h1 : cmpC a b < 0) (h2 : cmpC b c < 0) : cmpC a c < 0 := by
  rw [cmpC_lt] at h1 h2 ⊢
  omega
theorem idxN_sat {α : Type} [Inhabited α] {p : α → Bool} : ∀ {l : List α}, idxN p l < l.length → p (l.getD (idxN p l) default) = true
  | [], h => absurd h (Nat.not_lt_zero _)
  | a :: l, h => by
    by_cases ha : p a = true
    · simp only [idxN, ha, if_true, List.getD_cons_zero]
    · simp only [idxN, ha, if_false, List.getD_cons_succ, List.length_cons, Nat.add_lt_add_iff_right, Bool.false_eq_true] at h ⊢
      exact idxN_sat h
theorem idx_sat {α : Type} [Inhabited α] {p : α → Bool} {l : List α} (h : 0 ≤ idx p l) : p (l.getD (idx p l).toNat default) = true := by
  unfold idx at h ⊢
  split
  · next h1 => rw [Int.toNat_natCast]; exact idxN_sat h1
  · next h1 => rw [if_neg h1] at h; omega
theorem idx_none_mem {α : Type} {p : α → Bool} {l : List α} (h : ¬ 0 ≤ idx p l) : ∀ y ∈ l, p y = false := by
  have h1 := idx_any p l
  rw [decide_eq_false h] at h1
  intro y hy
  have h2 := List.any_eq_false.1 h1.symm y hy
  simpa using h2
theorem fnd_cell {l : List GDelta} {c : GCell} (h : 0 ≤ fnd l c) : (l.getD (fnd l c).toNat default).cell = c := of_decide_eq_true (idx_sat (p := fun d : GDelta => decide (d.cell = c)) h)
theorem fnd_none {l : List GDelta} {c : GCell} (h : ¬ 0 ≤ fnd l c) : ∀ y ∈ l, y.cell ≠ c := fun y hy => of_decide_eq_false (idx_none_mem (p := fun d : GDelta => decide (d.cell = c)) h y hy)
theorem bef_nat {α : Type} (c : α → α → Int) (l : List α) (x : α) : (bef c l x).toNat = idxN (fun y => decide (0 < c y x)) l := by
  unfold bef
  have h := idxN_le (fun y => decide (0 < c y x)) l
  unfold idx
  by_cases h1 : idxN (fun y => decide (0 < c y x)) l < l.length
  · rw [if_pos h1, if_pos (by omega)]; omega
  · rw [if_neg h1, if_neg (by omega)]; omega
theorem insL_nil {α : Type} (c : α → α → Int) (x : α) : insL c [] x = [x] := by
  unfold insL
  simp
theorem insL_cons {α : Type} (c : α → α → Int) (y : α) (l : List α) (x : α) : insL c (y :: l) x = if 0 < c y x then x :: y :: l else y :: insL c l x := by
  unfold insL
  rw [bef_nat, bef_nat]
  simp only [idxN, decide_eq_true_eq]
  split <;> simp
theorem insL_mem {α : Type} {c : α → α → Int} {l : List α} {x y : α} : y ∈ insL c l x ↔ y = x ∨ y ∈ l := by
  induction l with
  | nil => rw [insL_nil]; simp
  | cons a l ih =>
    rw [insL_cons]
    split
    · simp
    · simp only [List.mem_cons, ih]
      constructor
      · rintro (h | h | h)
        · exact .inr (.inl h)
        · exact .inl h
        · exact .inr (.inr h)
      · rintro (h | h | h)
        · exact .inr (.inl h)
        · exact .inl h
        · exact .inr (.inr h)
def sumf (f : GDelta → Int64) (l : List GDelta) : Int64 := l.foldl (fun n d => n + f d) 0
theorem sumf_from (f : GDelta → Int64) : ∀ (l : List GDelta) (x : Int64), l.foldl (fun n d => n + f d) x = x + sumf f l
  | [], x => (Int64.add_zero x).symm
  | d :: l, x => by
    unfold sumf
    rw [List.foldl_cons, List.foldl_cons, sumf_from f l, sumf_from f l, Int64.zero_add, Int64.add_assoc]
theorem sumf_cons (f : GDelta → Int64) (d : GDelta) (l : List GDelta) : sumf f (d :: l) = f d + sumf f l := by
  unfold sumf
  rw [List.foldl_cons, sumf_from, Int64.zero_add]
  rfl
theorem sumf_append (f : GDelta → Int64) : ∀ (a b : List GDelta), sumf f (a ++ b) = sumf f a + sumf f b
  | [], b => (Int64.zero_add _).symm
  | d :: a, b => by rw [List.cons_append, sumf_cons, sumf_cons, sumf_append f a b, Int64.add_assoc]
theorem sumf_step {f : GDelta → Int64} {l : List GDelta} {i : Nat} (h : i < l.length) : sumf f (l.take (i + 1)) = sumf f (l.take i) + f (l.getD i default) := by
  rw [List.take_add_one, List.getElem?_eq_getElem h, List.getD_eq_getElem?_getD, List.getElem?_eq_getElem h, Option.toList_some, sumf_append, sumf_cons, Option.getD_some]
  exact congrArg _ (Int64.add_zero _)
theorem cut_at {l : List GDelta} {k : Nat} (h : k < l.length) : l = l.take k ++ l.getD k default :: l.drop (k + 1) := by
  rw [List.getD_eq_getElem?_getD, List.getElem?_eq_getElem h, Option.getD_some, ← List.drop_eq_getElem_cons h, List.take_append_drop]
theorem set_at_cut {l : List GDelta} {k : Nat} {y : GDelta} (h : k < l.length) : l.set k y = l.take k ++ y :: l.drop (k + 1) := List.set_eq_take_append_cons_drop.trans (if_pos h)
theorem cell_at {l : List GDelta} {c : GCell} (h : 0 ≤ fnd l c) : l.getD (fnd l c).toNat default = ⟨c, getL l c⟩ := by
  rw [← getL_amt h]
  exact congrArg (fun x => (⟨x, (l.getD (fnd l c).toNat default).amount⟩ : GDelta)) (fnd_cell h)
theorem sumf_putL {f : GDelta → Int64} (h0 : ∀ c, f ⟨c, 0⟩ = 0) (hf : ∀ c a b, f ⟨c, a + b⟩ = f ⟨c, a⟩ + f ⟨c, b⟩) (l : List GDelta) (d : GDelta) : sumf f (putL l d) = sumf f l + f d := by
  obtain ⟨c, a⟩ := d
  unfold putL
  simp only
  split
  · next h =>
    have hp := fnd_lt h
    have hc := fnd_cell h
    have ha := getL_amt h
    have e := cut_at hp.1
    have ex := cell_at h
    rw [ex] at e
    have es : sumf f l = sumf f (l.take (fnd l c).toNat) + (f ⟨c, getL l c⟩ + sumf f (l.drop ((fnd l c).toNat + 1))) := by
      rw [← sumf_cons, ← sumf_append]
      exact congrArg _ e
    split
    · rw [set_at_cut hp.1, sumf_append, sumf_cons, ex, es]
      show _ + (f ⟨c, getL l c + a⟩ + _) = _
      rw [hf]
      ac_rfl
    · next hn =>
      have hz : getL l c + a = 0 := Classical.not_not.1 hn
      have e0 : f ⟨c, getL l c⟩ + f ⟨c, a⟩ = 0 := by rw [← hf, hz, h0]
      rw [sumf_append, es]
      rw [show sumf f (l.take (fnd l c).toNat) + (f ⟨c, getL l c⟩ + sumf f (l.drop ((fnd l c).toNat + 1))) + f ⟨c, a⟩ = sumf f (l.take (fnd l c).toNat) + sumf f (l.drop ((fnd l c).toNat + 1)) + (f ⟨c, getL l c⟩ + f ⟨c, a⟩) by ac_rfl, e0, Int64.add_zero]
  · next h =>
    have hz := getL_zero h
    split
    · have e := List.take_append_drop (bef cmpD l ⟨c, a⟩).toNat l
      unfold insL
      rw [sumf_append, sumf_cons]
      conv => rhs; rw [← e, sumf_append]
      ac_rfl
    · next hn =>
      have ha : a = 0 := by
        have := Classical.not_not.1 hn
        rwa [hz, Int64.zero_add] at this
      subst ha
      rw [h0, Int64.add_zero]
theorem sumf_putAll {f : GDelta → Int64} (h0 : ∀ c, f ⟨c, 0⟩ = 0) (hf : ∀ c a b, f ⟨c, a + b⟩ = f ⟨c, a⟩ + f ⟨c, b⟩) : ∀ (ds l : List GDelta), sumf f (putAll l ds) = sumf f l + sumf f ds
  | [], l => (Int64.add_zero _).symm
  | d :: ds, l => by
    have h := sumf_putAll h0 hf ds (putL l d)
    rw [sumf_putL h0 hf] at h
    rw [sumf_cons, ← Int64.add_assoc, ← h]
    rfl
theorem tot_putAll (l ds : List GDelta) : tot (putAll l ds) = tot l + tot ds := sumf_putAll (fun _ => rfl) (fun _ _ _ => rfl) ds l
def onC (c : GCell) (d : GDelta) : Int64 := if d.cell = c then d.amount else 0
theorem onC_putAll (c : GCell) (l ds : List GDelta) : sumf (onC c) (putAll l ds) = sumf (onC c) l + sumf (onC c) ds := by
  refine sumf_putAll (fun x => ?_) (fun x a b => ?_) ds l
  · unfold onC; simp
  · unfold onC; simp only; split <;> simp
def Ord (l : List GDelta) : Prop := l.Pairwise fun a b => cmpD a b < 0
theorem pair_of_adj {α : Type} [Inhabited α] {c : α → α → Int} (ht : ∀ a b d, c a b < 0 → c b d < 0 → c a d < 0) : ∀ {l : List α}, (∀ j, 1 ≤ j → j < l.length → c (l.getD (j - 1) default) (l.getD j default) < 0) → l.Pairwise fun a b => c a b < 0
  | [], _ => List.Pairwise.nil
  | x :: l, h => by
    have h1 : l.Pairwise fun a b => c a b < 0 := pair_of_adj ht fun j hj1 hj2 => by
      have := h (j + 1) (by omega) (by simp only [List.length_cons]; omega)
      obtain ⟨k, rfl⟩ : ∃ k, j = k + 1 := ⟨j - 1, by omega⟩
      simpa using this
    refine List.Pairwise.cons ?_ h1
    cases l with
    | nil => intro y hy; cases hy
    | cons z l =>
      have hz : c x z < 0 := by simpa using h 1 (by omega) (by simp)
      intro y hy
      rcases List.mem_cons.1 hy with rfl | hy
      · exact hz
      · exact ht _ _ _ hz ((List.pairwise_cons.1 h1).1 y hy)
theorem adj_of_pair {α : Type} [Inhabited α] {c : α → α → Int} {l : List α} (h : l.Pairwise fun a b => c a b < 0) : ∀ j, 1 ≤ j → j < l.length → c (l.getD (j - 1) default) (l.getD j default) < 0 := by
  intro j h1 h2
  have := List.pairwise_iff_getElem.1 h (j - 1) j (by omega) h2 (by omega)
  rwa [List.getD_eq_getElem?_getD, List.getD_eq_getElem?_getD, List.getElem?_eq_getElem h2, List.getElem?_eq_getElem (show j - 1 < l.length by omega)]
theorem ord_iff {l : List GDelta} : asc cmpD l = true ↔ Ord l := by
  rw [asc_iff]
  exact ⟨fun h => pair_of_adj (c := cmpD) (fun a b d h1 h2 => cmpC_trans (a := a.cell) (b := b.cell) (c := d.cell) h1 h2) h, fun h => adj_of_pair (c := cmpD) h⟩
theorem getL_cons (x : GDelta) (l : List GDelta) (c : GCell) : getL (x :: l) c = if x.cell = c then x.amount else getL l c := by
  unfold getL fnd idx
  by_cases h : x.cell = c
  · simp [idxN, h]
  · simp only [idxN, h, decide_false, if_false, List.length_cons, Nat.add_lt_add_iff_right, Bool.false_eq_true]
    by_cases h1 : idxN (fun d : GDelta => decide (d.cell = c)) l < l.length
    · rw [if_pos h1, if_pos h1, if_pos (by omega), if_pos (by omega)]
      simp
    · rw [if_neg h1, if_neg h1, if_neg (by omega), if_neg (by omega)]
theorem onC_none {l : List GDelta} {c : GCell} (h : ∀ y ∈ l, y.cell ≠ c) : sumf (onC c) l = 0 := by
  induction l with
  | nil => rfl
  | cons x l ih =>
    rw [sumf_cons, ih fun y hy => h y (List.mem_cons_of_mem _ hy)]
    unfold onC
    rw [if_neg (h x (by simp)), Int64.add_zero]
theorem getL_onC {l : List GDelta} (h : Ord l) (c : GCell) : getL l c = sumf (onC c) l := by
  induction l with
  | nil => rfl
  | cons x l ih =>
    have h1 := List.pairwise_cons.1 h
    rw [getL_cons, sumf_cons, ← ih h1.2]
    unfold onC
    split
    · next hx =>
      have : getL l c = 0 := by
        rw [ih h1.2]
        refine onC_none fun y hy e => ?_
        have h2 : cmpC x.cell y.cell < 0 := h1.1 y hy
        rw [hx, e, cmpC_eq.2 rfl] at h2
        omega
      rw [this, Int64.add_zero]
    · rw [Int64.zero_add]
theorem ins_ord {l : List GDelta} {d : GDelta} (h : Ord l) (hn : ∀ y ∈ l, y.cell ≠ d.cell) : Ord (insL cmpD l d) := by
  induction l with
  | nil => rw [insL_nil]; exact List.pairwise_singleton _ _
  | cons x l ih =>
    have h1 := List.pairwise_cons.1 h
    rw [insL_cons]
    split
    · next hx =>
      have hx' : cmpC d.cell x.cell < 0 := by rw [cmpC_neg x.cell]; have : 0 < cmpC x.cell d.cell := hx; omega
      refine List.Pairwise.cons (fun y hy => ?_) h
      rcases List.mem_cons.1 hy with rfl | hy
      · exact hx'
      · exact cmpC_trans hx' (h1.1 y hy)
    · next hx =>
      have hx' : cmpC x.cell d.cell < 0 := by
        have h2 : ¬ 0 < cmpC x.cell d.cell := hx
        have h3 : cmpC x.cell d.cell ≠ 0 := fun e => hn x (by simp) (cmpC_eq.1 e)
        omega
      refine List.Pairwise.cons (fun y hy => ?_) (ih h1.2 fun y hy => hn y (List.mem_cons_of_mem _ hy))
      rcases insL_mem.1 hy with rfl | hy
      · exact hx'
      · exact h1.1 y hy
theorem ord_cells {l m : List GDelta} (e : l.map (fun d => d.cell) = m.map fun d => d.cell) (h : Ord l) : Ord m := by
  have h1 : (l.map fun d => d.cell).Pairwise fun a b => cmpC a b < 0 := List.pairwise_map.2 h
  rw [e] at h1
  exact List.pairwise_map.1 h1
theorem putL_ord {l : List GDelta} {d : GDelta} (h : Ord l) : Ord (putL l d) := by
  unfold putL
  split
  · next hf =>
    have hp := fnd_lt hf
    split
    · refine ord_cells ?_ h
      rw [set_at_cut hp.1]
      conv => lhs; rw [cut_at hp.1]
      simp
    · exact List.Pairwise.sublist (by rw [← List.eraseIdx_eq_take_drop_succ]; exact List.eraseIdx_sublist l _) h
  · next hf =>
    split
    · exact ins_ord h (fnd_none hf)
    · exact h
theorem putAll_ord : ∀ {ds l : List GDelta}, Ord l → Ord (putAll l ds)
  | [], _, h => h
  | d :: ds, l, h => putAll_ord (ds := ds) (l := putL l d) (putL_ord h)
theorem getL_putAll {l : List GDelta} (h : Ord l) (ds : List GDelta) (c : GCell) : getL (putAll l ds) c = getL l c + sumf (onC c) ds := by
  rw [getL_onC (putAll_ord h), onC_putAll, getL_onC h]
def GoodD (d : GDelta) : Prop := cellB d.cell = true ∧ d.amount ≠ 0
theorem putL_mem {l : List GDelta} {d y : GDelta} (h : y ∈ putL l d) : y ∈ l ∨ (y.cell = d.cell ∧ y.amount ≠ 0) := by
  unfold putL at h
  split at h
  · next hf =>
    split at h
    · next hn =>
      rcases List.mem_or_eq_of_mem_set h with h | rfl
      · exact .inl h
      · exact .inr ⟨fnd_cell hf, hn⟩
    · rcases List.mem_append.1 h with h | h
      · exact .inl (List.mem_of_mem_take h)
      · exact .inl (List.mem_of_mem_drop h)
  · next hf =>
    split at h
    · next hn =>
      rcases insL_mem.1 h with rfl | h
      · refine .inr ⟨rfl, fun e => hn ?_⟩
        rw [getL_zero hf, e]
        rfl
      · exact .inl h
    · exact .inl h
theorem putAll_good : ∀ {ds l : List GDelta}, (∀ d ∈ ds, cellB d.cell = true) → (∀ y ∈ l, GoodD y) → ∀ y ∈ putAll l ds, GoodD y
  | [], _, _, h => h
  | d :: ds, l, hd, h => putAll_good (ds := ds) (l := putL l d) (fun x hx => hd x (List.mem_cons_of_mem _ hx)) fun y hy => by
    rcases putL_mem hy with h1 | ⟨h1, h2⟩
    · exact h y h1
    · exact ⟨by rw [h1]; exact hd d (by simp), h2⟩
theorem i64_zero {a : Int64} : a.toInt = 0 ↔ a = 0 := ⟨fun e => Int64.toInt_inj.1 (by rw [e]; rfl), fun e => by rw [e]; rfl⟩
theorem deltaBad_iff {d : GDelta} : deltaBad d = false ↔ GoodD d ∧ -1125899906842624 ≤ d.amount.toInt ∧ d.amount.toInt ≤ 1125899906842624 := by
  unfold deltaBad GoodD
  simp only [Bool.or_eq_false_iff, Bool.not_eq_false', decide_eq_false_iff_not, i64_zero]
  constructor
  · rintro ⟨⟨⟨h1, h2⟩, h3⟩, h4⟩
    exact ⟨⟨h1, h2⟩, by omega, by omega⟩
  · rintro ⟨⟨h1, h2⟩, h3, h4⟩
    exact ⟨⟨⟨h1, h2⟩, by omega⟩, by omega⟩
theorem any_false {α : Type} {p : α → Bool} {l : List α} : l.any p = false ↔ ∀ y ∈ l, p y = false := by
  rw [List.any_eq_false]
  exact ⟨fun h y hy => Bool.eq_false_iff.2 (h y hy), fun h y hy => Bool.eq_false_iff.1 (h y hy)⟩
theorem valS_iff {s : GState} : valS s = true ↔ (∀ d ∈ s.cells, deltaBad d = false) ∧ asc cmpD s.cells = true ∧ 1 ≤ s.seqs.length ∧ s.seqs.length ≤ 16 ∧ (∀ n ∈ s.seqs, seqBad n = false) ∧ (∀ k ∈ s.locks, lockBad k = false) ∧ asc cmpK s.locks = true ∧ asc cmpN s.applied = true ∧ 0 ≤ s.guilty.toInt ∧ s.guilty.toInt ≤ 1023 := by
  unfold valS
  simp only [Bool.not_eq_true', Bool.or_eq_false_iff, any_false, Bool.not_eq_false', decide_eq_false_iff_not, and_assoc]
  constructor
  · rintro ⟨h1, h2, h3, h4, h5, h6, h7, h8, h9, h10⟩
    exact ⟨h1, h2, by omega, by omega, h5, h6, h7, h8, by omega, by omega⟩
  · rintro ⟨h1, h2, h3, h4, h5, h6, h7, h8, h9, h10⟩
    exact ⟨h1, h2, by omega, by omega, h5, h6, h7, h8, by omega, by omega⟩
def inTot (d : GDelta) : Bool := decide (-1125899906842624 ≤ d.amount.toInt) && decide (d.amount.toInt ≤ 1125899906842624)
theorem valS_add {s : GState} {ds : List GDelta} (h : valS s = true) (hd : ∀ d ∈ ds, cellB d.cell = true) (hf : (putAll s.cells ds).all inTot = true) : valS (addS s ds) = true := by
  rw [valS_iff] at h ⊢
  obtain ⟨h1, h2, h3⟩ := h
  refine ⟨fun d hdm => ?_, ?_, h3⟩
  · have hg := putAll_good hd (fun y hy => (deltaBad_iff.1 (h1 y hy)).1) d hdm
    have hi := List.all_eq_true.1 hf d hdm
    unfold inTot at hi
    rw [Bool.and_eq_true, decide_eq_true_eq, decide_eq_true_eq] at hi
    exact deltaBad_iff.2 ⟨hg, hi⟩
  · exact ord_iff.2 (putAll_ord (ord_iff.1 h2))
theorem ord_valS {s : GState} (h : valS s = true) : Ord s.cells := ord_iff.1 (valS_iff.1 h).2.1
end Ex
end Go.Proofs.Ytnmfiiejhoafnaa
