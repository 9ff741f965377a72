/- Trees: their roots, depths, paths; of the program and of the reference. -/
import Derived.Test.YtnmfiiejhoafnaaOnetime2
namespace Go.Proofs.Ytnmfiiejhoafnaa
namespace Ex
open Go Calm Go.RowKit

/-- the greatest power of two below n, out of k -/
def splitGo : Nat → Nat → Nat → Nat
  | 0, _, k => k
  | f + 1, n, k => if 2 * k < n then splitGo f n (2 * k) else k
def split (n : Nat) : Nat := splitGo n n 1
theorem splitGo_fuel : ∀ (f g n k : Nat), 1 ≤ k → n ≤ f + k → n ≤ g + k → splitGo f n k = splitGo g n k
  | 0, 0, _, _, _, _, _ => rfl
  | 0, g + 1, n, k, h1, h2, _ => by
    simp only [splitGo]
    rw [if_neg (by omega)]
  | f + 1, 0, n, k, h1, _, h3 => by
    simp only [splitGo]
    rw [if_neg (by omega)]
  | f + 1, g + 1, n, k, h1, h2, h3 => by
    simp only [splitGo]
    split
    · exact splitGo_fuel f g n (2 * k) (by omega) (by omega) (by omega)
    · rfl
theorem splitGo_step {n k : Nat} (h : 1 ≤ k) : splitGo n n k = if 2 * k < n then splitGo n n (2 * k) else k := by
  rw [splitGo_fuel n (n + 1) n k h (by omega) (by omega)]
  rfl
theorem splitGo_bound : ∀ (f n k : Nat), 1 ≤ k → k < n → 1 ≤ splitGo f n k ∧ splitGo f n k < n
  | 0, _, _, h1, h2 => ⟨h1, h2⟩
  | f + 1, n, k, h1, h2 => by
    simp only [splitGo]
    split
    · exact splitGo_bound f n (2 * k) (by omega) (by omega)
    · exact ⟨h1, h2⟩
theorem split_bound {n : Nat} (h : 2 ≤ n) : 1 ≤ split n ∧ split n < n := splitGo_bound n n 1 (by omega) (by omega)

/-- how many inner nodes stand above leaf i of n -/
def depthGo : Nat → Nat → Nat → Nat
  | 0, _, _ => 0
  | f + 1, i, n => if n ≤ 1 then 0 else if i < split n then depthGo f i (split n) + 1 else depthGo f (i - split n) (n - split n) + 1
theorem depthGo_fuel : ∀ (f g i n : Nat), n ≤ f + 1 → n ≤ g + 1 → depthGo f i n = depthGo g i n
  | 0, 0, _, _, _, _ => rfl
  | 0, g + 1, i, n, h1, _ => by
    simp only [depthGo]
    rw [if_pos (by omega)]
  | f + 1, 0, i, n, _, h2 => by
    simp only [depthGo]
    rw [if_pos (by omega)]
  | f + 1, g + 1, i, n, h1, h2 => by
    simp only [depthGo]
    split
    · rfl
    · have hb := split_bound (n := n) (by omega)
      rw [depthGo_fuel f g i (split n) (by omega) (by omega), depthGo_fuel f g (i - split n) (n - split n) (by omega) (by omega)]
def dep (i n : Nat) : Nat := depthGo n i n
theorem dep_one (i n : Nat) (h : n ≤ 1) : dep i n = 0 := by
  unfold dep
  rw [depthGo_fuel n (n + 1) i n (by omega) (by omega)]
  simp only [depthGo]
  rw [if_pos h]
theorem dep_left {i n : Nat} (h : 2 ≤ n) (hi : i < split n) : dep i n = dep i (split n) + 1 := by
  have hb := split_bound h
  unfold dep
  rw [depthGo_fuel n (n + 1) i n (by omega) (by omega)]
  simp only [depthGo]
  rw [if_neg (by omega), if_pos hi, depthGo_fuel n (split n) i (split n) (by omega) (by omega)]
theorem dep_right {i n : Nat} (h : 2 ≤ n) (hi : split n ≤ i) : dep i n = dep (i - split n) (n - split n) + 1 := by
  have hb := split_bound h
  unfold dep
  rw [depthGo_fuel n (n + 1) i n (by omega) (by omega)]
  simp only [depthGo]
  rw [if_neg (by omega), if_neg (by omega), depthGo_fuel n (n - split n) (i - split n) (n - split n) (by omega) (by omega)]
def depI (i n : Int) : Int := if i < 0 ∨ n ≤ i then -1 else dep i.toNat n.toNat

def single (x : UInt64) : UInt64 := tagged 17 (nmBytes x)
def rootGo : Nat → List UInt64 → UInt64
  | 0, l => if l.length = 0 then tagged 16 [] else single (l.getD 0 0)
  | f + 1, l => if l.length = 0 then tagged 16 [] else if l.length = 1 then single (l.getD 0 0) else pairN 18 (rootGo f (l.take (split l.length))) (rootGo f (l.drop (split l.length)))
theorem rootGo_fuel : ∀ (f g : Nat) (l : List UInt64), l.length ≤ f + 1 → l.length ≤ g + 1 → rootGo f l = rootGo g l
  | 0, 0, _, _, _ => rfl
  | 0, g + 1, l, h1, _ => by
    simp only [rootGo]
    split
    · rfl
    · rw [if_pos (by omega)]
  | f + 1, 0, l, _, h2 => by
    simp only [rootGo]
    split
    · rfl
    · rw [if_pos (by omega)]
  | f + 1, g + 1, l, h1, h2 => by
    simp only [rootGo]
    split
    · rfl
    · split
      · rfl
      · have hb := split_bound (n := l.length) (by omega)
        rw [rootGo_fuel f g (l.take (split l.length)) (by rw [List.length_take]; omega) (by rw [List.length_take]; omega), rootGo_fuel f g (l.drop (split l.length)) (by rw [List.length_drop]; omega) (by rw [List.length_drop]; omega)]
def root (l : List UInt64) : UInt64 := rootGo l.length l
theorem root_nil : root [] = tagged 16 [] := rfl
theorem root_one {l : List UInt64} (h : l.length = 1) : root l = single (l.getD 0 0) := by
  unfold root
  rw [h]
  simp only [rootGo]
  rw [if_neg (by omega), if_pos h]
theorem root_two {l : List UInt64} (h : 2 ≤ l.length) : root l = pairN 18 (root (l.take (split l.length))) (root (l.drop (split l.length))) := by
  have hb := split_bound h
  unfold root
  rw [rootGo_fuel l.length (l.length + 1) l (by omega) (by omega)]
  simp only [rootGo]
  rw [if_neg (by omega), if_neg (by omega), rootGo_fuel l.length (l.take (split l.length)).length _ (by rw [List.length_take]; omega) (by omega), rootGo_fuel l.length (l.drop (split l.length)).length _ (by rw [List.length_drop]; omega) (by omega)]

/-- the roots beside the way from leaf i to the root -/
def pathGo : Nat → List UInt64 → Nat → List UInt64
  | 0, _, _ => []
  | f + 1, l, i => if l.length ≤ 1 then [] else if i < split l.length then pathGo f (l.take (split l.length)) i ++ [root (l.drop (split l.length))] else pathGo f (l.drop (split l.length)) (i - split l.length) ++ [root (l.take (split l.length))]
theorem pathGo_fuel : ∀ (f g : Nat) (l : List UInt64) (i : Nat), l.length ≤ f + 1 → l.length ≤ g + 1 → pathGo f l i = pathGo g l i
  | 0, 0, _, _, _, _ => rfl
  | 0, g + 1, l, i, h1, _ => by
    simp only [pathGo]
    rw [if_pos (by omega)]
  | f + 1, 0, l, i, _, h2 => by
    simp only [pathGo]
    rw [if_pos (by omega)]
  | f + 1, g + 1, l, i, h1, h2 => by
    simp only [pathGo]
    split
    · rfl
    · have hb := split_bound (n := l.length) (by omega)
      rw [pathGo_fuel f g (l.take (split l.length)) i (by rw [List.length_take]; omega) (by rw [List.length_take]; omega), pathGo_fuel f g (l.drop (split l.length)) (i - split l.length) (by rw [List.length_drop]; omega) (by rw [List.length_drop]; omega)]
def path (l : List UInt64) (i : Nat) : List UInt64 := pathGo l.length l i
theorem path_one {l : List UInt64} (i : Nat) (h : l.length ≤ 1) : path l i = [] := by
  unfold path
  rw [pathGo_fuel l.length (l.length + 1) l i (by omega) (by omega)]
  simp only [pathGo]
  rw [if_pos h]
theorem path_left {l : List UInt64} {i : Nat} (h : 2 ≤ l.length) (hi : i < split l.length) : path l i = path (l.take (split l.length)) i ++ [root (l.drop (split l.length))] := by
  have hb := split_bound h
  unfold path
  rw [pathGo_fuel l.length (l.length + 1) l i (by omega) (by omega)]
  simp only [pathGo]
  rw [if_neg (by omega), if_pos hi, pathGo_fuel l.length (l.take (split l.length)).length _ i (by rw [List.length_take]; omega) (by omega)]
theorem path_right {l : List UInt64} {i : Nat} (h : 2 ≤ l.length) (hi : split l.length ≤ i) : path l i = path (l.drop (split l.length)) (i - split l.length) ++ [root (l.take (split l.length))] := by
  have hb := split_bound h
  unfold path
  rw [pathGo_fuel l.length (l.length + 1) l i (by omega) (by omega)]
  simp only [pathGo]
  rw [if_neg (by omega), if_neg (by omega), pathGo_fuel l.length (l.drop (split l.length)).length _ (i - split l.length) (by rw [List.length_drop]; omega) (by omega)]

/-- the root that follows from a leaf and its path -/
def compGo : Nat → UInt64 → Nat → Nat → List UInt64 → UInt64
  | 0, x, _, _, _ => single x
  | f + 1, x, i, n, p => if n ≤ 1 then single x else if i < split n then pairN 18 (compGo f x i (split n) (p.take (p.length - 1))) (p.getD (p.length - 1) 0) else pairN 18 (p.getD (p.length - 1) 0) (compGo f x (i - split n) (n - split n) (p.take (p.length - 1)))
theorem compGo_fuel : ∀ (f g : Nat) (x : UInt64) (i n : Nat) (p : List UInt64), n ≤ f + 1 → n ≤ g + 1 → compGo f x i n p = compGo g x i n p
  | 0, 0, _, _, _, _, _, _ => rfl
  | 0, g + 1, x, i, n, p, h1, _ => by
    simp only [compGo]
    rw [if_pos (by omega)]
  | f + 1, 0, x, i, n, p, _, h2 => by
    simp only [compGo]
    rw [if_pos (by omega)]
  | f + 1, g + 1, x, i, n, p, h1, h2 => by
    simp only [compGo]
    split
    · rfl
    · have hb := split_bound (n := n) (by omega)
      rw [compGo_fuel f g x i (split n) _ (by omega) (by omega), compGo_fuel f g x (i - split n) (n - split n) _ (by omega) (by omega)]
def comp (x : UInt64) (i n : Nat) (p : List UInt64) : UInt64 := compGo n x i n p
theorem comp_one {n : Nat} (x : UInt64) (i : Nat) (p : List UInt64) (h : n ≤ 1) : comp x i n p = single x := by
  unfold comp
  rw [compGo_fuel n (n + 1) x i n p (by omega) (by omega)]
  simp only [compGo]
  rw [if_pos h]
theorem comp_left {i n : Nat} (x : UInt64) (p : List UInt64) (h : 2 ≤ n) (hi : i < split n) : comp x i n p = pairN 18 (comp x i (split n) (p.take (p.length - 1))) (p.getD (p.length - 1) 0) := by
  have hb := split_bound h
  unfold comp
  rw [compGo_fuel n (n + 1) x i n p (by omega) (by omega)]
  simp only [compGo]
  rw [if_neg (by omega), if_pos hi, compGo_fuel n (split n) x i (split n) _ (by omega) (by omega)]
theorem comp_right {i n : Nat} (x : UInt64) (p : List UInt64) (h : 2 ≤ n) (hi : split n ≤ i) : comp x i n p = pairN 18 (p.getD (p.length - 1) 0) (comp x (i - split n) (n - split n) (p.take (p.length - 1))) := by
  have hb := split_bound h
  unfold comp
  rw [compGo_fuel n (n + 1) x i n p (by omega) (by omega)]
  simp only [compGo]
  rw [if_neg (by omega), if_neg (by omega), compGo_fuel n (n - split n) x (i - split n) (n - split n) _ (by omega) (by omega)]
/-- a path that was listed leads to the root -/
theorem path_len : ∀ (m : Nat) (l : List UInt64) (i : Nat), l.length ≤ m → (path l i).length = dep i l.length
  | m, l, i, hm => by
    by_cases h : l.length ≤ 1
    · rw [path_one i h, dep_one i _ h]; rfl
    · have hb := split_bound (n := l.length) (by omega)
      cases m with
      | zero => omega
      | succ m =>
        by_cases hi : i < split l.length
        · rw [path_left (by omega) hi, dep_left (by omega) hi, List.length_append, path_len m _ i (by rw [List.length_take]; omega), List.length_take, Nat.min_eq_left (by omega)]; rfl
        · rw [path_right (by omega) (by omega), dep_right (by omega) (by omega), List.length_append, path_len m _ _ (by rw [List.length_drop]; omega), List.length_drop]; rfl
theorem comp_path : ∀ (m : Nat) (l : List UInt64) (i : Nat), l.length ≤ m → i < l.length → comp (l.getD i 0) i l.length (path l i) = root l
  | m, l, i, hm, hil => by
    by_cases h : l.length ≤ 1
    · rw [comp_one _ _ _ h, root_one (by omega), show i = 0 by omega]
    · have hb := split_bound (n := l.length) (by omega)
      cases m with
      | zero => omega
      | succ m =>
        by_cases hi : i < split l.length
        · have ih := comp_path m (l.take (split l.length)) i (by rw [List.length_take]; omega) (by rw [List.length_take]; omega)
          rw [List.length_take, Nat.min_eq_left (by omega)] at ih
          have e : (l.take (split l.length)).getD i 0 = l.getD i 0 := by
            rw [List.getD_eq_getElem?_getD, List.getElem?_take, if_pos hi, ← List.getD_eq_getElem?_getD]
          rw [e] at ih
          rw [comp_left _ _ (by omega) hi, root_two (by omega), path_left (by omega) hi]
          simp only [List.length_append, List.length_cons, List.length_nil, Nat.zero_add, Nat.add_sub_cancel, List.take_left', List.getD_eq_getElem?_getD]
          rw [List.getElem?_append_right (Nat.le_refl _), Nat.sub_self]
          simp only [List.getElem?_cons_zero, Option.getD_some]
          rw [List.getD_eq_getElem?_getD] at ih
          rw [ih]
        · have ih := comp_path m (l.drop (split l.length)) (i - split l.length) (by rw [List.length_drop]; omega) (by rw [List.length_drop]; omega)
          rw [List.length_drop] at ih
          have e : (l.drop (split l.length)).getD (i - split l.length) 0 = l.getD i 0 := by
            rw [List.getD_eq_getElem?_getD, List.getElem?_drop, show split l.length + (i - split l.length) = i by omega, ← List.getD_eq_getElem?_getD]
          rw [e] at ih
          rw [comp_right _ _ (by omega) (by omega), root_two (by omega), path_right (by omega) (by omega)]
          simp only [List.length_append, List.length_cons, List.length_nil, Nat.zero_add, Nat.add_sub_cancel, List.take_left', List.getD_eq_getElem?_getD]
          rw [List.getElem?_append_right (Nat.le_refl _), Nat.sub_self]
          simp only [List.getElem?_cons_zero, Option.getD_some]
          rw [List.getD_eq_getElem?_getD] at ih
          rw [ih]

theorem depI_no {i n : Int} (h : i < 0 ∨ n ≤ i) : depI i n = -1 := by unfold depI; rw [if_pos h]
theorem depI_yes {i n : Nat} (h : i < n) : depI i n = dep i n := by
  unfold depI
  rw [if_neg (by omega)]
  rfl
theorem dep_lt : ∀ (m i n : Nat), n ≤ m → 1 ≤ n → dep i n < n
  | 0, i, n, h, h1 => by omega
  | m + 1, i, n, h, h1 => by
    by_cases h2 : n ≤ 1
    · rw [dep_one i n h2]; omega
    · have hb := split_bound (n := n) (by omega)
      by_cases hi : i < split n
      · rw [dep_left (by omega) hi]
        have := dep_lt m i (split n) (by omega) (by omega)
        omega
      · rw [dep_right (by omega) (by omega)]
        have := dep_lt m (i - split n) (n - split n) (by omega) (by omega)
        omega
theorem splitN_step {n k : Nat} (h : 1 ≤ k) (h2 : 2 * k < n) : splitGo n n (2 * k) = splitGo n n k := by rw [splitGo_step h, if_pos h2]
theorem splitN_end {n k : Nat} (h : 1 ≤ k) (h2 : ¬ 2 * k < n) : k = splitGo n n k := by rw [splitGo_step h, if_neg h2]
/-- follow, and whether it can -/
def folB (i n : Int) (p : List UInt64) : Bool := decide (0 ≤ depI i n ∧ (p.length : Int) = depI i n)
def folV (x : UInt64) (i n : Int) (p : List UInt64) : UInt64 := if 0 ≤ depI i n ∧ (p.length : Int) = depI i n then comp x i.toNat n.toNat p else 0
theorem folB_no {i n : Int} {p : List UInt64} (h : depI i n < 0 ∨ ¬ (p.length : Int) = depI i n) : false = folB i n p := (decide_eq_false (by omega)).symm
theorem folV_no {x : UInt64} {i n : Int} {p : List UInt64} (h : depI i n < 0 ∨ ¬ (p.length : Int) = depI i n) : 0 = folV x i n p := by unfold folV; rw [if_neg (by omega)]
theorem folB_yes {i n : Int} {p : List UInt64} (h : 0 ≤ depI i n ∧ (p.length : Int) = depI i n) : true = folB i n p := (decide_eq_true h).symm
theorem folV_yes {x : UInt64} {i n : Int} {p : List UInt64} (h : 0 ≤ depI i n ∧ (p.length : Int) = depI i n) : comp x i.toNat n.toNat p = folV x i n p := by unfold folV; rw [if_pos h]
theorem depI_pos {i n : Int} (h : 0 ≤ depI i n) : 0 ≤ i ∧ i < n := by
  refine Classical.byContradiction fun hn => ?_
  rw [depI_no (by omega)] at h
  omega
theorem depI_nat {i n : Int} (h : 0 ≤ depI i n) : depI i n = (dep i.toNat n.toNat : Int) := by
  have h2 := depI_pos h
  unfold depI
  rw [if_neg (by omega)]
def verB (r x : UInt64) (i n : Int) (p : List UInt64) : Bool := folB i n p && decide (folV x i n p = r)
def pathB (l : List UInt64) (i : Int) : Bool := decide (0 ≤ i ∧ i < (l.length : Int))
def pathV (l : List UInt64) (i : Int) : List UInt64 := if 0 ≤ i ∧ i < (l.length : Int) then path l i.toNat else []
theorem pathB_no {l : List UInt64} {i : Int} (h : i < 0 ∨ (l.length : Int) ≤ i) : false = pathB l i := (decide_eq_false (by omega)).symm
theorem pathV_no {l : List UInt64} {i : Int} (h : i < 0 ∨ (l.length : Int) ≤ i) : [] = pathV l i := by unfold pathV; rw [if_neg (by omega)]
theorem pathB_yes {l : List UInt64} {i : Int} (h : 0 ≤ i ∧ i < (l.length : Int)) : true = pathB l i := (decide_eq_true h).symm
theorem pathV_yes {l : List UInt64} {i : Int} (h : 0 ≤ i ∧ i < (l.length : Int)) : path l i.toNat = pathV l i := by unfold pathV; rw [if_pos h]
theorem take_at {l : List UInt64} {k : Nat} : (l.take k).length = min k l.length := List.length_take
theorem depI_of {i n : Int} (h : 0 ≤ i ∧ i < n) : depI i n = (dep i.toNat n.toNat : Int) := by
  unfold depI
  rw [if_neg (by omega)]
theorem depI_neg {i n : Int} (h : depI i n < 0) : i < 0 ∨ n ≤ i := by
  refine Classical.byContradiction fun hn => ?_
  rw [depI_of (by omega)] at h
  omega
theorem dep_pos {i n : Nat} (h : 2 ≤ n) : 1 ≤ dep i n := by
  by_cases hi : i < split n
  · rw [dep_left h hi]; omega
  · rw [dep_right h (by omega)]; omega
theorem root_zero {l : List UInt64} (h : l.length = 0) : root l = tagged 16 [] := by rw [List.eq_nil_of_length_eq_zero h]; rfl
theorem path_le (l : List UInt64) (i : Nat) : (path l i).length ≤ l.length := by
  rw [path_len l.length l i (Nat.le_refl _)]
  by_cases h : l.length ≤ 1
  · rw [dep_one i _ h]; omega
  · have := dep_lt l.length i l.length (Nat.le_refl _) (by omega)
    omega
theorem pathV_le (l : List UInt64) (i : Int) : (pathV l i).length ≤ l.length := by
  unfold pathV
  split
  · exact path_le l _
  · simp
theorem pathV_one {l : List UInt64} {i : Int} (h : l.length ≤ 1) : [] = pathV l i := by
  unfold pathV
  split
  · rw [path_one _ h]
  · rfl
theorem pathV_left {l : List UInt64} {i : Int} (h2 : 2 ≤ l.length) (h0 : 0 ≤ i) (hi : i < (split l.length : Int)) : pathV (l.take (split l.length)) i ++ [root (l.drop (split l.length))] = pathV l i := by
  have hb := split_bound h2
  have e : (l.take (split l.length)).length = split l.length := by rw [List.length_take]; omega
  unfold pathV
  rw [if_pos (by rw [e]; omega), if_pos (by omega), ← path_left h2 (by omega)]
theorem pathV_right {l : List UInt64} {i : Int} (h2 : 2 ≤ l.length) (hl : i < (l.length : Int)) (hi : (split l.length : Int) ≤ i) : pathV (l.drop (split l.length)) (i - (split l.length : Int)) ++ [root (l.take (split l.length))] = pathV l i := by
  have hb := split_bound h2
  have e : (l.drop (split l.length)).length = l.length - split l.length := List.length_drop
  unfold pathV
  rw [if_pos (by rw [e]; omega), if_pos (by omega), path_right h2 (show split l.length ≤ i.toNat by omega), show (i - (split l.length : Int)).toNat = i.toNat - split l.length by omega]
theorem take300 (l : List UInt64) : (l.take 300).length ≤ 300 := by rw [List.length_take]; omega
theorem mod_lt {m n : UInt64} (h : n.toNat ≠ 0) : (m % n).toNat < n.toNat := by
  rw [UInt64.toNat_mod]
  exact Nat.mod_lt _ (by omega)
theorem len_u64 {n : Nat} (h : n ≤ 300) : (n : Int) % 18446744073709551616 = ((UInt64.ofNat n).toNat : Int) := by
  rw [UInt64.toNat_ofNat']
  omega
theorem int_u64 (n : Int) : n % 18446744073709551616 = ((UInt64.ofNat (n % 18446744073709551616).toNat).toNat : Int) := by
  rw [UInt64.toNat_ofNat']
  omega
theorem one_at {l : List UInt64} : l.getD 0 default = l.getD 0 0 := rfl

set_option maxRecDepth 100000 in
theorem c_split {n : Nat} {nz : Int} (hn : n ≤ 9223372036854775807) (hz : nz = (n : Int)) : Con1 112 (Is (intV nz)) (fun _ => Is (intV (split n : Int))) := by
  intro lo v0 w0 hlo hv0
  refine enter Try.func112 rfl Try.ntmps112 (by simp) ?_
  intro a0 hf0 ha
  have h00 : Holds _ (a0.eval (.tmp 0)) w0 := arg_holds ha rfl hv0
  clear ha
  have g0 : Grow w0 w0 := Grow.refl _
  refine wp_seq ?_
  refine wp_region_lit ?_
  refine wp_all [([], [])] [0] w0.heap.size hf0 g0.size (by kernel_rfl) bund_nil ?_
  refine ch rfl (ob_assign arg_c) ?_
  refine ch_nil ?_
  intro a1 w2 hf3 hg4 hk5 hn6
  have h7 : Holds _ (a1.eval (.tmp 0)) w0 := hk5.holds rfl h00
  have g8 : Grow w0 w2 := g0.trans hg4
  clear h00 g0 hf0 hk5 hn6
  refine then_ ?_
  refine wp_seq ?_
  refine wp_region_lit ?_
  refine wp_all [([], [])] [0] w0.heap.size hf3 g8.size (by kernel_rfl) bund_nil ?_
  refine ch rfl (ob_assign arg_c) ?_
  refine ch_nil ?_
  intro a9 w10 hf11 hg12 hk13 hn14
  have h15 : Holds _ (a9.eval (.tmp 3)) w10 := hn14.at 0 0 rfl rfl rfl
  have h16 : Holds _ (a9.eval (.tmp 0)) w0 := hk13.holds rfl h7
  have g17 : Grow w0 w10 := g8.trans hg12
  clear h7 g8 hf3 hk13 hn14 hg12
  refine then_ ?_
  refine wp_seq ?_
  refine wp_block ?_
  have g18 : Grow w10 w10 := Grow.refl _
  have hz19 : w0.heap.size ≤ w10.heap.size := g17.size
  refine wp_loopL (α := Nat) (fun k a' w' => Fr 12 a' ∧ (1 ≤ k) ∧ (k ≤ 1 ∨ k < n) ∧ (splitGo n n k = split n) ∧ Grow w0 w' ∧ Grow w10 w' ∧ Keep [0] a9 a' ∧ Holds (Is (intV (k : Int))) (a'.eval (.tmp 3)) w') (fun k => n - k) (1) ⟨hf11, (by omega), (by omega), (by rfl), g17, g18, Keep.refl _ _, (is_cast h15 (by first | rfl | (refine congrArg intV ?_; (try dsimp only); omega)))⟩ ?_
  intro k a20 w21 ⟨hf22, hi24, hi25, hi26, g27, g28, kk23, h29⟩
  have h30 : Holds _ (a20.eval (.tmp 0)) w0 := kk23.holds rfl h16
  refine wp_seq ?_
  refine wp_seq ?_
  refine wp_region_lit ?_
  refine wp_all [([3], []), ([0], []), ([3], []), ([], [1, 2]), ([], [0, 3])] [0, 3] w10.heap.size hf22 g28.size (by kernel_rfl) (bund_cons h29 (bund_cons (is_any h30) bund_nil)) ?_
  refine ch rfl (ob_move (arg_free 0 rfl rfl)) ?_
  refine ch rfl (ob_move (arg_free 1 rfl rfl)) ?_
  refine ch rfl (ob_move (arg_free 0 rfl rfl)) ?_
  first
    | (refine ch rfl (ob_sub' (arg_op 1 1 rfl rfl rfl rfl) (arg_op 2 0 rfl rfl rfl rfl) ?_) ?_; · omega)
    | refine ch rfl (ob_sub (arg_op 1 1 rfl rfl rfl rfl) (arg_op 2 0 rfl rfl rfl rfl)) ?_
  refine ch rfl (ob_lss (arg_op 0 3 rfl rfl rfl rfl) (arg_op 3 0 rfl rfl rfl rfl)) ?_
  refine ch_nil ?_
  intro a31 w32 hf33 hg34 hk35 hn36
  have h37 : Holds _ (a31.eval (.tmp 8)) w32 := hn36.at 4 0 rfl rfl rfl
  have h38 : Holds _ (a31.eval (.tmp 3)) w32 := hk35.holds rfl (h29.up hg34)
  have h39 : Holds _ (a31.eval (.tmp 0)) w0 := hk35.holds rfl h30
  have g40 : Grow w0 w32 := g27.trans hg34
  have g41 : Grow w10 w32 := g28.trans hg34
  have kk42 : Keep _ a9 a31 := kk23.trans hk35 rfl
  clear h29 h30 g27 g28 kk23 hf22 hk35 hn36 hg34
  refine then_ ?_
  refine wp_if h37 ?_ ?_
  · intro hc43
    try simp only [cond_norm] at hc43
    refine wp_skip ?_
    refine then_ ?_
    refine wp_block ?_
    refine wp_region_lit ?_
    refine wp_all [([3], []), ([], [0]), ([], [1])] [0] w10.heap.size hf33 g41.size (by kernel_rfl) (bund_cons h38 bund_nil) ?_
    refine ch rfl (ob_move (arg_free 0 rfl rfl)) ?_
    first
      | (refine ch rfl (ob_mul' (arg_op 0 0 rfl rfl rfl rfl) arg_c ?_) ?_; · omega)
      | refine ch rfl (ob_mul (arg_op 0 0 rfl rfl rfl rfl) arg_c) ?_
    refine ch rfl (ob_assign (arg_op 1 0 rfl rfl rfl rfl)) ?_
    refine ch_nil ?_
    intro a44 w45 hf46 hg47 hk48 hn49
    have h50 : Holds _ (a44.eval (.tmp 3)) w45 := hn49.at 2 0 rfl rfl rfl
    have h51 : Holds _ (a44.eval (.tmp 0)) w0 := hk48.holds rfl h39
    have g52 : Grow w0 w45 := g40.trans hg47
    have g53 : Grow w10 w45 := g41.trans hg47
    have kk54 : Keep _ a9 a44 := kk42.trans hk48 rfl
    clear h39 g40 g41 kk42 hf33 hk48 hn49 hg47
    refine blockN ?_
    refine then_ ?_
    exact ⟨(2 * k), (by ((try dsimp only); omega)), hf46, (by omega), (by omega), (by rw [splitN_step (by omega) (by omega)]; assumption), g52, g53, kk54, (is_cast h50 (by first | rfl | (refine congrArg intV ?_; (try dsimp only); omega)))⟩
  · intro hc43
    try simp only [cond_norm] at hc43
    refine wp_exit ?_
    refine thenX ?_
    refine thenX ?_
    refine blockX ?_
    refine then_ ?_
    refine wp_seq ?_
    refine wp_region_lit ?_
    refine wp_all [([3], []), ([], [0])] [] w10.heap.size hf33 g41.size (by kernel_rfl) (bund_cons h38 bund_nil) ?_
    refine ch rfl (ob_move (arg_free 0 rfl rfl)) ?_
    refine ch rfl (ob_assign (arg_op 0 0 rfl rfl rfl rfl)) ?_
    refine ch_nil ?_
    intro a55 w56 hf57 hg58 hk59 hn60
    have h61 : Holds _ (a55.eval (.tmp 2)) w56 := hn60.at 1 0 rfl rfl rfl
    have g62 : Grow w0 w56 := g40.trans hg58
    have g63 : Grow w10 w56 := g41.trans hg58
    clear g40 g41 hf33 hk59 hn60 hg58
    refine then_ ?_
    refine wp_ret ?_
    exact ret_tmp rfl hf57 g62 (is_cast h61 (congrArg (fun x : Nat => intV (x : Int)) ((splitN_end (n := n) (by assumption) (by omega)).trans (by assumption))))

set_option maxRecDepth 100000 in
theorem c_rsplit {n : Nat} {nz : Int} (hn : n ≤ 9223372036854775807) (hz : nz = (n : Int)) : Con1 113 (Is (intV nz)) (fun _ => Is (intV (split n : Int))) := by
  intro lo v0 w0 hlo hv0
  refine enter Try.func113 rfl Try.ntmps113 (by simp) ?_
  intro a0 hf0 ha
  have h00 : Holds _ (a0.eval (.tmp 0)) w0 := arg_holds ha rfl hv0
  clear ha
  have g0 : Grow w0 w0 := Grow.refl _
  refine wp_seq ?_
  refine wp_region_lit ?_
  refine wp_all [([], [])] [0] w0.heap.size hf0 g0.size (by kernel_rfl) bund_nil ?_
  refine ch rfl (ob_assign arg_c) ?_
  refine ch_nil ?_
  intro a1 w2 hf3 hg4 hk5 hn6
  have h7 : Holds _ (a1.eval (.tmp 0)) w0 := hk5.holds rfl h00
  have g8 : Grow w0 w2 := g0.trans hg4
  clear h00 g0 hf0 hk5 hn6
  refine then_ ?_
  refine wp_seq ?_
  refine wp_region_lit ?_
  refine wp_all [([], [])] [0] w0.heap.size hf3 g8.size (by kernel_rfl) bund_nil ?_
  refine ch rfl (ob_assign arg_c) ?_
  refine ch_nil ?_
  intro a9 w10 hf11 hg12 hk13 hn14
  have h15 : Holds _ (a9.eval (.tmp 3)) w10 := hn14.at 0 0 rfl rfl rfl
  have h16 : Holds _ (a9.eval (.tmp 0)) w0 := hk13.holds rfl h7
  have g17 : Grow w0 w10 := g8.trans hg12
  clear h7 g8 hf3 hk13 hn14 hg12
  refine then_ ?_
  refine wp_seq ?_
  refine wp_block ?_
  have g18 : Grow w10 w10 := Grow.refl _
  have hz19 : w0.heap.size ≤ w10.heap.size := g17.size
  refine wp_loopL (α := Nat) (fun k a' w' => Fr 12 a' ∧ (1 ≤ k) ∧ (k ≤ 1 ∨ k < n) ∧ (splitGo n n k = split n) ∧ Grow w0 w' ∧ Grow w10 w' ∧ Keep [0] a9 a' ∧ Holds (Is (intV (k : Int))) (a'.eval (.tmp 3)) w') (fun k => n - k) (1) ⟨hf11, (by omega), (by omega), (by rfl), g17, g18, Keep.refl _ _, (is_cast h15 (by first | rfl | (refine congrArg intV ?_; (try dsimp only); omega)))⟩ ?_
  intro k a20 w21 ⟨hf22, hi24, hi25, hi26, g27, g28, kk23, h29⟩
  have h30 : Holds _ (a20.eval (.tmp 0)) w0 := kk23.holds rfl h16
  refine wp_seq ?_
  refine wp_seq ?_
  refine wp_region_lit ?_
  refine wp_all [([3], []), ([0], []), ([3], []), ([], [1, 2]), ([], [0, 3])] [0, 3] w10.heap.size hf22 g28.size (by kernel_rfl) (bund_cons h29 (bund_cons (is_any h30) bund_nil)) ?_
  refine ch rfl (ob_move (arg_free 0 rfl rfl)) ?_
  refine ch rfl (ob_move (arg_free 1 rfl rfl)) ?_
  refine ch rfl (ob_move (arg_free 0 rfl rfl)) ?_
  first
    | (refine ch rfl (ob_sub' (arg_op 1 1 rfl rfl rfl rfl) (arg_op 2 0 rfl rfl rfl rfl) ?_) ?_; · omega)
    | refine ch rfl (ob_sub (arg_op 1 1 rfl rfl rfl rfl) (arg_op 2 0 rfl rfl rfl rfl)) ?_
  refine ch rfl (ob_lss (arg_op 0 3 rfl rfl rfl rfl) (arg_op 3 0 rfl rfl rfl rfl)) ?_
  refine ch_nil ?_
  intro a31 w32 hf33 hg34 hk35 hn36
  have h37 : Holds _ (a31.eval (.tmp 8)) w32 := hn36.at 4 0 rfl rfl rfl
  have h38 : Holds _ (a31.eval (.tmp 3)) w32 := hk35.holds rfl (h29.up hg34)
  have h39 : Holds _ (a31.eval (.tmp 0)) w0 := hk35.holds rfl h30
  have g40 : Grow w0 w32 := g27.trans hg34
  have g41 : Grow w10 w32 := g28.trans hg34
  have kk42 : Keep _ a9 a31 := kk23.trans hk35 rfl
  clear h29 h30 g27 g28 kk23 hf22 hk35 hn36 hg34
  refine then_ ?_
  refine wp_if h37 ?_ ?_
  · intro hc43
    try simp only [cond_norm] at hc43
    refine wp_skip ?_
    refine then_ ?_
    refine wp_block ?_
    refine wp_region_lit ?_
    refine wp_all [([3], []), ([], [0]), ([], [1])] [0] w10.heap.size hf33 g41.size (by kernel_rfl) (bund_cons h38 bund_nil) ?_
    refine ch rfl (ob_move (arg_free 0 rfl rfl)) ?_
    first
      | (refine ch rfl (ob_mul' arg_c (arg_op 0 0 rfl rfl rfl rfl) ?_) ?_; · omega)
      | refine ch rfl (ob_mul arg_c (arg_op 0 0 rfl rfl rfl rfl)) ?_
    refine ch rfl (ob_assign (arg_op 1 0 rfl rfl rfl rfl)) ?_
    refine ch_nil ?_
    intro a44 w45 hf46 hg47 hk48 hn49
    have h50 : Holds _ (a44.eval (.tmp 3)) w45 := hn49.at 2 0 rfl rfl rfl
    have h51 : Holds _ (a44.eval (.tmp 0)) w0 := hk48.holds rfl h39
    have g52 : Grow w0 w45 := g40.trans hg47
    have g53 : Grow w10 w45 := g41.trans hg47
    have kk54 : Keep _ a9 a44 := kk42.trans hk48 rfl
    clear h39 g40 g41 kk42 hf33 hk48 hn49 hg47
    refine blockN ?_
    refine then_ ?_
    exact ⟨(2 * k), (by ((try dsimp only); omega)), hf46, (by omega), (by omega), (by rw [splitN_step (by omega) (by omega)]; assumption), g52, g53, kk54, (is_cast h50 (by first | rfl | (refine congrArg intV ?_; (try dsimp only); omega)))⟩
  · intro hc43
    try simp only [cond_norm] at hc43
    refine wp_exit ?_
    refine thenX ?_
    refine thenX ?_
    refine blockX ?_
    refine then_ ?_
    refine wp_seq ?_
    refine wp_region_lit ?_
    refine wp_all [([3], []), ([], [0])] [] w10.heap.size hf33 g41.size (by kernel_rfl) (bund_cons h38 bund_nil) ?_
    refine ch rfl (ob_move (arg_free 0 rfl rfl)) ?_
    refine ch rfl (ob_assign (arg_op 0 0 rfl rfl rfl rfl)) ?_
    refine ch_nil ?_
    intro a55 w56 hf57 hg58 hk59 hn60
    have h61 : Holds _ (a55.eval (.tmp 2)) w56 := hn60.at 1 0 rfl rfl rfl
    have g62 : Grow w0 w56 := g40.trans hg58
    have g63 : Grow w10 w56 := g41.trans hg58
    clear g40 g41 hf33 hk59 hn60 hg58
    refine then_ ?_
    refine wp_ret ?_
    exact ret_tmp rfl hf57 g62 (is_cast h61 (congrArg (fun x : Nat => intV (x : Int)) ((splitN_end (n := n) (by assumption) (by omega)).trans (by assumption))))

set_option maxRecDepth 100000 in
theorem c_Depth {i n : Int} (hi : -9223372036854775808 ≤ i) (hn : n ≤ 9223372036854775807) : Con2 56 (Is (intV i)) (Is (intV n)) (fun _ => Is (intV (depI i n))) := by
  intro lo v0 v1 w0 hlo hv0 hv1
  refine enter Try.func56 rfl Try.ntmps56 (by simp) ?_
  intro a0 hf0 ha
  have h00 : Holds _ (a0.eval (.tmp 0)) w0 := arg_holds ha rfl hv0
  have h01 : Holds _ (a0.eval (.tmp 1)) w0 := arg_holds ha rfl hv1
  clear ha
  have g0 : Grow w0 w0 := Grow.refl _
  refine wp_seq ?_
  refine wp_region_lit ?_
  refine wp_all [([], [])] [0, 1] w0.heap.size hf0 g0.size (by kernel_rfl) bund_nil ?_
  refine ch rfl (ob_assign arg_c) ?_
  refine ch_nil ?_
  intro a1 w2 hf3 hg4 hk5 hn6
  have h7 : Holds _ (a1.eval (.tmp 0)) w0 := hk5.holds rfl h00
  have h8 : Holds _ (a1.eval (.tmp 1)) w0 := hk5.holds rfl h01
  have g9 : Grow w0 w2 := g0.trans hg4
  clear h00 h01 g0 hf0 hk5 hn6
  refine then_ ?_
  refine wp_seq ?_
  refine wp_seq ?_
  refine wp_region_lit ?_
  refine wp_all [([0], []), ([], [0]), ([], [1]), ([0], [2]), ([1], [2]), ([], [3, 4, 2]), ([], [2, 5])] [0, 1] w0.heap.size hf3 g9.size (by kernel_rfl) (bund_cons (is_any h7) (bund_cons (is_any h8) bund_nil)) ?_
  refine ch rfl (ob_move (arg_free 0 rfl rfl)) ?_
  refine ch rfl (ob_lss (arg_op 0 0 rfl rfl rfl rfl) arg_c) ?_
  refine ch rfl (ob_move (arg_op 1 0 rfl rfl rfl rfl)) ?_
  refine chg (b := _) rfl rfl (arg_op 2 0 rfl rfl rfl rfl) (fun hb2 => ob_move (arg_free 0 rfl rfl)) ?_
  refine chg (b := _) rfl rfl (arg_op 2 1 rfl rfl rfl rfl) (fun hb2 => ob_move (arg_free 1 rfl rfl)) ?_
  refine chg (b := _) rfl rfl (arg_op 2 2 rfl rfl rfl rfl) (fun hb2 => ob_geq (ArgOK.when (arg_op 3 1 rfl rfl rfl rfl) hb2) (ArgOK.when (arg_op 4 0 rfl rfl rfl rfl) hb2)) ?_
  refine ch rfl (ob_or (arg_op 2 3 rfl rfl rfl rfl) (arg_op 5 0 rfl rfl rfl rfl)) ?_
  refine ch_nil ?_
  intro a10 w11 hf12 hg13 hk14 hn15
  have h16 : Holds _ (a10.eval (.tmp 13)) w11 := hn15.at 6 0 rfl rfl rfl
  have h17 : Holds _ (a10.eval (.tmp 0)) w0 := hk14.holds rfl h7
  have h18 : Holds _ (a10.eval (.tmp 1)) w0 := hk14.holds rfl h8
  have g19 : Grow w0 w11 := g9.trans hg13
  clear h7 h8 g9 hf3 hk14 hn15 hg13
  refine then_ ?_
  refine wp_if h16 ?_ ?_
  · intro hc20
    try simp only [cond_norm] at hc20
    refine wp_seq ?_
    refine wp_region_lit ?_
    refine wp_all [([], [])] [] w0.heap.size hf12 g19.size (by kernel_rfl) bund_nil ?_
    refine ch rfl (ob_assign arg_c) ?_
    refine ch_nil ?_
    intro a21 w22 hf23 hg24 hk25 hn26
    have h27 : Holds _ (a21.eval (.tmp 4)) w22 := hn26.at 0 0 rfl rfl rfl
    have g28 : Grow w0 w22 := g19.trans hg24
    clear g19 hf12 hk25 hn26 hg24
    refine then_ ?_
    refine wp_ret ?_
    refine thenR ?_
    exact ret_tmp rfl hf23 g28 (is_cast h27 (congrArg intV (by first | exact (depI_no (by omega)).symm | (rw [depI_of (by omega)]; omega))))
  · intro hc20
    try simp only [cond_norm] at hc20
    refine wp_skip ?_
    refine then_ ?_
    refine wp_seq ?_
    refine wp_region_lit ?_
    refine wp_all [([], [])] [0, 1] w0.heap.size hf12 g19.size (by kernel_rfl) bund_nil ?_
    refine ch rfl (ob_assign arg_c) ?_
    refine ch_nil ?_
    intro a29 w30 hf31 hg32 hk33 hn34
    have h35 : Holds _ (a29.eval (.tmp 5)) w30 := hn34.at 0 0 rfl rfl rfl
    have h36 : Holds _ (a29.eval (.tmp 0)) w0 := hk33.holds rfl h17
    have h37 : Holds _ (a29.eval (.tmp 1)) w0 := hk33.holds rfl h18
    have g38 : Grow w0 w30 := g19.trans hg32
    clear h17 h18 g19 hf12 hk33 hn34 hg32
    refine then_ ?_
    refine wp_seq ?_
    refine wp_block ?_
    have g39 : Grow w30 w30 := Grow.refl _
    have hz40 : w0.heap.size ≤ w30.heap.size := g38.size
    refine wp_loopL (α := Nat × Nat) (fun x a' w' => Fr 31 a' ∧ (x.1 < x.2) ∧ ((x.2 : Int) ≤ n) ∧ (dep x.1 x.2 ≤ dep i.toNat n.toNat) ∧ Grow w0 w' ∧ Grow w30 w' ∧ Keep [] a29 a' ∧ Holds (Is (intV (x.1 : Int))) (a'.eval (.tmp 0)) w' ∧ Holds (Is (intV (x.2 : Int))) (a'.eval (.tmp 1)) w' ∧ Holds (Is (intV (((dep i.toNat n.toNat - dep x.1 x.2 : Nat)) : Int))) (a'.eval (.tmp 5)) w') (fun x => x.2) ((i.toNat, n.toNat)) ⟨hf31, (by ((try dsimp only); omega)), (by ((try dsimp only); omega)), (by ((try dsimp only); omega)), g38, g39, Keep.refl _ _, (is_cast h36 (by first | rfl | (refine congrArg intV ?_; (try dsimp only); omega))), (is_cast h37 (by first | rfl | (refine congrArg intV ?_; (try dsimp only); omega))), (is_cast h35 (by first | rfl | (refine congrArg intV ?_; (try dsimp only); omega)))⟩ ?_
    intro x a41 w42 ⟨hf43, hi45, hi46, hi47, g48, g49, kk44, h50, h51, h52⟩
    refine wp_seq ?_
    refine wp_seq ?_
    refine wp_region_lit ?_
    refine wp_all [([1], []), ([], [0])] [0, 1, 5] w30.heap.size hf43 g49.size (by kernel_rfl) (bund_cons h51 bund_nil) ?_
    refine ch rfl (ob_move (arg_free 0 rfl rfl)) ?_
    refine ch rfl (ob_gtr (arg_op 0 0 rfl rfl rfl rfl) arg_c) ?_
    refine ch_nil ?_
    intro a53 w54 hf55 hg56 hk57 hn58
    have h59 : Holds _ (a53.eval (.tmp 15)) w54 := hn58.at 1 0 rfl rfl rfl
    have h60 : Holds _ (a53.eval (.tmp 0)) w54 := hk57.holds rfl (h50.up hg56)
    have h61 : Holds _ (a53.eval (.tmp 1)) w54 := hk57.holds rfl (h51.up hg56)
    have h62 : Holds _ (a53.eval (.tmp 5)) w54 := hk57.holds rfl (h52.up hg56)
    have g63 : Grow w0 w54 := g48.trans hg56
    have g64 : Grow w30 w54 := g49.trans hg56
    have kk65 : Keep _ a29 a53 := kk44.trans hk57 rfl
    clear h50 h51 h52 g48 g49 kk44 hf43 hk57 hn58 hg56
    refine then_ ?_
    refine wp_if h59 ?_ ?_
    · intro hc66
      try simp only [cond_norm] at hc66
      refine wp_skip ?_
      refine then_ ?_
      refine wp_block ?_
      refine wp_seq ?_
      have hb := split_bound (n := x.2) (by omega)
      have hD := dep_lt n.toNat i.toNat n.toNat (Nat.le_refl _) (by omega)
      have g67 : Grow w54 w54 := Grow.refl _
      have hz68 : w30.heap.size ≤ w54.heap.size := g64.size
      refine wp_region_lit ?_
      refine wp_all [([1], []), ([], [0]), ([], [1])] [0, 1, 5] w54.heap.size hf55 g67.size (by kernel_rfl) (bund_cons h61 bund_nil) ?_
      refine ch rfl (ob_move (arg_free 0 rfl rfl)) ?_
      refine ch rfl (ob_call1 (by kernel_rfl) (c_split (n := x.2) ?_ ?_) (arg_op 0 0 rfl rfl rfl rfl)) ?_
      · omega
      · rfl
      refine ch rfl (ob_assign (arg_op 1 0 rfl rfl rfl rfl)) ?_
      refine ch_nil ?_
      intro a69 w70 hf71 hg72 hk73 hn74
      have h75 : Holds _ (a69.eval (.tmp 6)) w70 := hn74.at 2 0 rfl rfl rfl
      have h76 : Holds _ (a69.eval (.tmp 0)) w54 := hk73.holds rfl h60
      have h77 : Holds _ (a69.eval (.tmp 1)) w54 := hk73.holds rfl h61
      have h78 : Holds _ (a69.eval (.tmp 5)) w54 := hk73.holds rfl h62
      have g79 : Grow w0 w70 := g63.trans hg72
      have g80 : Grow w30 w70 := g64.trans hg72
      have g81 : Grow w54 w70 := g67.trans hg72
      have kk82 : Keep _ a29 a69 := kk65.trans hk73 rfl
      clear h60 h61 h62 g63 g64 g67 kk65 hf55 hk73 hn74
      refine then_ ?_
      refine wp_seq ?_
      refine wp_seq ?_
      refine wp_region_lit ?_
      refine wp_all [([0], []), ([6], []), ([], [0, 1])] [0, 1, 5, 6] w54.heap.size hf71 g81.size (by kernel_rfl) (bund_cons (is_any h76) (bund_cons h75 bund_nil)) ?_
      refine ch rfl (ob_move (arg_free 0 rfl rfl)) ?_
      refine ch rfl (ob_move (arg_free 1 rfl rfl)) ?_
      refine ch rfl (ob_lss (arg_op 0 1 rfl rfl rfl rfl) (arg_op 1 0 rfl rfl rfl rfl)) ?_
      refine ch_nil ?_
      intro a83 w84 hf85 hg86 hk87 hn88
      have h89 : Holds _ (a83.eval (.tmp 20)) w84 := hn88.at 2 0 rfl rfl rfl
      have h90 : Holds _ (a83.eval (.tmp 6)) w84 := hk87.holds rfl (h75.up hg86)
      have h91 : Holds _ (a83.eval (.tmp 0)) w54 := hk87.holds rfl h76
      have h92 : Holds _ (a83.eval (.tmp 1)) w54 := hk87.holds rfl h77
      have h93 : Holds _ (a83.eval (.tmp 5)) w54 := hk87.holds rfl h78
      have g94 : Grow w0 w84 := g79.trans hg86
      have g95 : Grow w30 w84 := g80.trans hg86
      have g96 : Grow w54 w84 := g81.trans hg86
      have kk97 : Keep _ a29 a83 := kk82.trans hk87 rfl
      clear h75 h76 h77 h78 g79 g80 g81 kk82 hf71 hk87 hn88 hg86
      refine then_ ?_
      refine wp_if h89 ?_ ?_
      · intro hc98
        try simp only [cond_norm] at hc98
        refine wp_region_lit ?_
        refine wp_all [([6], []), ([], [0])] [0, 5] w54.heap.size hf85 g96.size (by kernel_rfl) (bund_cons h90 bund_nil) ?_
        refine ch rfl (ob_move (arg_free 0 rfl rfl)) ?_
        refine ch rfl (ob_assign (arg_op 0 0 rfl rfl rfl rfl)) ?_
        refine ch_nil ?_
        intro a99 w100 hf101 hg102 hk103 hn104
        have h105 : Holds _ (a99.eval (.tmp 1)) w100 := hn104.at 1 0 rfl rfl rfl
        have h106 : Holds _ (a99.eval (.tmp 0)) w54 := hk103.holds rfl h91
        have h107 : Holds _ (a99.eval (.tmp 5)) w54 := hk103.holds rfl h93
        have g108 : Grow w0 w100 := g94.trans hg102
        have g109 : Grow w30 w100 := g95.trans hg102
        have g110 : Grow w54 w100 := g96.trans hg102
        have kk111 : Keep _ a29 a99 := kk97.trans hk103 rfl
        clear h91 h93 g94 g95 g96 kk97 hf85 hk103 hn104 hg102
        refine then_ ?_
        refine wp_region_lit ?_
        refine wp_all [([5], []), ([], [0]), ([], [1])] [0, 1] w54.heap.size hf101 g110.size (by kernel_rfl) (bund_cons (is_any h107) bund_nil) ?_
        refine ch rfl (ob_move (arg_free 0 rfl rfl)) ?_
        first
          | (refine ch rfl (ob_add' (arg_op 0 0 rfl rfl rfl rfl) arg_c ?_) ?_; · omega)
          | refine ch rfl (ob_add (arg_op 0 0 rfl rfl rfl rfl) arg_c) ?_
        refine ch rfl (ob_assign (arg_op 1 0 rfl rfl rfl rfl)) ?_
        refine ch_nil ?_
        intro a112 w113 hf114 hg115 hk116 hn117
        have h118 : Holds _ (a112.eval (.tmp 5)) w113 := hn117.at 2 0 rfl rfl rfl
        have h119 : Holds _ (a112.eval (.tmp 1)) w113 := hk116.holds rfl (h105.up hg115)
        have h120 : Holds _ (a112.eval (.tmp 0)) w54 := hk116.holds rfl h106
        have g121 : Grow w0 w113 := g108.trans hg115
        have g122 : Grow w30 w113 := g109.trans hg115
        have g123 : Grow w54 w113 := g110.trans hg115
        have kk124 : Keep _ a29 a112 := kk111.trans hk116 rfl
        clear h105 h106 g108 g109 g110 kk111 hf101 hk116 hn117 hg115
        refine blockN ?_
        refine then_ ?_
        have hs := dep_left (i := x.1) (n := x.2) (by omega) (by omega)
        exact ⟨((x.1, split x.2)), (by ((try dsimp only); omega)), hf114, (by ((try dsimp only); omega)), (by ((try dsimp only); omega)), (by ((try dsimp only); omega)), g121, g122, kk124, (is_cast h120 (by first | rfl | (refine congrArg intV ?_; (try dsimp only); omega))), (is_cast h119 (by first | rfl | (refine congrArg intV ?_; (try dsimp only); omega))), (is_cast h118 (by first | rfl | (refine congrArg intV ?_; (try dsimp only); omega)))⟩
      · intro hc98
        try simp only [cond_norm] at hc98
        refine wp_region_lit ?_
        refine wp_all [([0], []), ([6], []), ([], [0, 1]), ([1], []), ([6], []), ([], [3, 4]), ([], [2]), ([], [5])] [5] w54.heap.size hf85 g96.size (by kernel_rfl) (bund_cons (is_any h91) (bund_cons h90 (bund_cons (is_any h92) bund_nil))) ?_
        refine ch rfl (ob_move (arg_free 0 rfl rfl)) ?_
        refine ch rfl (ob_move (arg_free 1 rfl rfl)) ?_
        first
          | (refine ch rfl (ob_sub' (arg_op 0 1 rfl rfl rfl rfl) (arg_op 1 0 rfl rfl rfl rfl) ?_) ?_; · omega)
          | refine ch rfl (ob_sub (arg_op 0 1 rfl rfl rfl rfl) (arg_op 1 0 rfl rfl rfl rfl)) ?_
        refine ch rfl (ob_move (arg_free 2 rfl rfl)) ?_
        refine ch rfl (ob_move (arg_free 1 rfl rfl)) ?_
        first
          | (refine ch rfl (ob_sub' (arg_op 3 1 rfl rfl rfl rfl) (arg_op 4 0 rfl rfl rfl rfl) ?_) ?_; · omega)
          | refine ch rfl (ob_sub (arg_op 3 1 rfl rfl rfl rfl) (arg_op 4 0 rfl rfl rfl rfl)) ?_
        refine ch rfl (ob_assign (arg_op 2 3 rfl rfl rfl rfl)) ?_
        refine ch rfl (ob_assign (arg_op 5 1 rfl rfl rfl rfl)) ?_
        refine ch_nil ?_
        intro a125 w126 hf127 hg128 hk129 hn130
        have h131 : Holds _ (a125.eval (.tmp 0)) w126 := hn130.at 6 1 rfl rfl rfl
        have h132 : Holds _ (a125.eval (.tmp 1)) w126 := hn130.at 7 0 rfl rfl rfl
        have h133 : Holds _ (a125.eval (.tmp 5)) w54 := hk129.holds rfl h93
        have g134 : Grow w0 w126 := g94.trans hg128
        have g135 : Grow w30 w126 := g95.trans hg128
        have g136 : Grow w54 w126 := g96.trans hg128
        have kk137 : Keep _ a29 a125 := kk97.trans hk129 rfl
        clear h93 g94 g95 g96 kk97 hf85 hk129 hn130 hg128
        refine then_ ?_
        refine wp_region_lit ?_
        refine wp_all [([5], []), ([], [0]), ([], [1])] [0, 1] w54.heap.size hf127 g136.size (by kernel_rfl) (bund_cons (is_any h133) bund_nil) ?_
        refine ch rfl (ob_move (arg_free 0 rfl rfl)) ?_
        first
          | (refine ch rfl (ob_add' (arg_op 0 0 rfl rfl rfl rfl) arg_c ?_) ?_; · omega)
          | refine ch rfl (ob_add (arg_op 0 0 rfl rfl rfl rfl) arg_c) ?_
        refine ch rfl (ob_assign (arg_op 1 0 rfl rfl rfl rfl)) ?_
        refine ch_nil ?_
        intro a138 w139 hf140 hg141 hk142 hn143
        have h144 : Holds _ (a138.eval (.tmp 5)) w139 := hn143.at 2 0 rfl rfl rfl
        have h145 : Holds _ (a138.eval (.tmp 0)) w139 := hk142.holds rfl (h131.up hg141)
        have h146 : Holds _ (a138.eval (.tmp 1)) w139 := hk142.holds rfl (h132.up hg141)
        have g147 : Grow w0 w139 := g134.trans hg141
        have g148 : Grow w30 w139 := g135.trans hg141
        have g149 : Grow w54 w139 := g136.trans hg141
        have kk150 : Keep _ a29 a138 := kk137.trans hk142 rfl
        clear h131 h132 g134 g135 g136 kk137 hf127 hk142 hn143 hg141
        refine blockN ?_
        refine then_ ?_
        have hs := dep_right (i := x.1) (n := x.2) (by omega) (by omega)
        exact ⟨((x.1 - split x.2, x.2 - split x.2)), (by ((try dsimp only); omega)), hf140, (by ((try dsimp only); omega)), (by ((try dsimp only); omega)), (by ((try dsimp only); omega)), g147, g148, kk150, (is_cast h145 (by first | rfl | (refine congrArg intV ?_; (try dsimp only); omega))), (is_cast h146 (by first | rfl | (refine congrArg intV ?_; (try dsimp only); omega))), (is_cast h144 (by first | rfl | (refine congrArg intV ?_; (try dsimp only); omega)))⟩
    · intro hc66
      try simp only [cond_norm] at hc66
      have h0 := dep_one x.1 x.2 (by omega)
      refine wp_exit ?_
      refine thenX ?_
      refine thenX ?_
      refine blockX ?_
      refine then_ ?_
      refine wp_seq ?_
      refine wp_region_lit ?_
      refine wp_all [([5], []), ([], [0])] [] w30.heap.size hf55 g64.size (by kernel_rfl) (bund_cons h62 bund_nil) ?_
      refine ch rfl (ob_move (arg_free 0 rfl rfl)) ?_
      refine ch rfl (ob_assign (arg_op 0 0 rfl rfl rfl rfl)) ?_
      refine ch_nil ?_
      intro a151 w152 hf153 hg154 hk155 hn156
      have h157 : Holds _ (a151.eval (.tmp 4)) w152 := hn156.at 1 0 rfl rfl rfl
      have g158 : Grow w0 w152 := g63.trans hg154
      have g159 : Grow w30 w152 := g64.trans hg154
      clear g63 g64 hf55 hk155 hn156 hg154
      refine then_ ?_
      refine wp_ret ?_
      exact ret_tmp rfl hf153 g158 (is_cast h157 (congrArg intV (by first | exact (depI_no (by omega)).symm | (rw [depI_of (by omega)]; omega))))

set_option maxRecDepth 100000 in
theorem c_rDepth {i n : Int} (hi : -9223372036854775808 ≤ i) (hn : n ≤ 9223372036854775807) : Con2 57 (Is (intV i)) (Is (intV n)) (fun _ => Is (intV (depI i n))) := by
  intro lo v0 v1 w0 hlo hv0 hv1
  refine enter Try.func57 rfl Try.ntmps57 (by simp) ?_
  intro a0 hf0 ha
  have h00 : Holds _ (a0.eval (.tmp 0)) w0 := arg_holds ha rfl hv0
  have h01 : Holds _ (a0.eval (.tmp 1)) w0 := arg_holds ha rfl hv1
  clear ha
  have g0 : Grow w0 w0 := Grow.refl _
  refine wp_seq ?_
  refine wp_region_lit ?_
  refine wp_all [([], [])] [0, 1] w0.heap.size hf0 g0.size (by kernel_rfl) bund_nil ?_
  refine ch rfl (ob_assign arg_c) ?_
  refine ch_nil ?_
  intro a1 w2 hf3 hg4 hk5 hn6
  have h7 : Holds _ (a1.eval (.tmp 0)) w0 := hk5.holds rfl h00
  have h8 : Holds _ (a1.eval (.tmp 1)) w0 := hk5.holds rfl h01
  have g9 : Grow w0 w2 := g0.trans hg4
  clear h00 h01 g0 hf0 hk5 hn6
  refine then_ ?_
  refine wp_seq ?_
  refine wp_seq ?_
  refine wp_region_lit ?_
  refine wp_all [([0], []), ([], [0]), ([], [1]), ([0], [2]), ([1], [2]), ([], [3, 4, 2]), ([], [2, 5])] [0, 1] w0.heap.size hf3 g9.size (by kernel_rfl) (bund_cons (is_any h7) (bund_cons (is_any h8) bund_nil)) ?_
  refine ch rfl (ob_move (arg_free 0 rfl rfl)) ?_
  refine ch rfl (ob_lss (arg_op 0 0 rfl rfl rfl rfl) arg_c) ?_
  refine ch rfl (ob_move (arg_op 1 0 rfl rfl rfl rfl)) ?_
  refine chg (b := _) rfl rfl (arg_op 2 0 rfl rfl rfl rfl) (fun hb2 => ob_move (arg_free 0 rfl rfl)) ?_
  refine chg (b := _) rfl rfl (arg_op 2 1 rfl rfl rfl rfl) (fun hb2 => ob_move (arg_free 1 rfl rfl)) ?_
  refine chg (b := _) rfl rfl (arg_op 2 2 rfl rfl rfl rfl) (fun hb2 => ob_geq (ArgOK.when (arg_op 3 1 rfl rfl rfl rfl) hb2) (ArgOK.when (arg_op 4 0 rfl rfl rfl rfl) hb2)) ?_
  refine ch rfl (ob_or (arg_op 2 3 rfl rfl rfl rfl) (arg_op 5 0 rfl rfl rfl rfl)) ?_
  refine ch_nil ?_
  intro a10 w11 hf12 hg13 hk14 hn15
  have h16 : Holds _ (a10.eval (.tmp 13)) w11 := hn15.at 6 0 rfl rfl rfl
  have h17 : Holds _ (a10.eval (.tmp 0)) w0 := hk14.holds rfl h7
  have h18 : Holds _ (a10.eval (.tmp 1)) w0 := hk14.holds rfl h8
  have g19 : Grow w0 w11 := g9.trans hg13
  clear h7 h8 g9 hf3 hk14 hn15 hg13
  refine then_ ?_
  refine wp_if h16 ?_ ?_
  · intro hc20
    try simp only [cond_norm] at hc20
    refine wp_seq ?_
    refine wp_region_lit ?_
    refine wp_all [([], [])] [] w0.heap.size hf12 g19.size (by kernel_rfl) bund_nil ?_
    refine ch rfl (ob_assign arg_c) ?_
    refine ch_nil ?_
    intro a21 w22 hf23 hg24 hk25 hn26
    have h27 : Holds _ (a21.eval (.tmp 4)) w22 := hn26.at 0 0 rfl rfl rfl
    have g28 : Grow w0 w22 := g19.trans hg24
    clear g19 hf12 hk25 hn26 hg24
    refine then_ ?_
    refine wp_ret ?_
    refine thenR ?_
    exact ret_tmp rfl hf23 g28 (is_cast h27 (congrArg intV (by first | exact (depI_no (by omega)).symm | (rw [depI_of (by omega)]; omega))))
  · intro hc20
    try simp only [cond_norm] at hc20
    refine wp_skip ?_
    refine then_ ?_
    refine wp_seq ?_
    refine wp_region_lit ?_
    refine wp_all [([], [])] [0, 1] w0.heap.size hf12 g19.size (by kernel_rfl) bund_nil ?_
    refine ch rfl (ob_assign arg_c) ?_
    refine ch_nil ?_
    intro a29 w30 hf31 hg32 hk33 hn34
    have h35 : Holds _ (a29.eval (.tmp 5)) w30 := hn34.at 0 0 rfl rfl rfl
    have h36 : Holds _ (a29.eval (.tmp 0)) w0 := hk33.holds rfl h17
    have h37 : Holds _ (a29.eval (.tmp 1)) w0 := hk33.holds rfl h18
    have g38 : Grow w0 w30 := g19.trans hg32
    clear h17 h18 g19 hf12 hk33 hn34 hg32
    refine then_ ?_
    refine wp_seq ?_
    refine wp_block ?_
    have g39 : Grow w30 w30 := Grow.refl _
    have hz40 : w0.heap.size ≤ w30.heap.size := g38.size
    refine wp_loopL (α := Nat × Nat) (fun x a' w' => Fr 31 a' ∧ (x.1 < x.2) ∧ ((x.2 : Int) ≤ n) ∧ (dep x.1 x.2 ≤ dep i.toNat n.toNat) ∧ Grow w0 w' ∧ Grow w30 w' ∧ Keep [] a29 a' ∧ Holds (Is (intV (x.1 : Int))) (a'.eval (.tmp 0)) w' ∧ Holds (Is (intV (x.2 : Int))) (a'.eval (.tmp 1)) w' ∧ Holds (Is (intV (((dep i.toNat n.toNat - dep x.1 x.2 : Nat)) : Int))) (a'.eval (.tmp 5)) w') (fun x => x.2) ((i.toNat, n.toNat)) ⟨hf31, (by ((try dsimp only); omega)), (by ((try dsimp only); omega)), (by ((try dsimp only); omega)), g38, g39, Keep.refl _ _, (is_cast h36 (by first | rfl | (refine congrArg intV ?_; (try dsimp only); omega))), (is_cast h37 (by first | rfl | (refine congrArg intV ?_; (try dsimp only); omega))), (is_cast h35 (by first | rfl | (refine congrArg intV ?_; (try dsimp only); omega)))⟩ ?_
    intro x a41 w42 ⟨hf43, hi45, hi46, hi47, g48, g49, kk44, h50, h51, h52⟩
    refine wp_seq ?_
    refine wp_seq ?_
    refine wp_region_lit ?_
    refine wp_all [([1], []), ([], [0])] [0, 1, 5] w30.heap.size hf43 g49.size (by kernel_rfl) (bund_cons h51 bund_nil) ?_
    refine ch rfl (ob_move (arg_free 0 rfl rfl)) ?_
    refine ch rfl (ob_gtr (arg_op 0 0 rfl rfl rfl rfl) arg_c) ?_
    refine ch_nil ?_
    intro a53 w54 hf55 hg56 hk57 hn58
    have h59 : Holds _ (a53.eval (.tmp 15)) w54 := hn58.at 1 0 rfl rfl rfl
    have h60 : Holds _ (a53.eval (.tmp 0)) w54 := hk57.holds rfl (h50.up hg56)
    have h61 : Holds _ (a53.eval (.tmp 1)) w54 := hk57.holds rfl (h51.up hg56)
    have h62 : Holds _ (a53.eval (.tmp 5)) w54 := hk57.holds rfl (h52.up hg56)
    have g63 : Grow w0 w54 := g48.trans hg56
    have g64 : Grow w30 w54 := g49.trans hg56
    have kk65 : Keep _ a29 a53 := kk44.trans hk57 rfl
    clear h50 h51 h52 g48 g49 kk44 hf43 hk57 hn58 hg56
    refine then_ ?_
    refine wp_if h59 ?_ ?_
    · intro hc66
      try simp only [cond_norm] at hc66
      refine wp_skip ?_
      refine then_ ?_
      refine wp_block ?_
      refine wp_seq ?_
      have hb := split_bound (n := x.2) (by omega)
      have hD := dep_lt n.toNat i.toNat n.toNat (Nat.le_refl _) (by omega)
      have g67 : Grow w54 w54 := Grow.refl _
      have hz68 : w30.heap.size ≤ w54.heap.size := g64.size
      refine wp_region_lit ?_
      refine wp_all [([1], []), ([], [0]), ([], [1])] [0, 1, 5] w54.heap.size hf55 g67.size (by kernel_rfl) (bund_cons h61 bund_nil) ?_
      refine ch rfl (ob_move (arg_free 0 rfl rfl)) ?_
      refine ch rfl (ob_call1 (by kernel_rfl) (c_rsplit (n := x.2) ?_ ?_) (arg_op 0 0 rfl rfl rfl rfl)) ?_
      · omega
      · rfl
      refine ch rfl (ob_assign (arg_op 1 0 rfl rfl rfl rfl)) ?_
      refine ch_nil ?_
      intro a69 w70 hf71 hg72 hk73 hn74
      have h75 : Holds _ (a69.eval (.tmp 6)) w70 := hn74.at 2 0 rfl rfl rfl
      have h76 : Holds _ (a69.eval (.tmp 0)) w54 := hk73.holds rfl h60
      have h77 : Holds _ (a69.eval (.tmp 1)) w54 := hk73.holds rfl h61
      have h78 : Holds _ (a69.eval (.tmp 5)) w54 := hk73.holds rfl h62
      have g79 : Grow w0 w70 := g63.trans hg72
      have g80 : Grow w30 w70 := g64.trans hg72
      have g81 : Grow w54 w70 := g67.trans hg72
      have kk82 : Keep _ a29 a69 := kk65.trans hk73 rfl
      clear h60 h61 h62 g63 g64 g67 kk65 hf55 hk73 hn74
      refine then_ ?_
      refine wp_seq ?_
      refine wp_seq ?_
      refine wp_region_lit ?_
      refine wp_all [([0], []), ([6], []), ([], [0, 1])] [0, 1, 5, 6] w54.heap.size hf71 g81.size (by kernel_rfl) (bund_cons (is_any h76) (bund_cons h75 bund_nil)) ?_
      refine ch rfl (ob_move (arg_free 0 rfl rfl)) ?_
      refine ch rfl (ob_move (arg_free 1 rfl rfl)) ?_
      refine ch rfl (ob_lss (arg_op 0 1 rfl rfl rfl rfl) (arg_op 1 0 rfl rfl rfl rfl)) ?_
      refine ch_nil ?_
      intro a83 w84 hf85 hg86 hk87 hn88
      have h89 : Holds _ (a83.eval (.tmp 20)) w84 := hn88.at 2 0 rfl rfl rfl
      have h90 : Holds _ (a83.eval (.tmp 6)) w84 := hk87.holds rfl (h75.up hg86)
      have h91 : Holds _ (a83.eval (.tmp 0)) w54 := hk87.holds rfl h76
      have h92 : Holds _ (a83.eval (.tmp 1)) w54 := hk87.holds rfl h77
      have h93 : Holds _ (a83.eval (.tmp 5)) w54 := hk87.holds rfl h78
      have g94 : Grow w0 w84 := g79.trans hg86
      have g95 : Grow w30 w84 := g80.trans hg86
      have g96 : Grow w54 w84 := g81.trans hg86
      have kk97 : Keep _ a29 a83 := kk82.trans hk87 rfl
      clear h75 h76 h77 h78 g79 g80 g81 kk82 hf71 hk87 hn88 hg86
      refine then_ ?_
      refine wp_if h89 ?_ ?_
      · intro hc98
        try simp only [cond_norm] at hc98
        refine wp_region_lit ?_
        refine wp_all [([6], []), ([], [0])] [0, 5] w54.heap.size hf85 g96.size (by kernel_rfl) (bund_cons h90 bund_nil) ?_
        refine ch rfl (ob_move (arg_free 0 rfl rfl)) ?_
        refine ch rfl (ob_assign (arg_op 0 0 rfl rfl rfl rfl)) ?_
        refine ch_nil ?_
        intro a99 w100 hf101 hg102 hk103 hn104
        have h105 : Holds _ (a99.eval (.tmp 1)) w100 := hn104.at 1 0 rfl rfl rfl
        have h106 : Holds _ (a99.eval (.tmp 0)) w54 := hk103.holds rfl h91
        have h107 : Holds _ (a99.eval (.tmp 5)) w54 := hk103.holds rfl h93
        have g108 : Grow w0 w100 := g94.trans hg102
        have g109 : Grow w30 w100 := g95.trans hg102
        have g110 : Grow w54 w100 := g96.trans hg102
        have kk111 : Keep _ a29 a99 := kk97.trans hk103 rfl
        clear h91 h93 g94 g95 g96 kk97 hf85 hk103 hn104 hg102
        refine then_ ?_
        refine wp_region_lit ?_
        refine wp_all [([5], []), ([], [0]), ([], [1])] [0, 1] w54.heap.size hf101 g110.size (by kernel_rfl) (bund_cons (is_any h107) bund_nil) ?_
        refine ch rfl (ob_move (arg_free 0 rfl rfl)) ?_
        first
          | (refine ch rfl (ob_add' (arg_op 0 0 rfl rfl rfl rfl) arg_c ?_) ?_; · omega)
          | refine ch rfl (ob_add (arg_op 0 0 rfl rfl rfl rfl) arg_c) ?_
        refine ch rfl (ob_assign (arg_op 1 0 rfl rfl rfl rfl)) ?_
        refine ch_nil ?_
        intro a112 w113 hf114 hg115 hk116 hn117
        have h118 : Holds _ (a112.eval (.tmp 5)) w113 := hn117.at 2 0 rfl rfl rfl
        have h119 : Holds _ (a112.eval (.tmp 1)) w113 := hk116.holds rfl (h105.up hg115)
        have h120 : Holds _ (a112.eval (.tmp 0)) w54 := hk116.holds rfl h106
        have g121 : Grow w0 w113 := g108.trans hg115
        have g122 : Grow w30 w113 := g109.trans hg115
        have g123 : Grow w54 w113 := g110.trans hg115
        have kk124 : Keep _ a29 a112 := kk111.trans hk116 rfl
        clear h105 h106 g108 g109 g110 kk111 hf101 hk116 hn117 hg115
        refine blockN ?_
        refine then_ ?_
        have hs := dep_left (i := x.1) (n := x.2) (by omega) (by omega)
        exact ⟨((x.1, split x.2)), (by ((try dsimp only); omega)), hf114, (by ((try dsimp only); omega)), (by ((try dsimp only); omega)), (by ((try dsimp only); omega)), g121, g122, kk124, (is_cast h120 (by first | rfl | (refine congrArg intV ?_; (try dsimp only); omega))), (is_cast h119 (by first | rfl | (refine congrArg intV ?_; (try dsimp only); omega))), (is_cast h118 (by first | rfl | (refine congrArg intV ?_; (try dsimp only); omega)))⟩
      · intro hc98
        try simp only [cond_norm] at hc98
        refine wp_region_lit ?_
        refine wp_all [([0], []), ([6], []), ([], [0, 1]), ([1], []), ([6], []), ([], [3, 4]), ([], [2]), ([], [5])] [5] w54.heap.size hf85 g96.size (by kernel_rfl) (bund_cons (is_any h91) (bund_cons h90 (bund_cons (is_any h92) bund_nil))) ?_
        refine ch rfl (ob_move (arg_free 0 rfl rfl)) ?_
        refine ch rfl (ob_move (arg_free 1 rfl rfl)) ?_
        first
          | (refine ch rfl (ob_sub' (arg_op 0 1 rfl rfl rfl rfl) (arg_op 1 0 rfl rfl rfl rfl) ?_) ?_; · omega)
          | refine ch rfl (ob_sub (arg_op 0 1 rfl rfl rfl rfl) (arg_op 1 0 rfl rfl rfl rfl)) ?_
        refine ch rfl (ob_move (arg_free 2 rfl rfl)) ?_
        refine ch rfl (ob_move (arg_free 1 rfl rfl)) ?_
        first
          | (refine ch rfl (ob_sub' (arg_op 3 1 rfl rfl rfl rfl) (arg_op 4 0 rfl rfl rfl rfl) ?_) ?_; · omega)
          | refine ch rfl (ob_sub (arg_op 3 1 rfl rfl rfl rfl) (arg_op 4 0 rfl rfl rfl rfl)) ?_
        refine ch rfl (ob_assign (arg_op 2 3 rfl rfl rfl rfl)) ?_
        refine ch rfl (ob_assign (arg_op 5 1 rfl rfl rfl rfl)) ?_
        refine ch_nil ?_
        intro a125 w126 hf127 hg128 hk129 hn130
        have h131 : Holds _ (a125.eval (.tmp 0)) w126 := hn130.at 6 1 rfl rfl rfl
        have h132 : Holds _ (a125.eval (.tmp 1)) w126 := hn130.at 7 0 rfl rfl rfl
        have h133 : Holds _ (a125.eval (.tmp 5)) w54 := hk129.holds rfl h93
        have g134 : Grow w0 w126 := g94.trans hg128
        have g135 : Grow w30 w126 := g95.trans hg128
        have g136 : Grow w54 w126 := g96.trans hg128
        have kk137 : Keep _ a29 a125 := kk97.trans hk129 rfl
        clear h93 g94 g95 g96 kk97 hf85 hk129 hn130 hg128
        refine then_ ?_
        refine wp_region_lit ?_
        refine wp_all [([5], []), ([], [0]), ([], [1])] [0, 1] w54.heap.size hf127 g136.size (by kernel_rfl) (bund_cons (is_any h133) bund_nil) ?_
        refine ch rfl (ob_move (arg_free 0 rfl rfl)) ?_
        first
          | (refine ch rfl (ob_add' (arg_op 0 0 rfl rfl rfl rfl) arg_c ?_) ?_; · omega)
          | refine ch rfl (ob_add (arg_op 0 0 rfl rfl rfl rfl) arg_c) ?_
        refine ch rfl (ob_assign (arg_op 1 0 rfl rfl rfl rfl)) ?_
        refine ch_nil ?_
        intro a138 w139 hf140 hg141 hk142 hn143
        have h144 : Holds _ (a138.eval (.tmp 5)) w139 := hn143.at 2 0 rfl rfl rfl
        have h145 : Holds _ (a138.eval (.tmp 0)) w139 := hk142.holds rfl (h131.up hg141)
        have h146 : Holds _ (a138.eval (.tmp 1)) w139 := hk142.holds rfl (h132.up hg141)
        have g147 : Grow w0 w139 := g134.trans hg141
        have g148 : Grow w30 w139 := g135.trans hg141
        have g149 : Grow w54 w139 := g136.trans hg141
        have kk150 : Keep _ a29 a138 := kk137.trans hk142 rfl
        clear h131 h132 g134 g135 g136 kk137 hf127 hk142 hn143 hg141
        refine blockN ?_
        refine then_ ?_
        have hs := dep_right (i := x.1) (n := x.2) (by omega) (by omega)
        exact ⟨((x.1 - split x.2, x.2 - split x.2)), (by ((try dsimp only); omega)), hf140, (by ((try dsimp only); omega)), (by ((try dsimp only); omega)), (by ((try dsimp only); omega)), g147, g148, kk150, (is_cast h145 (by first | rfl | (refine congrArg intV ?_; (try dsimp only); omega))), (is_cast h146 (by first | rfl | (refine congrArg intV ?_; (try dsimp only); omega))), (is_cast h144 (by first | rfl | (refine congrArg intV ?_; (try dsimp only); omega)))⟩
    · intro hc66
      try simp only [cond_norm] at hc66
      have h0 := dep_one x.1 x.2 (by omega)
      refine wp_exit ?_
      refine thenX ?_
      refine thenX ?_
      refine blockX ?_
      refine then_ ?_
      refine wp_seq ?_
      refine wp_region_lit ?_
      refine wp_all [([5], []), ([], [0])] [] w30.heap.size hf55 g64.size (by kernel_rfl) (bund_cons h62 bund_nil) ?_
      refine ch rfl (ob_move (arg_free 0 rfl rfl)) ?_
      refine ch rfl (ob_assign (arg_op 0 0 rfl rfl rfl rfl)) ?_
      refine ch_nil ?_
      intro a151 w152 hf153 hg154 hk155 hn156
      have h157 : Holds _ (a151.eval (.tmp 4)) w152 := hn156.at 1 0 rfl rfl rfl
      have g158 : Grow w0 w152 := g63.trans hg154
      have g159 : Grow w30 w152 := g64.trans hg154
      clear g63 g64 hf55 hk155 hn156 hg154
      refine then_ ?_
      refine wp_ret ?_
      exact ret_tmp rfl hf153 g158 (is_cast h157 (congrArg intV (by first | exact (depI_no (by omega)).symm | (rw [depI_of (by omega)]; omega))))

set_option maxRecDepth 100000 in
theorem c_single {x : UInt64} : Con1 116 (Is (nmV x)) (fun _ => Is (nmV (single x))) := by
  intro lo v0 w0 hlo hv0
  refine enter Try.func116 rfl Try.ntmps116 (by simp) ?_
  intro a0 hf0 ha
  have h00 : Holds _ (a0.eval (.tmp 0)) w0 := arg_holds ha rfl hv0
  clear ha
  have g0 : Grow w0 w0 := Grow.refl _
  refine wp_seq ?_
  refine wp_region_lit ?_
  refine wp_seg (l1 := [_]) [([0], [])] [] w0.heap.size hf0 g0.size (by kernel_rfl) (bund_cons h00 bund_nil) ?_
  refine ch rfl (ob_box_nm (arg_free 0 rfl rfl)) ?_
  refine ch_nil ?_
  intro a1 w2 hf3 hg4 hk5 hn6
  have h7 : Holds _ (a1.eval (.tmp 1)) w2 := hn6.at 0 0 rfl rfl rfl
  have g8 : Grow w0 w2 := g0.trans hg4
  obtain ⟨bk9, hl10, hv11, hb12⟩ := OwnB.blk (lo := w0.heap.size) h7
  clear g0 hf0 hk5 hn6
  have g13 : Grow w2 w2 := Grow.refl _
  have hl14 : bk9 < w2.heap.size := hb12.lt
  have hz15 : w0.heap.size ≤ w2.heap.size := g8.size
  refine wp_all [([], [])] [1] w2.heap.size hf3 g13.size (by kernel_rfl) bund_nil ?_
  refine ch rfl (ob_alloc_nm) ?_
  refine ch_nil ?_
  intro a16 w17 hf18 hg19 hk20 hn21
  have h22 : Holds _ (a16.eval (.tmp 2)) w17 := hn21.at 0 0 rfl rfl rfl
  have hv23 : Holds (Is (PtrV bk9)) (a16.eval (.tmp 1)) w17 := is_any (hk20.holds rfl hv11)
  have hb24 : Blk bk9 _ w17 := hb12.up hg19
  have g25 : Grow w0 w17 := g8.trans hg19
  have g26 : Grow w2 w17 := g13.trans hg19
  obtain ⟨bk27, hl28, hv29, hb30⟩ := OwnB.blk (lo := w2.heap.size) h22
  clear hv11 hb12 g8 g13 hf3 hk20 hn21
  refine then_ ?_
  refine wp_seq ?_
  have g31 : Grow w17 w17 := Grow.refl _
  have hl32 : bk9 < w17.heap.size := hb24.lt
  have hl33 : bk27 < w17.heap.size := hb30.lt
  have hz34 : w2.heap.size ≤ w17.heap.size := g26.size
  refine wp_region_lit ?_
  refine wp_seg (l1 := [_, _]) [([1], []), ([], [0])] [2] w17.heap.size hf18 g31.size (by kernel_rfl) (bund_cons (hb24.ownp hv23) bund_nil) ?_
  refine ch rfl (ob_slice_nmF (ArgOK.ownp (arg_free 0 rfl rfl))) ?_
  refine ch rfl (ob_call2 (by kernel_rfl) (c_Tagged ?_) (arg_cb 17 rfl) (ArgOK.fsl (arg_op 0 0 rfl rfl rfl rfl))) ?_
  · ((try simp only [List.length_append, List.length_cons, List.length_nil, nmBytes_len, List.length_take, List.length_drop, flat_len]); omega)
  refine ch_nil ?_
  intro a35 w36 hf37 hg38 hk39 hn40
  have h41 : Holds _ (a35.eval (.tmp 4)) w36 := hn40.at 1 0 rfl rfl rfl
  have hv42 : Holds (Is (PtrV bk27)) (a35.eval (.tmp 2)) w36 := is_any (hk39.holds rfl hv29)
  have hb43 : Blk bk27 _ w36 := hb30.up hg38
  have g44 : Grow w0 w36 := g25.trans hg38
  have g45 : Grow w2 w36 := g26.trans hg38
  have g46 : Grow w17 w36 := g31.trans hg38
  clear hv29 hb30 g25 g26 g31 hf18 hk39 hn40
  refine wl_store_nm hv42 hb43 rfl h41 ?_
  intro w47 ho48 hb49
  have g50 : Grow w0 w47 := g44.only ho48 (by omega)
  have g51 : Grow w2 w47 := g45.only ho48 (by omega)
  have hv52 : Holds (Is (PtrV bk27)) (a35.eval (.tmp 2)) w47 := is_any hv42
  refine wpList_nil ?_
  refine then_ ?_
  refine wp_ret ?_
  refine ret_cell rfl Try.underlying23 rfl (by kernel_rfl) hf37 g50 (hb49.ptr hv52) ?_
  exact rfl

set_option maxRecDepth 100000 in
theorem c_Root_step {l : List UInt64} (hl : l.length ≤ 9223372036854775807) (ih : ∀ m : List UInt64, m.length < l.length → Con1 64 (Sl elNm m) (fun _ => Is (nmV (root m)))) : Con1 64 (Sl elNm l) (fun _ => Is (nmV (root l))) := by
  intro lo v0 w0 hlo hv0
  refine enter Try.func64 rfl Try.ntmps64 (by simp) ?_
  intro a0 hf0 ha
  have h00 : Holds (Is v0) (a0.eval (.tmp 0)) w0 := arg_holds ha rfl rfl
  clear ha
  have g0 : Grow w0 w0 := Grow.refl _
  refine wp_seq ?_
  refine wp_region_lit ?_
  refine wp_all [([], [])] [0] w0.heap.size hf0 g0.size (by kernel_rfl) bund_nil ?_
  refine ch rfl (ob_alloc_nm) ?_
  refine ch_nil ?_
  intro a1 w2 hf3 hg4 hk5 hn6
  have h7 : Holds _ (a1.eval (.tmp 2)) w2 := hn6.at 0 0 rfl rfl rfl
  have h8 : Holds _ (a1.eval (.tmp 0)) w0 := hk5.holds rfl h00
  have g9 : Grow w0 w2 := g0.trans hg4
  obtain ⟨bk10, hl11, hv12, hb13⟩ := OwnB.blk (lo := w0.heap.size) h7
  clear h00 g0 hf0 hk5 hn6
  refine then_ ?_
  refine wp_seq ?_
  refine wp_seq ?_
  refine wp_region_lit ?_
  refine wp_all [([0], []), ([], [0])] [0, 2] w0.heap.size hf3 g9.size (by kernel_rfl) (bund_cons (is_any h8) bund_nil) ?_
  refine ch rfl (ob_move (arg_free 0 rfl rfl)) ?_
  refine ch rfl (ob_len (ArgOK.val (arg_op 0 0 rfl rfl rfl rfl) (hv0.up g9)) Try.underlying39) ?_
  refine ch_nil ?_
  intro a14 w15 hf16 hg17 hk18 hn19
  have h20 : Holds _ (a14.eval (.tmp 5)) w15 := hn19.at 1 0 rfl rfl rfl
  have h21 : Holds _ (a14.eval (.tmp 0)) w0 := hk18.holds rfl h8
  have hv22 : Holds (Is (PtrV bk10)) (a14.eval (.tmp 2)) w15 := is_any (hk18.holds rfl hv12)
  have hb23 : Blk bk10 _ w15 := hb13.up hg17
  have g24 : Grow w0 w15 := g9.trans hg17
  clear h8 hv12 hb13 g9 hf3 hk18 hn19 hg17
  refine then_ ?_
  refine wp_block ?_
  refine wp_seq ?_
  refine wp_region_lit ?_
  refine wp_all [([5], []), ([], [0])] [0, 2, 5] w0.heap.size hf16 g24.size (by kernel_rfl) (bund_cons h20 bund_nil) ?_
  refine ch rfl (ob_eql (arg_free 0 rfl rfl) arg_c) ?_
  refine ch rfl (ob_assign (arg_op 0 0 rfl rfl rfl rfl)) ?_
  refine ch_nil ?_
  intro a25 w26 hf27 hg28 hk29 hn30
  have h31 : Holds _ (a25.eval (.tmp 6)) w26 := hn30.at 1 0 rfl rfl rfl
  have h32 : Holds _ (a25.eval (.tmp 5)) w26 := hk29.holds rfl (h20.up hg28)
  have h33 : Holds _ (a25.eval (.tmp 0)) w0 := hk29.holds rfl h21
  have hv34 : Holds (Is (PtrV bk10)) (a25.eval (.tmp 2)) w26 := is_any (hk29.holds rfl hv22)
  have hb35 : Blk bk10 _ w26 := hb23.up hg28
  have g36 : Grow w0 w26 := g24.trans hg28
  clear h20 h21 hv22 hb23 g24 hf16 hk29 hn30 hg28
  refine then_ ?_
  refine wp_if h31 ?_ ?_
  · intro hc37
    try simp only [cond_norm] at hc37
    refine wp_seq ?_
    have g38 : Grow w26 w26 := Grow.refl _
    have hl39 : bk10 < w26.heap.size := hb35.lt
    have hz40 : w0.heap.size ≤ w26.heap.size := g36.size
    refine wp_region_lit ?_
    refine wp_seg (l1 := [_]) [([], [])] [2] w26.heap.size hf27 g38.size (by kernel_rfl) bund_nil ?_
    refine ch rfl (ob_call2 (by kernel_rfl) (c_Tagged ?_) (arg_cb 16 rfl) (arg_cg (fun w => sl_nil))) ?_
    · ((try simp only [List.length_append, List.length_cons, List.length_nil, nmBytes_len, List.length_take, List.length_drop, flat_len]); omega)
    refine ch_nil ?_
    intro a41 w42 hf43 hg44 hk45 hn46
    have h47 : Holds _ (a41.eval (.tmp 8)) w42 := hn46.at 0 0 rfl rfl rfl
    have hv48 : Holds (Is (PtrV bk10)) (a41.eval (.tmp 2)) w42 := is_any (hk45.holds rfl hv34)
    have hb49 : Blk bk10 _ w42 := hb35.up hg44
    have g50 : Grow w0 w42 := g36.trans hg44
    have g51 : Grow w26 w42 := g38.trans hg44
    clear hv34 hb35 g36 g38 hf27 hk45 hn46
    refine wl_store_nm hv48 hb49 rfl h47 ?_
    intro w52 ho53 hb54
    have g55 : Grow w0 w52 := g50.only ho53 (by omega)
    have hv56 : Holds (Is (PtrV bk10)) (a41.eval (.tmp 2)) w52 := is_any hv48
    refine wpList_nil ?_
    refine then_ ?_
    refine wp_ret ?_
    refine blockR ?_
    refine thenR ?_
    refine ret_cell rfl Try.underlying23 rfl (by kernel_rfl) hf43 g55 (hb54.ptr hv56) ?_
    exact congrArg nmV (root_zero (by omega)).symm
  · intro hc37
    try simp only [cond_norm] at hc37
    refine wp_seq ?_
    refine wp_region_lit ?_
    refine wp_all [([5], []), ([], [0])] [0, 2] w0.heap.size hf27 g36.size (by kernel_rfl) (bund_cons h32 bund_nil) ?_
    refine ch rfl (ob_eql (arg_free 0 rfl rfl) arg_c) ?_
    refine ch rfl (ob_assign (arg_op 0 0 rfl rfl rfl rfl)) ?_
    refine ch_nil ?_
    intro a57 w58 hf59 hg60 hk61 hn62
    have h63 : Holds _ (a57.eval (.tmp 9)) w58 := hn62.at 1 0 rfl rfl rfl
    have h64 : Holds _ (a57.eval (.tmp 0)) w0 := hk61.holds rfl h33
    have hv65 : Holds (Is (PtrV bk10)) (a57.eval (.tmp 2)) w58 := is_any (hk61.holds rfl hv34)
    have hb66 : Blk bk10 _ w58 := hb35.up hg60
    have g67 : Grow w0 w58 := g36.trans hg60
    clear h33 hv34 hb35 g36 hf27 hk61 hn62 hg60
    refine then_ ?_
    refine wp_if h63 ?_ ?_
    · intro hc68
      try simp only [cond_norm] at hc68
      refine wp_seq ?_
      have g69 : Grow w58 w58 := Grow.refl _
      have hl70 : bk10 < w58.heap.size := hb66.lt
      have hz71 : w0.heap.size ≤ w58.heap.size := g67.size
      refine wp_region_lit ?_
      refine wp_seg (l1 := [_, _, _, _]) [([0], []), ([], [0]), ([], [1]), ([], [2])] [2] w58.heap.size hf59 g69.size (by kernel_rfl) (bund_cons (is_any h64) bund_nil) ?_
      refine ch rfl (ob_move (arg_free 0 rfl rfl)) ?_
      refine ch rfl (ob_ix (ArgOK.val (arg_op 0 0 rfl rfl rfl rfl) (hv0.up g67)) arg_c (show (0 : Int) = ((0 : Nat) : Int) from rfl) ?_ Try.underlying39 szNm) ?_
      · omega
      refine ch rfl (ob_load_nm (arg_op 1 0 rfl rfl rfl rfl)) ?_
      refine ch rfl (ob_call1 (by kernel_rfl) (c_single) (arg_op 2 0 rfl rfl rfl rfl)) ?_
      refine ch_nil ?_
      intro a72 w73 hf74 hg75 hk76 hn77
      have h78 : Holds _ (a72.eval (.tmp 14)) w73 := hn77.at 3 0 rfl rfl rfl
      have hv79 : Holds (Is (PtrV bk10)) (a72.eval (.tmp 2)) w73 := is_any (hk76.holds rfl hv65)
      have hb80 : Blk bk10 _ w73 := hb66.up hg75
      have g81 : Grow w0 w73 := g67.trans hg75
      have g82 : Grow w58 w73 := g69.trans hg75
      clear hv65 hb66 g67 g69 hf59 hk76 hn77
      refine wl_store_nm hv79 hb80 rfl h78 ?_
      intro w83 ho84 hb85
      have g86 : Grow w0 w83 := g81.only ho84 (by omega)
      have hv87 : Holds (Is (PtrV bk10)) (a72.eval (.tmp 2)) w83 := is_any hv79
      refine wpList_nil ?_
      refine then_ ?_
      refine wp_ret ?_
      refine blockR ?_
      refine thenR ?_
      refine ret_cell rfl Try.underlying23 rfl (by kernel_rfl) hf74 g86 (hb85.ptr hv87) ?_
      exact congrArg nmV (root_one (by omega)).symm
    · intro hc68
      try simp only [cond_norm] at hc68
      refine wp_skip ?_
      refine blockN ?_
      refine then_ ?_
      refine wp_seq ?_
      have g88 : Grow w58 w58 := Grow.refl _
      have hl89 : bk10 < w58.heap.size := hb66.lt
      have hz90 : w0.heap.size ≤ w58.heap.size := g67.size
      refine wp_region_lit ?_
      refine wp_all [([0], []), ([], [0]), ([], [1]), ([], [2])] [0, 2] w58.heap.size hf59 g88.size (by kernel_rfl) (bund_cons (is_any h64) bund_nil) ?_
      refine ch rfl (ob_move (arg_free 0 rfl rfl)) ?_
      refine ch rfl (ob_len (ArgOK.val (arg_op 0 0 rfl rfl rfl rfl) (hv0.up g67)) Try.underlying39) ?_
      refine ch rfl (ob_call1 (by kernel_rfl) (c_split (n := l.length) ?_ ?_) (arg_op 1 0 rfl rfl rfl rfl)) ?_
      · omega
      · rfl
      refine ch rfl (ob_assign (arg_op 2 0 rfl rfl rfl rfl)) ?_
      refine ch_nil ?_
      intro a91 w92 hf93 hg94 hk95 hn96
      have h97 : Holds _ (a91.eval (.tmp 3)) w92 := hn96.at 3 0 rfl rfl rfl
      have h98 : Holds _ (a91.eval (.tmp 0)) w0 := hk95.holds rfl h64
      have hv99 : Holds (Is (PtrV bk10)) (a91.eval (.tmp 2)) w92 := is_any (hk95.holds rfl hv65)
      have hb100 : Blk bk10 _ w92 := hb66.up hg94
      have g101 : Grow w0 w92 := g67.trans hg94
      have g102 : Grow w58 w92 := g88.trans hg94
      clear h64 hv65 hb66 g67 g88 hf59 hk95 hn96
      refine then_ ?_
      refine wp_seq ?_
      have hb := split_bound (n := l.length) (by omega)
      have g103 : Grow w92 w92 := Grow.refl _
      have hl104 : bk10 < w92.heap.size := hb100.lt
      have hz105 : w58.heap.size ≤ w92.heap.size := g102.size
      refine wp_calm_tail (l1 := [_, _, _, _, _, _, _, _, _]) [0, 0, 3, 7, 0, 0, 48, 127, 255, 511] [([0], []), ([3], []), ([], [0, 1]), ([], [2]), ([0], []), ([3], []), ([], [4, 5]), ([], [6]), ([], [3, 7])] [2] w92.heap.size hf93 g103.size (by kernel_rfl) (bund_cons (is_any h98) (bund_cons h97 bund_nil)) ?_
      intro ws106 hs107
      refine ch rfl (ob_move (arg_free 0 rfl rfl)) ?_
      refine ch rfl (ob_move (arg_free 1 rfl rfl)) ?_
      refine ch rfl (ob_slice_to (ArgOK.val (arg_op 0 1 rfl rfl rfl rfl) ((hv0.up g101).up hs107)) (arg_op 1 0 rfl rfl rfl rfl) (rfl) ?_ Try.underlying39 szNm) ?_
      · omega
      refine ch rfl (ob_call1 (by kernel_rfl) (ih _ ?_) (arg_op 2 0 rfl rfl rfl rfl)) ?_
      · ((try simp only [List.length_take, List.length_drop, List.length_cons, List.length_nil]); omega)
      refine ch rfl (ob_move (arg_free 0 rfl rfl)) ?_
      refine ch rfl (ob_move (arg_free 1 rfl rfl)) ?_
      refine ch rfl (ob_slice_from (ArgOK.val (arg_op 4 1 rfl rfl rfl rfl) ((hv0.up g101).up hs107)) (arg_op 5 0 rfl rfl rfl rfl) (rfl) ?_ Try.underlying39 szNm) ?_
      · omega
      refine ch rfl (ob_call1 (by kernel_rfl) (ih _ ?_) (arg_op 6 0 rfl rfl rfl rfl)) ?_
      · ((try simp only [List.length_take, List.length_drop, List.length_cons, List.length_nil]); omega)
      refine ch rfl (ob_call3 (by kernel_rfl) (c_Pair) (arg_cb 18 rfl) (arg_op 3 4 rfl rfl rfl rfl) (arg_op 7 0 rfl rfl rfl rfl)) ?_
      refine ch_nil ?_
      intro a108 w109 hf110 hg111 hk112 hn113
      have h114 : Holds _ (a108.eval (.tmp 26)) w109 := hn113.at 8 0 rfl rfl rfl
      have hv115 : Holds (Is (PtrV bk10)) (a108.eval (.tmp 2)) w109 := is_any (hk112.holds rfl hv99)
      have hb116 : Blk bk10 _ w109 := hb100.up hg111
      have g117 : Grow w0 w109 := g101.trans hg111
      have g118 : Grow w58 w109 := g102.trans hg111
      have g119 : Grow w92 w109 := g103.trans hg111
      clear hv99 hb100 g101 g102 g103 hf93 hk112 hn113
      refine wl_store_nm hv115 hb116 rfl h114 ?_
      intro w120 ho121 hb122
      have g123 : Grow w0 w120 := g117.only ho121 (by omega)
      have hv124 : Holds (Is (PtrV bk10)) (a108.eval (.tmp 2)) w120 := is_any hv115
      refine wpList_nil ?_
      refine then_ ?_
      refine wp_ret ?_
      refine ret_cell rfl Try.underlying23 rfl (by kernel_rfl) hf110 g123 (hb122.ptr hv124) ?_
      exact congrArg nmV (root_two (by omega)).symm


theorem c_Root : ∀ {l : List UInt64} (_ : l.length ≤ 9223372036854775807), Con1 64 (Sl elNm l) (fun _ => Is (nmV (root l))) := by
  have key : ∀ (n : Nat) (l : List UInt64), l.length = n → n ≤ 9223372036854775807 → Con1 64 (Sl elNm l) (fun _ => Is (nmV (root l))) := by
    intro n
    induction n using Nat.strongRecOn with
    | _ n ih =>
      intro l hl hn
      exact c_Root_step (by omega) fun m hm => ih m.length (by omega) m rfl (by omega)
  intro l hl
  exact key l.length l rfl hl

set_option maxRecDepth 100000 in
theorem c_rRoot_step {l : List UInt64} (hl : l.length ≤ 9223372036854775807) (ih : ∀ m : List UInt64, m.length < l.length → Con1 68 (Sl elNm m) (fun _ => Is (nmV (root m)))) : Con1 68 (Sl elNm l) (fun _ => Is (nmV (root l))) := by
  intro lo v0 w0 hlo hv0
  refine enter Try.func68 rfl Try.ntmps68 (by simp) ?_
  intro a0 hf0 ha
  have h00 : Holds (Is v0) (a0.eval (.tmp 0)) w0 := arg_holds ha rfl rfl
  clear ha
  have g0 : Grow w0 w0 := Grow.refl _
  refine wp_seq ?_
  refine wp_region_lit ?_
  refine wp_all [([], [])] [0] w0.heap.size hf0 g0.size (by kernel_rfl) bund_nil ?_
  refine ch rfl (ob_alloc_nm) ?_
  refine ch_nil ?_
  intro a1 w2 hf3 hg4 hk5 hn6
  have h7 : Holds _ (a1.eval (.tmp 2)) w2 := hn6.at 0 0 rfl rfl rfl
  have h8 : Holds _ (a1.eval (.tmp 0)) w0 := hk5.holds rfl h00
  have g9 : Grow w0 w2 := g0.trans hg4
  obtain ⟨bk10, hl11, hv12, hb13⟩ := OwnB.blk (lo := w0.heap.size) h7
  clear h00 g0 hf0 hk5 hn6
  refine then_ ?_
  refine wp_seq ?_
  refine wp_seq ?_
  refine wp_region_lit ?_
  refine wp_all [([0], []), ([], [0])] [0, 2] w0.heap.size hf3 g9.size (by kernel_rfl) (bund_cons (is_any h8) bund_nil) ?_
  refine ch rfl (ob_move (arg_free 0 rfl rfl)) ?_
  refine ch rfl (ob_len (ArgOK.val (arg_op 0 0 rfl rfl rfl rfl) (hv0.up g9)) Try.underlying39) ?_
  refine ch_nil ?_
  intro a14 w15 hf16 hg17 hk18 hn19
  have h20 : Holds _ (a14.eval (.tmp 5)) w15 := hn19.at 1 0 rfl rfl rfl
  have h21 : Holds _ (a14.eval (.tmp 0)) w0 := hk18.holds rfl h8
  have hv22 : Holds (Is (PtrV bk10)) (a14.eval (.tmp 2)) w15 := is_any (hk18.holds rfl hv12)
  have hb23 : Blk bk10 _ w15 := hb13.up hg17
  have g24 : Grow w0 w15 := g9.trans hg17
  clear h8 hv12 hb13 g9 hf3 hk18 hn19 hg17
  refine then_ ?_
  refine wp_block ?_
  refine wp_seq ?_
  refine wp_region_lit ?_
  refine wp_all [([5], []), ([], [0])] [0, 2, 5] w0.heap.size hf16 g24.size (by kernel_rfl) (bund_cons h20 bund_nil) ?_
  refine ch rfl (ob_eql (arg_free 0 rfl rfl) arg_c) ?_
  refine ch rfl (ob_assign (arg_op 0 0 rfl rfl rfl rfl)) ?_
  refine ch_nil ?_
  intro a25 w26 hf27 hg28 hk29 hn30
  have h31 : Holds _ (a25.eval (.tmp 6)) w26 := hn30.at 1 0 rfl rfl rfl
  have h32 : Holds _ (a25.eval (.tmp 5)) w26 := hk29.holds rfl (h20.up hg28)
  have h33 : Holds _ (a25.eval (.tmp 0)) w0 := hk29.holds rfl h21
  have hv34 : Holds (Is (PtrV bk10)) (a25.eval (.tmp 2)) w26 := is_any (hk29.holds rfl hv22)
  have hb35 : Blk bk10 _ w26 := hb23.up hg28
  have g36 : Grow w0 w26 := g24.trans hg28
  clear h20 h21 hv22 hb23 g24 hf16 hk29 hn30 hg28
  refine then_ ?_
  refine wp_if h31 ?_ ?_
  · intro hc37
    try simp only [cond_norm] at hc37
    refine wp_seq ?_
    have g38 : Grow w26 w26 := Grow.refl _
    have hl39 : bk10 < w26.heap.size := hb35.lt
    have hz40 : w0.heap.size ≤ w26.heap.size := g36.size
    refine wp_region_lit ?_
    refine wp_seg (l1 := [_]) [([], [])] [2] w26.heap.size hf27 g38.size (by kernel_rfl) bund_nil ?_
    refine ch rfl (ob_call2 (by kernel_rfl) (c_rTagged ?_) (arg_cb 16 rfl) (arg_cg (fun w => sl_nil))) ?_
    · ((try simp only [List.length_append, List.length_cons, List.length_nil, nmBytes_len, List.length_take, List.length_drop, flat_len]); omega)
    refine ch_nil ?_
    intro a41 w42 hf43 hg44 hk45 hn46
    have h47 : Holds _ (a41.eval (.tmp 8)) w42 := hn46.at 0 0 rfl rfl rfl
    have hv48 : Holds (Is (PtrV bk10)) (a41.eval (.tmp 2)) w42 := is_any (hk45.holds rfl hv34)
    have hb49 : Blk bk10 _ w42 := hb35.up hg44
    have g50 : Grow w0 w42 := g36.trans hg44
    have g51 : Grow w26 w42 := g38.trans hg44
    clear hv34 hb35 g36 g38 hf27 hk45 hn46
    refine wl_store_nm hv48 hb49 rfl h47 ?_
    intro w52 ho53 hb54
    have g55 : Grow w0 w52 := g50.only ho53 (by omega)
    have hv56 : Holds (Is (PtrV bk10)) (a41.eval (.tmp 2)) w52 := is_any hv48
    refine wpList_nil ?_
    refine then_ ?_
    refine wp_ret ?_
    refine blockR ?_
    refine thenR ?_
    refine ret_cell rfl Try.underlying23 rfl (by kernel_rfl) hf43 g55 (hb54.ptr hv56) ?_
    exact congrArg nmV (root_zero (by omega)).symm
  · intro hc37
    try simp only [cond_norm] at hc37
    refine wp_seq ?_
    refine wp_region_lit ?_
    refine wp_all [([5], []), ([], [0])] [0, 2] w0.heap.size hf27 g36.size (by kernel_rfl) (bund_cons h32 bund_nil) ?_
    refine ch rfl (ob_eql (arg_free 0 rfl rfl) arg_c) ?_
    refine ch rfl (ob_assign (arg_op 0 0 rfl rfl rfl rfl)) ?_
    refine ch_nil ?_
    intro a57 w58 hf59 hg60 hk61 hn62
    have h63 : Holds _ (a57.eval (.tmp 9)) w58 := hn62.at 1 0 rfl rfl rfl
    have h64 : Holds _ (a57.eval (.tmp 0)) w0 := hk61.holds rfl h33
    have hv65 : Holds (Is (PtrV bk10)) (a57.eval (.tmp 2)) w58 := is_any (hk61.holds rfl hv34)
    have hb66 : Blk bk10 _ w58 := hb35.up hg60
    have g67 : Grow w0 w58 := g36.trans hg60
    clear h33 hv34 hb35 g36 hf27 hk61 hn62 hg60
    refine then_ ?_
    refine wp_if h63 ?_ ?_
    · intro hc68
      try simp only [cond_norm] at hc68
      refine wp_seq ?_
      have g69 : Grow w58 w58 := Grow.refl _
      have hl70 : bk10 < w58.heap.size := hb66.lt
      have hz71 : w0.heap.size ≤ w58.heap.size := g67.size
      refine wp_region_lit ?_
      refine wp_seg (l1 := [_, _, _, _]) [([0], []), ([], [0]), ([], [1]), ([], [2])] [2] w58.heap.size hf59 g69.size (by kernel_rfl) (bund_cons (is_any h64) bund_nil) ?_
      refine ch rfl (ob_move (arg_free 0 rfl rfl)) ?_
      refine ch rfl (ob_ix (ArgOK.val (arg_op 0 0 rfl rfl rfl rfl) (hv0.up g67)) arg_c (show (0 : Int) = ((0 : Nat) : Int) from rfl) ?_ Try.underlying39 szNm) ?_
      · omega
      refine ch rfl (ob_slice_nmF (arg_op 1 0 rfl rfl rfl rfl)) ?_
      refine ch rfl (ob_call2 (by kernel_rfl) (c_rTagged ?_) (arg_cb 17 rfl) (ArgOK.fsl (arg_op 2 0 rfl rfl rfl rfl))) ?_
      · ((try simp only [List.length_append, List.length_cons, List.length_nil, nmBytes_len, List.length_take, List.length_drop, flat_len]); omega)
      refine ch_nil ?_
      intro a72 w73 hf74 hg75 hk76 hn77
      have h78 : Holds _ (a72.eval (.tmp 14)) w73 := hn77.at 3 0 rfl rfl rfl
      have hv79 : Holds (Is (PtrV bk10)) (a72.eval (.tmp 2)) w73 := is_any (hk76.holds rfl hv65)
      have hb80 : Blk bk10 _ w73 := hb66.up hg75
      have g81 : Grow w0 w73 := g67.trans hg75
      have g82 : Grow w58 w73 := g69.trans hg75
      clear hv65 hb66 g67 g69 hf59 hk76 hn77
      refine wl_store_nm hv79 hb80 rfl h78 ?_
      intro w83 ho84 hb85
      have g86 : Grow w0 w83 := g81.only ho84 (by omega)
      have hv87 : Holds (Is (PtrV bk10)) (a72.eval (.tmp 2)) w83 := is_any hv79
      refine wpList_nil ?_
      refine then_ ?_
      refine wp_ret ?_
      refine blockR ?_
      refine thenR ?_
      refine ret_cell rfl Try.underlying23 rfl (by kernel_rfl) hf74 g86 (hb85.ptr hv87) ?_
      exact congrArg nmV (root_one (by omega)).symm
    · intro hc68
      try simp only [cond_norm] at hc68
      refine wp_skip ?_
      refine blockN ?_
      refine then_ ?_
      refine wp_seq ?_
      have g88 : Grow w58 w58 := Grow.refl _
      have hl89 : bk10 < w58.heap.size := hb66.lt
      have hz90 : w0.heap.size ≤ w58.heap.size := g67.size
      refine wp_region_lit ?_
      refine wp_all [([0], []), ([], [0]), ([], [1]), ([], [2])] [0, 2] w58.heap.size hf59 g88.size (by kernel_rfl) (bund_cons (is_any h64) bund_nil) ?_
      refine ch rfl (ob_move (arg_free 0 rfl rfl)) ?_
      refine ch rfl (ob_len (ArgOK.val (arg_op 0 0 rfl rfl rfl rfl) (hv0.up g67)) Try.underlying39) ?_
      refine ch rfl (ob_call1 (by kernel_rfl) (c_rsplit (n := l.length) ?_ ?_) (arg_op 1 0 rfl rfl rfl rfl)) ?_
      · omega
      · rfl
      refine ch rfl (ob_assign (arg_op 2 0 rfl rfl rfl rfl)) ?_
      refine ch_nil ?_
      intro a91 w92 hf93 hg94 hk95 hn96
      have h97 : Holds _ (a91.eval (.tmp 3)) w92 := hn96.at 3 0 rfl rfl rfl
      have h98 : Holds _ (a91.eval (.tmp 0)) w0 := hk95.holds rfl h64
      have hv99 : Holds (Is (PtrV bk10)) (a91.eval (.tmp 2)) w92 := is_any (hk95.holds rfl hv65)
      have hb100 : Blk bk10 _ w92 := hb66.up hg94
      have g101 : Grow w0 w92 := g67.trans hg94
      have g102 : Grow w58 w92 := g88.trans hg94
      clear h64 hv65 hb66 g67 g88 hf59 hk95 hn96
      refine then_ ?_
      refine wp_seq ?_
      have hb := split_bound (n := l.length) (by omega)
      have g103 : Grow w92 w92 := Grow.refl _
      have hl104 : bk10 < w92.heap.size := hb100.lt
      have hz105 : w58.heap.size ≤ w92.heap.size := g102.size
      refine wp_calm_tail (l1 := [_, _, _, _, _, _, _, _, _]) [0, 0, 3, 7, 0, 0, 48, 127, 255, 511] [([0], []), ([3], []), ([], [0, 1]), ([], [2]), ([0], []), ([3], []), ([], [4, 5]), ([], [6]), ([], [3, 7])] [2] w92.heap.size hf93 g103.size (by kernel_rfl) (bund_cons (is_any h98) (bund_cons h97 bund_nil)) ?_
      intro ws106 hs107
      refine ch rfl (ob_move (arg_free 0 rfl rfl)) ?_
      refine ch rfl (ob_move (arg_free 1 rfl rfl)) ?_
      refine ch rfl (ob_slice_to (ArgOK.val (arg_op 0 1 rfl rfl rfl rfl) ((hv0.up g101).up hs107)) (arg_op 1 0 rfl rfl rfl rfl) (rfl) ?_ Try.underlying39 szNm) ?_
      · omega
      refine ch rfl (ob_call1 (by kernel_rfl) (ih _ ?_) (arg_op 2 0 rfl rfl rfl rfl)) ?_
      · ((try simp only [List.length_take, List.length_drop, List.length_cons, List.length_nil]); omega)
      refine ch rfl (ob_move (arg_free 0 rfl rfl)) ?_
      refine ch rfl (ob_move (arg_free 1 rfl rfl)) ?_
      refine ch rfl (ob_slice_from (ArgOK.val (arg_op 4 1 rfl rfl rfl rfl) ((hv0.up g101).up hs107)) (arg_op 5 0 rfl rfl rfl rfl) (rfl) ?_ Try.underlying39 szNm) ?_
      · omega
      refine ch rfl (ob_call1 (by kernel_rfl) (ih _ ?_) (arg_op 6 0 rfl rfl rfl rfl)) ?_
      · ((try simp only [List.length_take, List.length_drop, List.length_cons, List.length_nil]); omega)
      refine ch rfl (ob_call3 (by kernel_rfl) (c_rPair) (arg_cb 18 rfl) (arg_op 3 4 rfl rfl rfl rfl) (arg_op 7 0 rfl rfl rfl rfl)) ?_
      refine ch_nil ?_
      intro a108 w109 hf110 hg111 hk112 hn113
      have h114 : Holds _ (a108.eval (.tmp 26)) w109 := hn113.at 8 0 rfl rfl rfl
      have hv115 : Holds (Is (PtrV bk10)) (a108.eval (.tmp 2)) w109 := is_any (hk112.holds rfl hv99)
      have hb116 : Blk bk10 _ w109 := hb100.up hg111
      have g117 : Grow w0 w109 := g101.trans hg111
      have g118 : Grow w58 w109 := g102.trans hg111
      have g119 : Grow w92 w109 := g103.trans hg111
      clear hv99 hb100 g101 g102 g103 hf93 hk112 hn113
      refine wl_store_nm hv115 hb116 rfl h114 ?_
      intro w120 ho121 hb122
      have g123 : Grow w0 w120 := g117.only ho121 (by omega)
      have hv124 : Holds (Is (PtrV bk10)) (a108.eval (.tmp 2)) w120 := is_any hv115
      refine wpList_nil ?_
      refine then_ ?_
      refine wp_ret ?_
      refine ret_cell rfl Try.underlying23 rfl (by kernel_rfl) hf110 g123 (hb122.ptr hv124) ?_
      exact congrArg nmV (root_two (by omega)).symm


theorem c_rRoot : ∀ {l : List UInt64} (_ : l.length ≤ 9223372036854775807), Con1 68 (Sl elNm l) (fun _ => Is (nmV (root l))) := by
  have key : ∀ (n : Nat) (l : List UInt64), l.length = n → n ≤ 9223372036854775807 → Con1 68 (Sl elNm l) (fun _ => Is (nmV (root l))) := by
    intro n
    induction n using Nat.strongRecOn with
    | _ n ih =>
      intro l hl hn
      exact c_rRoot_step (by omega) fun m hm => ih m.length (by omega) m rfl (by omega)
  intro l hl
  exact key l.length l rfl hl

set_option maxRecDepth 100000 in
theorem c_computed_step {x : UInt64} {i n : Nat} {iz nz : Int} {p : List UInt64} (h1 : 1 ≤ n) (hn : n ≤ 9223372036854775807) (hi : i < n) (hd : p.length = dep i n) (hiz : iz = (i : Int)) (hnz : nz = (n : Int)) (ih : ∀ (i' n' : Nat) (iz' nz' : Int) (p' : List UInt64), n' < n → 1 ≤ n' → i' < n' → p'.length = dep i' n' → iz' = (i' : Int) → nz' = (n' : Int) → Con4 114 (Is (nmV x)) (Is (intV iz')) (Is (intV nz')) (Sl elNm p') (fun _ => Is (nmV (comp x i' n' p')))) : Con4 114 (Is (nmV x)) (Is (intV iz)) (Is (intV nz)) (Sl elNm p) (fun _ => Is (nmV (comp x i n p))) := by
  intro lo v0 v1 v2 v3 w0 hlo hv0 hv1 hv2 hv3
  refine enter Try.func114 rfl Try.ntmps114 (by simp) ?_
  intro a0 hf0 ha
  have h00 : Holds _ (a0.eval (.tmp 0)) w0 := arg_holds ha rfl hv0
  have h01 : Holds _ (a0.eval (.tmp 1)) w0 := arg_holds ha rfl hv1
  have h02 : Holds _ (a0.eval (.tmp 2)) w0 := arg_holds ha rfl hv2
  have h03 : Holds (Is v3) (a0.eval (.tmp 3)) w0 := arg_holds ha rfl rfl
  clear ha
  have g0 : Grow w0 w0 := Grow.refl _
  refine wp_seq ?_
  refine wp_region_lit ?_
  refine wp_seg (l1 := [_]) [([0], [])] [1, 2, 3] w0.heap.size hf0 g0.size (by kernel_rfl) (bund_cons h00 bund_nil) ?_
  refine ch rfl (ob_box_nm (arg_free 0 rfl rfl)) ?_
  refine ch_nil ?_
  intro a1 w2 hf3 hg4 hk5 hn6
  have h7 : Holds _ (a1.eval (.tmp 4)) w2 := hn6.at 0 0 rfl rfl rfl
  have h8 : Holds _ (a1.eval (.tmp 1)) w0 := hk5.holds rfl h01
  have h9 : Holds _ (a1.eval (.tmp 2)) w0 := hk5.holds rfl h02
  have h10 : Holds _ (a1.eval (.tmp 3)) w0 := hk5.holds rfl h03
  have g11 : Grow w0 w2 := g0.trans hg4
  obtain ⟨bk12, hl13, hv14, hb15⟩ := OwnB.blk (lo := w0.heap.size) h7
  clear h01 h02 h03 g0 hf0 hk5 hn6
  have g16 : Grow w2 w2 := Grow.refl _
  have hl17 : bk12 < w2.heap.size := hb15.lt
  have hz18 : w0.heap.size ≤ w2.heap.size := g11.size
  refine wp_all [([], [])] [1, 2, 3, 4] w2.heap.size hf3 g16.size (by kernel_rfl) bund_nil ?_
  refine ch rfl (ob_alloc_nm) ?_
  refine ch_nil ?_
  intro a19 w20 hf21 hg22 hk23 hn24
  have h25 : Holds _ (a19.eval (.tmp 8)) w20 := hn24.at 0 0 rfl rfl rfl
  have h26 : Holds _ (a19.eval (.tmp 1)) w0 := hk23.holds rfl h8
  have h27 : Holds _ (a19.eval (.tmp 2)) w0 := hk23.holds rfl h9
  have h28 : Holds _ (a19.eval (.tmp 3)) w0 := hk23.holds rfl h10
  have hv29 : Holds (Is (PtrV bk12)) (a19.eval (.tmp 4)) w20 := is_any (hk23.holds rfl hv14)
  have hb30 : Blk bk12 _ w20 := hb15.up hg22
  have g31 : Grow w0 w20 := g11.trans hg22
  have g32 : Grow w2 w20 := g16.trans hg22
  obtain ⟨bk33, hl34, hv35, hb36⟩ := OwnB.blk (lo := w2.heap.size) h25
  clear h8 h9 h10 hv14 hb15 g11 g16 hf3 hk23 hn24
  refine then_ ?_
  refine wp_seq ?_
  refine wp_seq ?_
  refine wp_region_lit ?_
  refine wp_all [([2], []), ([], [0])] [1, 2, 3, 4, 8] w2.heap.size hf21 g32.size (by kernel_rfl) (bund_cons (is_any h27) bund_nil) ?_
  refine ch rfl (ob_move (arg_free 0 rfl rfl)) ?_
  refine ch rfl (ob_eql (arg_op 0 0 rfl rfl rfl rfl) arg_c) ?_
  refine ch_nil ?_
  intro a37 w38 hf39 hg40 hk41 hn42
  have h43 : Holds _ (a37.eval (.tmp 12)) w38 := hn42.at 1 0 rfl rfl rfl
  have h44 : Holds _ (a37.eval (.tmp 1)) w0 := hk41.holds rfl h26
  have h45 : Holds _ (a37.eval (.tmp 2)) w0 := hk41.holds rfl h27
  have h46 : Holds _ (a37.eval (.tmp 3)) w0 := hk41.holds rfl h28
  have hv47 : Holds (Is (PtrV bk12)) (a37.eval (.tmp 4)) w38 := is_any (hk41.holds rfl hv29)
  have hb48 : Blk bk12 _ w38 := hb30.up hg40
  have hv49 : Holds (Is (PtrV bk33)) (a37.eval (.tmp 8)) w38 := is_any (hk41.holds rfl hv35)
  have hb50 : Blk bk33 _ w38 := hb36.up hg40
  have g51 : Grow w0 w38 := g31.trans hg40
  have g52 : Grow w2 w38 := g32.trans hg40
  clear h26 h27 h28 hv29 hb30 hv35 hb36 g31 g32 hf21 hk41 hn42 hg40
  refine then_ ?_
  refine wp_if h43 ?_ ?_
  · intro hc53
    try simp only [cond_norm] at hc53
    refine wp_seq ?_
    have g54 : Grow w38 w38 := Grow.refl _
    have hl55 : bk12 < w38.heap.size := hb48.lt
    have hl56 : bk33 < w38.heap.size := hb50.lt
    have hz57 : w2.heap.size ≤ w38.heap.size := g52.size
    refine wp_region_lit ?_
    refine wp_seg (l1 := [_, _]) [([4], []), ([], [0])] [8] w38.heap.size hf39 g54.size (by kernel_rfl) (bund_cons (hb48.ownp hv47) bund_nil) ?_
    refine ch rfl (ob_load_nm (ArgOK.ownp (arg_free 0 rfl rfl))) ?_
    refine ch rfl (ob_call1 (by kernel_rfl) (c_single) (arg_op 0 0 rfl rfl rfl rfl)) ?_
    refine ch_nil ?_
    intro a58 w59 hf60 hg61 hk62 hn63
    have h64 : Holds _ (a58.eval (.tmp 14)) w59 := hn63.at 1 0 rfl rfl rfl
    have hv65 : Holds (Is (PtrV bk33)) (a58.eval (.tmp 8)) w59 := is_any (hk62.holds rfl hv49)
    have hb66 : Blk bk33 _ w59 := hb50.up hg61
    have g67 : Grow w0 w59 := g51.trans hg61
    have g68 : Grow w2 w59 := g52.trans hg61
    have g69 : Grow w38 w59 := g54.trans hg61
    clear hv49 hb50 g51 g52 g54 hf39 hk62 hn63
    refine wl_store_nm hv65 hb66 rfl h64 ?_
    intro w70 ho71 hb72
    have g73 : Grow w0 w70 := g67.only ho71 (by omega)
    have g74 : Grow w2 w70 := g68.only ho71 (by omega)
    have hv75 : Holds (Is (PtrV bk33)) (a58.eval (.tmp 8)) w70 := is_any hv65
    refine wpList_nil ?_
    refine then_ ?_
    refine wp_ret ?_
    refine thenR ?_
    refine ret_cell rfl Try.underlying23 rfl (by kernel_rfl) hf60 g73 (hb72.ptr hv75) ?_
    exact congrArg nmV (comp_one x i p (by omega)).symm
  · intro hc53
    try simp only [cond_norm] at hc53
    refine wp_skip ?_
    refine then_ ?_
    refine wp_seq ?_
    have hpl := dep_lt n i n (Nat.le_refl _) (by omega)
    have hb := split_bound (n := n) (by omega)
    have hpos := dep_pos (i := i) (n := n) (by omega)
    have g76 : Grow w38 w38 := Grow.refl _
    have hl77 : bk12 < w38.heap.size := hb48.lt
    have hl78 : bk33 < w38.heap.size := hb50.lt
    have hz79 : w2.heap.size ≤ w38.heap.size := g52.size
    refine wp_region_lit ?_
    refine wp_all [([2], []), ([], [0]), ([3], []), ([], [2]), ([], [3]), ([], [1]), ([], [4])] [1, 2, 3, 4, 8] w38.heap.size hf39 g76.size (by kernel_rfl) (bund_cons (is_any h45) (bund_cons (is_any h46) bund_nil)) ?_
    refine ch rfl (ob_move (arg_free 0 rfl rfl)) ?_
    refine ch rfl (ob_call1 (by kernel_rfl) (c_split (n := n) ?_ ?_) (arg_op 0 0 rfl rfl rfl rfl)) ?_
    · omega
    · assumption
    refine ch rfl (ob_move (arg_free 1 rfl rfl)) ?_
    refine ch rfl (ob_len (ArgOK.val (arg_op 2 0 rfl rfl rfl rfl) (hv3.up g51)) Try.underlying39) ?_
    first
      | (refine ch rfl (ob_sub' (arg_op 3 0 rfl rfl rfl rfl) arg_c ?_) ?_; · omega)
      | refine ch rfl (ob_sub (arg_op 3 0 rfl rfl rfl rfl) arg_c) ?_
    refine ch rfl (ob_assign (arg_op 1 3 rfl rfl rfl rfl)) ?_
    refine ch rfl (ob_assign (arg_op 4 1 rfl rfl rfl rfl)) ?_
    refine ch_nil ?_
    intro a80 w81 hf82 hg83 hk84 hn85
    have h86 : Holds _ (a80.eval (.tmp 9)) w81 := hn85.at 5 1 rfl rfl rfl
    have h87 : Holds _ (a80.eval (.tmp 10)) w81 := hn85.at 6 0 rfl rfl rfl
    have h88 : Holds _ (a80.eval (.tmp 1)) w0 := hk84.holds rfl h44
    have h89 : Holds _ (a80.eval (.tmp 2)) w0 := hk84.holds rfl h45
    have h90 : Holds _ (a80.eval (.tmp 3)) w0 := hk84.holds rfl h46
    have hv91 : Holds (Is (PtrV bk12)) (a80.eval (.tmp 4)) w81 := is_any (hk84.holds rfl hv47)
    have hb92 : Blk bk12 _ w81 := hb48.up hg83
    have hv93 : Holds (Is (PtrV bk33)) (a80.eval (.tmp 8)) w81 := is_any (hk84.holds rfl hv49)
    have hb94 : Blk bk33 _ w81 := hb50.up hg83
    have g95 : Grow w0 w81 := g51.trans hg83
    have g96 : Grow w2 w81 := g52.trans hg83
    have g97 : Grow w38 w81 := g76.trans hg83
    clear h44 h45 h46 hv47 hb48 hv49 hb50 g51 g52 g76 hf39 hk84 hn85
    refine then_ ?_
    refine wp_seq ?_
    refine wp_seq ?_
    refine wp_region_lit ?_
    refine wp_all [([1], []), ([9], []), ([], [0, 1])] [1, 2, 3, 4, 8, 9, 10] w38.heap.size hf82 g97.size (by kernel_rfl) (bund_cons (is_any h88) (bund_cons h86 bund_nil)) ?_
    refine ch rfl (ob_move (arg_free 0 rfl rfl)) ?_
    refine ch rfl (ob_move (arg_free 1 rfl rfl)) ?_
    refine ch rfl (ob_lss (arg_op 0 1 rfl rfl rfl rfl) (arg_op 1 0 rfl rfl rfl rfl)) ?_
    refine ch_nil ?_
    intro a98 w99 hf100 hg101 hk102 hn103
    have h104 : Holds _ (a98.eval (.tmp 22)) w99 := hn103.at 2 0 rfl rfl rfl
    have h105 : Holds _ (a98.eval (.tmp 9)) w99 := hk102.holds rfl (h86.up hg101)
    have h106 : Holds _ (a98.eval (.tmp 10)) w99 := hk102.holds rfl (h87.up hg101)
    have h107 : Holds _ (a98.eval (.tmp 1)) w0 := hk102.holds rfl h88
    have h108 : Holds _ (a98.eval (.tmp 2)) w0 := hk102.holds rfl h89
    have h109 : Holds _ (a98.eval (.tmp 3)) w0 := hk102.holds rfl h90
    have hv110 : Holds (Is (PtrV bk12)) (a98.eval (.tmp 4)) w99 := is_any (hk102.holds rfl hv91)
    have hb111 : Blk bk12 _ w99 := hb92.up hg101
    have hv112 : Holds (Is (PtrV bk33)) (a98.eval (.tmp 8)) w99 := is_any (hk102.holds rfl hv93)
    have hb113 : Blk bk33 _ w99 := hb94.up hg101
    have g114 : Grow w0 w99 := g95.trans hg101
    have g115 : Grow w2 w99 := g96.trans hg101
    have g116 : Grow w38 w99 := g97.trans hg101
    clear h86 h87 h88 h89 h90 hv91 hb92 hv93 hb94 g95 g96 g97 hf82 hk102 hn103 hg101
    refine then_ ?_
    refine wp_if h104 ?_ ?_
    · intro hc117
      try simp only [cond_norm] at hc117
      refine wp_seq ?_
      have g118 : Grow w99 w99 := Grow.refl _
      have hl119 : bk12 < w99.heap.size := hb111.lt
      have hl120 : bk33 < w99.heap.size := hb113.lt
      have hz121 : w38.heap.size ≤ w99.heap.size := g116.size
      refine wp_calm_tail (l1 := [_, _, _, _, _, _, _, _, _, _, _, _]) [0, 0, 0, 0, 0, 24, 63, 0, 0, 384, 896, 2047, 4095] [([4], []), ([1], []), ([9], []), ([3], []), ([10], []), ([], [3, 4]), ([], [0, 1, 2, 5]), ([3], []), ([10], []), ([], [7, 8]), ([], [9]), ([], [6, 10])] [8] w99.heap.size hf100 g118.size (by kernel_rfl) (bund_cons (hb111.ownp hv110) (bund_cons (is_any h107) (bund_cons h105 (bund_cons (is_any h109) (bund_cons h106 bund_nil))))) ?_
      intro ws122 hs123
      refine ch rfl (ob_load_nm (ArgOK.ownp (arg_free 0 rfl rfl))) ?_
      refine ch rfl (ob_move (arg_free 1 rfl rfl)) ?_
      refine ch rfl (ob_move (arg_free 2 rfl rfl)) ?_
      refine ch rfl (ob_move (arg_free 3 rfl rfl)) ?_
      refine ch rfl (ob_move (arg_free 4 rfl rfl)) ?_
      refine ch rfl (ob_slice_to (ArgOK.val (arg_op 3 1 rfl rfl rfl rfl) ((hv3.up g114).up hs123)) (arg_op 4 0 rfl rfl rfl rfl) ((show ((p.length : Int) - 1) = ((p.length - 1 : Nat) : Int) by omega)) ?_ Try.underlying39 szNm) ?_
      · omega
      refine ch rfl (ob_call4 (by kernel_rfl) (ih i (split n) _ _ _ ?_ ?_ ?_ ?_ ?_ ?_) (arg_op 0 5 rfl rfl rfl rfl) (arg_op 1 4 rfl rfl rfl rfl) (arg_op 2 3 rfl rfl rfl rfl) (arg_op 5 0 rfl rfl rfl rfl)) ?_
      · omega
      · omega
      · omega
      · (have hq := dep_left (i := i) (n := n) (by omega) (by omega); rw [List.length_take]; omega)
      · omega
      · omega
      refine ch rfl (ob_move (arg_free 3 rfl rfl)) ?_
      refine ch rfl (ob_move (arg_free 4 rfl rfl)) ?_
      refine ch rfl (ob_ix (ArgOK.val (arg_op 7 1 rfl rfl rfl rfl) ((hv3.up g114).up hs123)) (arg_op 8 0 rfl rfl rfl rfl) ((show ((p.length : Int) - 1) = ((p.length - 1 : Nat) : Int) by omega)) ?_ Try.underlying39 szNm) ?_
      · omega
      refine ch rfl (ob_load_nm (arg_op 9 0 rfl rfl rfl rfl)) ?_
      refine ch rfl (ob_call3 (by kernel_rfl) (c_Pair) (arg_cb 18 rfl) (arg_op 6 4 rfl rfl rfl rfl) (arg_op 10 0 rfl rfl rfl rfl)) ?_
      refine ch_nil ?_
      intro a124 w125 hf126 hg127 hk128 hn129
      have h130 : Holds _ (a124.eval (.tmp 34)) w125 := hn129.at 11 0 rfl rfl rfl
      have hv131 : Holds (Is (PtrV bk33)) (a124.eval (.tmp 8)) w125 := is_any (hk128.holds rfl hv112)
      have hb132 : Blk bk33 _ w125 := hb113.up hg127
      have g133 : Grow w0 w125 := g114.trans hg127
      have g134 : Grow w2 w125 := g115.trans hg127
      have g135 : Grow w38 w125 := g116.trans hg127
      have g136 : Grow w99 w125 := g118.trans hg127
      clear hv112 hb113 g114 g115 g116 g118 hf100 hk128 hn129
      refine wl_store_nm hv131 hb132 rfl h130 ?_
      intro w137 ho138 hb139
      have g140 : Grow w0 w137 := g133.only ho138 (by omega)
      have g141 : Grow w2 w137 := g134.only ho138 (by omega)
      have hv142 : Holds (Is (PtrV bk33)) (a124.eval (.tmp 8)) w137 := is_any hv131
      refine wpList_nil ?_
      refine then_ ?_
      refine wp_ret ?_
      refine thenR ?_
      refine ret_cell rfl Try.underlying23 rfl (by kernel_rfl) hf126 g140 (hb139.ptr hv142) ?_
      exact congrArg nmV (comp_left x p (by omega) (by omega)).symm
    · intro hc117
      try simp only [cond_norm] at hc117
      refine wp_skip ?_
      refine then_ ?_
      refine wp_seq ?_
      have g143 : Grow w99 w99 := Grow.refl _
      have hl144 : bk12 < w99.heap.size := hb111.lt
      have hl145 : bk33 < w99.heap.size := hb113.lt
      have hz146 : w38.heap.size ≤ w99.heap.size := g116.size
      refine wp_calm_tail (l1 := [_, _, _, _, _, _, _, _, _, _, _, _, _, _, _, _]) [0, 0, 3, 7, 0, 0, 0, 96, 0, 0, 768, 0, 0, 6144, 16368, 32767, 65535] [([3], []), ([10], []), ([], [0, 1]), ([], [2]), ([4], []), ([1], []), ([9], []), ([], [5, 6]), ([2], []), ([9], []), ([], [8, 9]), ([3], []), ([10], []), ([], [11, 12]), ([], [4, 7, 10, 13]), ([], [3, 14])] [8] w99.heap.size hf100 g143.size (by kernel_rfl) (bund_cons (is_any h109) (bund_cons h106 (bund_cons (hb111.ownp hv110) (bund_cons (is_any h107) (bund_cons h105 (bund_cons (is_any h108) bund_nil)))))) ?_
      intro ws147 hs148
      refine ch rfl (ob_move (arg_free 0 rfl rfl)) ?_
      refine ch rfl (ob_move (arg_free 1 rfl rfl)) ?_
      refine ch rfl (ob_ix (ArgOK.val (arg_op 0 1 rfl rfl rfl rfl) ((hv3.up g114).up hs148)) (arg_op 1 0 rfl rfl rfl rfl) ((show ((p.length : Int) - 1) = ((p.length - 1 : Nat) : Int) by omega)) ?_ Try.underlying39 szNm) ?_
      · omega
      refine ch rfl (ob_load_nm (arg_op 2 0 rfl rfl rfl rfl)) ?_
      refine ch rfl (ob_load_nm (ArgOK.ownp (arg_free 2 rfl rfl))) ?_
      refine ch rfl (ob_move (arg_free 3 rfl rfl)) ?_
      refine ch rfl (ob_move (arg_free 4 rfl rfl)) ?_
      first
        | (refine ch rfl (ob_sub' (arg_op 5 1 rfl rfl rfl rfl) (arg_op 6 0 rfl rfl rfl rfl) ?_) ?_; · omega)
        | refine ch rfl (ob_sub (arg_op 5 1 rfl rfl rfl rfl) (arg_op 6 0 rfl rfl rfl rfl)) ?_
      refine ch rfl (ob_move (arg_free 5 rfl rfl)) ?_
      refine ch rfl (ob_move (arg_free 4 rfl rfl)) ?_
      first
        | (refine ch rfl (ob_sub' (arg_op 8 1 rfl rfl rfl rfl) (arg_op 9 0 rfl rfl rfl rfl) ?_) ?_; · omega)
        | refine ch rfl (ob_sub (arg_op 8 1 rfl rfl rfl rfl) (arg_op 9 0 rfl rfl rfl rfl)) ?_
      refine ch rfl (ob_move (arg_free 0 rfl rfl)) ?_
      refine ch rfl (ob_move (arg_free 1 rfl rfl)) ?_
      refine ch rfl (ob_slice_to (ArgOK.val (arg_op 11 1 rfl rfl rfl rfl) ((hv3.up g114).up hs148)) (arg_op 12 0 rfl rfl rfl rfl) ((show ((p.length : Int) - 1) = ((p.length - 1 : Nat) : Int) by omega)) ?_ Try.underlying39 szNm) ?_
      · omega
      refine ch rfl (ob_call4 (by kernel_rfl) (ih (i - split n) ((n - split n)) _ _ _ ?_ ?_ ?_ ?_ ?_ ?_) (arg_op 4 9 rfl rfl rfl rfl) (arg_op 7 6 rfl rfl rfl rfl) (arg_op 10 3 rfl rfl rfl rfl) (arg_op 13 0 rfl rfl rfl rfl)) ?_
      · omega
      · omega
      · omega
      · (have hq := dep_right (i := i) (n := n) (by omega) (by omega); rw [List.length_take]; omega)
      · omega
      · omega
      refine ch rfl (ob_call3 (by kernel_rfl) (c_Pair) (arg_cb 18 rfl) (arg_op 3 11 rfl rfl rfl rfl) (arg_op 14 0 rfl rfl rfl rfl)) ?_
      refine ch_nil ?_
      intro a149 w150 hf151 hg152 hk153 hn154
      have h155 : Holds _ (a149.eval (.tmp 50)) w150 := hn154.at 15 0 rfl rfl rfl
      have hv156 : Holds (Is (PtrV bk33)) (a149.eval (.tmp 8)) w150 := is_any (hk153.holds rfl hv112)
      have hb157 : Blk bk33 _ w150 := hb113.up hg152
      have g158 : Grow w0 w150 := g114.trans hg152
      have g159 : Grow w2 w150 := g115.trans hg152
      have g160 : Grow w38 w150 := g116.trans hg152
      have g161 : Grow w99 w150 := g143.trans hg152
      clear hv112 hb113 g114 g115 g116 g143 hf100 hk153 hn154
      refine wl_store_nm hv156 hb157 rfl h155 ?_
      intro w162 ho163 hb164
      have g165 : Grow w0 w162 := g158.only ho163 (by omega)
      have g166 : Grow w2 w162 := g159.only ho163 (by omega)
      have hv167 : Holds (Is (PtrV bk33)) (a149.eval (.tmp 8)) w162 := is_any hv156
      refine wpList_nil ?_
      refine then_ ?_
      refine wp_ret ?_
      refine ret_cell rfl Try.underlying23 rfl (by kernel_rfl) hf151 g165 (hb164.ptr hv167) ?_
      exact congrArg nmV (comp_right x p (by omega) (by omega)).symm


theorem c_computed {x : UInt64} : ∀ {i n : Nat} {iz nz : Int} {p : List UInt64} (_ : 1 ≤ n) (_ : n ≤ 9223372036854775807) (_ : i < n) (_ : p.length = dep i n) (_ : iz = (i : Int)) (_ : nz = (n : Int)), Con4 114 (Is (nmV x)) (Is (intV iz)) (Is (intV nz)) (Sl elNm p) (fun _ => Is (nmV (comp x i n p))) := by
  have key : ∀ (n i : Nat) (iz nz : Int) (p : List UInt64), 1 ≤ n → n ≤ 9223372036854775807 → i < n → p.length = dep i n → iz = (i : Int) → nz = (n : Int) → Con4 114 (Is (nmV x)) (Is (intV iz)) (Is (intV nz)) (Sl elNm p) (fun _ => Is (nmV (comp x i n p))) := by
    intro n
    induction n using Nat.strongRecOn with
    | _ n ih =>
      intro i iz nz p h1 h2 h3 h4 h5 h6
      exact c_computed_step h1 h2 h3 h4 h5 h6 fun i' n' iz' nz' p' g1 g2 g3 g4 g5 g6 => ih n' g1 i' iz' nz' p' g2 (by omega) g3 g4 g5 g6
  intro i n iz nz p h1 h2 h3 h4 h5 h6
  exact key n i iz nz p h1 h2 h3 h4 h5 h6

set_option maxRecDepth 100000 in
theorem c_follow_step {x : UInt64} {i n : Nat} {iz nz : Int} {p : List UInt64} (h1 : 1 ≤ n) (hn : n ≤ 9223372036854775807) (hi : i < n) (hd : p.length = dep i n) (hiz : iz = (i : Int)) (hnz : nz = (n : Int)) (ih : ∀ (i' n' : Nat) (iz' nz' : Int) (p' : List UInt64), n' < n → 1 ≤ n' → i' < n' → p'.length = dep i' n' → iz' = (i' : Int) → nz' = (n' : Int) → Con4 115 (Is (nmV x)) (Is (intV iz')) (Is (intV nz')) (Sl elNm p') (fun _ => Is (nmV (comp x i' n' p')))) : Con4 115 (Is (nmV x)) (Is (intV iz)) (Is (intV nz)) (Sl elNm p) (fun _ => Is (nmV (comp x i n p))) := by
  intro lo v0 v1 v2 v3 w0 hlo hv0 hv1 hv2 hv3
  refine enter Try.func115 rfl Try.ntmps115 (by simp) ?_
  intro a0 hf0 ha
  have h00 : Holds _ (a0.eval (.tmp 0)) w0 := arg_holds ha rfl hv0
  have h01 : Holds _ (a0.eval (.tmp 1)) w0 := arg_holds ha rfl hv1
  have h02 : Holds _ (a0.eval (.tmp 2)) w0 := arg_holds ha rfl hv2
  have h03 : Holds (Is v3) (a0.eval (.tmp 3)) w0 := arg_holds ha rfl rfl
  clear ha
  have g0 : Grow w0 w0 := Grow.refl _
  refine wp_seq ?_
  refine wp_region_lit ?_
  refine wp_seg (l1 := [_]) [([0], [])] [1, 2, 3] w0.heap.size hf0 g0.size (by kernel_rfl) (bund_cons h00 bund_nil) ?_
  refine ch rfl (ob_box_nm (arg_free 0 rfl rfl)) ?_
  refine ch_nil ?_
  intro a1 w2 hf3 hg4 hk5 hn6
  have h7 : Holds _ (a1.eval (.tmp 4)) w2 := hn6.at 0 0 rfl rfl rfl
  have h8 : Holds _ (a1.eval (.tmp 1)) w0 := hk5.holds rfl h01
  have h9 : Holds _ (a1.eval (.tmp 2)) w0 := hk5.holds rfl h02
  have h10 : Holds _ (a1.eval (.tmp 3)) w0 := hk5.holds rfl h03
  have g11 : Grow w0 w2 := g0.trans hg4
  obtain ⟨bk12, hl13, hv14, hb15⟩ := OwnB.blk (lo := w0.heap.size) h7
  clear h01 h02 h03 g0 hf0 hk5 hn6
  have g16 : Grow w2 w2 := Grow.refl _
  have hl17 : bk12 < w2.heap.size := hb15.lt
  have hz18 : w0.heap.size ≤ w2.heap.size := g11.size
  refine wp_all [([], [])] [1, 2, 3, 4] w2.heap.size hf3 g16.size (by kernel_rfl) bund_nil ?_
  refine ch rfl (ob_alloc_nm) ?_
  refine ch_nil ?_
  intro a19 w20 hf21 hg22 hk23 hn24
  have h25 : Holds _ (a19.eval (.tmp 8)) w20 := hn24.at 0 0 rfl rfl rfl
  have h26 : Holds _ (a19.eval (.tmp 1)) w0 := hk23.holds rfl h8
  have h27 : Holds _ (a19.eval (.tmp 2)) w0 := hk23.holds rfl h9
  have h28 : Holds _ (a19.eval (.tmp 3)) w0 := hk23.holds rfl h10
  have hv29 : Holds (Is (PtrV bk12)) (a19.eval (.tmp 4)) w20 := is_any (hk23.holds rfl hv14)
  have hb30 : Blk bk12 _ w20 := hb15.up hg22
  have g31 : Grow w0 w20 := g11.trans hg22
  have g32 : Grow w2 w20 := g16.trans hg22
  obtain ⟨bk33, hl34, hv35, hb36⟩ := OwnB.blk (lo := w2.heap.size) h25
  clear h8 h9 h10 hv14 hb15 g11 g16 hf3 hk23 hn24
  refine then_ ?_
  refine wp_seq ?_
  refine wp_seq ?_
  refine wp_region_lit ?_
  refine wp_all [([2], []), ([], [0])] [1, 2, 3, 4, 8] w2.heap.size hf21 g32.size (by kernel_rfl) (bund_cons (is_any h27) bund_nil) ?_
  refine ch rfl (ob_move (arg_free 0 rfl rfl)) ?_
  refine ch rfl (ob_eql (arg_op 0 0 rfl rfl rfl rfl) arg_c) ?_
  refine ch_nil ?_
  intro a37 w38 hf39 hg40 hk41 hn42
  have h43 : Holds _ (a37.eval (.tmp 12)) w38 := hn42.at 1 0 rfl rfl rfl
  have h44 : Holds _ (a37.eval (.tmp 1)) w0 := hk41.holds rfl h26
  have h45 : Holds _ (a37.eval (.tmp 2)) w0 := hk41.holds rfl h27
  have h46 : Holds _ (a37.eval (.tmp 3)) w0 := hk41.holds rfl h28
  have hv47 : Holds (Is (PtrV bk12)) (a37.eval (.tmp 4)) w38 := is_any (hk41.holds rfl hv29)
  have hb48 : Blk bk12 _ w38 := hb30.up hg40
  have hv49 : Holds (Is (PtrV bk33)) (a37.eval (.tmp 8)) w38 := is_any (hk41.holds rfl hv35)
  have hb50 : Blk bk33 _ w38 := hb36.up hg40
  have g51 : Grow w0 w38 := g31.trans hg40
  have g52 : Grow w2 w38 := g32.trans hg40
  clear h26 h27 h28 hv29 hb30 hv35 hb36 g31 g32 hf21 hk41 hn42 hg40
  refine then_ ?_
  refine wp_if h43 ?_ ?_
  · intro hc53
    try simp only [cond_norm] at hc53
    refine wp_seq ?_
    have g54 : Grow w38 w38 := Grow.refl _
    have hl55 : bk12 < w38.heap.size := hb48.lt
    have hl56 : bk33 < w38.heap.size := hb50.lt
    have hz57 : w2.heap.size ≤ w38.heap.size := g52.size
    refine wp_region_lit ?_
    refine wp_seg (l1 := [_, _]) [([4], []), ([], [0])] [8] w38.heap.size hf39 g54.size (by kernel_rfl) (bund_cons (hb48.ownp hv47) bund_nil) ?_
    refine ch rfl (ob_slice_nmF (ArgOK.ownp (arg_free 0 rfl rfl))) ?_
    refine ch rfl (ob_call2 (by kernel_rfl) (c_rTagged ?_) (arg_cb 17 rfl) (ArgOK.fsl (arg_op 0 0 rfl rfl rfl rfl))) ?_
    · ((try simp only [List.length_append, List.length_cons, List.length_nil, nmBytes_len, List.length_take, List.length_drop, flat_len]); omega)
    refine ch_nil ?_
    intro a58 w59 hf60 hg61 hk62 hn63
    have h64 : Holds _ (a58.eval (.tmp 14)) w59 := hn63.at 1 0 rfl rfl rfl
    have hv65 : Holds (Is (PtrV bk33)) (a58.eval (.tmp 8)) w59 := is_any (hk62.holds rfl hv49)
    have hb66 : Blk bk33 _ w59 := hb50.up hg61
    have g67 : Grow w0 w59 := g51.trans hg61
    have g68 : Grow w2 w59 := g52.trans hg61
    have g69 : Grow w38 w59 := g54.trans hg61
    clear hv49 hb50 g51 g52 g54 hf39 hk62 hn63
    refine wl_store_nm hv65 hb66 rfl h64 ?_
    intro w70 ho71 hb72
    have g73 : Grow w0 w70 := g67.only ho71 (by omega)
    have g74 : Grow w2 w70 := g68.only ho71 (by omega)
    have hv75 : Holds (Is (PtrV bk33)) (a58.eval (.tmp 8)) w70 := is_any hv65
    refine wpList_nil ?_
    refine then_ ?_
    refine wp_ret ?_
    refine thenR ?_
    refine ret_cell rfl Try.underlying23 rfl (by kernel_rfl) hf60 g73 (hb72.ptr hv75) ?_
    exact congrArg nmV (comp_one x i p (by omega)).symm
  · intro hc53
    try simp only [cond_norm] at hc53
    refine wp_skip ?_
    refine then_ ?_
    refine wp_seq ?_
    have hpl := dep_lt n i n (Nat.le_refl _) (by omega)
    have hb := split_bound (n := n) (by omega)
    have hpos := dep_pos (i := i) (n := n) (by omega)
    have g76 : Grow w38 w38 := Grow.refl _
    have hl77 : bk12 < w38.heap.size := hb48.lt
    have hl78 : bk33 < w38.heap.size := hb50.lt
    have hz79 : w2.heap.size ≤ w38.heap.size := g52.size
    refine wp_calm_tail (l1 := [_, _, _, _, _, _, _, _, _, _]) [0, 1, 0, 0, 8, 24, 60, 124, 0, 259, 1023] [([2], []), ([], [0]), ([3], []), ([3], []), ([], [3]), ([], [4]), ([], [2, 5]), ([], [6]), ([], []), ([], [1])] [1, 2, 3, 4, 8] w38.heap.size hf39 g76.size (by kernel_rfl) (bund_cons (is_any h45) (bund_cons (is_any h46) bund_nil)) ?_
    intro ws80 hs81
    refine ch rfl (ob_move (arg_free 0 rfl rfl)) ?_
    refine ch rfl (ob_call1 (by kernel_rfl) (c_rsplit (n := n) ?_ ?_) (arg_op 0 0 rfl rfl rfl rfl)) ?_
    · omega
    · assumption
    refine ch rfl (ob_move (arg_free 1 rfl rfl)) ?_
    refine ch rfl (ob_move (arg_free 1 rfl rfl)) ?_
    refine ch rfl (ob_len (ArgOK.val (arg_op 3 0 rfl rfl rfl rfl) ((hv3.up g51).up hs81)) Try.underlying39) ?_
    first
      | (refine ch rfl (ob_sub' (arg_op 4 0 rfl rfl rfl rfl) arg_c ?_) ?_; · omega)
      | refine ch rfl (ob_sub (arg_op 4 0 rfl rfl rfl rfl) arg_c) ?_
    refine ch rfl (ob_ix (ArgOK.val (arg_op 2 3 rfl rfl rfl rfl) ((hv3.up g51).up hs81)) (arg_op 5 0 rfl rfl rfl rfl) ((show ((p.length : Int) - 1) = ((p.length - 1 : Nat) : Int) by omega)) ?_ Try.underlying39 szNm) ?_
    · omega
    refine ch rfl (ob_load_nm (arg_op 6 0 rfl rfl rfl rfl)) ?_
    refine ch rfl (ob_alloc_nm) ?_
    refine ch rfl (ob_assign (arg_op 1 7 rfl rfl rfl rfl)) ?_
    refine ch_nil ?_
    intro a82 w83 hf84 hg85 hk86 hn87
    have h88 : Holds _ (a82.eval (.tmp 22)) w83 := hn87.at 7 2 rfl rfl rfl
    have h89 : Holds _ (a82.eval (.tmp 10)) w83 := hn87.at 8 1 rfl rfl rfl
    have h90 : Holds _ (a82.eval (.tmp 9)) w83 := hn87.at 9 0 rfl rfl rfl
    have h91 : Holds _ (a82.eval (.tmp 1)) w0 := hk86.holds rfl h44
    have h92 : Holds _ (a82.eval (.tmp 2)) w0 := hk86.holds rfl h45
    have h93 : Holds _ (a82.eval (.tmp 3)) w0 := hk86.holds rfl h46
    have hv94 : Holds (Is (PtrV bk12)) (a82.eval (.tmp 4)) w83 := is_any (hk86.holds rfl hv47)
    have hb95 : Blk bk12 _ w83 := hb48.up hg85
    have hv96 : Holds (Is (PtrV bk33)) (a82.eval (.tmp 8)) w83 := is_any (hk86.holds rfl hv49)
    have hb97 : Blk bk33 _ w83 := hb50.up hg85
    have g98 : Grow w0 w83 := g51.trans hg85
    have g99 : Grow w2 w83 := g52.trans hg85
    have g100 : Grow w38 w83 := g76.trans hg85
    obtain ⟨bk101, hl102, hv103, hb104⟩ := OwnB.blk (lo := w38.heap.size) h89
    clear h44 h45 h46 hv47 hb48 hv49 hb50 g51 g52 g76 hf39 hk86 hn87
    refine wl_store_nm hv103 hb104 rfl h88 ?_
    intro w105 ho106 hb107
    have g108 : Grow w0 w105 := g98.only ho106 (by omega)
    have g109 : Grow w2 w105 := g99.only ho106 (by omega)
    have g110 : Grow w38 w105 := g100.only ho106 (by omega)
    have h111 : Holds _ (a82.eval (.tmp 9)) w105 := is_any h90
    have hv112 : Holds (Is (PtrV bk12)) (a82.eval (.tmp 4)) w105 := is_any hv94
    have hb113 : Blk bk12 _ w105 := hb95.only ho106 (by omega)
    have hv114 : Holds (Is (PtrV bk33)) (a82.eval (.tmp 8)) w105 := is_any hv96
    have hb115 : Blk bk33 _ w105 := hb97.only ho106 (by omega)
    have hv116 : Holds (Is (PtrV bk101)) (a82.eval (.tmp 10)) w105 := is_any hv103
    refine wpList_nil ?_
    refine then_ ?_
    refine wp_seq ?_
    refine wp_seq ?_
    refine wp_region_lit ?_
    refine wp_all [([1], []), ([9], []), ([], [0, 1])] [1, 2, 3, 4, 8, 9, 10] w38.heap.size hf84 g110.size (by kernel_rfl) (bund_cons (is_any h91) (bund_cons h111 bund_nil)) ?_
    refine ch rfl (ob_move (arg_free 0 rfl rfl)) ?_
    refine ch rfl (ob_move (arg_free 1 rfl rfl)) ?_
    refine ch rfl (ob_lss (arg_op 0 1 rfl rfl rfl rfl) (arg_op 1 0 rfl rfl rfl rfl)) ?_
    refine ch_nil ?_
    intro a117 w118 hf119 hg120 hk121 hn122
    have h123 : Holds _ (a117.eval (.tmp 25)) w118 := hn122.at 2 0 rfl rfl rfl
    have h124 : Holds _ (a117.eval (.tmp 9)) w118 := hk121.holds rfl (h111.up hg120)
    have h125 : Holds _ (a117.eval (.tmp 1)) w0 := hk121.holds rfl h91
    have h126 : Holds _ (a117.eval (.tmp 2)) w0 := hk121.holds rfl h92
    have h127 : Holds _ (a117.eval (.tmp 3)) w0 := hk121.holds rfl h93
    have hv128 : Holds (Is (PtrV bk12)) (a117.eval (.tmp 4)) w118 := is_any (hk121.holds rfl hv112)
    have hb129 : Blk bk12 _ w118 := hb113.up hg120
    have hv130 : Holds (Is (PtrV bk33)) (a117.eval (.tmp 8)) w118 := is_any (hk121.holds rfl hv114)
    have hb131 : Blk bk33 _ w118 := hb115.up hg120
    have hv132 : Holds (Is (PtrV bk101)) (a117.eval (.tmp 10)) w118 := is_any (hk121.holds rfl hv116)
    have hb133 : Blk bk101 _ w118 := hb107.up hg120
    have g134 : Grow w0 w118 := g108.trans hg120
    have g135 : Grow w2 w118 := g109.trans hg120
    have g136 : Grow w38 w118 := g110.trans hg120
    clear h111 h91 h92 h93 hv112 hb113 hv114 hb115 hv116 hb107 g108 g109 g110 hf84 hk121 hn122 hg120
    refine then_ ?_
    refine wp_if h123 ?_ ?_
    · intro hc137
      try simp only [cond_norm] at hc137
      refine wp_seq ?_
      have g138 : Grow w118 w118 := Grow.refl _
      have hl139 : bk12 < w118.heap.size := hb129.lt
      have hl140 : bk33 < w118.heap.size := hb131.lt
      have hl141 : bk101 < w118.heap.size := hb133.lt
      have hz142 : w38.heap.size ≤ w118.heap.size := g136.size
      refine wp_calm_tail (l1 := [_, _, _, _, _, _, _, _, _, _, _]) [0, 0, 0, 0, 0, 16, 48, 120, 255, 0, 1023, 2047] [([4], []), ([1], []), ([9], []), ([3], []), ([3], []), ([], [4]), ([], [5]), ([], [3, 6]), ([], [0, 1, 2, 7]), ([10], []), ([], [8, 9])] [8] w118.heap.size hf119 g138.size (by kernel_rfl) (bund_cons (hb129.ownp hv128) (bund_cons (is_any h125) (bund_cons h124 (bund_cons (is_any h127) (bund_cons (hb133.ownp hv132) bund_nil))))) ?_
      intro ws143 hs144
      refine ch rfl (ob_load_nm (ArgOK.ownp (arg_free 0 rfl rfl))) ?_
      refine ch rfl (ob_move (arg_free 1 rfl rfl)) ?_
      refine ch rfl (ob_move (arg_free 2 rfl rfl)) ?_
      refine ch rfl (ob_move (arg_free 3 rfl rfl)) ?_
      refine ch rfl (ob_move (arg_free 3 rfl rfl)) ?_
      refine ch rfl (ob_len (ArgOK.val (arg_op 4 0 rfl rfl rfl rfl) ((hv3.up g134).up hs144)) Try.underlying39) ?_
      first
        | (refine ch rfl (ob_sub' (arg_op 5 0 rfl rfl rfl rfl) arg_c ?_) ?_; · omega)
        | refine ch rfl (ob_sub (arg_op 5 0 rfl rfl rfl rfl) arg_c) ?_
      refine ch rfl (ob_slice_to (ArgOK.val (arg_op 3 3 rfl rfl rfl rfl) ((hv3.up g134).up hs144)) (arg_op 6 0 rfl rfl rfl rfl) ((show ((p.length : Int) - 1) = ((p.length - 1 : Nat) : Int) by omega)) ?_ Try.underlying39 szNm) ?_
      · omega
      refine ch rfl (ob_call4 (by kernel_rfl) (ih i (split n) _ _ _ ?_ ?_ ?_ ?_ ?_ ?_) (arg_op 0 7 rfl rfl rfl rfl) (arg_op 1 6 rfl rfl rfl rfl) (arg_op 2 5 rfl rfl rfl rfl) (arg_op 7 0 rfl rfl rfl rfl)) ?_
      · omega
      · omega
      · omega
      · (have hq := dep_left (i := i) (n := n) (by omega) (by omega); rw [List.length_take]; omega)
      · omega
      · omega
      refine ch rfl (ob_load_nm (ArgOK.ownp (arg_free 4 rfl rfl))) ?_
      refine ch rfl (ob_call3 (by kernel_rfl) (c_rPair) (arg_cb 18 rfl) (arg_op 8 1 rfl rfl rfl rfl) (arg_op 9 0 rfl rfl rfl rfl)) ?_
      refine ch_nil ?_
      intro a145 w146 hf147 hg148 hk149 hn150
      have h151 : Holds _ (a145.eval (.tmp 36)) w146 := hn150.at 10 0 rfl rfl rfl
      have hv152 : Holds (Is (PtrV bk33)) (a145.eval (.tmp 8)) w146 := is_any (hk149.holds rfl hv130)
      have hb153 : Blk bk33 _ w146 := hb131.up hg148
      have g154 : Grow w0 w146 := g134.trans hg148
      have g155 : Grow w2 w146 := g135.trans hg148
      have g156 : Grow w38 w146 := g136.trans hg148
      have g157 : Grow w118 w146 := g138.trans hg148
      clear hv130 hb131 g134 g135 g136 g138 hf119 hk149 hn150
      refine wl_store_nm hv152 hb153 rfl h151 ?_
      intro w158 ho159 hb160
      have g161 : Grow w0 w158 := g154.only ho159 (by omega)
      have g162 : Grow w2 w158 := g155.only ho159 (by omega)
      have hv163 : Holds (Is (PtrV bk33)) (a145.eval (.tmp 8)) w158 := is_any hv152
      refine wpList_nil ?_
      refine then_ ?_
      refine wp_ret ?_
      refine thenR ?_
      refine ret_cell rfl Try.underlying23 rfl (by kernel_rfl) hf147 g161 (hb160.ptr hv163) ?_
      exact congrArg nmV (comp_left x p (by omega) (by omega)).symm
    · intro hc137
      try simp only [cond_norm] at hc137
      refine wp_skip ?_
      refine then_ ?_
      refine wp_seq ?_
      have g164 : Grow w118 w118 := Grow.refl _
      have hl165 : bk12 < w118.heap.size := hb129.lt
      have hl166 : bk33 < w118.heap.size := hb131.lt
      have hl167 : bk101 < w118.heap.size := hb133.lt
      have hz168 : w38.heap.size ≤ w118.heap.size := g136.size
      refine wp_calm_tail (l1 := [_, _, _, _, _, _, _, _, _, _, _, _, _, _, _]) [0, 0, 0, 0, 12, 0, 0, 96, 0, 0, 512, 1536, 3840, 8190, 16383, 32767] [([10], []), ([4], []), ([1], []), ([9], []), ([], [2, 3]), ([2], []), ([9], []), ([], [5, 6]), ([3], []), ([3], []), ([], [9]), ([], [10]), ([], [8, 11]), ([], [1, 4, 7, 12]), ([], [0, 13])] [8] w118.heap.size hf119 g164.size (by kernel_rfl) (bund_cons (hb133.ownp hv132) (bund_cons (hb129.ownp hv128) (bund_cons (is_any h125) (bund_cons h124 (bund_cons (is_any h126) (bund_cons (is_any h127) bund_nil)))))) ?_
      intro ws169 hs170
      refine ch rfl (ob_load_nm (ArgOK.ownp (arg_free 0 rfl rfl))) ?_
      refine ch rfl (ob_load_nm (ArgOK.ownp (arg_free 1 rfl rfl))) ?_
      refine ch rfl (ob_move (arg_free 2 rfl rfl)) ?_
      refine ch rfl (ob_move (arg_free 3 rfl rfl)) ?_
      first
        | (refine ch rfl (ob_sub' (arg_op 2 1 rfl rfl rfl rfl) (arg_op 3 0 rfl rfl rfl rfl) ?_) ?_; · omega)
        | refine ch rfl (ob_sub (arg_op 2 1 rfl rfl rfl rfl) (arg_op 3 0 rfl rfl rfl rfl)) ?_
      refine ch rfl (ob_move (arg_free 4 rfl rfl)) ?_
      refine ch rfl (ob_move (arg_free 3 rfl rfl)) ?_
      first
        | (refine ch rfl (ob_sub' (arg_op 5 1 rfl rfl rfl rfl) (arg_op 6 0 rfl rfl rfl rfl) ?_) ?_; · omega)
        | refine ch rfl (ob_sub (arg_op 5 1 rfl rfl rfl rfl) (arg_op 6 0 rfl rfl rfl rfl)) ?_
      refine ch rfl (ob_move (arg_free 5 rfl rfl)) ?_
      refine ch rfl (ob_move (arg_free 5 rfl rfl)) ?_
      refine ch rfl (ob_len (ArgOK.val (arg_op 9 0 rfl rfl rfl rfl) ((hv3.up g134).up hs170)) Try.underlying39) ?_
      first
        | (refine ch rfl (ob_sub' (arg_op 10 0 rfl rfl rfl rfl) arg_c ?_) ?_; · omega)
        | refine ch rfl (ob_sub (arg_op 10 0 rfl rfl rfl rfl) arg_c) ?_
      refine ch rfl (ob_slice_to (ArgOK.val (arg_op 8 3 rfl rfl rfl rfl) ((hv3.up g134).up hs170)) (arg_op 11 0 rfl rfl rfl rfl) ((show ((p.length : Int) - 1) = ((p.length - 1 : Nat) : Int) by omega)) ?_ Try.underlying39 szNm) ?_
      · omega
      refine ch rfl (ob_call4 (by kernel_rfl) (ih (i - split n) ((n - split n)) _ _ _ ?_ ?_ ?_ ?_ ?_ ?_) (arg_op 1 11 rfl rfl rfl rfl) (arg_op 4 8 rfl rfl rfl rfl) (arg_op 7 5 rfl rfl rfl rfl) (arg_op 12 0 rfl rfl rfl rfl)) ?_
      · omega
      · omega
      · omega
      · (have hq := dep_right (i := i) (n := n) (by omega) (by omega); rw [List.length_take]; omega)
      · omega
      · omega
      refine ch rfl (ob_call3 (by kernel_rfl) (c_rPair) (arg_cb 18 rfl) (arg_op 0 13 rfl rfl rfl rfl) (arg_op 13 0 rfl rfl rfl rfl)) ?_
      refine ch_nil ?_
      intro a171 w172 hf173 hg174 hk175 hn176
      have h177 : Holds _ (a171.eval (.tmp 51)) w172 := hn176.at 14 0 rfl rfl rfl
      have hv178 : Holds (Is (PtrV bk33)) (a171.eval (.tmp 8)) w172 := is_any (hk175.holds rfl hv130)
      have hb179 : Blk bk33 _ w172 := hb131.up hg174
      have g180 : Grow w0 w172 := g134.trans hg174
      have g181 : Grow w2 w172 := g135.trans hg174
      have g182 : Grow w38 w172 := g136.trans hg174
      have g183 : Grow w118 w172 := g164.trans hg174
      clear hv130 hb131 g134 g135 g136 g164 hf119 hk175 hn176
      refine wl_store_nm hv178 hb179 rfl h177 ?_
      intro w184 ho185 hb186
      have g187 : Grow w0 w184 := g180.only ho185 (by omega)
      have g188 : Grow w2 w184 := g181.only ho185 (by omega)
      have hv189 : Holds (Is (PtrV bk33)) (a171.eval (.tmp 8)) w184 := is_any hv178
      refine wpList_nil ?_
      refine then_ ?_
      refine wp_ret ?_
      refine ret_cell rfl Try.underlying23 rfl (by kernel_rfl) hf173 g187 (hb186.ptr hv189) ?_
      exact congrArg nmV (comp_right x p (by omega) (by omega)).symm


theorem c_follow {x : UInt64} : ∀ {i n : Nat} {iz nz : Int} {p : List UInt64} (_ : 1 ≤ n) (_ : n ≤ 9223372036854775807) (_ : i < n) (_ : p.length = dep i n) (_ : iz = (i : Int)) (_ : nz = (n : Int)), Con4 115 (Is (nmV x)) (Is (intV iz)) (Is (intV nz)) (Sl elNm p) (fun _ => Is (nmV (comp x i n p))) := by
  have key : ∀ (n i : Nat) (iz nz : Int) (p : List UInt64), 1 ≤ n → n ≤ 9223372036854775807 → i < n → p.length = dep i n → iz = (i : Int) → nz = (n : Int) → Con4 115 (Is (nmV x)) (Is (intV iz)) (Is (intV nz)) (Sl elNm p) (fun _ => Is (nmV (comp x i n p))) := by
    intro n
    induction n using Nat.strongRecOn with
    | _ n ih =>
      intro i iz nz p h1 h2 h3 h4 h5 h6
      exact c_follow_step h1 h2 h3 h4 h5 h6 fun i' n' iz' nz' p' g1 g2 g3 g4 g5 g6 => ih n' g1 i' iz' nz' p' g2 (by omega) g3 g4 g5 g6
  intro i n iz nz p h1 h2 h3 h4 h5 h6
  exact key n i iz nz p h1 h2 h3 h4 h5 h6

set_option maxRecDepth 100000 in
theorem c_Follow {x : UInt64} {i n : Int} {p : List UInt64} (hi : -9223372036854775808 ≤ i) (hn : n ≤ 9223372036854775807) : Con4 59 (Is (nmV x)) (Is (intV i)) (Is (intV n)) (Sl elNm p) (fun _ => Two (Is (nmV (folV x i n p))) (Is (.bool (folB i n p)))) := by
  intro lo v0 v1 v2 v3 w0 hlo hv0 hv1 hv2 hv3
  refine enter Try.func59 rfl Try.ntmps59 (by simp) ?_
  intro a0 hf0 ha
  have h00 : Holds _ (a0.eval (.tmp 0)) w0 := arg_holds ha rfl hv0
  have h01 : Holds _ (a0.eval (.tmp 1)) w0 := arg_holds ha rfl hv1
  have h02 : Holds _ (a0.eval (.tmp 2)) w0 := arg_holds ha rfl hv2
  have h03 : Holds (Is v3) (a0.eval (.tmp 3)) w0 := arg_holds ha rfl rfl
  clear ha
  have g0 : Grow w0 w0 := Grow.refl _
  refine wp_seq ?_
  refine wp_region_lit ?_
  refine wp_seg (l1 := [_]) [([0], [])] [1, 2, 3] w0.heap.size hf0 g0.size (by kernel_rfl) (bund_cons h00 bund_nil) ?_
  refine ch rfl (ob_box_nm (arg_free 0 rfl rfl)) ?_
  refine ch_nil ?_
  intro a1 w2 hf3 hg4 hk5 hn6
  have h7 : Holds _ (a1.eval (.tmp 4)) w2 := hn6.at 0 0 rfl rfl rfl
  have h8 : Holds _ (a1.eval (.tmp 1)) w0 := hk5.holds rfl h01
  have h9 : Holds _ (a1.eval (.tmp 2)) w0 := hk5.holds rfl h02
  have h10 : Holds _ (a1.eval (.tmp 3)) w0 := hk5.holds rfl h03
  have g11 : Grow w0 w2 := g0.trans hg4
  obtain ⟨bk12, hl13, hv14, hb15⟩ := OwnB.blk (lo := w0.heap.size) h7
  clear h01 h02 h03 g0 hf0 hk5 hn6
  have g16 : Grow w2 w2 := Grow.refl _
  have hl17 : bk12 < w2.heap.size := hb15.lt
  have hz18 : w0.heap.size ≤ w2.heap.size := g11.size
  refine wp_all [([], []), ([], [])] [1, 2, 3, 4] w2.heap.size hf3 g16.size (by kernel_rfl) bund_nil ?_
  refine ch rfl (ob_alloc_nm) ?_
  refine ch rfl (ob_assign arg_c) ?_
  refine ch_nil ?_
  intro a19 w20 hf21 hg22 hk23 hn24
  have h25 : Holds _ (a19.eval (.tmp 8)) w20 := hn24.at 0 1 rfl rfl rfl
  have h26 : Holds _ (a19.eval (.tmp 1)) w0 := hk23.holds rfl h8
  have h27 : Holds _ (a19.eval (.tmp 2)) w0 := hk23.holds rfl h9
  have h28 : Holds _ (a19.eval (.tmp 3)) w0 := hk23.holds rfl h10
  have hv29 : Holds (Is (PtrV bk12)) (a19.eval (.tmp 4)) w20 := is_any (hk23.holds rfl hv14)
  have hb30 : Blk bk12 _ w20 := hb15.up hg22
  have g31 : Grow w0 w20 := g11.trans hg22
  have g32 : Grow w2 w20 := g16.trans hg22
  obtain ⟨bk33, hl34, hv35, hb36⟩ := OwnB.blk (lo := w2.heap.size) h25
  clear h8 h9 h10 hv14 hb15 g11 g16 hf3 hk23 hn24
  refine then_ ?_
  refine wp_seq ?_
  refine wp_seq ?_
  have g37 : Grow w20 w20 := Grow.refl _
  have hl38 : bk12 < w20.heap.size := hb30.lt
  have hl39 : bk33 < w20.heap.size := hb36.lt
  have hz40 : w2.heap.size ≤ w20.heap.size := g32.size
  refine wp_region_lit ?_
  refine wp_all [([1], []), ([2], []), ([], [0, 1]), ([], [2])] [1, 2, 3, 4, 8] w20.heap.size hf21 g37.size (by kernel_rfl) (bund_cons (is_any h26) (bund_cons (is_any h27) bund_nil)) ?_
  refine ch rfl (ob_move (arg_free 0 rfl rfl)) ?_
  refine ch rfl (ob_move (arg_free 1 rfl rfl)) ?_
  refine ch rfl (ob_call2 (by kernel_rfl) (c_Depth ?_ ?_) (arg_op 0 1 rfl rfl rfl rfl) (arg_op 1 0 rfl rfl rfl rfl)) ?_
  · omega
  · omega
  refine ch rfl (ob_assign (arg_op 2 0 rfl rfl rfl rfl)) ?_
  refine ch_nil ?_
  intro a41 w42 hf43 hg44 hk45 hn46
  have h47 : Holds _ (a41.eval (.tmp 10)) w42 := hn46.at 3 0 rfl rfl rfl
  have h48 : Holds _ (a41.eval (.tmp 1)) w0 := hk45.holds rfl h26
  have h49 : Holds _ (a41.eval (.tmp 2)) w0 := hk45.holds rfl h27
  have h50 : Holds _ (a41.eval (.tmp 3)) w0 := hk45.holds rfl h28
  have hv51 : Holds (Is (PtrV bk12)) (a41.eval (.tmp 4)) w42 := is_any (hk45.holds rfl hv29)
  have hb52 : Blk bk12 _ w42 := hb30.up hg44
  have hv53 : Holds (Is (PtrV bk33)) (a41.eval (.tmp 8)) w42 := is_any (hk45.holds rfl hv35)
  have hb54 : Blk bk33 _ w42 := hb36.up hg44
  have g55 : Grow w0 w42 := g31.trans hg44
  have g56 : Grow w2 w42 := g32.trans hg44
  have g57 : Grow w20 w42 := g37.trans hg44
  clear h26 h27 h28 hv29 hb30 hv35 hb36 g31 g32 g37 hf21 hk45 hn46
  refine then_ ?_
  refine wp_seq ?_
  refine wp_region_lit ?_
  refine wp_all [([10], []), ([], [0]), ([], [1]), ([3], [2]), ([], [3, 2]), ([10], [2]), ([], [4, 5, 2]), ([], [2, 6])] [1, 2, 3, 4, 8] w20.heap.size hf43 g57.size (by kernel_rfl) (bund_cons h47 (bund_cons (is_any h50) bund_nil)) ?_
  refine ch rfl (ob_move (arg_free 0 rfl rfl)) ?_
  refine ch rfl (ob_lss (arg_op 0 0 rfl rfl rfl rfl) arg_c) ?_
  refine ch rfl (ob_move (arg_op 1 0 rfl rfl rfl rfl)) ?_
  refine chg (b := _) rfl rfl (arg_op 2 0 rfl rfl rfl rfl) (fun hb2 => ob_move (arg_free 1 rfl rfl)) ?_
  refine chg (b := _) rfl rfl (arg_op 2 1 rfl rfl rfl rfl) (fun hb2 => ob_len (ArgOK.val (ArgOK.when (arg_op 3 0 rfl rfl rfl rfl) hb2) (hv3.up g55)) Try.underlying39) ?_
  refine chg (b := _) rfl rfl (arg_op 2 2 rfl rfl rfl rfl) (fun hb2 => ob_move (arg_free 0 rfl rfl)) ?_
  refine chg (b := _) rfl rfl (arg_op 2 3 rfl rfl rfl rfl) (fun hb2 => ob_neq (ArgOK.when (arg_op 4 1 rfl rfl rfl rfl) hb2) (ArgOK.when (arg_op 5 0 rfl rfl rfl rfl) hb2)) ?_
  refine ch rfl (ob_or (arg_op 2 4 rfl rfl rfl rfl) (arg_op 6 0 rfl rfl rfl rfl)) ?_
  refine ch_nil ?_
  intro a58 w59 hf60 hg61 hk62 hn63
  have h64 : Holds _ (a58.eval (.tmp 21)) w59 := hn63.at 7 0 rfl rfl rfl
  have h65 : Holds _ (a58.eval (.tmp 1)) w0 := hk62.holds rfl h48
  have h66 : Holds _ (a58.eval (.tmp 2)) w0 := hk62.holds rfl h49
  have h67 : Holds _ (a58.eval (.tmp 3)) w0 := hk62.holds rfl h50
  have hv68 : Holds (Is (PtrV bk12)) (a58.eval (.tmp 4)) w59 := is_any (hk62.holds rfl hv51)
  have hb69 : Blk bk12 _ w59 := hb52.up hg61
  have hv70 : Holds (Is (PtrV bk33)) (a58.eval (.tmp 8)) w59 := is_any (hk62.holds rfl hv53)
  have hb71 : Blk bk33 _ w59 := hb54.up hg61
  have g72 : Grow w0 w59 := g55.trans hg61
  have g73 : Grow w2 w59 := g56.trans hg61
  have g74 : Grow w20 w59 := g57.trans hg61
  clear h48 h49 h50 hv51 hb52 hv53 hb54 g55 g56 g57 hf43 hk62 hn63 hg61
  refine then_ ?_
  refine wp_if h64 ?_ ?_
  · intro hc75
    try simp only [cond_norm] at hc75
    refine wp_seq ?_
    have g76 : Grow w59 w59 := Grow.refl _
    have hl77 : bk12 < w59.heap.size := hb69.lt
    have hl78 : bk33 < w59.heap.size := hb71.lt
    have hz79 : w20.heap.size ≤ w59.heap.size := g74.size
    refine wp_region_lit ?_
    refine wp_seg (l1 := [_]) [([], [])] [8] w59.heap.size hf60 g76.size (by kernel_rfl) bund_nil ?_
    refine ch rfl (ob_build_nm0) ?_
    refine ch_nil ?_
    intro a80 w81 hf82 hg83 hk84 hn85
    have h86 : Holds _ (a80.eval (.tmp 22)) w81 := hn85.at 0 0 rfl rfl rfl
    have hv87 : Holds (Is (PtrV bk33)) (a80.eval (.tmp 8)) w81 := is_any (hk84.holds rfl hv70)
    have hb88 : Blk bk33 _ w81 := hb71.up hg83
    have g89 : Grow w0 w81 := g72.trans hg83
    have g90 : Grow w2 w81 := g73.trans hg83
    have g91 : Grow w20 w81 := g74.trans hg83
    have g92 : Grow w59 w81 := g76.trans hg83
    clear hv70 hb71 g72 g73 g74 g76 hf60 hk84 hn85
    refine wl_store_nm hv87 hb88 rfl h86 ?_
    intro w93 ho94 hb95
    have g96 : Grow w0 w93 := g89.only ho94 (by omega)
    have g97 : Grow w2 w93 := g90.only ho94 (by omega)
    have hv98 : Holds (Is (PtrV bk33)) (a80.eval (.tmp 8)) w93 := is_any hv87
    refine wp_all [([], [])] [8] w2.heap.size hf82 g97.size (by kernel_rfl) bund_nil ?_
    refine ch rfl (ob_assign arg_c) ?_
    refine ch_nil ?_
    intro a99 w100 hf101 hg102 hk103 hn104
    have h105 : Holds _ (a99.eval (.tmp 9)) w100 := hn104.at 0 0 rfl rfl rfl
    have hv106 : Holds (Is (PtrV bk33)) (a99.eval (.tmp 8)) w100 := is_any (hk103.holds rfl hv98)
    have hb107 : Blk bk33 _ w100 := hb95.up hg102
    have g108 : Grow w0 w100 := g96.trans hg102
    have g109 : Grow w2 w100 := g97.trans hg102
    clear hv98 hb95 g96 g97 hf82 hk103 hn104 hg102
    refine then_ ?_
    refine wp_ret ?_
    refine thenR ?_
    refine ret_cell_tmp rfl Try.underlying23 rfl (by kernel_rfl) hf101 g108 (hb107.ptr hv106) ?_ (is_cast h105 (congrArg Value.bool (by first | exact folB_no (by omega) | exact folB_yes ⟨by omega, by omega⟩)))
    exact congrArg nmV (folV_no (by omega))
  · intro hc75
    try simp only [cond_norm] at hc75
    have hp := depI_pos (i := i) (n := n) (by omega)
    refine wp_skip ?_
    refine then_ ?_
    refine wp_seq ?_
    have g110 : Grow w59 w59 := Grow.refl _
    have hl111 : bk12 < w59.heap.size := hb69.lt
    have hl112 : bk33 < w59.heap.size := hb71.lt
    have hz113 : w20.heap.size ≤ w59.heap.size := g74.size
    refine wp_region_lit ?_
    refine wp_seg (l1 := [_, _, _, _, _]) [([4], []), ([1], []), ([2], []), ([3], []), ([], [0, 1, 2, 3])] [8] w59.heap.size hf60 g110.size (by kernel_rfl) (bund_cons (hb69.ownp hv68) (bund_cons (is_any h65) (bund_cons (is_any h66) (bund_cons (is_any h67) bund_nil)))) ?_
    refine ch rfl (ob_load_nm (ArgOK.ownp (arg_free 0 rfl rfl))) ?_
    refine ch rfl (ob_move (arg_free 1 rfl rfl)) ?_
    refine ch rfl (ob_move (arg_free 2 rfl rfl)) ?_
    refine ch rfl (ob_move (arg_free 3 rfl rfl)) ?_
    refine ch rfl (ob_call4 (by kernel_rfl) (c_computed (i := i.toNat) (n := n.toNat) ?_ ?_ ?_ ?_ ?_ ?_) (arg_op 0 3 rfl rfl rfl rfl) (arg_op 1 2 rfl rfl rfl rfl) (arg_op 2 1 rfl rfl rfl rfl) (ArgOK.val (arg_op 3 0 rfl rfl rfl rfl) (hv3.up g72))) ?_
    · omega
    · omega
    · omega
    · (have hq := depI_nat (i := i) (n := n) (by omega); omega)
    · omega
    · omega
    refine ch_nil ?_
    intro a114 w115 hf116 hg117 hk118 hn119
    have h120 : Holds _ (a114.eval (.tmp 27)) w115 := hn119.at 4 0 rfl rfl rfl
    have hv121 : Holds (Is (PtrV bk33)) (a114.eval (.tmp 8)) w115 := is_any (hk118.holds rfl hv70)
    have hb122 : Blk bk33 _ w115 := hb71.up hg117
    have g123 : Grow w0 w115 := g72.trans hg117
    have g124 : Grow w2 w115 := g73.trans hg117
    have g125 : Grow w20 w115 := g74.trans hg117
    have g126 : Grow w59 w115 := g110.trans hg117
    clear hv70 hb71 g72 g73 g74 g110 hf60 hk118 hn119
    refine wl_store_nm hv121 hb122 rfl h120 ?_
    intro w127 ho128 hb129
    have g130 : Grow w0 w127 := g123.only ho128 (by omega)
    have g131 : Grow w2 w127 := g124.only ho128 (by omega)
    have hv132 : Holds (Is (PtrV bk33)) (a114.eval (.tmp 8)) w127 := is_any hv121
    refine wp_all [([], [])] [8] w2.heap.size hf116 g131.size (by kernel_rfl) bund_nil ?_
    refine ch rfl (ob_assign arg_c) ?_
    refine ch_nil ?_
    intro a133 w134 hf135 hg136 hk137 hn138
    have h139 : Holds _ (a133.eval (.tmp 9)) w134 := hn138.at 0 0 rfl rfl rfl
    have hv140 : Holds (Is (PtrV bk33)) (a133.eval (.tmp 8)) w134 := is_any (hk137.holds rfl hv132)
    have hb141 : Blk bk33 _ w134 := hb129.up hg136
    have g142 : Grow w0 w134 := g130.trans hg136
    have g143 : Grow w2 w134 := g131.trans hg136
    clear hv132 hb129 g130 g131 hf116 hk137 hn138 hg136
    refine then_ ?_
    refine wp_ret ?_
    refine ret_cell_tmp rfl Try.underlying23 rfl (by kernel_rfl) hf135 g142 (hb141.ptr hv140) ?_ (is_cast h139 (congrArg Value.bool (by first | exact folB_no (by omega) | exact folB_yes ⟨by omega, by omega⟩)))
    exact congrArg nmV (folV_yes ⟨by omega, by omega⟩)

set_option maxRecDepth 100000 in
theorem c_rFollow {x : UInt64} {i n : Int} {p : List UInt64} (hi : -9223372036854775808 ≤ i) (hn : n ≤ 9223372036854775807) : Con4 60 (Is (nmV x)) (Is (intV i)) (Is (intV n)) (Sl elNm p) (fun _ => Two (Is (nmV (folV x i n p))) (Is (.bool (folB i n p)))) := by
  intro lo v0 v1 v2 v3 w0 hlo hv0 hv1 hv2 hv3
  refine enter Try.func60 rfl Try.ntmps60 (by simp) ?_
  intro a0 hf0 ha
  have h00 : Holds _ (a0.eval (.tmp 0)) w0 := arg_holds ha rfl hv0
  have h01 : Holds _ (a0.eval (.tmp 1)) w0 := arg_holds ha rfl hv1
  have h02 : Holds _ (a0.eval (.tmp 2)) w0 := arg_holds ha rfl hv2
  have h03 : Holds (Is v3) (a0.eval (.tmp 3)) w0 := arg_holds ha rfl rfl
  clear ha
  have g0 : Grow w0 w0 := Grow.refl _
  refine wp_seq ?_
  refine wp_region_lit ?_
  refine wp_seg (l1 := [_]) [([0], [])] [1, 2, 3] w0.heap.size hf0 g0.size (by kernel_rfl) (bund_cons h00 bund_nil) ?_
  refine ch rfl (ob_box_nm (arg_free 0 rfl rfl)) ?_
  refine ch_nil ?_
  intro a1 w2 hf3 hg4 hk5 hn6
  have h7 : Holds _ (a1.eval (.tmp 4)) w2 := hn6.at 0 0 rfl rfl rfl
  have h8 : Holds _ (a1.eval (.tmp 1)) w0 := hk5.holds rfl h01
  have h9 : Holds _ (a1.eval (.tmp 2)) w0 := hk5.holds rfl h02
  have h10 : Holds _ (a1.eval (.tmp 3)) w0 := hk5.holds rfl h03
  have g11 : Grow w0 w2 := g0.trans hg4
  obtain ⟨bk12, hl13, hv14, hb15⟩ := OwnB.blk (lo := w0.heap.size) h7
  clear h01 h02 h03 g0 hf0 hk5 hn6
  have g16 : Grow w2 w2 := Grow.refl _
  have hl17 : bk12 < w2.heap.size := hb15.lt
  have hz18 : w0.heap.size ≤ w2.heap.size := g11.size
  refine wp_all [([], []), ([], [])] [1, 2, 3, 4] w2.heap.size hf3 g16.size (by kernel_rfl) bund_nil ?_
  refine ch rfl (ob_alloc_nm) ?_
  refine ch rfl (ob_assign arg_c) ?_
  refine ch_nil ?_
  intro a19 w20 hf21 hg22 hk23 hn24
  have h25 : Holds _ (a19.eval (.tmp 8)) w20 := hn24.at 0 1 rfl rfl rfl
  have h26 : Holds _ (a19.eval (.tmp 1)) w0 := hk23.holds rfl h8
  have h27 : Holds _ (a19.eval (.tmp 2)) w0 := hk23.holds rfl h9
  have h28 : Holds _ (a19.eval (.tmp 3)) w0 := hk23.holds rfl h10
  have hv29 : Holds (Is (PtrV bk12)) (a19.eval (.tmp 4)) w20 := is_any (hk23.holds rfl hv14)
  have hb30 : Blk bk12 _ w20 := hb15.up hg22
  have g31 : Grow w0 w20 := g11.trans hg22
  have g32 : Grow w2 w20 := g16.trans hg22
  obtain ⟨bk33, hl34, hv35, hb36⟩ := OwnB.blk (lo := w2.heap.size) h25
  clear h8 h9 h10 hv14 hb15 g11 g16 hf3 hk23 hn24
  refine then_ ?_
  refine wp_seq ?_
  refine wp_seq ?_
  have g37 : Grow w20 w20 := Grow.refl _
  have hl38 : bk12 < w20.heap.size := hb30.lt
  have hl39 : bk33 < w20.heap.size := hb36.lt
  have hz40 : w2.heap.size ≤ w20.heap.size := g32.size
  refine wp_region_lit ?_
  refine wp_all [([1], []), ([2], []), ([], [0, 1]), ([], [2])] [1, 2, 3, 4, 8] w20.heap.size hf21 g37.size (by kernel_rfl) (bund_cons (is_any h26) (bund_cons (is_any h27) bund_nil)) ?_
  refine ch rfl (ob_move (arg_free 0 rfl rfl)) ?_
  refine ch rfl (ob_move (arg_free 1 rfl rfl)) ?_
  refine ch rfl (ob_call2 (by kernel_rfl) (c_rDepth ?_ ?_) (arg_op 0 1 rfl rfl rfl rfl) (arg_op 1 0 rfl rfl rfl rfl)) ?_
  · omega
  · omega
  refine ch rfl (ob_assign (arg_op 2 0 rfl rfl rfl rfl)) ?_
  refine ch_nil ?_
  intro a41 w42 hf43 hg44 hk45 hn46
  have h47 : Holds _ (a41.eval (.tmp 10)) w42 := hn46.at 3 0 rfl rfl rfl
  have h48 : Holds _ (a41.eval (.tmp 1)) w0 := hk45.holds rfl h26
  have h49 : Holds _ (a41.eval (.tmp 2)) w0 := hk45.holds rfl h27
  have h50 : Holds _ (a41.eval (.tmp 3)) w0 := hk45.holds rfl h28
  have hv51 : Holds (Is (PtrV bk12)) (a41.eval (.tmp 4)) w42 := is_any (hk45.holds rfl hv29)
  have hb52 : Blk bk12 _ w42 := hb30.up hg44
  have hv53 : Holds (Is (PtrV bk33)) (a41.eval (.tmp 8)) w42 := is_any (hk45.holds rfl hv35)
  have hb54 : Blk bk33 _ w42 := hb36.up hg44
  have g55 : Grow w0 w42 := g31.trans hg44
  have g56 : Grow w2 w42 := g32.trans hg44
  have g57 : Grow w20 w42 := g37.trans hg44
  clear h26 h27 h28 hv29 hb30 hv35 hb36 g31 g32 g37 hf21 hk45 hn46
  refine then_ ?_
  refine wp_seq ?_
  refine wp_region_lit ?_
  refine wp_all [([10], []), ([], [0]), ([], [1]), ([10], [2]), ([3], [2]), ([], [4, 2]), ([], [3, 5, 2]), ([], [2, 6])] [1, 2, 3, 4, 8] w20.heap.size hf43 g57.size (by kernel_rfl) (bund_cons h47 (bund_cons (is_any h50) bund_nil)) ?_
  refine ch rfl (ob_move (arg_free 0 rfl rfl)) ?_
  refine ch rfl (ob_lss (arg_op 0 0 rfl rfl rfl rfl) arg_c) ?_
  refine ch rfl (ob_move (arg_op 1 0 rfl rfl rfl rfl)) ?_
  refine chg (b := _) rfl rfl (arg_op 2 0 rfl rfl rfl rfl) (fun hb2 => ob_move (arg_free 0 rfl rfl)) ?_
  refine chg (b := _) rfl rfl (arg_op 2 1 rfl rfl rfl rfl) (fun hb2 => ob_move (arg_free 1 rfl rfl)) ?_
  refine chg (b := _) rfl rfl (arg_op 2 2 rfl rfl rfl rfl) (fun hb2 => ob_len (ArgOK.val (ArgOK.when (arg_op 4 0 rfl rfl rfl rfl) hb2) (hv3.up g55)) Try.underlying39) ?_
  refine chg (b := _) rfl rfl (arg_op 2 3 rfl rfl rfl rfl) (fun hb2 => ob_neq (ArgOK.when (arg_op 3 2 rfl rfl rfl rfl) hb2) (ArgOK.when (arg_op 5 0 rfl rfl rfl rfl) hb2)) ?_
  refine ch rfl (ob_or (arg_op 2 4 rfl rfl rfl rfl) (arg_op 6 0 rfl rfl rfl rfl)) ?_
  refine ch_nil ?_
  intro a58 w59 hf60 hg61 hk62 hn63
  have h64 : Holds _ (a58.eval (.tmp 21)) w59 := hn63.at 7 0 rfl rfl rfl
  have h65 : Holds _ (a58.eval (.tmp 1)) w0 := hk62.holds rfl h48
  have h66 : Holds _ (a58.eval (.tmp 2)) w0 := hk62.holds rfl h49
  have h67 : Holds _ (a58.eval (.tmp 3)) w0 := hk62.holds rfl h50
  have hv68 : Holds (Is (PtrV bk12)) (a58.eval (.tmp 4)) w59 := is_any (hk62.holds rfl hv51)
  have hb69 : Blk bk12 _ w59 := hb52.up hg61
  have hv70 : Holds (Is (PtrV bk33)) (a58.eval (.tmp 8)) w59 := is_any (hk62.holds rfl hv53)
  have hb71 : Blk bk33 _ w59 := hb54.up hg61
  have g72 : Grow w0 w59 := g55.trans hg61
  have g73 : Grow w2 w59 := g56.trans hg61
  have g74 : Grow w20 w59 := g57.trans hg61
  clear h48 h49 h50 hv51 hb52 hv53 hb54 g55 g56 g57 hf43 hk62 hn63 hg61
  refine then_ ?_
  refine wp_if h64 ?_ ?_
  · intro hc75
    try simp only [cond_norm] at hc75
    refine wp_seq ?_
    have g76 : Grow w59 w59 := Grow.refl _
    have hl77 : bk12 < w59.heap.size := hb69.lt
    have hl78 : bk33 < w59.heap.size := hb71.lt
    have hz79 : w20.heap.size ≤ w59.heap.size := g74.size
    refine wp_region_lit ?_
    refine wp_seg (l1 := [_]) [([], [])] [8] w59.heap.size hf60 g76.size (by kernel_rfl) bund_nil ?_
    refine ch rfl (ob_build_nm0) ?_
    refine ch_nil ?_
    intro a80 w81 hf82 hg83 hk84 hn85
    have h86 : Holds _ (a80.eval (.tmp 22)) w81 := hn85.at 0 0 rfl rfl rfl
    have hv87 : Holds (Is (PtrV bk33)) (a80.eval (.tmp 8)) w81 := is_any (hk84.holds rfl hv70)
    have hb88 : Blk bk33 _ w81 := hb71.up hg83
    have g89 : Grow w0 w81 := g72.trans hg83
    have g90 : Grow w2 w81 := g73.trans hg83
    have g91 : Grow w20 w81 := g74.trans hg83
    have g92 : Grow w59 w81 := g76.trans hg83
    clear hv70 hb71 g72 g73 g74 g76 hf60 hk84 hn85
    refine wl_store_nm hv87 hb88 rfl h86 ?_
    intro w93 ho94 hb95
    have g96 : Grow w0 w93 := g89.only ho94 (by omega)
    have g97 : Grow w2 w93 := g90.only ho94 (by omega)
    have hv98 : Holds (Is (PtrV bk33)) (a80.eval (.tmp 8)) w93 := is_any hv87
    refine wp_all [([], [])] [8] w2.heap.size hf82 g97.size (by kernel_rfl) bund_nil ?_
    refine ch rfl (ob_assign arg_c) ?_
    refine ch_nil ?_
    intro a99 w100 hf101 hg102 hk103 hn104
    have h105 : Holds _ (a99.eval (.tmp 9)) w100 := hn104.at 0 0 rfl rfl rfl
    have hv106 : Holds (Is (PtrV bk33)) (a99.eval (.tmp 8)) w100 := is_any (hk103.holds rfl hv98)
    have hb107 : Blk bk33 _ w100 := hb95.up hg102
    have g108 : Grow w0 w100 := g96.trans hg102
    have g109 : Grow w2 w100 := g97.trans hg102
    clear hv98 hb95 g96 g97 hf82 hk103 hn104 hg102
    refine then_ ?_
    refine wp_ret ?_
    refine thenR ?_
    refine ret_cell_tmp rfl Try.underlying23 rfl (by kernel_rfl) hf101 g108 (hb107.ptr hv106) ?_ (is_cast h105 (congrArg Value.bool (by first | exact folB_no (by omega) | exact folB_yes ⟨by omega, by omega⟩)))
    exact congrArg nmV (folV_no (by omega))
  · intro hc75
    try simp only [cond_norm] at hc75
    have hp := depI_pos (i := i) (n := n) (by omega)
    refine wp_skip ?_
    refine then_ ?_
    refine wp_seq ?_
    have g110 : Grow w59 w59 := Grow.refl _
    have hl111 : bk12 < w59.heap.size := hb69.lt
    have hl112 : bk33 < w59.heap.size := hb71.lt
    have hz113 : w20.heap.size ≤ w59.heap.size := g74.size
    refine wp_region_lit ?_
    refine wp_seg (l1 := [_, _, _, _, _]) [([4], []), ([1], []), ([2], []), ([3], []), ([], [0, 1, 2, 3])] [8] w59.heap.size hf60 g110.size (by kernel_rfl) (bund_cons (hb69.ownp hv68) (bund_cons (is_any h65) (bund_cons (is_any h66) (bund_cons (is_any h67) bund_nil)))) ?_
    refine ch rfl (ob_load_nm (ArgOK.ownp (arg_free 0 rfl rfl))) ?_
    refine ch rfl (ob_move (arg_free 1 rfl rfl)) ?_
    refine ch rfl (ob_move (arg_free 2 rfl rfl)) ?_
    refine ch rfl (ob_move (arg_free 3 rfl rfl)) ?_
    refine ch rfl (ob_call4 (by kernel_rfl) (c_follow (i := i.toNat) (n := n.toNat) ?_ ?_ ?_ ?_ ?_ ?_) (arg_op 0 3 rfl rfl rfl rfl) (arg_op 1 2 rfl rfl rfl rfl) (arg_op 2 1 rfl rfl rfl rfl) (ArgOK.val (arg_op 3 0 rfl rfl rfl rfl) (hv3.up g72))) ?_
    · omega
    · omega
    · omega
    · (have hq := depI_nat (i := i) (n := n) (by omega); omega)
    · omega
    · omega
    refine ch_nil ?_
    intro a114 w115 hf116 hg117 hk118 hn119
    have h120 : Holds _ (a114.eval (.tmp 27)) w115 := hn119.at 4 0 rfl rfl rfl
    have hv121 : Holds (Is (PtrV bk33)) (a114.eval (.tmp 8)) w115 := is_any (hk118.holds rfl hv70)
    have hb122 : Blk bk33 _ w115 := hb71.up hg117
    have g123 : Grow w0 w115 := g72.trans hg117
    have g124 : Grow w2 w115 := g73.trans hg117
    have g125 : Grow w20 w115 := g74.trans hg117
    have g126 : Grow w59 w115 := g110.trans hg117
    clear hv70 hb71 g72 g73 g74 g110 hf60 hk118 hn119
    refine wl_store_nm hv121 hb122 rfl h120 ?_
    intro w127 ho128 hb129
    have g130 : Grow w0 w127 := g123.only ho128 (by omega)
    have g131 : Grow w2 w127 := g124.only ho128 (by omega)
    have hv132 : Holds (Is (PtrV bk33)) (a114.eval (.tmp 8)) w127 := is_any hv121
    refine wp_all [([], [])] [8] w2.heap.size hf116 g131.size (by kernel_rfl) bund_nil ?_
    refine ch rfl (ob_assign arg_c) ?_
    refine ch_nil ?_
    intro a133 w134 hf135 hg136 hk137 hn138
    have h139 : Holds _ (a133.eval (.tmp 9)) w134 := hn138.at 0 0 rfl rfl rfl
    have hv140 : Holds (Is (PtrV bk33)) (a133.eval (.tmp 8)) w134 := is_any (hk137.holds rfl hv132)
    have hb141 : Blk bk33 _ w134 := hb129.up hg136
    have g142 : Grow w0 w134 := g130.trans hg136
    have g143 : Grow w2 w134 := g131.trans hg136
    clear hv132 hb129 g130 g131 hf116 hk137 hn138 hg136
    refine then_ ?_
    refine wp_ret ?_
    refine ret_cell_tmp rfl Try.underlying23 rfl (by kernel_rfl) hf135 g142 (hb141.ptr hv140) ?_ (is_cast h139 (congrArg Value.bool (by first | exact folB_no (by omega) | exact folB_yes ⟨by omega, by omega⟩)))
    exact congrArg nmV (folV_yes ⟨by omega, by omega⟩)

set_option maxRecDepth 100000 in
theorem c_Verify {r x : UInt64} {i n : Int} {p : List UInt64} (hi : -9223372036854775808 ≤ i) (hn : n ≤ 9223372036854775807) : Con5 61 (Is (nmV r)) (Is (nmV x)) (Is (intV i)) (Is (intV n)) (Sl elNm p) (fun _ => Is (.bool (verB r x i n p))) := by
  intro lo v0 v1 v2 v3 v4 w0 hlo hv0 hv1 hv2 hv3 hv4
  refine enter Try.func61 rfl Try.ntmps61 (by simp) ?_
  intro a0 hf0 ha
  have h00 : Holds _ (a0.eval (.tmp 0)) w0 := arg_holds ha rfl hv0
  have h01 : Holds _ (a0.eval (.tmp 1)) w0 := arg_holds ha rfl hv1
  have h02 : Holds _ (a0.eval (.tmp 2)) w0 := arg_holds ha rfl hv2
  have h03 : Holds _ (a0.eval (.tmp 3)) w0 := arg_holds ha rfl hv3
  have h04 : Holds (Is v4) (a0.eval (.tmp 4)) w0 := arg_holds ha rfl rfl
  clear ha
  have g0 : Grow w0 w0 := Grow.refl _
  refine wp_seq ?_
  refine wp_region_lit ?_
  refine wp_seg (l1 := [_]) [([0], [])] [1, 2, 3, 4] w0.heap.size hf0 g0.size (by kernel_rfl) (bund_cons h00 bund_nil) ?_
  refine ch rfl (ob_box_nm (arg_free 0 rfl rfl)) ?_
  refine ch_nil ?_
  intro a1 w2 hf3 hg4 hk5 hn6
  have h7 : Holds _ (a1.eval (.tmp 5)) w2 := hn6.at 0 0 rfl rfl rfl
  have h8 : Holds _ (a1.eval (.tmp 1)) w0 := hk5.holds rfl h01
  have h9 : Holds _ (a1.eval (.tmp 2)) w0 := hk5.holds rfl h02
  have h10 : Holds _ (a1.eval (.tmp 3)) w0 := hk5.holds rfl h03
  have h11 : Holds _ (a1.eval (.tmp 4)) w0 := hk5.holds rfl h04
  have g12 : Grow w0 w2 := g0.trans hg4
  obtain ⟨bk13, hl14, hv15, hb16⟩ := OwnB.blk (lo := w0.heap.size) h7
  clear h01 h02 h03 h04 g0 hf0 hk5 hn6
  have g17 : Grow w2 w2 := Grow.refl _
  have hl18 : bk13 < w2.heap.size := hb16.lt
  have hz19 : w0.heap.size ≤ w2.heap.size := g12.size
  refine wp_all [([1], []), ([], [])] [2, 3, 4, 5] w2.heap.size hf3 g17.size (by kernel_rfl) (bund_cons (is_any h8) bund_nil) ?_
  refine ch rfl (ob_box_nm (arg_free 0 rfl rfl)) ?_
  refine ch rfl (ob_assign arg_c) ?_
  refine ch_nil ?_
  intro a20 w21 hf22 hg23 hk24 hn25
  have h26 : Holds _ (a20.eval (.tmp 6)) w21 := hn25.at 0 1 rfl rfl rfl
  have h27 : Holds _ (a20.eval (.tmp 2)) w0 := hk24.holds rfl h9
  have h28 : Holds _ (a20.eval (.tmp 3)) w0 := hk24.holds rfl h10
  have h29 : Holds _ (a20.eval (.tmp 4)) w0 := hk24.holds rfl h11
  have hv30 : Holds (Is (PtrV bk13)) (a20.eval (.tmp 5)) w21 := is_any (hk24.holds rfl hv15)
  have hb31 : Blk bk13 _ w21 := hb16.up hg23
  have g32 : Grow w0 w21 := g12.trans hg23
  have g33 : Grow w2 w21 := g17.trans hg23
  obtain ⟨bk34, hl35, hv36, hb37⟩ := OwnB.blk (lo := w2.heap.size) h26
  clear h9 h10 h11 hv15 hb16 g12 g17 hf3 hk24 hn25
  refine then_ ?_
  refine wp_seq ?_
  have g38 : Grow w21 w21 := Grow.refl _
  have hl39 : bk13 < w21.heap.size := hb31.lt
  have hl40 : bk34 < w21.heap.size := hb37.lt
  have hz41 : w2.heap.size ≤ w21.heap.size := g33.size
  refine wp_region_lit ?_
  refine wp_seg (l1 := [_, _, _, _, _, _, _, _, _]) [([6], []), ([2], []), ([3], []), ([4], []), ([], [0, 1, 2, 3]), ([], [4]), ([], [5]), ([], [5]), ([], [])] [5] w21.heap.size hf22 g38.size (by kernel_rfl) (bund_cons (hb37.ownp hv36) (bund_cons (is_any h27) (bund_cons (is_any h28) (bund_cons (is_any h29) bund_nil)))) ?_
  refine ch rfl (ob_load_nm (ArgOK.ownp (arg_free 0 rfl rfl))) ?_
  refine ch rfl (ob_move (arg_free 1 rfl rfl)) ?_
  refine ch rfl (ob_move (arg_free 2 rfl rfl)) ?_
  refine ch rfl (ob_move (arg_free 3 rfl rfl)) ?_
  refine ch rfl (ob_call4 (by kernel_rfl) (c_Follow ?_ ?_) (arg_op 0 3 rfl rfl rfl rfl) (arg_op 1 2 rfl rfl rfl rfl) (arg_op 2 1 rfl rfl rfl rfl) (ArgOK.val (arg_op 3 0 rfl rfl rfl rfl) (hv4.up g32))) ?_
  · omega
  · omega
  refine ch rfl (ob_move (arg_op 4 0 rfl rfl rfl rfl)) ?_
  refine ch rfl (ob_extract0 (arg_op 5 0 rfl rfl rfl rfl)) ?_
  refine ch rfl (ob_extract1 (arg_op 5 1 rfl rfl rfl rfl)) ?_
  refine ch rfl (ob_alloc_nm) ?_
  refine ch_nil ?_
  intro a42 w43 hf44 hg45 hk46 hn47
  have h48 : Holds _ (a42.eval (.tmp 19)) w43 := hn47.at 6 2 rfl rfl rfl
  have h49 : Holds _ (a42.eval (.tmp 20)) w43 := hn47.at 7 1 rfl rfl rfl
  have h50 : Holds _ (a42.eval (.tmp 11)) w43 := hn47.at 8 0 rfl rfl rfl
  have hv51 : Holds (Is (PtrV bk13)) (a42.eval (.tmp 5)) w43 := is_any (hk46.holds rfl hv30)
  have hb52 : Blk bk13 _ w43 := hb31.up hg45
  have g53 : Grow w0 w43 := g32.trans hg45
  have g54 : Grow w2 w43 := g33.trans hg45
  have g55 : Grow w21 w43 := g38.trans hg45
  obtain ⟨bk56, hl57, hv58, hb59⟩ := OwnB.blk (lo := w21.heap.size) h50
  clear hv30 hb31 g32 g33 g38 hf22 hk46 hn47
  refine wl_store_nm hv58 hb59 rfl h48 ?_
  intro w60 ho61 hb62
  have g63 : Grow w0 w60 := g53.only ho61 (by omega)
  have g64 : Grow w2 w60 := g54.only ho61 (by omega)
  have g65 : Grow w21 w60 := g55.only ho61 (by omega)
  have h66 : Holds _ (a42.eval (.tmp 20)) w60 := is_any h49
  have hv67 : Holds (Is (PtrV bk13)) (a42.eval (.tmp 5)) w60 := is_any hv51
  have hb68 : Blk bk13 _ w60 := hb52.only ho61 (by omega)
  have hv69 : Holds (Is (PtrV bk56)) (a42.eval (.tmp 11)) w60 := is_any hv58
  refine wp_all [([20], [])] [5, 11] w21.heap.size hf44 g65.size (by kernel_rfl) (bund_cons h66 bund_nil) ?_
  refine ch rfl (ob_assign (arg_free 0 rfl rfl)) ?_
  refine ch_nil ?_
  intro a70 w71 hf72 hg73 hk74 hn75
  have h76 : Holds _ (a70.eval (.tmp 12)) w71 := hn75.at 0 0 rfl rfl rfl
  have hv77 : Holds (Is (PtrV bk13)) (a70.eval (.tmp 5)) w71 := is_any (hk74.holds rfl hv67)
  have hb78 : Blk bk13 _ w71 := hb68.up hg73
  have hv79 : Holds (Is (PtrV bk56)) (a70.eval (.tmp 11)) w71 := is_any (hk74.holds rfl hv69)
  have hb80 : Blk bk56 _ w71 := hb62.up hg73
  have g81 : Grow w0 w71 := g63.trans hg73
  have g82 : Grow w2 w71 := g64.trans hg73
  have g83 : Grow w21 w71 := g65.trans hg73
  clear hv67 hb68 hv69 hb62 g63 g64 g65 hf44 hk74 hn75 hg73
  refine then_ ?_
  refine wp_seq ?_
  refine wp_region_lit ?_
  refine wp_all [([12], []), ([], [0]), ([11], [1]), ([5], [1]), ([], [2, 3, 1]), ([], [1, 4]), ([], [5])] [] w21.heap.size hf72 g83.size (by kernel_rfl) (bund_cons h76 (bund_cons (hb80.ownp hv79) (bund_cons (hb78.ownp hv77) bund_nil))) ?_
  refine ch rfl (ob_move (arg_free 0 rfl rfl)) ?_
  refine ch rfl (ob_move (arg_op 0 0 rfl rfl rfl rfl)) ?_
  refine chg (b := _) rfl rfl (arg_op 1 0 rfl rfl rfl rfl) (fun hb1 => ob_load_nm (ArgOK.ownp (arg_free 1 rfl rfl))) ?_
  refine chg (b := _) rfl rfl (arg_op 1 1 rfl rfl rfl rfl) (fun hb1 => ob_load_nm (ArgOK.ownp (arg_free 2 rfl rfl))) ?_
  refine chg (b := _) rfl rfl (arg_op 1 2 rfl rfl rfl rfl) (fun hb1 => ob_eqnm (ArgOK.when (arg_op 2 1 rfl rfl rfl rfl) hb1) (ArgOK.when (arg_op 3 0 rfl rfl rfl rfl) hb1)) ?_
  refine ch rfl (ob_and (arg_op 1 3 rfl rfl rfl rfl) (arg_op 4 0 rfl rfl rfl rfl)) ?_
  refine ch rfl (ob_assign (arg_op 5 0 rfl rfl rfl rfl)) ?_
  refine ch_nil ?_
  intro a84 w85 hf86 hg87 hk88 hn89
  have h90 : Holds _ (a84.eval (.tmp 10)) w85 := hn89.at 6 0 rfl rfl rfl
  have g91 : Grow w0 w85 := g81.trans hg87
  have g92 : Grow w2 w85 := g82.trans hg87
  have g93 : Grow w21 w85 := g83.trans hg87
  clear g81 g82 g83 hf72 hk88 hn89 hg87
  refine then_ ?_
  refine wp_ret ?_
  exact ret_tmp rfl hf86 g91 h90

set_option maxRecDepth 100000 in
theorem c_rVerify {r x : UInt64} {i n : Int} {p : List UInt64} (hi : -9223372036854775808 ≤ i) (hn : n ≤ 9223372036854775807) : Con5 62 (Is (nmV r)) (Is (nmV x)) (Is (intV i)) (Is (intV n)) (Sl elNm p) (fun _ => Is (.bool (verB r x i n p))) := by
  intro lo v0 v1 v2 v3 v4 w0 hlo hv0 hv1 hv2 hv3 hv4
  refine enter Try.func62 rfl Try.ntmps62 (by simp) ?_
  intro a0 hf0 ha
  have h00 : Holds _ (a0.eval (.tmp 0)) w0 := arg_holds ha rfl hv0
  have h01 : Holds _ (a0.eval (.tmp 1)) w0 := arg_holds ha rfl hv1
  have h02 : Holds _ (a0.eval (.tmp 2)) w0 := arg_holds ha rfl hv2
  have h03 : Holds _ (a0.eval (.tmp 3)) w0 := arg_holds ha rfl hv3
  have h04 : Holds (Is v4) (a0.eval (.tmp 4)) w0 := arg_holds ha rfl rfl
  clear ha
  have g0 : Grow w0 w0 := Grow.refl _
  refine wp_seq ?_
  refine wp_region_lit ?_
  refine wp_seg (l1 := [_]) [([0], [])] [1, 2, 3, 4] w0.heap.size hf0 g0.size (by kernel_rfl) (bund_cons h00 bund_nil) ?_
  refine ch rfl (ob_box_nm (arg_free 0 rfl rfl)) ?_
  refine ch_nil ?_
  intro a1 w2 hf3 hg4 hk5 hn6
  have h7 : Holds _ (a1.eval (.tmp 5)) w2 := hn6.at 0 0 rfl rfl rfl
  have h8 : Holds _ (a1.eval (.tmp 1)) w0 := hk5.holds rfl h01
  have h9 : Holds _ (a1.eval (.tmp 2)) w0 := hk5.holds rfl h02
  have h10 : Holds _ (a1.eval (.tmp 3)) w0 := hk5.holds rfl h03
  have h11 : Holds _ (a1.eval (.tmp 4)) w0 := hk5.holds rfl h04
  have g12 : Grow w0 w2 := g0.trans hg4
  obtain ⟨bk13, hl14, hv15, hb16⟩ := OwnB.blk (lo := w0.heap.size) h7
  clear h01 h02 h03 h04 g0 hf0 hk5 hn6
  have g17 : Grow w2 w2 := Grow.refl _
  have hl18 : bk13 < w2.heap.size := hb16.lt
  have hz19 : w0.heap.size ≤ w2.heap.size := g12.size
  refine wp_all [([1], []), ([], [])] [2, 3, 4, 5] w2.heap.size hf3 g17.size (by kernel_rfl) (bund_cons (is_any h8) bund_nil) ?_
  refine ch rfl (ob_box_nm (arg_free 0 rfl rfl)) ?_
  refine ch rfl (ob_assign arg_c) ?_
  refine ch_nil ?_
  intro a20 w21 hf22 hg23 hk24 hn25
  have h26 : Holds _ (a20.eval (.tmp 6)) w21 := hn25.at 0 1 rfl rfl rfl
  have h27 : Holds _ (a20.eval (.tmp 2)) w0 := hk24.holds rfl h9
  have h28 : Holds _ (a20.eval (.tmp 3)) w0 := hk24.holds rfl h10
  have h29 : Holds _ (a20.eval (.tmp 4)) w0 := hk24.holds rfl h11
  have hv30 : Holds (Is (PtrV bk13)) (a20.eval (.tmp 5)) w21 := is_any (hk24.holds rfl hv15)
  have hb31 : Blk bk13 _ w21 := hb16.up hg23
  have g32 : Grow w0 w21 := g12.trans hg23
  have g33 : Grow w2 w21 := g17.trans hg23
  obtain ⟨bk34, hl35, hv36, hb37⟩ := OwnB.blk (lo := w2.heap.size) h26
  clear h9 h10 h11 hv15 hb16 g12 g17 hf3 hk24 hn25
  refine then_ ?_
  refine wp_seq ?_
  have g38 : Grow w21 w21 := Grow.refl _
  have hl39 : bk13 < w21.heap.size := hb31.lt
  have hl40 : bk34 < w21.heap.size := hb37.lt
  have hz41 : w2.heap.size ≤ w21.heap.size := g33.size
  refine wp_region_lit ?_
  refine wp_seg (l1 := [_, _, _, _, _, _, _, _, _]) [([6], []), ([2], []), ([3], []), ([4], []), ([], [0, 1, 2, 3]), ([], [4]), ([], [5]), ([], [5]), ([], [])] [5] w21.heap.size hf22 g38.size (by kernel_rfl) (bund_cons (hb37.ownp hv36) (bund_cons (is_any h27) (bund_cons (is_any h28) (bund_cons (is_any h29) bund_nil)))) ?_
  refine ch rfl (ob_load_nm (ArgOK.ownp (arg_free 0 rfl rfl))) ?_
  refine ch rfl (ob_move (arg_free 1 rfl rfl)) ?_
  refine ch rfl (ob_move (arg_free 2 rfl rfl)) ?_
  refine ch rfl (ob_move (arg_free 3 rfl rfl)) ?_
  refine ch rfl (ob_call4 (by kernel_rfl) (c_rFollow ?_ ?_) (arg_op 0 3 rfl rfl rfl rfl) (arg_op 1 2 rfl rfl rfl rfl) (arg_op 2 1 rfl rfl rfl rfl) (ArgOK.val (arg_op 3 0 rfl rfl rfl rfl) (hv4.up g32))) ?_
  · omega
  · omega
  refine ch rfl (ob_move (arg_op 4 0 rfl rfl rfl rfl)) ?_
  refine ch rfl (ob_extract0 (arg_op 5 0 rfl rfl rfl rfl)) ?_
  refine ch rfl (ob_extract1 (arg_op 5 1 rfl rfl rfl rfl)) ?_
  refine ch rfl (ob_alloc_nm) ?_
  refine ch_nil ?_
  intro a42 w43 hf44 hg45 hk46 hn47
  have h48 : Holds _ (a42.eval (.tmp 19)) w43 := hn47.at 6 2 rfl rfl rfl
  have h49 : Holds _ (a42.eval (.tmp 20)) w43 := hn47.at 7 1 rfl rfl rfl
  have h50 : Holds _ (a42.eval (.tmp 11)) w43 := hn47.at 8 0 rfl rfl rfl
  have hv51 : Holds (Is (PtrV bk13)) (a42.eval (.tmp 5)) w43 := is_any (hk46.holds rfl hv30)
  have hb52 : Blk bk13 _ w43 := hb31.up hg45
  have g53 : Grow w0 w43 := g32.trans hg45
  have g54 : Grow w2 w43 := g33.trans hg45
  have g55 : Grow w21 w43 := g38.trans hg45
  obtain ⟨bk56, hl57, hv58, hb59⟩ := OwnB.blk (lo := w21.heap.size) h50
  clear hv30 hb31 g32 g33 g38 hf22 hk46 hn47
  refine wl_store_nm hv58 hb59 rfl h48 ?_
  intro w60 ho61 hb62
  have g63 : Grow w0 w60 := g53.only ho61 (by omega)
  have g64 : Grow w2 w60 := g54.only ho61 (by omega)
  have g65 : Grow w21 w60 := g55.only ho61 (by omega)
  have h66 : Holds _ (a42.eval (.tmp 20)) w60 := is_any h49
  have hv67 : Holds (Is (PtrV bk13)) (a42.eval (.tmp 5)) w60 := is_any hv51
  have hb68 : Blk bk13 _ w60 := hb52.only ho61 (by omega)
  have hv69 : Holds (Is (PtrV bk56)) (a42.eval (.tmp 11)) w60 := is_any hv58
  refine wp_all [([20], [])] [5, 11] w21.heap.size hf44 g65.size (by kernel_rfl) (bund_cons h66 bund_nil) ?_
  refine ch rfl (ob_assign (arg_free 0 rfl rfl)) ?_
  refine ch_nil ?_
  intro a70 w71 hf72 hg73 hk74 hn75
  have h76 : Holds _ (a70.eval (.tmp 12)) w71 := hn75.at 0 0 rfl rfl rfl
  have hv77 : Holds (Is (PtrV bk13)) (a70.eval (.tmp 5)) w71 := is_any (hk74.holds rfl hv67)
  have hb78 : Blk bk13 _ w71 := hb68.up hg73
  have hv79 : Holds (Is (PtrV bk56)) (a70.eval (.tmp 11)) w71 := is_any (hk74.holds rfl hv69)
  have hb80 : Blk bk56 _ w71 := hb62.up hg73
  have g81 : Grow w0 w71 := g63.trans hg73
  have g82 : Grow w2 w71 := g64.trans hg73
  have g83 : Grow w21 w71 := g65.trans hg73
  clear hv67 hb68 hv69 hb62 g63 g64 g65 hf44 hk74 hn75 hg73
  refine then_ ?_
  refine wp_seq ?_
  refine wp_region_lit ?_
  refine wp_all [([12], []), ([], [0]), ([11], [1]), ([5], [1]), ([], [2, 3, 1]), ([], [1, 4]), ([], [5])] [] w21.heap.size hf72 g83.size (by kernel_rfl) (bund_cons h76 (bund_cons (hb80.ownp hv79) (bund_cons (hb78.ownp hv77) bund_nil))) ?_
  refine ch rfl (ob_move (arg_free 0 rfl rfl)) ?_
  refine ch rfl (ob_move (arg_op 0 0 rfl rfl rfl rfl)) ?_
  refine chg (b := _) rfl rfl (arg_op 1 0 rfl rfl rfl rfl) (fun hb1 => ob_load_nm (ArgOK.ownp (arg_free 1 rfl rfl))) ?_
  refine chg (b := _) rfl rfl (arg_op 1 1 rfl rfl rfl rfl) (fun hb1 => ob_load_nm (ArgOK.ownp (arg_free 2 rfl rfl))) ?_
  refine chg (b := _) rfl rfl (arg_op 1 2 rfl rfl rfl rfl) (fun hb1 => ob_eqnm (ArgOK.when (arg_op 2 1 rfl rfl rfl rfl) hb1) (ArgOK.when (arg_op 3 0 rfl rfl rfl rfl) hb1)) ?_
  refine ch rfl (ob_and (arg_op 1 3 rfl rfl rfl rfl) (arg_op 4 0 rfl rfl rfl rfl)) ?_
  refine ch rfl (ob_assign (arg_op 5 0 rfl rfl rfl rfl)) ?_
  refine ch_nil ?_
  intro a84 w85 hf86 hg87 hk88 hn89
  have h90 : Holds _ (a84.eval (.tmp 10)) w85 := hn89.at 6 0 rfl rfl rfl
  have g91 : Grow w0 w85 := g81.trans hg87
  have g92 : Grow w2 w85 := g82.trans hg87
  have g93 : Grow w21 w85 := g83.trans hg87
  clear g81 g82 g83 hf72 hk88 hn89 hg87
  refine then_ ?_
  refine wp_ret ?_
  exact ret_tmp rfl hf86 g91 h90

set_option maxRecDepth 100000 in
theorem c_awake3  : Con0 58 (fun _ => Is (.bool true)) := by
  intro lo w0 hlo 
  refine enter Try.func58 rfl Try.ntmps58 (by simp) ?_
  intro a0 hf0 ha
  clear ha
  have g0 : Grow w0 w0 := Grow.refl _
  refine wp_seq ?_
  refine wp_region_lit ?_
  refine wp_all [([], [])] [] w0.heap.size hf0 g0.size (by kernel_rfl) bund_nil ?_
  refine ch rfl (ob_assign arg_c) ?_
  refine ch_nil ?_
  intro a1 w2 hf3 hg4 hk5 hn6
  have g7 : Grow w0 w2 := g0.trans hg4
  clear g0 hf0 hk5 hn6
  refine then_ ?_
  refine wp_seq ?_
  refine wp_region_lit ?_
  have g8 : Grow w2 w2 := Grow.refl _
  have hz9 : w0.heap.size ≤ w2.heap.size := g7.size
  refine wp_all [([], [])] [] w2.heap.size hf3 g8.size (by kernel_rfl) bund_nil ?_
  refine ch rfl (ob_alloc_nm) ?_
  refine ch_nil ?_
  intro a10 w11 hf12 hg13 hk14 hn15
  have h16 : Holds _ (a10.eval (.tmp 1)) w11 := hn15.at 0 0 rfl rfl rfl
  have g17 : Grow w0 w11 := g7.trans hg13
  have g18 : Grow w2 w11 := g8.trans hg13
  obtain ⟨bk19, hl20, hv21, hb22⟩ := OwnB.blk (lo := w2.heap.size) h16
  clear g7 g8 hf3 hk14 hn15
  refine then_ ?_
  refine wp_seq ?_
  have g23 : Grow w11 w11 := Grow.refl _
  have hl24 : bk19 < w11.heap.size := hb22.lt
  have hz25 : w2.heap.size ≤ w11.heap.size := g18.size
  refine wp_calm [0, 1, 3, 7, 15, 31, 63, 127, 255, 511, 1023, 2047, 4095, 8191, 2047, 32767, 65535, 131071] [([], []), ([], [0]), ([], [1]), ([], [2]), ([], [3, 2]), ([], [2, 4]), ([], [5]), ([], [6]), ([], [7, 6]), ([], [6, 8]), ([], [9]), ([1], [10]), ([], [11, 10]), ([], [12, 10]), ([1], [10]), ([], [13, 14, 10]), ([], [10, 15]), ([], [16])] [] w11.heap.size hf12 g23.size (by kernel_rfl) (bund_cons (hb22.ownp hv21) bund_nil) ?_
  intro ws26 hs27
  refine ch rfl (ob_call2 (by kernel_rfl) (c_Depth ?_ ?_) arg_c arg_c) ?_
  · omega
  · omega
  refine ch rfl (ob_eql (arg_op 0 0 rfl rfl rfl rfl) arg_c) ?_
  refine ch rfl (ob_move (arg_op 1 0 rfl rfl rfl rfl)) ?_
  refine chg (b := _) rfl rfl (arg_op 2 0 rfl rfl rfl rfl) (fun hb2 => ob_call2 (by kernel_rfl) (c_Depth ?_ ?_) arg_c arg_c) ?_
  · omega
  · omega
  refine chg (b := _) rfl rfl (arg_op 2 1 rfl rfl rfl rfl) (fun hb2 => ob_eql (ArgOK.when (arg_op 3 0 rfl rfl rfl rfl) hb2) arg_c) ?_
  refine ch rfl (ob_and (arg_op 2 2 rfl rfl rfl rfl) (arg_op 4 0 rfl rfl rfl rfl)) ?_
  refine ch rfl (ob_move (arg_op 5 0 rfl rfl rfl rfl)) ?_
  refine chg (b := _) rfl rfl (arg_op 6 0 rfl rfl rfl rfl) (fun hb6 => ob_call2 (by kernel_rfl) (c_Depth ?_ ?_) arg_c arg_c) ?_
  · omega
  · omega
  refine chg (b := _) rfl rfl (arg_op 6 1 rfl rfl rfl rfl) (fun hb6 => ob_eql (ArgOK.when (arg_op 7 0 rfl rfl rfl rfl) hb6) arg_c) ?_
  refine ch rfl (ob_and (arg_op 6 2 rfl rfl rfl rfl) (arg_op 8 0 rfl rfl rfl rfl)) ?_
  refine ch rfl (ob_move (arg_op 9 0 rfl rfl rfl rfl)) ?_
  refine chg (b := _) rfl rfl (arg_op 10 0 rfl rfl rfl rfl) (fun hb10 => ob_load_nm (ArgOK.ownp (arg_free 0 rfl rfl))) ?_
  refine chg (b := _) rfl rfl (arg_op 10 1 rfl rfl rfl rfl) (fun hb10 => ob_bs1_nm (ArgOK.when (arg_op 11 0 rfl rfl rfl rfl) hb10)) ?_
  refine chg (b := _) rfl rfl (arg_op 10 2 rfl rfl rfl rfl) (fun hb10 => ob_call1 (by kernel_rfl) (c_Root ?_) (ArgOK.sl (ArgOK.ownf (ArgOK.when (arg_op 12 0 rfl rfl rfl rfl) hb10)))) ?_
  · ((try simp only [List.length_take, List.length_drop, List.length_cons, List.length_nil]); omega)
  refine chg (b := _) rfl rfl (arg_op 10 3 rfl rfl rfl rfl) (fun hb10 => ob_load_nm (ArgOK.ownp (arg_free 0 rfl rfl))) ?_
  refine chg (b := _) rfl rfl (arg_op 10 4 rfl rfl rfl rfl) (fun hb10 => ob_call5 (by kernel_rfl) (c_Verify ?_ ?_) (ArgOK.when (arg_op 13 1 rfl rfl rfl rfl) hb10) (ArgOK.when (arg_op 14 0 rfl rfl rfl rfl) hb10) arg_c arg_c (arg_cg (fun w => sl_nil))) ?_
  · omega
  · omega
  refine ch rfl (ob_and (arg_op 10 5 rfl rfl rfl rfl) (arg_op 15 0 rfl rfl rfl rfl)) ?_
  refine ch rfl (ob_assign (arg_op 16 0 rfl rfl rfl rfl)) ?_
  refine ch_nil ?_
  intro a28 w29 hf30 hg31 hk32 hn33
  have h34 : Holds _ (a28.eval (.tmp 0)) w29 := hn33.at 17 0 rfl rfl rfl
  have g35 : Grow w0 w29 := g17.trans hg31
  have g36 : Grow w2 w29 := g18.trans hg31
  have g37 : Grow w11 w29 := g23.trans hg31
  clear g17 g18 g23 hf12 hk32 hn33
  refine then_ ?_
  refine wp_ret ?_
  exact ret_tmp rfl hf30 g35 (is_cast h34 (congrArg Value.bool (by decide +kernel)))

set_option maxRecDepth 100000 in
theorem c_MerkleDepths {i n : Int64} : Con2 16 (Is (intV i.toInt)) (Is (intV n.toInt)) (fun _ => Is (.bool true)) := by
  intro lo v0 v1 w0 hlo hv0 hv1
  refine enter Try.func16 rfl Try.ntmps16 (by simp) ?_
  intro a0 hf0 ha
  have h00 : Holds _ (a0.eval (.tmp 0)) w0 := arg_holds ha rfl hv0
  have h01 : Holds _ (a0.eval (.tmp 1)) w0 := arg_holds ha rfl hv1
  clear ha
  have g0 : Grow w0 w0 := Grow.refl _
  have hi1 := i.le_toInt
  have hi2 := i.toInt_lt
  have hn1 := n.le_toInt
  have hn2 := n.toInt_lt
  refine wp_seq ?_
  refine wp_region_lit ?_
  refine wp_all [([], [])] [0, 1] w0.heap.size hf0 g0.size (by kernel_rfl) bund_nil ?_
  refine ch rfl (ob_assign arg_c) ?_
  refine ch_nil ?_
  intro a1 w2 hf3 hg4 hk5 hn6
  have h7 : Holds _ (a1.eval (.tmp 0)) w0 := hk5.holds rfl h00
  have h8 : Holds _ (a1.eval (.tmp 1)) w0 := hk5.holds rfl h01
  have g9 : Grow w0 w2 := g0.trans hg4
  clear h00 h01 g0 hf0 hk5 hn6
  refine then_ ?_
  refine wp_seq ?_
  have g10 : Grow w2 w2 := Grow.refl _
  have hz11 : w0.heap.size ≤ w2.heap.size := g9.size
  refine wp_region_lit ?_
  refine wp_all [([0], []), ([1], []), ([], [0, 1]), ([0], []), ([1], []), ([], [3, 4]), ([], [2, 5]), ([], [6]), ([], [7]), ([], [7, 8]), ([], [9])] [] w2.heap.size hf3 g10.size (by kernel_rfl) (bund_cons (is_any h7) (bund_cons (is_any h8) bund_nil)) ?_
  refine ch rfl (ob_move (arg_free 0 rfl rfl)) ?_
  refine ch rfl (ob_move (arg_free 1 rfl rfl)) ?_
  refine ch rfl (ob_call2 (by kernel_rfl) (c_Depth ?_ ?_) (arg_op 0 1 rfl rfl rfl rfl) (arg_op 1 0 rfl rfl rfl rfl)) ?_
  · omega
  · omega
  refine ch rfl (ob_move (arg_free 0 rfl rfl)) ?_
  refine ch rfl (ob_move (arg_free 1 rfl rfl)) ?_
  refine ch rfl (ob_call2 (by kernel_rfl) (c_rDepth ?_ ?_) (arg_op 3 1 rfl rfl rfl rfl) (arg_op 4 0 rfl rfl rfl rfl)) ?_
  · omega
  · omega
  refine ch rfl (ob_eql (arg_op 2 3 rfl rfl rfl rfl) (arg_op 5 0 rfl rfl rfl rfl)) ?_
  refine ch rfl (ob_move (arg_op 6 0 rfl rfl rfl rfl)) ?_
  refine chg (b := _) rfl rfl (arg_op 7 0 rfl rfl rfl rfl) (fun hb7 => ob_call0 (by kernel_rfl) (c_awake3) ) ?_
  refine ch rfl (ob_and (arg_op 7 1 rfl rfl rfl rfl) (arg_op 8 0 rfl rfl rfl rfl)) ?_
  refine ch rfl (ob_assign (arg_op 9 0 rfl rfl rfl rfl)) ?_
  refine ch_nil ?_
  intro a12 w13 hf14 hg15 hk16 hn17
  have h18 : Holds _ (a12.eval (.tmp 4)) w13 := hn17.at 10 0 rfl rfl rfl
  have g19 : Grow w0 w13 := g9.trans hg15
  have g20 : Grow w2 w13 := g10.trans hg15
  clear g9 g10 hf3 hk16 hn17
  refine then_ ?_
  refine wp_ret ?_
  exact ret_tmp rfl hf14 g19 (is_cast h18 (by simp))

set_option maxRecDepth 100000 in
theorem c_MerkleFollows {r x : UInt64} {i n : Int64} {p : List UInt64} : Con5 17 (Is (nmV r)) (Is (nmV x)) (Is (intV i.toInt)) (Is (intV n.toInt)) (Sl elNm p) (fun _ => Is (.bool true)) := by
  intro lo v0 v1 v2 v3 v4 w0 hlo hv0 hv1 hv2 hv3 hv4
  refine enter Try.func17 rfl Try.ntmps17 (by simp) ?_
  intro a0 hf0 ha
  have h00 : Holds _ (a0.eval (.tmp 0)) w0 := arg_holds ha rfl hv0
  have h01 : Holds _ (a0.eval (.tmp 1)) w0 := arg_holds ha rfl hv1
  have h02 : Holds _ (a0.eval (.tmp 2)) w0 := arg_holds ha rfl hv2
  have h03 : Holds _ (a0.eval (.tmp 3)) w0 := arg_holds ha rfl hv3
  have h04 : Holds (Is v4) (a0.eval (.tmp 4)) w0 := arg_holds ha rfl rfl
  clear ha
  have g0 : Grow w0 w0 := Grow.refl _
  have hi1 := i.le_toInt
  have hi2 := i.toInt_lt
  have hn1 := n.le_toInt
  have hn2 := n.toInt_lt
  refine wp_seq ?_
  refine wp_region_lit ?_
  refine wp_seg (l1 := [_]) [([0], [])] [1, 2, 3, 4] w0.heap.size hf0 g0.size (by kernel_rfl) (bund_cons h00 bund_nil) ?_
  refine ch rfl (ob_box_nm (arg_free 0 rfl rfl)) ?_
  refine ch_nil ?_
  intro a1 w2 hf3 hg4 hk5 hn6
  have h7 : Holds _ (a1.eval (.tmp 5)) w2 := hn6.at 0 0 rfl rfl rfl
  have h8 : Holds _ (a1.eval (.tmp 1)) w0 := hk5.holds rfl h01
  have h9 : Holds _ (a1.eval (.tmp 2)) w0 := hk5.holds rfl h02
  have h10 : Holds _ (a1.eval (.tmp 3)) w0 := hk5.holds rfl h03
  have h11 : Holds _ (a1.eval (.tmp 4)) w0 := hk5.holds rfl h04
  have g12 : Grow w0 w2 := g0.trans hg4
  obtain ⟨bk13, hl14, hv15, hb16⟩ := OwnB.blk (lo := w0.heap.size) h7
  clear h01 h02 h03 h04 g0 hf0 hk5 hn6
  have g17 : Grow w2 w2 := Grow.refl _
  have hl18 : bk13 < w2.heap.size := hb16.lt
  have hz19 : w0.heap.size ≤ w2.heap.size := g12.size
  refine wp_all [([1], []), ([], [])] [2, 3, 4, 5] w2.heap.size hf3 g17.size (by kernel_rfl) (bund_cons (is_any h8) bund_nil) ?_
  refine ch rfl (ob_box_nm (arg_free 0 rfl rfl)) ?_
  refine ch rfl (ob_assign arg_c) ?_
  refine ch_nil ?_
  intro a20 w21 hf22 hg23 hk24 hn25
  have h26 : Holds _ (a20.eval (.tmp 6)) w21 := hn25.at 0 1 rfl rfl rfl
  have h27 : Holds _ (a20.eval (.tmp 2)) w0 := hk24.holds rfl h9
  have h28 : Holds _ (a20.eval (.tmp 3)) w0 := hk24.holds rfl h10
  have h29 : Holds _ (a20.eval (.tmp 4)) w0 := hk24.holds rfl h11
  have hv30 : Holds (Is (PtrV bk13)) (a20.eval (.tmp 5)) w21 := is_any (hk24.holds rfl hv15)
  have hb31 : Blk bk13 _ w21 := hb16.up hg23
  have g32 : Grow w0 w21 := g12.trans hg23
  have g33 : Grow w2 w21 := g17.trans hg23
  obtain ⟨bk34, hl35, hv36, hb37⟩ := OwnB.blk (lo := w2.heap.size) h26
  clear h9 h10 h11 hv15 hb16 g12 g17 hf3 hk24 hn25
  refine then_ ?_
  refine wp_seq ?_
  have g38 : Grow w21 w21 := Grow.refl _
  have hl39 : bk13 < w21.heap.size := hb31.lt
  have hl40 : bk34 < w21.heap.size := hb37.lt
  have hz41 : w2.heap.size ≤ w21.heap.size := g33.size
  refine wp_region_lit ?_
  refine wp_seg (l1 := [_, _, _, _, _, _, _, _, _]) [([6], []), ([2], []), ([3], []), ([4], []), ([], [0, 1, 2, 3]), ([], [4]), ([], [5]), ([], [5]), ([], [])] [2, 3, 4, 5, 6] w21.heap.size hf22 g38.size (by kernel_rfl) (bund_cons (hb37.ownp hv36) (bund_cons (is_any h27) (bund_cons (is_any h28) (bund_cons (is_any h29) bund_nil)))) ?_
  refine ch rfl (ob_load_nm (ArgOK.ownp (arg_free 0 rfl rfl))) ?_
  refine ch rfl (ob_move (arg_free 1 rfl rfl)) ?_
  refine ch rfl (ob_move (arg_free 2 rfl rfl)) ?_
  refine ch rfl (ob_move (arg_free 3 rfl rfl)) ?_
  refine ch rfl (ob_call4 (by kernel_rfl) (c_Follow ?_ ?_) (arg_op 0 3 rfl rfl rfl rfl) (arg_op 1 2 rfl rfl rfl rfl) (arg_op 2 1 rfl rfl rfl rfl) (ArgOK.val (arg_op 3 0 rfl rfl rfl rfl) (hv4.up g32))) ?_
  · omega
  · omega
  refine ch rfl (ob_move (arg_op 4 0 rfl rfl rfl rfl)) ?_
  refine ch rfl (ob_extract0 (arg_op 5 0 rfl rfl rfl rfl)) ?_
  refine ch rfl (ob_extract1 (arg_op 5 1 rfl rfl rfl rfl)) ?_
  refine ch rfl (ob_alloc_nm) ?_
  refine ch_nil ?_
  intro a42 w43 hf44 hg45 hk46 hn47
  have h48 : Holds _ (a42.eval (.tmp 21)) w43 := hn47.at 6 2 rfl rfl rfl
  have h49 : Holds _ (a42.eval (.tmp 22)) w43 := hn47.at 7 1 rfl rfl rfl
  have h50 : Holds _ (a42.eval (.tmp 11)) w43 := hn47.at 8 0 rfl rfl rfl
  have h51 : Holds _ (a42.eval (.tmp 2)) w0 := hk46.holds rfl h27
  have h52 : Holds _ (a42.eval (.tmp 3)) w0 := hk46.holds rfl h28
  have h53 : Holds _ (a42.eval (.tmp 4)) w0 := hk46.holds rfl h29
  have hv54 : Holds (Is (PtrV bk13)) (a42.eval (.tmp 5)) w43 := is_any (hk46.holds rfl hv30)
  have hb55 : Blk bk13 _ w43 := hb31.up hg45
  have hv56 : Holds (Is (PtrV bk34)) (a42.eval (.tmp 6)) w43 := is_any (hk46.holds rfl hv36)
  have hb57 : Blk bk34 _ w43 := hb37.up hg45
  have g58 : Grow w0 w43 := g32.trans hg45
  have g59 : Grow w2 w43 := g33.trans hg45
  have g60 : Grow w21 w43 := g38.trans hg45
  obtain ⟨bk61, hl62, hv63, hb64⟩ := OwnB.blk (lo := w21.heap.size) h50
  clear h27 h28 h29 hv30 hb31 hv36 hb37 g32 g33 g38 hf22 hk46 hn47
  refine wl_store_nm hv63 hb64 rfl h48 ?_
  intro w65 ho66 hb67
  have g68 : Grow w0 w65 := g58.only ho66 (by omega)
  have g69 : Grow w2 w65 := g59.only ho66 (by omega)
  have g70 : Grow w21 w65 := g60.only ho66 (by omega)
  have h71 : Holds _ (a42.eval (.tmp 22)) w65 := is_any h49
  have hv72 : Holds (Is (PtrV bk13)) (a42.eval (.tmp 5)) w65 := is_any hv54
  have hb73 : Blk bk13 _ w65 := hb55.only ho66 (by omega)
  have hv74 : Holds (Is (PtrV bk34)) (a42.eval (.tmp 6)) w65 := is_any hv56
  have hb75 : Blk bk34 _ w65 := hb57.only ho66 (by omega)
  have hv76 : Holds (Is (PtrV bk61)) (a42.eval (.tmp 11)) w65 := is_any hv63
  refine wp_all [([22], [])] [2, 3, 4, 5, 6, 11] w21.heap.size hf44 g70.size (by kernel_rfl) (bund_cons h71 bund_nil) ?_
  refine ch rfl (ob_assign (arg_free 0 rfl rfl)) ?_
  refine ch_nil ?_
  intro a77 w78 hf79 hg80 hk81 hn82
  have h83 : Holds _ (a77.eval (.tmp 12)) w78 := hn82.at 0 0 rfl rfl rfl
  have h84 : Holds _ (a77.eval (.tmp 2)) w0 := hk81.holds rfl h51
  have h85 : Holds _ (a77.eval (.tmp 3)) w0 := hk81.holds rfl h52
  have h86 : Holds _ (a77.eval (.tmp 4)) w0 := hk81.holds rfl h53
  have hv87 : Holds (Is (PtrV bk13)) (a77.eval (.tmp 5)) w78 := is_any (hk81.holds rfl hv72)
  have hb88 : Blk bk13 _ w78 := hb73.up hg80
  have hv89 : Holds (Is (PtrV bk34)) (a77.eval (.tmp 6)) w78 := is_any (hk81.holds rfl hv74)
  have hb90 : Blk bk34 _ w78 := hb75.up hg80
  have hv91 : Holds (Is (PtrV bk61)) (a77.eval (.tmp 11)) w78 := is_any (hk81.holds rfl hv76)
  have hb92 : Blk bk61 _ w78 := hb67.up hg80
  have g93 : Grow w0 w78 := g68.trans hg80
  have g94 : Grow w2 w78 := g69.trans hg80
  have g95 : Grow w21 w78 := g70.trans hg80
  clear h51 h52 h53 hv72 hb73 hv74 hb75 hv76 hb67 g68 g69 g70 hf44 hk81 hn82 hg80
  refine then_ ?_
  refine wp_seq ?_
  have g96 : Grow w78 w78 := Grow.refl _
  have hl97 : bk13 < w78.heap.size := hb88.lt
  have hl98 : bk34 < w78.heap.size := hb90.lt
  have hl99 : bk61 < w78.heap.size := hb92.lt
  have hz100 : w21.heap.size ≤ w78.heap.size := g95.size
  refine wp_region_lit ?_
  refine wp_seg (l1 := [_, _, _, _, _, _, _, _, _]) [([6], []), ([2], []), ([3], []), ([4], []), ([], [0, 1, 2, 3]), ([], [4]), ([], [5]), ([], [5]), ([], [])] [2, 3, 4, 5, 6, 11, 12] w78.heap.size hf79 g96.size (by kernel_rfl) (bund_cons (hb90.ownp hv89) (bund_cons (is_any h84) (bund_cons (is_any h85) (bund_cons (is_any h86) bund_nil)))) ?_
  refine ch rfl (ob_load_nm (ArgOK.ownp (arg_free 0 rfl rfl))) ?_
  refine ch rfl (ob_move (arg_free 1 rfl rfl)) ?_
  refine ch rfl (ob_move (arg_free 2 rfl rfl)) ?_
  refine ch rfl (ob_move (arg_free 3 rfl rfl)) ?_
  refine ch rfl (ob_call4 (by kernel_rfl) (c_rFollow ?_ ?_) (arg_op 0 3 rfl rfl rfl rfl) (arg_op 1 2 rfl rfl rfl rfl) (arg_op 2 1 rfl rfl rfl rfl) (ArgOK.val (arg_op 3 0 rfl rfl rfl rfl) (hv4.up g93))) ?_
  · omega
  · omega
  refine ch rfl (ob_move (arg_op 4 0 rfl rfl rfl rfl)) ?_
  refine ch rfl (ob_extract0 (arg_op 5 0 rfl rfl rfl rfl)) ?_
  refine ch rfl (ob_extract1 (arg_op 5 1 rfl rfl rfl rfl)) ?_
  refine ch rfl (ob_alloc_nm) ?_
  refine ch_nil ?_
  intro a101 w102 hf103 hg104 hk105 hn106
  have h107 : Holds _ (a101.eval (.tmp 29)) w102 := hn106.at 6 2 rfl rfl rfl
  have h108 : Holds _ (a101.eval (.tmp 30)) w102 := hn106.at 7 1 rfl rfl rfl
  have h109 : Holds _ (a101.eval (.tmp 13)) w102 := hn106.at 8 0 rfl rfl rfl
  have h110 : Holds _ (a101.eval (.tmp 12)) w78 := hk105.holds rfl h83
  have h111 : Holds _ (a101.eval (.tmp 2)) w0 := hk105.holds rfl h84
  have h112 : Holds _ (a101.eval (.tmp 3)) w0 := hk105.holds rfl h85
  have h113 : Holds _ (a101.eval (.tmp 4)) w0 := hk105.holds rfl h86
  have hv114 : Holds (Is (PtrV bk13)) (a101.eval (.tmp 5)) w102 := is_any (hk105.holds rfl hv87)
  have hb115 : Blk bk13 _ w102 := hb88.up hg104
  have hv116 : Holds (Is (PtrV bk34)) (a101.eval (.tmp 6)) w102 := is_any (hk105.holds rfl hv89)
  have hb117 : Blk bk34 _ w102 := hb90.up hg104
  have hv118 : Holds (Is (PtrV bk61)) (a101.eval (.tmp 11)) w102 := is_any (hk105.holds rfl hv91)
  have hb119 : Blk bk61 _ w102 := hb92.up hg104
  have g120 : Grow w0 w102 := g93.trans hg104
  have g121 : Grow w2 w102 := g94.trans hg104
  have g122 : Grow w21 w102 := g95.trans hg104
  have g123 : Grow w78 w102 := g96.trans hg104
  obtain ⟨bk124, hl125, hv126, hb127⟩ := OwnB.blk (lo := w78.heap.size) h109
  clear h83 h84 h85 h86 hv87 hb88 hv89 hb90 hv91 hb92 g93 g94 g95 g96 hf79 hk105 hn106
  refine wl_store_nm hv126 hb127 rfl h107 ?_
  intro w128 ho129 hb130
  have g131 : Grow w0 w128 := g120.only ho129 (by omega)
  have g132 : Grow w2 w128 := g121.only ho129 (by omega)
  have g133 : Grow w21 w128 := g122.only ho129 (by omega)
  have g134 : Grow w78 w128 := g123.only ho129 (by omega)
  have h135 : Holds _ (a101.eval (.tmp 30)) w128 := is_any h108
  have hv136 : Holds (Is (PtrV bk13)) (a101.eval (.tmp 5)) w128 := is_any hv114
  have hb137 : Blk bk13 _ w128 := hb115.only ho129 (by omega)
  have hv138 : Holds (Is (PtrV bk34)) (a101.eval (.tmp 6)) w128 := is_any hv116
  have hb139 : Blk bk34 _ w128 := hb117.only ho129 (by omega)
  have hv140 : Holds (Is (PtrV bk61)) (a101.eval (.tmp 11)) w128 := is_any hv118
  have hb141 : Blk bk61 _ w128 := hb119.only ho129 (by omega)
  have hv142 : Holds (Is (PtrV bk124)) (a101.eval (.tmp 13)) w128 := is_any hv126
  refine wp_all [([30], [])] [2, 3, 4, 5, 6, 11, 12, 13] w78.heap.size hf103 g134.size (by kernel_rfl) (bund_cons h135 bund_nil) ?_
  refine ch rfl (ob_assign (arg_free 0 rfl rfl)) ?_
  refine ch_nil ?_
  intro a143 w144 hf145 hg146 hk147 hn148
  have h149 : Holds _ (a143.eval (.tmp 14)) w144 := hn148.at 0 0 rfl rfl rfl
  have h150 : Holds _ (a143.eval (.tmp 12)) w78 := hk147.holds rfl h110
  have h151 : Holds _ (a143.eval (.tmp 2)) w0 := hk147.holds rfl h111
  have h152 : Holds _ (a143.eval (.tmp 3)) w0 := hk147.holds rfl h112
  have h153 : Holds _ (a143.eval (.tmp 4)) w0 := hk147.holds rfl h113
  have hv154 : Holds (Is (PtrV bk13)) (a143.eval (.tmp 5)) w144 := is_any (hk147.holds rfl hv136)
  have hb155 : Blk bk13 _ w144 := hb137.up hg146
  have hv156 : Holds (Is (PtrV bk34)) (a143.eval (.tmp 6)) w144 := is_any (hk147.holds rfl hv138)
  have hb157 : Blk bk34 _ w144 := hb139.up hg146
  have hv158 : Holds (Is (PtrV bk61)) (a143.eval (.tmp 11)) w144 := is_any (hk147.holds rfl hv140)
  have hb159 : Blk bk61 _ w144 := hb141.up hg146
  have hv160 : Holds (Is (PtrV bk124)) (a143.eval (.tmp 13)) w144 := is_any (hk147.holds rfl hv142)
  have hb161 : Blk bk124 _ w144 := hb130.up hg146
  have g162 : Grow w0 w144 := g131.trans hg146
  have g163 : Grow w2 w144 := g132.trans hg146
  have g164 : Grow w21 w144 := g133.trans hg146
  have g165 : Grow w78 w144 := g134.trans hg146
  clear h110 h111 h112 h113 hv136 hb137 hv138 hb139 hv140 hb141 hv142 hb130 g131 g132 g133 g134 hf103 hk147 hn148 hg146
  refine then_ ?_
  refine wp_seq ?_
  have g166 : Grow w144 w144 := Grow.refl _
  have hl167 : bk13 < w144.heap.size := hb155.lt
  have hl168 : bk34 < w144.heap.size := hb157.lt
  have hl169 : bk61 < w144.heap.size := hb159.lt
  have hl170 : bk124 < w144.heap.size := hb161.lt
  have hz171 : w78.heap.size ≤ w144.heap.size := g165.size
  refine wp_calm [0, 0, 3, 7, 15, 15, 63, 127, 255, 511, 511, 511, 511, 511, 16383, 511, 511, 511, 511, 511, 1048575, 2097151, 4194303, 8388607, 16777215, 16777215, 16777215, 16777215, 16777215, 536870911, 16777215, 2147483647, 4294967295, 8589934591, 17179869183, 34359738367, 68719476735] [([11], []), ([13], []), ([], [0, 1]), ([], [2]), ([12], [3]), ([14], [3]), ([], [4, 5, 3]), ([], [3, 6]), ([], [7]), ([5], [8]), ([6], [8]), ([2], [8]), ([3], [8]), ([4], [8]), ([], [9, 10, 11, 12, 13, 8]), ([5], [8]), ([6], [8]), ([2], [8]), ([3], [8]), ([4], [8]), ([], [15, 16, 17, 18, 19, 8]), ([], [14, 20, 8]), ([], [8, 21]), ([], [22]), ([13], [23]), ([6], [23]), ([2], [23]), ([3], [23]), ([4], [23]), ([], [24, 25, 26, 27, 28, 23]), ([14], [23]), ([], [29, 30, 23]), ([], [23, 31]), ([], [32]), ([], [33]), ([], [33, 34]), ([], [35])] [] w144.heap.size hf145 g166.size (by kernel_rfl) (bund_cons (hb159.ownp hv158) (bund_cons (hb161.ownp hv160) (bund_cons (is_any h150) (bund_cons h149 (bund_cons (hb155.ownp hv154) (bund_cons (hb157.ownp hv156) (bund_cons (is_any h151) (bund_cons (is_any h152) (bund_cons (is_any h153) bund_nil))))))))) ?_
  intro ws172 hs173
  refine ch rfl (ob_load_nm (ArgOK.ownp (arg_free 0 rfl rfl))) ?_
  refine ch rfl (ob_load_nm (ArgOK.ownp (arg_free 1 rfl rfl))) ?_
  refine ch rfl (ob_eqnm (arg_op 0 1 rfl rfl rfl rfl) (arg_op 1 0 rfl rfl rfl rfl)) ?_
  refine ch rfl (ob_move (arg_op 2 0 rfl rfl rfl rfl)) ?_
  refine chg (b := _) rfl rfl (arg_op 3 0 rfl rfl rfl rfl) (fun hb3 => ob_move (arg_free 2 rfl rfl)) ?_
  refine chg (b := _) rfl rfl (arg_op 3 1 rfl rfl rfl rfl) (fun hb3 => ob_move (arg_free 3 rfl rfl)) ?_
  refine chg (b := _) rfl rfl (arg_op 3 2 rfl rfl rfl rfl) (fun hb3 => ob_eqbool (ArgOK.when (arg_op 4 1 rfl rfl rfl rfl) hb3) (ArgOK.when (arg_op 5 0 rfl rfl rfl rfl) hb3) Try.underlying4) ?_
  refine ch rfl (ob_and (arg_op 3 3 rfl rfl rfl rfl) (arg_op 6 0 rfl rfl rfl rfl)) ?_
  refine ch rfl (ob_move (arg_op 7 0 rfl rfl rfl rfl)) ?_
  refine chg (b := _) rfl rfl (arg_op 8 0 rfl rfl rfl rfl) (fun hb8 => ob_load_nm (ArgOK.ownp (arg_free 4 rfl rfl))) ?_
  refine chg (b := _) rfl rfl (arg_op 8 1 rfl rfl rfl rfl) (fun hb8 => ob_load_nm (ArgOK.ownp (arg_free 5 rfl rfl))) ?_
  refine chg (b := _) rfl rfl (arg_op 8 2 rfl rfl rfl rfl) (fun hb8 => ob_move (arg_free 6 rfl rfl)) ?_
  refine chg (b := _) rfl rfl (arg_op 8 3 rfl rfl rfl rfl) (fun hb8 => ob_move (arg_free 7 rfl rfl)) ?_
  refine chg (b := _) rfl rfl (arg_op 8 4 rfl rfl rfl rfl) (fun hb8 => ob_move (arg_free 8 rfl rfl)) ?_
  refine chg (b := _) rfl rfl (arg_op 8 5 rfl rfl rfl rfl) (fun hb8 => ob_call5 (by kernel_rfl) (c_Verify ?_ ?_) (ArgOK.when (arg_op 9 4 rfl rfl rfl rfl) hb8) (ArgOK.when (arg_op 10 3 rfl rfl rfl rfl) hb8) (ArgOK.when (arg_op 11 2 rfl rfl rfl rfl) hb8) (ArgOK.when (arg_op 12 1 rfl rfl rfl rfl) hb8) (ArgOK.val (ArgOK.when (arg_op 13 0 rfl rfl rfl rfl) hb8) ((hv4.up g162).up hs173))) ?_
  · omega
  · omega
  refine chg (b := _) rfl rfl (arg_op 8 6 rfl rfl rfl rfl) (fun hb8 => ob_load_nm (ArgOK.ownp (arg_free 4 rfl rfl))) ?_
  refine chg (b := _) rfl rfl (arg_op 8 7 rfl rfl rfl rfl) (fun hb8 => ob_load_nm (ArgOK.ownp (arg_free 5 rfl rfl))) ?_
  refine chg (b := _) rfl rfl (arg_op 8 8 rfl rfl rfl rfl) (fun hb8 => ob_move (arg_free 6 rfl rfl)) ?_
  refine chg (b := _) rfl rfl (arg_op 8 9 rfl rfl rfl rfl) (fun hb8 => ob_move (arg_free 7 rfl rfl)) ?_
  refine chg (b := _) rfl rfl (arg_op 8 10 rfl rfl rfl rfl) (fun hb8 => ob_move (arg_free 8 rfl rfl)) ?_
  refine chg (b := _) rfl rfl (arg_op 8 11 rfl rfl rfl rfl) (fun hb8 => ob_call5 (by kernel_rfl) (c_rVerify ?_ ?_) (ArgOK.when (arg_op 15 4 rfl rfl rfl rfl) hb8) (ArgOK.when (arg_op 16 3 rfl rfl rfl rfl) hb8) (ArgOK.when (arg_op 17 2 rfl rfl rfl rfl) hb8) (ArgOK.when (arg_op 18 1 rfl rfl rfl rfl) hb8) (ArgOK.val (ArgOK.when (arg_op 19 0 rfl rfl rfl rfl) hb8) ((hv4.up g162).up hs173))) ?_
  · omega
  · omega
  refine chg (b := _) rfl rfl (arg_op 8 12 rfl rfl rfl rfl) (fun hb8 => ob_eqbool (ArgOK.when (arg_op 14 6 rfl rfl rfl rfl) hb8) (ArgOK.when (arg_op 20 0 rfl rfl rfl rfl) hb8) Try.underlying4) ?_
  refine ch rfl (ob_and (arg_op 8 13 rfl rfl rfl rfl) (arg_op 21 0 rfl rfl rfl rfl)) ?_
  refine ch rfl (ob_move (arg_op 22 0 rfl rfl rfl rfl)) ?_
  refine chg (b := _) rfl rfl (arg_op 23 0 rfl rfl rfl rfl) (fun hb23 => ob_load_nm (ArgOK.ownp (arg_free 1 rfl rfl))) ?_
  refine chg (b := _) rfl rfl (arg_op 23 1 rfl rfl rfl rfl) (fun hb23 => ob_load_nm (ArgOK.ownp (arg_free 5 rfl rfl))) ?_
  refine chg (b := _) rfl rfl (arg_op 23 2 rfl rfl rfl rfl) (fun hb23 => ob_move (arg_free 6 rfl rfl)) ?_
  refine chg (b := _) rfl rfl (arg_op 23 3 rfl rfl rfl rfl) (fun hb23 => ob_move (arg_free 7 rfl rfl)) ?_
  refine chg (b := _) rfl rfl (arg_op 23 4 rfl rfl rfl rfl) (fun hb23 => ob_move (arg_free 8 rfl rfl)) ?_
  refine chg (b := _) rfl rfl (arg_op 23 5 rfl rfl rfl rfl) (fun hb23 => ob_call5 (by kernel_rfl) (c_Verify ?_ ?_) (ArgOK.when (arg_op 24 4 rfl rfl rfl rfl) hb23) (ArgOK.when (arg_op 25 3 rfl rfl rfl rfl) hb23) (ArgOK.when (arg_op 26 2 rfl rfl rfl rfl) hb23) (ArgOK.when (arg_op 27 1 rfl rfl rfl rfl) hb23) (ArgOK.val (ArgOK.when (arg_op 28 0 rfl rfl rfl rfl) hb23) ((hv4.up g162).up hs173))) ?_
  · omega
  · omega
  refine chg (b := _) rfl rfl (arg_op 23 6 rfl rfl rfl rfl) (fun hb23 => ob_move (arg_free 3 rfl rfl)) ?_
  refine chg (b := _) rfl rfl (arg_op 23 7 rfl rfl rfl rfl) (fun hb23 => ob_eqbool (ArgOK.when (arg_op 29 1 rfl rfl rfl rfl) hb23) (ArgOK.when (arg_op 30 0 rfl rfl rfl rfl) hb23) Try.underlying4) ?_
  refine ch rfl (ob_and (arg_op 23 8 rfl rfl rfl rfl) (arg_op 31 0 rfl rfl rfl rfl)) ?_
  refine ch rfl (ob_move (arg_op 32 0 rfl rfl rfl rfl)) ?_
  refine chg (b := _) rfl rfl (arg_op 33 0 rfl rfl rfl rfl) (fun hb33 => ob_call0 (by kernel_rfl) (c_awake3) ) ?_
  refine ch rfl (ob_and (arg_op 33 1 rfl rfl rfl rfl) (arg_op 34 0 rfl rfl rfl rfl)) ?_
  refine ch rfl (ob_assign (arg_op 35 0 rfl rfl rfl rfl)) ?_
  refine ch_nil ?_
  intro a174 w175 hf176 hg177 hk178 hn179
  have h180 : Holds _ (a174.eval (.tmp 10)) w175 := hn179.at 36 0 rfl rfl rfl
  have g181 : Grow w0 w175 := g162.trans hg177
  have g182 : Grow w2 w175 := g163.trans hg177
  have g183 : Grow w21 w175 := g164.trans hg177
  have g184 : Grow w78 w175 := g165.trans hg177
  have g185 : Grow w144 w175 := g166.trans hg177
  clear g162 g163 g164 g165 g166 hf145 hk178 hn179
  refine then_ ?_
  refine wp_ret ?_
  exact ret_tmp rfl hf176 g181 (is_cast h180 (congrArg Value.bool (by simp [verB])))


end Ex
end Go.Proofs.Ytnmfiiejhoafnaa
