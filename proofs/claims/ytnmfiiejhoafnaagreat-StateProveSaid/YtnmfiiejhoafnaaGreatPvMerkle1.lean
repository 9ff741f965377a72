/- Trees: their roots, depths, paths; of the program and of the reference. -/
import Derived.Test.YtnmfiiejhoafnaaGreatPvOnetime2
set_option linter.unusedSimpArgs false
set_option linter.unusedVariables false
namespace Go.Proofs.YtnmfiiejhoafnaaGreat
namespace Ex
open Go Calm Go.RowKit
def splitGo : Nat → Nat → Nat → Nat
  | 0, _, k => k
  | f + 1, n, k => if 2 * k < n then splitGo f n (2 * k) else k
def split (n : Nat) : Nat := splitGo n n 1
theorem splitGo_fuel : ∀ (f g n k : Nat), 1 ≤ k → n ≤ f + k → n ≤ g + k → splitGo f n k = splitGo g n k
  | 0, 0, _, _, _, _, _ => rfl
  | 0, g + 1, n, k, h1, h2, _ => by
    simp only [splitGo]
    rw [if_neg (by omega)]
  | f + 1, 0, n, k, h1, _, h3 => by
    simp only [splitGo]
    rw [if_neg (by omega)]
  | f + 1, g + 1, n, k, h1, h2, h3 => by
    simp only [splitGo]
    split
    · exact splitGo_fuel f g n (2 * k) (by omega) (by omega) (by omega)
    · rfl
theorem splitGo_step {n k : Nat} (h : 1 ≤ k) : splitGo n n k = if 2 * k < n then splitGo n n (2 * k) else k := by
  rw [splitGo_fuel n (n + 1) n k h (by omega) (by omega)]
  rfl
theorem splitGo_bound : ∀ (f n k : Nat), 1 ≤ k → k < n → 1 ≤ splitGo f n k ∧ splitGo f n k < n
  | 0, _, _, h1, h2 => ⟨h1, h2⟩
  | f + 1, n, k, h1, h2 => by
    simp only [splitGo]
    split
    · exact splitGo_bound f n (2 * k) (by omega) (by omega)
    · exact ⟨h1, h2⟩
theorem split_bound {n : Nat} (h : 2 ≤ n) : 1 ≤ split n ∧ split n < n := splitGo_bound n n 1 (by omega) (by omega)
def depthGo : Nat → Nat → Nat → Nat
  | 0, _, _ => 0
  | f + 1, i, n => if n ≤ 1 then 0 else if i < split n then depthGo f i (split n) + 1 else depthGo f (i - split n) (n - split n) + 1
theorem depthGo_fuel : ∀ (f g i n : Nat), n ≤ f + 1 → n ≤ g + 1 → depthGo f i n = depthGo g i n
  | 0, 0, _, _, _, _ => rfl
  | 0, g + 1, i, n, h1, _ => by
    simp only [depthGo]
    rw [if_pos (by omega)]
  | f + 1, 0, i, n, _, h2 => by
    simp only [depthGo]
    rw [if_pos (by omega)]
  | f + 1, g + 1, i, n, h1, h2 => by
    simp only [depthGo]
    split
    · rfl
    · have hb := split_bound (n := n) (by omega)
      rw [depthGo_fuel f g i (split n) (by omega) (by omega), depthGo_fuel f g (i - split n) (n - split n) (by omega) (by omega)]
def dep (i n : Nat) : Nat := depthGo n i n
theorem dep_one (i n : Nat) (h : n ≤ 1) : dep i n = 0 := by
  unfold dep
  rw [depthGo_fuel n (n + 1) i n (by omega) (by omega)]
  simp only [depthGo]
  rw [if_pos h]
theorem dep_left {i n : Nat} (h : 2 ≤ n) (hi : i < split n) : dep i n = dep i (split n) + 1 := by
  have hb := split_bound h
  unfold dep
  rw [depthGo_fuel n (n + 1) i n (by omega) (by omega)]
  simp only [depthGo]
  rw [if_neg (by omega), if_pos hi, depthGo_fuel n (split n) i (split n) (by omega) (by omega)]
theorem dep_right {i n : Nat} (h : 2 ≤ n) (hi : split n ≤ i) : dep i n = dep (i - split n) (n - split n) + 1 := by
  have hb := split_bound h
  unfold dep
  rw [depthGo_fuel n (n + 1) i n (by omega) (by omega)]
  simp only [depthGo]
  rw [if_neg (by omega), if_neg (by omega), depthGo_fuel n (n - split n) (i - split n) (n - split n) (by omega) (by omega)]
def depI (i n : Int) : Int := if i < 0 ∨ n ≤ i then -1 else dep i.toNat n.toNat
def single (x : UInt64) : UInt64 := tagged 17 (nmBytes x)
def rootGo : Nat → List UInt64 → UInt64
  | 0, l => if l.length = 0 then tagged 16 [] else single (l.getD 0 0)
  | f + 1, l => if l.length = 0 then tagged 16 [] else if l.length = 1 then single (l.getD 0 0) else pairN 18 (rootGo f (l.take (split l.length))) (rootGo f (l.drop (split l.length)))
theorem rootGo_fuel : ∀ (f g : Nat) (l : List UInt64), l.length ≤ f + 1 → l.length ≤ g + 1 → rootGo f l = rootGo g l
  | 0, 0, _, _, _ => rfl
  | 0, g + 1, l, h1, _ => by
    simp only [rootGo]
    split
    · rfl
    · rw [if_pos (by omega)]
  | f + 1, 0, l, _, h2 => by
    simp only [rootGo]
    split
    · rfl
    · rw [if_pos (by omega)]
  | f + 1, g + 1, l, h1, h2 => by
    simp only [rootGo]
    split
    · rfl
    · split
      · rfl
      · have hb := split_bound (n := l.length) (by omega)
        rw [rootGo_fuel f g (l.take (split l.length)) (by rw [List.length_take]; omega) (by rw [List.length_take]; omega), rootGo_fuel f g (l.drop (split l.length)) (by rw [List.length_drop]; omega) (by rw [List.length_drop]; omega)]
def root (l : List UInt64) : UInt64 := rootGo l.length l
theorem root_one {l : List UInt64} (h : l.length = 1) : root l = single (l.getD 0 0) := by
  unfold root
  rw [h]
  simp only [rootGo]
  rw [if_neg (by omega), if_pos h]
theorem root_two {l : List UInt64} (h : 2 ≤ l.length) : root l = pairN 18 (root (l.take (split l.length))) (root (l.drop (split l.length))) := by
  have hb := split_bound h
  unfold root
  rw [rootGo_fuel l.length (l.length + 1) l (by omega) (by omega)]
  simp only [rootGo]
  rw [if_neg (by omega), if_neg (by omega), rootGo_fuel l.length (l.take (split l.length)).length _ (by rw [List.length_take]; omega) (by omega), rootGo_fuel l.length (l.drop (split l.length)).length _ (by rw [List.length_drop]; omega) (by omega)]
def pathGo : Nat → List UInt64 → Nat → List UInt64
  | 0, _, _ => []
  | f + 1, l, i => if l.length ≤ 1 then [] else if i < split l.length then pathGo f (l.take (split l.length)) i ++ [root (l.drop (split l.length))] else pathGo f (l.drop (split l.length)) (i - split l.length) ++ [root (l.take (split l.length))]
theorem pathGo_fuel : ∀ (f g : Nat) (l : List UInt64) (i : Nat), l.length ≤ f + 1 → l.length ≤ g + 1 → pathGo f l i = pathGo g l i
  | 0, 0, _, _, _, _ => rfl
  | 0, g + 1, l, i, h1, _ => by
    simp only [pathGo]
    rw [if_pos (by omega)]
  | f + 1, 0, l, i, _, h2 => by
    simp only [pathGo]
    rw [if_pos (by omega)]
  | f + 1, g + 1, l, i, h1, h2 => by
    simp only [pathGo]
    split
    · rfl
    · have hb := split_bound (n := l.length) (by omega)
      rw [pathGo_fuel f g (l.take (split l.length)) i (by rw [List.length_take]; omega) (by rw [List.length_take]; omega), pathGo_fuel f g (l.drop (split l.length)) (i - split l.length) (by rw [List.length_drop]; omega) (by rw [List.length_drop]; omega)]
def path (l : List UInt64) (i : Nat) : List UInt64 := pathGo l.length l i
theorem path_one {l : List UInt64} (i : Nat) (h : l.length ≤ 1) : path l i = [] := by
  unfold path
  rw [pathGo_fuel l.length (l.length + 1) l i (by omega) (by omega)]
  simp only [pathGo]
  rw [if_pos h]
theorem path_left {l : List UInt64} {i : Nat} (h : 2 ≤ l.length) (hi : i < split l.length) : path l i = path (l.take (split l.length)) i ++ [root (l.drop (split l.length))] := by
  have hb := split_bound h
  unfold path
  rw [pathGo_fuel l.length (l.length + 1) l i (by omega) (by omega)]
  simp only [pathGo]
  rw [if_neg (by omega), if_pos hi, pathGo_fuel l.length (l.take (split l.length)).length _ i (by rw [List.length_take]; omega) (by omega)]
theorem path_right {l : List UInt64} {i : Nat} (h : 2 ≤ l.length) (hi : split l.length ≤ i) : path l i = path (l.drop (split l.length)) (i - split l.length) ++ [root (l.take (split l.length))] := by
  have hb := split_bound h
  unfold path
  rw [pathGo_fuel l.length (l.length + 1) l i (by omega) (by omega)]
  simp only [pathGo]
  rw [if_neg (by omega), if_neg (by omega), pathGo_fuel l.length (l.drop (split l.length)).length _ (i - split l.length) (by rw [List.length_drop]; omega) (by omega)]
def compGo : Nat → UInt64 → Nat → Nat → List UInt64 → UInt64
  | 0, x, _, _, _ => single x
  | f + 1, x, i, n, p => if n ≤ 1 then single x else if i < split n then pairN 18 (compGo f x i (split n) (p.take (p.length - 1))) (p.getD (p.length - 1) 0) else pairN 18 (p.getD (p.length - 1) 0) (compGo f x (i - split n) (n - split n) (p.take (p.length - 1)))
theorem compGo_fuel : ∀ (f g : Nat) (x : UInt64) (i n : Nat) (p : List UInt64), n ≤ f + 1 → n ≤ g + 1 → compGo f x i n p = compGo g x i n p
  | 0, 0, _, _, _, _, _, _ => rfl
  | 0, g + 1, x, i, n, p, h1, _ => by
    simp only [compGo]
    rw [if_pos (by omega)]
  | f + 1, 0, x, i, n, p, _, h2 => by
    simp only [compGo]
    rw [if_pos (by omega)]
  | f + 1, g + 1, x, i, n, p, h1, h2 => by
    simp only [compGo]
    split
    · rfl
    · have hb := split_bound (n := n) (by omega)
      rw [compGo_fuel f g x i (split n) _ (by omega) (by omega), compGo_fuel f g x (i - split n) (n - split n) _ (by omega) (by omega)]
def comp (x : UInt64) (i n : Nat) (p : List UInt64) : UInt64 := compGo n x i n p
theorem comp_one {n : Nat} (x : UInt64) (i : Nat) (p : List UInt64) (h : n ≤ 1) : comp x i n p = single x := by
  unfold comp
  rw [compGo_fuel n (n + 1) x i n p (by omega) (by omega)]
  simp only [compGo]
  rw [if_pos h]
theorem comp_left {i n : Nat} (x : UInt64) (p : List UInt64) (h : 2 ≤ n) (hi : i < split n) : comp x i n p = pairN 18 (comp x i (split n) (p.take (p.length - 1))) (p.getD (p.length - 1) 0) := by
  have hb := split_bound h
  unfold comp
  rw [compGo_fuel n (n + 1) x i n p (by omega) (by omega)]
  simp only [compGo]
  rw [if_neg (by omega), if_pos hi, compGo_fuel n (split n) x i (split n) _ (by omega) (by omega)]
theorem comp_right {i n : Nat} (x : UInt64) (p : List UInt64) (h : 2 ≤ n) (hi : split n ≤ i) : comp x i n p = pairN 18 (p.getD (p.length - 1) 0) (comp x (i - split n) (n - split n) (p.take (p.length - 1))) := by
  have hb := split_bound h
  unfold comp
  rw [compGo_fuel n (n + 1) x i n p (by omega) (by omega)]
  simp only [compGo]
  rw [if_neg (by omega), if_neg (by omega), compGo_fuel n (n - split n) x (i - split n) (n - split n) _ (by omega) (by omega)]
theorem path_len : ∀ (m : Nat) (l : List UInt64) (i : Nat), l.length ≤ m → (path l i).length = dep i l.length
  | m, l, i, hm => by
    by_cases h : l.length ≤ 1
    · rw [path_one i h, dep_one i _ h]; rfl
    · have hb := split_bound (n := l.length) (by omega)
      cases m with
      | zero => omega
      | succ m =>
        by_cases hi : i < split l.length
        · rw [path_left (by omega) hi, dep_left (by omega) hi, List.length_append, path_len m _ i (by rw [List.length_take]; omega), List.length_take, Nat.min_eq_left (by omega)]; rfl
        · rw [path_right (by omega) (by omega), dep_right (by omega) (by omega), List.length_append, path_len m _ _ (by rw [List.length_drop]; omega), List.length_drop]; rfl
theorem comp_path : ∀ (m : Nat) (l : List UInt64) (i : Nat), l.length ≤ m → i < l.length → comp (l.getD i 0) i l.length (path l i) = root l
  | m, l, i, hm, hil => by
    by_cases h : l.length ≤ 1
    · rw [comp_one _ _ _ h, root_one (by omega), show i = 0 by omega]
    · have hb := split_bound (n := l.length) (by omega)
      cases m with
      | zero => omega
      | succ m =>
        by_cases hi : i < split l.length
        · have ih := comp_path m (l.take (split l.length)) i (by rw [List.length_take]; omega) (by rw [List.length_take]; omega)
          rw [List.length_take, Nat.min_eq_left (by omega)] at ih
          have e : (l.take (split l.length)).getD i 0 = l.getD i 0 := by
            rw [List.getD_eq_getElem?_getD, List.getElem?_take, if_pos hi, ← List.getD_eq_getElem?_getD]
          rw [e] at ih
          rw [comp_left _ _ (by omega) hi, root_two (by omega), path_left (by omega) hi]
          simp only [List.length_append, List.length_cons, List.length_nil, Nat.zero_add, Nat.add_sub_cancel, List.take_left', List.getD_eq_getElem?_getD]
          rw [List.getElem?_append_right (Nat.le_refl _), Nat.sub_self]
          simp only [List.getElem?_cons_zero, Option.getD_some]
          rw [List.getD_eq_getElem?_getD] at ih
          rw [ih]
        · have ih := comp_path m (l.drop (split l.length)) (i - split l.length) (by rw [List.length_drop]; omega) (by rw [List.length_drop]; omega)
          rw [List.length_drop] at ih
          have e : (l.drop (split l.length)).getD (i - split l.length) 0 = l.getD i 0 := by
            rw [List.getD_eq_getElem?_getD, List.getElem?_drop, show split l.length + (i - split l.length) = i by omega, ← List.getD_eq_getElem?_getD]
          rw [e] at ih
          rw [comp_right _ _ (by omega) (by omega), root_two (by omega), path_right (by omega) (by omega)]
          simp only [List.length_append, List.length_cons, List.length_nil, Nat.zero_add, Nat.add_sub_cancel, List.take_left', List.getD_eq_getElem?_getD]
          rw [List.getElem?_append_right (Nat.le_refl _), Nat.sub_self]
          simp only [List.getElem?_cons_zero, Option.getD_some]
          rw [List.getD_eq_getElem?_getD] at ih
          rw [ih]
theorem depI_no {i n : Int} (h : i < 0 ∨ n ≤ i) : depI i n = -1 := by unfold depI; rw [if_pos h]
theorem depI_yes {i n : Nat} (h : i < n) : depI i n = dep i n := by
  unfold depI
  rw [if_neg (by omega)]
  rfl
theorem dep_lt : ∀ (m i n : Nat), n ≤ m → 1 ≤ n → dep i n < n
  | 0, i, n, h, h1 => by omega
  | m + 1, i, n, h, h1 => by
    by_cases h2 : n ≤ 1
    · rw [dep_one i n h2]; omega
    · have hb := split_bound (n := n) (by omega)
      by_cases hi : i < split n
      · rw [dep_left (by omega) hi]
        have := dep_lt m i (split n) (by omega) (by omega)
        omega
      · rw [dep_right (by omega) (by omega)]
        have := dep_lt m (i - split n) (n - split n) (by omega) (by omega)
        omega
theorem splitN_step {n k : Nat} (h : 1 ≤ k) (h2 : 2 * k < n) : splitGo n n (2 * k) = splitGo n n k := by rw [splitGo_step h, if_pos h2]
theorem splitN_end {n k : Nat} (h : 1 ≤ k) (h2 : ¬ 2 * k < n) : k = splitGo n n k := by rw [splitGo_step h, if_neg h2]
def folB (i n : Int) (p : List UInt64) : Bool := decide (0 ≤ depI i n ∧ (p.length : Int) = depI i n)
def folV (x : UInt64) (i n : Int) (p : List UInt64) : UInt64 := if 0 ≤ depI i n ∧ (p.length : Int) = depI i n then comp x i.toNat n.toNat p else 0
theorem folB_no {i n : Int} {p : List UInt64} (h : depI i n < 0 ∨ ¬ (p.length : Int) = depI i n) : false = folB i n p := (decide_eq_false (by omega)).symm
theorem folV_no {x : UInt64} {i n : Int} {p : List UInt64} (h : depI i n < 0 ∨ ¬ (p.length : Int) = depI i n) : 0 = folV x i n p := by unfold folV; rw [if_neg (by omega)]
theorem folB_yes {i n : Int} {p : List UInt64} (h : 0 ≤ depI i n ∧ (p.length : Int) = depI i n) : true = folB i n p := (decide_eq_true h).symm
theorem folV_yes {x : UInt64} {i n : Int} {p : List UInt64} (h : 0 ≤ depI i n ∧ (p.length : Int) = depI i n) : comp x i.toNat n.toNat p = folV x i n p := by unfold folV; rw [if_pos h]
theorem depI_pos {i n : Int} (h : 0 ≤ depI i n) : 0 ≤ i ∧ i < n := by
  refine Classical.byContradiction fun hn => ?_
  rw [depI_no (by omega)] at h
  omega
theorem depI_nat {i n : Int} (h : 0 ≤ depI i n) : depI i n = (dep i.toNat n.toNat : Int) := by
  have h2 := depI_pos h
  unfold depI
  rw [if_neg (by omega)]
def verB (r x : UInt64) (i n : Int) (p : List UInt64) : Bool := folB i n p && decide (folV x i n p = r)
def pathB (l : List UInt64) (i : Int) : Bool := decide (0 ≤ i ∧ i < (l.length : Int))
def pathV (l : List UInt64) (i : Int) : List UInt64 := if 0 ≤ i ∧ i < (l.length : Int) then path l i.toNat else []
theorem pathB_no {l : List UInt64} {i : Int} (h : i < 0 ∨ (l.length : Int) ≤ i) : false = pathB l i := (decide_eq_false (by omega)).symm
theorem pathV_no {l : List UInt64} {i : Int} (h : i < 0 ∨ (l.length : Int) ≤ i) : [] = pathV l i := by unfold pathV; rw [if_neg (by omega)]
theorem pathB_yes {l : List UInt64} {i : Int} (h : 0 ≤ i ∧ i < (l.length : Int)) : true = pathB l i := (decide_eq_true h).symm
theorem pathV_yes {l : List UInt64} {i : Int} (h : 0 ≤ i ∧ i < (l.length : Int)) : path l i.toNat = pathV l i := by unfold pathV; rw [if_pos h]
theorem depI_of {i n : Int} (h : 0 ≤ i ∧ i < n) : depI i n = (dep i.toNat n.toNat : Int) := by
  unfold depI
  rw [if_neg (by omega)]
theorem depI_neg {i n : Int} (h : depI i n < 0) : i < 0 ∨ n ≤ i := by
  refine Classical.byContradiction fun hn => ?_
  rw [depI_of (by omega)] at h
  omega
theorem dep_pos {i n : Nat} (h : 2 ≤ n) : 1 ≤ dep i n := by
  by_cases hi : i < split n
  · rw [dep_left h hi]; omega
  · rw [dep_right h (by omega)]; omega
theorem root_zero {l : List UInt64} (h : l.length = 0) : root l = tagged 16 [] := by rw [List.eq_nil_of_length_eq_zero h]; rfl
theorem path_le (l : List UInt64) (i : Nat) : (path l i).length ≤ l.length := by
  rw [path_len l.length l i (Nat.le_refl _)]
  by_cases h : l.length ≤ 1
  · rw [dep_one i _ h]; omega
  · have := dep_lt l.length i l.length (Nat.le_refl _) (by omega)
    omega
theorem pathV_le (l : List UInt64) (i : Int) : (pathV l i).length ≤ l.length := by
  unfold pathV
  split
  · exact path_le l _
  · simp
theorem pathV_one {l : List UInt64} {i : Int} (h : l.length ≤ 1) : [] = pathV l i := by
  unfold pathV
  split
  · rw [path_one _ h]
  · rfl
theorem pathV_left {l : List UInt64} {i : Int} (h2 : 2 ≤ l.length) (h0 : 0 ≤ i) (hi : i < (split l.length : Int)) : pathV (l.take (split l.length)) i ++ [root (l.drop (split l.length))] = pathV l i := by
  have hb := split_bound h2
  have e : (l.take (split l.length)).length = split l.length := by rw [List.length_take]; omega
  unfold pathV
  rw [if_pos (by rw [e]; omega), if_pos (by omega), ← path_left h2 (by omega)]
theorem pathV_right {l : List UInt64} {i : Int} (h2 : 2 ≤ l.length) (hl : i < (l.length : Int)) (hi : (split l.length : Int) ≤ i) : pathV (l.drop (split l.length)) (i - (split l.length : Int)) ++ [root (l.take (split l.length))] = pathV l i := by
  have hb := split_bound h2
  have e : (l.drop (split l.length)).length = l.length - split l.length := List.length_drop
  unfold pathV
  rw [if_pos (by rw [e]; omega), if_pos (by omega), path_right h2 (show split l.length ≤ i.toNat by omega), show (i - (split l.length : Int)).toNat = i.toNat - split l.length by omega]
theorem mod_lt {m n : UInt64} (h : n.toNat ≠ 0) : (m % n).toNat < n.toNat := by
  rw [UInt64.toNat_mod]
  exact Nat.mod_lt _ (by omega)
set_option maxRecDepth 100000 in
theorem c_split {n : Nat} {nz : Int} (hn : n ≤ 9223372036854775807) (hz : nz = (n : Int)) : Con1 104 (Is (intV nz)) (fun _ => Is (intV (split n : Int))) := by
  intro lo v0 w0 hlo hv0
  refine enter Tryz.func104 rfl Tryz.ntmps104 (by simp) ?_
  intro a0 hf0 ha
  have h00 : Holds _ (a0.eval (.tmp 0)) w0 := arg_holds ha rfl hv0
  clear ha
  have g0 : Grow w0 w0 := Grow.refl _
  refine wp_seq ?_
  refine wp_region_lit ?_
  refine wp_all [([], [])] [0] w0.heap.size hf0 g0.size (by kernel_rfl) bund_nil ?_
  refine ch rfl (ob_assign arg_c) ?_
  refine ch_nil ?_
  intro a1 w2 hf3 hg4 hk5 hn6
  have h7 := hk5.holds rfl h00
  have g8 := g0.trans hg4
  clear h00 g0 hf0 hk5 hn6
  refine then_ ?_
  refine wp_seq ?_
  refine wp_region_lit ?_
  refine wp_all [([], [])] [0] w0.heap.size hf3 g8.size (by kernel_rfl) bund_nil ?_
  refine ch rfl (ob_assign arg_c) ?_
  refine ch_nil ?_
  intro a9 w10 hf11 hg12 hk13 hn14
  have h15 : Holds _ (a9.eval (.tmp 3)) w10 := hn14.at 0 0 rfl rfl rfl
  have h16 := hk13.holds rfl h7
  have g17 := g8.trans hg12
  clear h7 g8 hf3 hk13 hn14 hg12
  refine then_ ?_
  refine wp_seq ?_
  refine wp_block ?_
  have g18 : Grow w10 w10 := Grow.refl _
  have hz19 : w0.heap.size ≤ w10.heap.size := g17.size
  refine wp_loopL (α := Nat) (fun k a' w' => Fr 12 a' ∧ (1 ≤ k) ∧ (k ≤ 1 ∨ k < n) ∧ (splitGo n n k = split n) ∧ Grow w0 w' ∧ Grow w10 w' ∧ Keep [0] a9 a' ∧ Holds (Is (intV (k : Int))) (a'.eval (.tmp 3)) w') (fun k => n - k) (1) ⟨hf11, (by omega), (by omega), (by rfl), g17, g18, Keep.refl _ _, (is_cast h15 (by first | rfl | (refine congrArg intV ?_; (try dsimp only); omega)))⟩ ?_
  intro k a20 w21 ⟨hf22, hi24, hi25, hi26, g27, g28, kk23, h29⟩
  have h30 := kk23.holds rfl h16
  refine wp_seq ?_
  refine wp_seq ?_
  refine wp_region_lit ?_
  refine wp_all [([3], []), ([0], []), ([3], []), ([], [1, 2]), ([], [0, 3])] [0, 3] w10.heap.size hf22 g28.size (by kernel_rfl) (bund_cons h29 (bund_cons (is_any h30) bund_nil)) ?_
  refine ch rfl (ob_move (arg_free 0 rfl rfl)) ?_
  refine ch rfl (ob_move (arg_free 1 rfl rfl)) ?_
  refine ch rfl (ob_move (arg_free 0 rfl rfl)) ?_
  first
    | (refine ch rfl (ob_sub' (arg_op 1 1 rfl rfl rfl rfl) (arg_op 2 0 rfl rfl rfl rfl) ?_) ?_; · omega)
    | refine ch rfl (ob_sub (arg_op 1 1 rfl rfl rfl rfl) (arg_op 2 0 rfl rfl rfl rfl)) ?_
  refine ch rfl (ob_lss (arg_op 0 3 rfl rfl rfl rfl) (arg_op 3 0 rfl rfl rfl rfl)) ?_
  refine ch_nil ?_
  intro a31 w32 hf33 hg34 hk35 hn36
  have h37 : Holds _ (a31.eval (.tmp 8)) w32 := hn36.at 4 0 rfl rfl rfl
  have h38 := hk35.holds rfl (h29.up hg34)
  have h39 := hk35.holds rfl h30
  have g40 := g27.trans hg34
  have g41 := g28.trans hg34
  have kk42 : Keep _ a9 a31 := kk23.trans hk35 rfl
  clear h29 h30 g27 g28 kk23 hf22 hk35 hn36 hg34
  refine then_ ?_
  refine wp_if h37 ?_ ?_
  · intro hc43
    try simp only [cond_norm] at hc43
    refine wp_skip ?_
    refine then_ ?_
    refine wp_block ?_
    refine wp_region_lit ?_
    refine wp_all [([3], []), ([], [0]), ([], [1])] [0] w10.heap.size hf33 g41.size (by kernel_rfl) (bund_cons h38 bund_nil) ?_
    refine ch rfl (ob_move (arg_free 0 rfl rfl)) ?_
    first
      | (refine ch rfl (ob_mul' (arg_op 0 0 rfl rfl rfl rfl) arg_c ?_) ?_; · omega)
      | refine ch rfl (ob_mul (arg_op 0 0 rfl rfl rfl rfl) arg_c) ?_
    refine ch rfl (ob_assign (arg_op 1 0 rfl rfl rfl rfl)) ?_
    refine ch_nil ?_
    intro a44 w45 hf46 hg47 hk48 hn49
    have h50 : Holds _ (a44.eval (.tmp 3)) w45 := hn49.at 2 0 rfl rfl rfl
    have h51 := hk48.holds rfl h39
    have g52 := g40.trans hg47
    have g53 := g41.trans hg47
    have kk54 : Keep _ a9 a44 := kk42.trans hk48 rfl
    clear h39 g40 g41 kk42 hf33 hk48 hn49 hg47
    refine blockN ?_
    refine then_ ?_
    exact ⟨(2 * k), (by ((try dsimp only); omega)), hf46, (by omega), (by omega), (by rw [splitN_step (by omega) (by omega)]; assumption), g52, g53, kk54, (is_cast h50 (by first | rfl | (refine congrArg intV ?_; (try dsimp only); omega)))⟩
  · intro hc43
    try simp only [cond_norm] at hc43
    refine wp_exit ?_
    refine thenX ?_
    refine thenX ?_
    refine blockX ?_
    refine then_ ?_
    refine wp_seq ?_
    refine wp_region_lit ?_
    refine wp_all [([3], []), ([], [0])] [] w10.heap.size hf33 g41.size (by kernel_rfl) (bund_cons h38 bund_nil) ?_
    refine ch rfl (ob_move (arg_free 0 rfl rfl)) ?_
    refine ch rfl (ob_assign (arg_op 0 0 rfl rfl rfl rfl)) ?_
    refine ch_nil ?_
    intro a55 w56 hf57 hg58 hk59 hn60
    have h61 : Holds _ (a55.eval (.tmp 2)) w56 := hn60.at 1 0 rfl rfl rfl
    have g62 := g40.trans hg58
    have g63 := g41.trans hg58
    clear g40 g41 hf33 hk59 hn60 hg58
    refine then_ ?_
    refine wp_ret ?_
    exact ret_tmp rfl hf57 g62 (is_cast h61 (congrArg (fun x : Nat => intV (x : Int)) ((splitN_end (n := n) (by assumption) (by omega)).trans (by assumption))))
set_option maxRecDepth 100000 in
theorem c_rsplit {n : Nat} {nz : Int} (hn : n ≤ 9223372036854775807) (hz : nz = (n : Int)) : Con1 89 (Is (intV nz)) (fun _ => Is (intV (split n : Int))) := by
  intro lo v0 w0 hlo hv0
  refine enter Tryz.func89 rfl Tryz.ntmps89 (by simp) ?_
  intro a0 hf0 ha
  have h00 : Holds _ (a0.eval (.tmp 0)) w0 := arg_holds ha rfl hv0
  clear ha
  have g0 : Grow w0 w0 := Grow.refl _
  refine wp_seq ?_
  refine wp_region_lit ?_
  refine wp_all [([], [])] [0] w0.heap.size hf0 g0.size (by kernel_rfl) bund_nil ?_
  refine ch rfl (ob_assign arg_c) ?_
  refine ch_nil ?_
  intro a1 w2 hf3 hg4 hk5 hn6
  have h7 := hk5.holds rfl h00
  have g8 := g0.trans hg4
  clear h00 g0 hf0 hk5 hn6
  refine then_ ?_
  refine wp_seq ?_
  refine wp_region_lit ?_
  refine wp_all [([], [])] [0] w0.heap.size hf3 g8.size (by kernel_rfl) bund_nil ?_
  refine ch rfl (ob_assign arg_c) ?_
  refine ch_nil ?_
  intro a9 w10 hf11 hg12 hk13 hn14
  have h15 : Holds _ (a9.eval (.tmp 3)) w10 := hn14.at 0 0 rfl rfl rfl
  have h16 := hk13.holds rfl h7
  have g17 := g8.trans hg12
  clear h7 g8 hf3 hk13 hn14 hg12
  refine then_ ?_
  refine wp_seq ?_
  refine wp_block ?_
  have g18 : Grow w10 w10 := Grow.refl _
  have hz19 : w0.heap.size ≤ w10.heap.size := g17.size
  refine wp_loopL (α := Nat) (fun k a' w' => Fr 12 a' ∧ (1 ≤ k) ∧ (k ≤ 1 ∨ k < n) ∧ (splitGo n n k = split n) ∧ Grow w0 w' ∧ Grow w10 w' ∧ Keep [0] a9 a' ∧ Holds (Is (intV (k : Int))) (a'.eval (.tmp 3)) w') (fun k => n - k) (1) ⟨hf11, (by omega), (by omega), (by rfl), g17, g18, Keep.refl _ _, (is_cast h15 (by first | rfl | (refine congrArg intV ?_; (try dsimp only); omega)))⟩ ?_
  intro k a20 w21 ⟨hf22, hi24, hi25, hi26, g27, g28, kk23, h29⟩
  have h30 := kk23.holds rfl h16
  refine wp_seq ?_
  refine wp_seq ?_
  refine wp_region_lit ?_
  refine wp_all [([3], []), ([0], []), ([3], []), ([], [1, 2]), ([], [0, 3])] [0, 3] w10.heap.size hf22 g28.size (by kernel_rfl) (bund_cons h29 (bund_cons (is_any h30) bund_nil)) ?_
  refine ch rfl (ob_move (arg_free 0 rfl rfl)) ?_
  refine ch rfl (ob_move (arg_free 1 rfl rfl)) ?_
  refine ch rfl (ob_move (arg_free 0 rfl rfl)) ?_
  first
    | (refine ch rfl (ob_sub' (arg_op 1 1 rfl rfl rfl rfl) (arg_op 2 0 rfl rfl rfl rfl) ?_) ?_; · omega)
    | refine ch rfl (ob_sub (arg_op 1 1 rfl rfl rfl rfl) (arg_op 2 0 rfl rfl rfl rfl)) ?_
  refine ch rfl (ob_lss (arg_op 0 3 rfl rfl rfl rfl) (arg_op 3 0 rfl rfl rfl rfl)) ?_
  refine ch_nil ?_
  intro a31 w32 hf33 hg34 hk35 hn36
  have h37 : Holds _ (a31.eval (.tmp 8)) w32 := hn36.at 4 0 rfl rfl rfl
  have h38 := hk35.holds rfl (h29.up hg34)
  have h39 := hk35.holds rfl h30
  have g40 := g27.trans hg34
  have g41 := g28.trans hg34
  have kk42 : Keep _ a9 a31 := kk23.trans hk35 rfl
  clear h29 h30 g27 g28 kk23 hf22 hk35 hn36 hg34
  refine then_ ?_
  refine wp_if h37 ?_ ?_
  · intro hc43
    try simp only [cond_norm] at hc43
    refine wp_skip ?_
    refine then_ ?_
    refine wp_block ?_
    refine wp_region_lit ?_
    refine wp_all [([3], []), ([], [0]), ([], [1])] [0] w10.heap.size hf33 g41.size (by kernel_rfl) (bund_cons h38 bund_nil) ?_
    refine ch rfl (ob_move (arg_free 0 rfl rfl)) ?_
    first
      | (refine ch rfl (ob_mul' arg_c (arg_op 0 0 rfl rfl rfl rfl) ?_) ?_; · omega)
      | refine ch rfl (ob_mul arg_c (arg_op 0 0 rfl rfl rfl rfl)) ?_
    refine ch rfl (ob_assign (arg_op 1 0 rfl rfl rfl rfl)) ?_
    refine ch_nil ?_
    intro a44 w45 hf46 hg47 hk48 hn49
    have h50 : Holds _ (a44.eval (.tmp 3)) w45 := hn49.at 2 0 rfl rfl rfl
    have h51 := hk48.holds rfl h39
    have g52 := g40.trans hg47
    have g53 := g41.trans hg47
    have kk54 : Keep _ a9 a44 := kk42.trans hk48 rfl
    clear h39 g40 g41 kk42 hf33 hk48 hn49 hg47
    refine blockN ?_
    refine then_ ?_
    exact ⟨(2 * k), (by ((try dsimp only); omega)), hf46, (by omega), (by omega), (by rw [splitN_step (by omega) (by omega)]; assumption), g52, g53, kk54, (is_cast h50 (by first | rfl | (refine congrArg intV ?_; (try dsimp only); omega)))⟩
  · intro hc43
    try simp only [cond_norm] at hc43
    refine wp_exit ?_
    refine thenX ?_
    refine thenX ?_
    refine blockX ?_
    refine then_ ?_
    refine wp_seq ?_
    refine wp_region_lit ?_
    refine wp_all [([3], []), ([], [0])] [] w10.heap.size hf33 g41.size (by kernel_rfl) (bund_cons h38 bund_nil) ?_
    refine ch rfl (ob_move (arg_free 0 rfl rfl)) ?_
    refine ch rfl (ob_assign (arg_op 0 0 rfl rfl rfl rfl)) ?_
    refine ch_nil ?_
    intro a55 w56 hf57 hg58 hk59 hn60
    have h61 : Holds _ (a55.eval (.tmp 2)) w56 := hn60.at 1 0 rfl rfl rfl
    have g62 := g40.trans hg58
    have g63 := g41.trans hg58
    clear g40 g41 hf33 hk59 hn60 hg58
    refine then_ ?_
    refine wp_ret ?_
    exact ret_tmp rfl hf57 g62 (is_cast h61 (congrArg (fun x : Nat => intV (x : Int)) ((splitN_end (n := n) (by assumption) (by omega)).trans (by assumption))))
set_option maxRecDepth 100000 in
theorem c_Depth {i n : Int} (hi : -9223372036854775808 ≤ i) (hn : n ≤ 9223372036854775807) : Con2 110 (Is (intV i)) (Is (intV n)) (fun _ => Is (intV (depI i n))) := by
  intro lo v0 v1 w0 hlo hv0 hv1
  refine enter Tryz.func110 rfl Tryz.ntmps110 (by simp) ?_
  intro a0 hf0 ha
  have h00 : Holds _ (a0.eval (.tmp 0)) w0 := arg_holds ha rfl hv0
  have h01 : Holds _ (a0.eval (.tmp 1)) w0 := arg_holds ha rfl hv1
  clear ha
  have g0 : Grow w0 w0 := Grow.refl _
  refine wp_seq ?_
  refine wp_region_lit ?_
  refine wp_all [([], [])] [0, 1] w0.heap.size hf0 g0.size (by kernel_rfl) bund_nil ?_
  refine ch rfl (ob_assign arg_c) ?_
  refine ch_nil ?_
  intro a1 w2 hf3 hg4 hk5 hn6
  have h7 := hk5.holds rfl h00
  have h8 := hk5.holds rfl h01
  have g9 := g0.trans hg4
  clear h00 h01 g0 hf0 hk5 hn6
  refine then_ ?_
  refine wp_seq ?_
  refine wp_seq ?_
  refine wp_region_lit ?_
  refine wp_all [([0], []), ([], [0]), ([], [1]), ([0], [2]), ([1], [2]), ([], [3, 4, 2]), ([], [2, 5])] [0, 1] w0.heap.size hf3 g9.size (by kernel_rfl) (bund_cons (is_any h7) (bund_cons (is_any h8) bund_nil)) ?_
  refine ch rfl (ob_move (arg_free 0 rfl rfl)) ?_
  refine ch rfl (ob_lss (arg_op 0 0 rfl rfl rfl rfl) arg_c) ?_
  refine ch rfl (ob_move (arg_op 1 0 rfl rfl rfl rfl)) ?_
  refine chg (b := _) rfl rfl (arg_op 2 0 rfl rfl rfl rfl) (fun hb2 => ob_move (arg_free 0 rfl rfl)) ?_
  refine chg (b := _) rfl rfl (arg_op 2 1 rfl rfl rfl rfl) (fun hb2 => ob_move (arg_free 1 rfl rfl)) ?_
  refine chg (b := _) rfl rfl (arg_op 2 2 rfl rfl rfl rfl) (fun hb2 => ob_geq (ArgOK.when (arg_op 3 1 rfl rfl rfl rfl) hb2) (ArgOK.when (arg_op 4 0 rfl rfl rfl rfl) hb2)) ?_
  refine ch rfl (ob_or (arg_op 2 3 rfl rfl rfl rfl) (arg_op 5 0 rfl rfl rfl rfl)) ?_
  refine ch_nil ?_
  intro a10 w11 hf12 hg13 hk14 hn15
  have h16 : Holds _ (a10.eval (.tmp 13)) w11 := hn15.at 6 0 rfl rfl rfl
  have h17 := hk14.holds rfl h7
  have h18 := hk14.holds rfl h8
  have g19 := g9.trans hg13
  clear h7 h8 g9 hf3 hk14 hn15 hg13
  refine then_ ?_
  refine wp_if h16 ?_ ?_
  · intro hc20
    try simp only [cond_norm] at hc20
    refine wp_seq ?_
    refine wp_region_lit ?_
    refine wp_all [([], [])] [] w0.heap.size hf12 g19.size (by kernel_rfl) bund_nil ?_
    refine ch rfl (ob_assign arg_c) ?_
    refine ch_nil ?_
    intro a21 w22 hf23 hg24 hk25 hn26
    have h27 : Holds _ (a21.eval (.tmp 4)) w22 := hn26.at 0 0 rfl rfl rfl
    have g28 := g19.trans hg24
    clear g19 hf12 hk25 hn26 hg24
    refine then_ ?_
    refine wp_ret ?_
    refine thenR ?_
    exact ret_tmp rfl hf23 g28 (is_cast h27 (congrArg intV (by first | exact (depI_no (by omega)).symm | (rw [depI_of (by omega)]; omega))))
  · intro hc20
    try simp only [cond_norm] at hc20
    refine wp_skip ?_
    refine then_ ?_
    refine wp_seq ?_
    refine wp_region_lit ?_
    refine wp_all [([], [])] [0, 1] w0.heap.size hf12 g19.size (by kernel_rfl) bund_nil ?_
    refine ch rfl (ob_assign arg_c) ?_
    refine ch_nil ?_
    intro a29 w30 hf31 hg32 hk33 hn34
    have h35 : Holds _ (a29.eval (.tmp 5)) w30 := hn34.at 0 0 rfl rfl rfl
    have h36 := hk33.holds rfl h17
    have h37 := hk33.holds rfl h18
    have g38 := g19.trans hg32
    clear h17 h18 g19 hf12 hk33 hn34 hg32
    refine then_ ?_
    refine wp_seq ?_
    refine wp_block ?_
    have g39 : Grow w30 w30 := Grow.refl _
    have hz40 : w0.heap.size ≤ w30.heap.size := g38.size
    refine wp_loopL (α := Nat × Nat) (fun x a' w' => Fr 31 a' ∧ (x.1 < x.2) ∧ ((x.2 : Int) ≤ n) ∧ (dep x.1 x.2 ≤ dep i.toNat n.toNat) ∧ Grow w0 w' ∧ Grow w30 w' ∧ Keep [] a29 a' ∧ Holds (Is (intV (x.1 : Int))) (a'.eval (.tmp 0)) w' ∧ Holds (Is (intV (x.2 : Int))) (a'.eval (.tmp 1)) w' ∧ Holds (Is (intV (((dep i.toNat n.toNat - dep x.1 x.2 : Nat)) : Int))) (a'.eval (.tmp 5)) w') (fun x => x.2) ((i.toNat, n.toNat)) ⟨hf31, (by ((try dsimp only); omega)), (by ((try dsimp only); omega)), (by ((try dsimp only); omega)), g38, g39, Keep.refl _ _, (is_cast h36 (by first | rfl | (refine congrArg intV ?_; (try dsimp only); omega))), (is_cast h37 (by first | rfl | (refine congrArg intV ?_; (try dsimp only); omega))), (is_cast h35 (by first | rfl | (refine congrArg intV ?_; (try dsimp only); omega)))⟩ ?_
    intro x a41 w42 ⟨hf43, hi45, hi46, hi47, g48, g49, kk44, h50, h51, h52⟩
    refine wp_seq ?_
    refine wp_seq ?_
    refine wp_region_lit ?_
    refine wp_all [([1], []), ([], [0])] [0, 1, 5] w30.heap.size hf43 g49.size (by kernel_rfl) (bund_cons h51 bund_nil) ?_
    refine ch rfl (ob_move (arg_free 0 rfl rfl)) ?_
    refine ch rfl (ob_gtr (arg_op 0 0 rfl rfl rfl rfl) arg_c) ?_
    refine ch_nil ?_
    intro a53 w54 hf55 hg56 hk57 hn58
    have h59 : Holds _ (a53.eval (.tmp 15)) w54 := hn58.at 1 0 rfl rfl rfl
    have h60 := hk57.holds rfl (h50.up hg56)
    have h61 := hk57.holds rfl (h51.up hg56)
    have h62 := hk57.holds rfl (h52.up hg56)
    have g63 := g48.trans hg56
    have g64 := g49.trans hg56
    have kk65 : Keep _ a29 a53 := kk44.trans hk57 rfl
    clear h50 h51 h52 g48 g49 kk44 hf43 hk57 hn58 hg56
    refine then_ ?_
    refine wp_if h59 ?_ ?_
    · intro hc66
      try simp only [cond_norm] at hc66
      refine wp_skip ?_
      refine then_ ?_
      refine wp_block ?_
      refine wp_seq ?_
      have hb := split_bound (n := x.2) (by omega)
      have hD := dep_lt n.toNat i.toNat n.toNat (Nat.le_refl _) (by omega)
      have g67 : Grow w54 w54 := Grow.refl _
      have hz68 : w30.heap.size ≤ w54.heap.size := g64.size
      refine wp_region_lit ?_
      refine wp_all [([1], []), ([], [0]), ([], [1])] [0, 1, 5] w54.heap.size hf55 g67.size (by kernel_rfl) (bund_cons h61 bund_nil) ?_
      refine ch rfl (ob_move (arg_free 0 rfl rfl)) ?_
      refine ch rfl (ob_call1 (by kernel_rfl) (c_split (n := x.2) ?_ ?_) (arg_op 0 0 rfl rfl rfl rfl)) ?_
      · omega
      · rfl
      refine ch rfl (ob_assign (arg_op 1 0 rfl rfl rfl rfl)) ?_
      refine ch_nil ?_
      intro a69 w70 hf71 hg72 hk73 hn74
      have h75 : Holds _ (a69.eval (.tmp 6)) w70 := hn74.at 2 0 rfl rfl rfl
      have h76 := hk73.holds rfl h60
      have h77 := hk73.holds rfl h61
      have h78 := hk73.holds rfl h62
      have g79 := g63.trans hg72
      have g80 := g64.trans hg72
      have g81 := g67.trans hg72
      have kk82 : Keep _ a29 a69 := kk65.trans hk73 rfl
      clear h60 h61 h62 g63 g64 g67 kk65 hf55 hk73 hn74
      refine then_ ?_
      refine wp_seq ?_
      refine wp_seq ?_
      refine wp_region_lit ?_
      refine wp_all [([0], []), ([6], []), ([], [0, 1])] [0, 1, 5, 6] w54.heap.size hf71 g81.size (by kernel_rfl) (bund_cons (is_any h76) (bund_cons h75 bund_nil)) ?_
      refine ch rfl (ob_move (arg_free 0 rfl rfl)) ?_
      refine ch rfl (ob_move (arg_free 1 rfl rfl)) ?_
      refine ch rfl (ob_lss (arg_op 0 1 rfl rfl rfl rfl) (arg_op 1 0 rfl rfl rfl rfl)) ?_
      refine ch_nil ?_
      intro a83 w84 hf85 hg86 hk87 hn88
      have h89 : Holds _ (a83.eval (.tmp 20)) w84 := hn88.at 2 0 rfl rfl rfl
      have h90 := hk87.holds rfl (h75.up hg86)
      have h91 := hk87.holds rfl h76
      have h92 := hk87.holds rfl h77
      have h93 := hk87.holds rfl h78
      have g94 := g79.trans hg86
      have g95 := g80.trans hg86
      have g96 := g81.trans hg86
      have kk97 : Keep _ a29 a83 := kk82.trans hk87 rfl
      clear h75 h76 h77 h78 g79 g80 g81 kk82 hf71 hk87 hn88 hg86
      refine then_ ?_
      refine wp_if h89 ?_ ?_
      · intro hc98
        try simp only [cond_norm] at hc98
        refine wp_region_lit ?_
        refine wp_all [([6], []), ([], [0])] [0, 5] w54.heap.size hf85 g96.size (by kernel_rfl) (bund_cons h90 bund_nil) ?_
        refine ch rfl (ob_move (arg_free 0 rfl rfl)) ?_
        refine ch rfl (ob_assign (arg_op 0 0 rfl rfl rfl rfl)) ?_
        refine ch_nil ?_
        intro a99 w100 hf101 hg102 hk103 hn104
        have h105 : Holds _ (a99.eval (.tmp 1)) w100 := hn104.at 1 0 rfl rfl rfl
        have h106 := hk103.holds rfl h91
        have h107 := hk103.holds rfl h93
        have g108 := g94.trans hg102
        have g109 := g95.trans hg102
        have g110 := g96.trans hg102
        have kk111 : Keep _ a29 a99 := kk97.trans hk103 rfl
        clear h91 h93 g94 g95 g96 kk97 hf85 hk103 hn104 hg102
        refine then_ ?_
        refine wp_region_lit ?_
        refine wp_all [([5], []), ([], [0]), ([], [1])] [0, 1] w54.heap.size hf101 g110.size (by kernel_rfl) (bund_cons (is_any h107) bund_nil) ?_
        refine ch rfl (ob_move (arg_free 0 rfl rfl)) ?_
        first
          | (refine ch rfl (ob_add' (arg_op 0 0 rfl rfl rfl rfl) arg_c ?_) ?_; · omega)
          | refine ch rfl (ob_add (arg_op 0 0 rfl rfl rfl rfl) arg_c) ?_
        refine ch rfl (ob_assign (arg_op 1 0 rfl rfl rfl rfl)) ?_
        refine ch_nil ?_
        intro a112 w113 hf114 hg115 hk116 hn117
        have h118 : Holds _ (a112.eval (.tmp 5)) w113 := hn117.at 2 0 rfl rfl rfl
        have h119 := hk116.holds rfl (h105.up hg115)
        have h120 := hk116.holds rfl h106
        have g121 := g108.trans hg115
        have g122 := g109.trans hg115
        have g123 := g110.trans hg115
        have kk124 : Keep _ a29 a112 := kk111.trans hk116 rfl
        clear h105 h106 g108 g109 g110 kk111 hf101 hk116 hn117 hg115
        refine blockN ?_
        refine then_ ?_
        have hs := dep_left (i := x.1) (n := x.2) (by omega) (by omega)
        exact ⟨((x.1, split x.2)), (by ((try dsimp only); omega)), hf114, (by ((try dsimp only); omega)), (by ((try dsimp only); omega)), (by ((try dsimp only); omega)), g121, g122, kk124, (is_cast h120 (by first | rfl | (refine congrArg intV ?_; (try dsimp only); omega))), (is_cast h119 (by first | rfl | (refine congrArg intV ?_; (try dsimp only); omega))), (is_cast h118 (by first | rfl | (refine congrArg intV ?_; (try dsimp only); omega)))⟩
      · intro hc98
        try simp only [cond_norm] at hc98
        refine wp_region_lit ?_
        refine wp_all [([0], []), ([6], []), ([], [0, 1]), ([1], []), ([6], []), ([], [3, 4]), ([], [2]), ([], [5])] [5] w54.heap.size hf85 g96.size (by kernel_rfl) (bund_cons (is_any h91) (bund_cons h90 (bund_cons (is_any h92) bund_nil))) ?_
        refine ch rfl (ob_move (arg_free 0 rfl rfl)) ?_
        refine ch rfl (ob_move (arg_free 1 rfl rfl)) ?_
        first
          | (refine ch rfl (ob_sub' (arg_op 0 1 rfl rfl rfl rfl) (arg_op 1 0 rfl rfl rfl rfl) ?_) ?_; · omega)
          | refine ch rfl (ob_sub (arg_op 0 1 rfl rfl rfl rfl) (arg_op 1 0 rfl rfl rfl rfl)) ?_
        refine ch rfl (ob_move (arg_free 2 rfl rfl)) ?_
        refine ch rfl (ob_move (arg_free 1 rfl rfl)) ?_
        first
          | (refine ch rfl (ob_sub' (arg_op 3 1 rfl rfl rfl rfl) (arg_op 4 0 rfl rfl rfl rfl) ?_) ?_; · omega)
          | refine ch rfl (ob_sub (arg_op 3 1 rfl rfl rfl rfl) (arg_op 4 0 rfl rfl rfl rfl)) ?_
        refine ch rfl (ob_assign (arg_op 2 3 rfl rfl rfl rfl)) ?_
        refine ch rfl (ob_assign (arg_op 5 1 rfl rfl rfl rfl)) ?_
        refine ch_nil ?_
        intro a125 w126 hf127 hg128 hk129 hn130
        have h131 : Holds _ (a125.eval (.tmp 0)) w126 := hn130.at 6 1 rfl rfl rfl
        have h132 : Holds _ (a125.eval (.tmp 1)) w126 := hn130.at 7 0 rfl rfl rfl
        have h133 := hk129.holds rfl h93
        have g134 := g94.trans hg128
        have g135 := g95.trans hg128
        have g136 := g96.trans hg128
        have kk137 : Keep _ a29 a125 := kk97.trans hk129 rfl
        clear h93 g94 g95 g96 kk97 hf85 hk129 hn130 hg128
        refine then_ ?_
        refine wp_region_lit ?_
        refine wp_all [([5], []), ([], [0]), ([], [1])] [0, 1] w54.heap.size hf127 g136.size (by kernel_rfl) (bund_cons (is_any h133) bund_nil) ?_
        refine ch rfl (ob_move (arg_free 0 rfl rfl)) ?_
        first
          | (refine ch rfl (ob_add' (arg_op 0 0 rfl rfl rfl rfl) arg_c ?_) ?_; · omega)
          | refine ch rfl (ob_add (arg_op 0 0 rfl rfl rfl rfl) arg_c) ?_
        refine ch rfl (ob_assign (arg_op 1 0 rfl rfl rfl rfl)) ?_
        refine ch_nil ?_
        intro a138 w139 hf140 hg141 hk142 hn143
        have h144 : Holds _ (a138.eval (.tmp 5)) w139 := hn143.at 2 0 rfl rfl rfl
        have h145 := hk142.holds rfl (h131.up hg141)
        have h146 := hk142.holds rfl (h132.up hg141)
        have g147 := g134.trans hg141
        have g148 := g135.trans hg141
        have g149 := g136.trans hg141
        have kk150 : Keep _ a29 a138 := kk137.trans hk142 rfl
        clear h131 h132 g134 g135 g136 kk137 hf127 hk142 hn143 hg141
        refine blockN ?_
        refine then_ ?_
        have hs := dep_right (i := x.1) (n := x.2) (by omega) (by omega)
        exact ⟨((x.1 - split x.2, x.2 - split x.2)), (by ((try dsimp only); omega)), hf140, (by ((try dsimp only); omega)), (by ((try dsimp only); omega)), (by ((try dsimp only); omega)), g147, g148, kk150, (is_cast h145 (by first | rfl | (refine congrArg intV ?_; (try dsimp only); omega))), (is_cast h146 (by first | rfl | (refine congrArg intV ?_; (try dsimp only); omega))), (is_cast h144 (by first | rfl | (refine congrArg intV ?_; (try dsimp only); omega)))⟩
    · intro hc66
      try simp only [cond_norm] at hc66
      have h0 := dep_one x.1 x.2 (by omega)
      refine wp_exit ?_
      refine thenX ?_
      refine thenX ?_
      refine blockX ?_
      refine then_ ?_
      refine wp_seq ?_
      refine wp_region_lit ?_
      refine wp_all [([5], []), ([], [0])] [] w30.heap.size hf55 g64.size (by kernel_rfl) (bund_cons h62 bund_nil) ?_
      refine ch rfl (ob_move (arg_free 0 rfl rfl)) ?_
      refine ch rfl (ob_assign (arg_op 0 0 rfl rfl rfl rfl)) ?_
      refine ch_nil ?_
      intro a151 w152 hf153 hg154 hk155 hn156
      have h157 : Holds _ (a151.eval (.tmp 4)) w152 := hn156.at 1 0 rfl rfl rfl
      have g158 := g63.trans hg154
      have g159 := g64.trans hg154
      clear g63 g64 hf55 hk155 hn156 hg154
      refine then_ ?_
      refine wp_ret ?_
      exact ret_tmp rfl hf153 g158 (is_cast h157 (congrArg intV (by first | exact (depI_no (by omega)).symm | (rw [depI_of (by omega)]; omega))))
set_option maxRecDepth 100000 in
theorem c_single {x : UInt64} : Con1 103 (Is (nmV x)) (fun _ => Is (nmV (single x))) := by
  intro lo v0 w0 hlo hv0
  refine enter Tryz.func103 rfl Tryz.ntmps103 (by simp) ?_
  intro a0 hf0 ha
  have h00 : Holds _ (a0.eval (.tmp 0)) w0 := arg_holds ha rfl hv0
  clear ha
  have g0 : Grow w0 w0 := Grow.refl _
  refine wp_seq ?_
  refine wp_region_lit ?_
  refine wp_seg (l1 := [_]) [([0], [])] [] w0.heap.size hf0 g0.size (by kernel_rfl) (bund_cons h00 bund_nil) ?_
  refine ch rfl (ob_box_nm (arg_free 0 rfl rfl)) ?_
  refine ch_nil ?_
  intro a1 w2 hf3 hg4 hk5 hn6
  have h7 : Holds _ (a1.eval (.tmp 1)) w2 := hn6.at 0 0 rfl rfl rfl
  have g8 := g0.trans hg4
  obtain ⟨bk9, hl10, hv11, hb12⟩ := OwnB.blk (lo := w0.heap.size) h7
  clear g0 hf0 hk5 hn6
  have g13 : Grow w2 w2 := Grow.refl _
  have hl14 : bk9 < w2.heap.size := hb12.lt
  have hz15 : w0.heap.size ≤ w2.heap.size := g8.size
  refine wp_all [([], [])] [1] w2.heap.size hf3 g13.size (by kernel_rfl) bund_nil ?_
  refine ch rfl (ob_alloc_nm) ?_
  refine ch_nil ?_
  intro a16 w17 hf18 hg19 hk20 hn21
  have h22 : Holds _ (a16.eval (.tmp 2)) w17 := hn21.at 0 0 rfl rfl rfl
  have hv23 : Holds (Is (PtrV bk9)) (a16.eval (.tmp 1)) w17 := is_any (hk20.holds rfl hv11)
  have hb24 := hb12.up hg19
  have g25 := g8.trans hg19
  have g26 := g13.trans hg19
  obtain ⟨bk27, hl28, hv29, hb30⟩ := OwnB.blk (lo := w2.heap.size) h22
  clear hv11 hb12 g8 g13 hf3 hk20 hn21
  refine then_ ?_
  refine wp_seq ?_
  have g31 : Grow w17 w17 := Grow.refl _
  have hl32 : bk9 < w17.heap.size := hb24.lt
  have hl33 : bk27 < w17.heap.size := hb30.lt
  have hz34 : w2.heap.size ≤ w17.heap.size := g26.size
  refine wp_region_lit ?_
  refine wp_seg (l1 := [_, _]) [([1], []), ([], [0])] [2] w17.heap.size hf18 g31.size (by kernel_rfl) (bund_cons (hb24.ownp hv23) bund_nil) ?_
  refine ch rfl (ob_slice_nmF (ArgOK.ownp (arg_free 0 rfl rfl))) ?_
  refine ch rfl (ob_call2 (by kernel_rfl) (c_Tagged ?_) (arg_cb 17 rfl) (ArgOK.fsl (arg_op 0 0 rfl rfl rfl rfl))) ?_
  · ((try simp only [List.length_append, List.length_cons, List.length_nil, nmBytes_len, List.length_take, List.length_drop, flat_len]); omega)
  refine ch_nil ?_
  intro a35 w36 hf37 hg38 hk39 hn40
  have h41 : Holds _ (a35.eval (.tmp 4)) w36 := hn40.at 1 0 rfl rfl rfl
  have hv42 : Holds (Is (PtrV bk27)) (a35.eval (.tmp 2)) w36 := is_any (hk39.holds rfl hv29)
  have hb43 := hb30.up hg38
  have g44 := g25.trans hg38
  have g45 := g26.trans hg38
  have g46 := g31.trans hg38
  clear hv29 hb30 g25 g26 g31 hf18 hk39 hn40
  refine wl_store_nm hv42 hb43 rfl h41 ?_
  intro w47 ho48 hb49
  have g50 : Grow w0 w47 := g44.only ho48 (by omega)
  have g51 : Grow w2 w47 := g45.only ho48 (by omega)
  have hv53 : Holds (Is (PtrV bk27)) (a35.eval (.tmp 2)) w47 := is_any hv42
  refine wpList_nil ?_
  refine then_ ?_
  refine wp_ret ?_
  refine ret_cell rfl Tryz.underlying30 rfl (by kernel_rfl) hf37 g50 (hb49.ptr hv53) ?_
  exact rfl
set_option maxRecDepth 100000 in
theorem c_Root_step {l : List UInt64} (hl : l.length ≤ 9223372036854775807) (ih : ∀ m : List UInt64, m.length < l.length → Con1 68 (Sl elNm m) (fun _ => Is (nmV (root m)))) : Con1 68 (Sl elNm l) (fun _ => Is (nmV (root l))) := by
  intro lo v0 w0 hlo hv0
  refine enter Tryz.func68 rfl Tryz.ntmps68 (by simp) ?_
  intro a0 hf0 ha
  have h00 : Holds (Is v0) (a0.eval (.tmp 0)) w0 := arg_holds ha rfl rfl
  clear ha
  have g0 : Grow w0 w0 := Grow.refl _
  refine wp_seq ?_
  refine wp_region_lit ?_
  refine wp_all [([], [])] [0] w0.heap.size hf0 g0.size (by kernel_rfl) bund_nil ?_
  refine ch rfl (ob_alloc_nm) ?_
  refine ch_nil ?_
  intro a1 w2 hf3 hg4 hk5 hn6
  have h7 : Holds _ (a1.eval (.tmp 2)) w2 := hn6.at 0 0 rfl rfl rfl
  have h8 := hk5.holds rfl h00
  have g9 := g0.trans hg4
  obtain ⟨bk10, hl11, hv12, hb13⟩ := OwnB.blk (lo := w0.heap.size) h7
  clear h00 g0 hf0 hk5 hn6
  refine then_ ?_
  refine wp_seq ?_
  refine wp_seq ?_
  refine wp_region_lit ?_
  refine wp_all [([0], []), ([], [0])] [0, 2] w0.heap.size hf3 g9.size (by kernel_rfl) (bund_cons (is_any h8) bund_nil) ?_
  refine ch rfl (ob_move (arg_free 0 rfl rfl)) ?_
  refine ch rfl (ob_len (ArgOK.val (arg_op 0 0 rfl rfl rfl rfl) (hv0.up g9)) Tryz.underlying25) ?_
  refine ch_nil ?_
  intro a14 w15 hf16 hg17 hk18 hn19
  have h20 : Holds _ (a14.eval (.tmp 5)) w15 := hn19.at 1 0 rfl rfl rfl
  have h21 := hk18.holds rfl h8
  have hv22 : Holds (Is (PtrV bk10)) (a14.eval (.tmp 2)) w15 := is_any (hk18.holds rfl hv12)
  have hb23 := hb13.up hg17
  have g24 := g9.trans hg17
  clear h8 hv12 hb13 g9 hf3 hk18 hn19 hg17
  refine then_ ?_
  refine wp_block ?_
  refine wp_seq ?_
  refine wp_region_lit ?_
  refine wp_all [([5], []), ([], [0])] [0, 2, 5] w0.heap.size hf16 g24.size (by kernel_rfl) (bund_cons h20 bund_nil) ?_
  refine ch rfl (ob_eql (arg_free 0 rfl rfl) arg_c) ?_
  refine ch rfl (ob_assign (arg_op 0 0 rfl rfl rfl rfl)) ?_
  refine ch_nil ?_
  intro a25 w26 hf27 hg28 hk29 hn30
  have h31 : Holds _ (a25.eval (.tmp 6)) w26 := hn30.at 1 0 rfl rfl rfl
  have h32 := hk29.holds rfl (h20.up hg28)
  have h33 := hk29.holds rfl h21
  have hv34 : Holds (Is (PtrV bk10)) (a25.eval (.tmp 2)) w26 := is_any (hk29.holds rfl hv22)
  have hb35 := hb23.up hg28
  have g36 := g24.trans hg28
  clear h20 h21 hv22 hb23 g24 hf16 hk29 hn30 hg28
  refine then_ ?_
  refine wp_if h31 ?_ ?_
  · intro hc37
    try simp only [cond_norm] at hc37
    refine wp_seq ?_
    have g38 : Grow w26 w26 := Grow.refl _
    have hl39 : bk10 < w26.heap.size := hb35.lt
    have hz40 : w0.heap.size ≤ w26.heap.size := g36.size
    refine wp_region_lit ?_
    refine wp_seg (l1 := [_]) [([], [])] [2] w26.heap.size hf27 g38.size (by kernel_rfl) bund_nil ?_
    refine ch rfl (ob_call2 (by kernel_rfl) (c_Tagged ?_) (arg_cb 16 rfl) (arg_cg (fun w => sl_nil))) ?_
    · ((try simp only [List.length_append, List.length_cons, List.length_nil, nmBytes_len, List.length_take, List.length_drop, flat_len]); omega)
    refine ch_nil ?_
    intro a41 w42 hf43 hg44 hk45 hn46
    have h47 : Holds _ (a41.eval (.tmp 8)) w42 := hn46.at 0 0 rfl rfl rfl
    have hv48 : Holds (Is (PtrV bk10)) (a41.eval (.tmp 2)) w42 := is_any (hk45.holds rfl hv34)
    have hb49 := hb35.up hg44
    have g50 := g36.trans hg44
    have g51 := g38.trans hg44
    clear hv34 hb35 g36 g38 hf27 hk45 hn46
    refine wl_store_nm hv48 hb49 rfl h47 ?_
    intro w52 ho53 hb54
    have g55 : Grow w0 w52 := g50.only ho53 (by omega)
    have hv57 : Holds (Is (PtrV bk10)) (a41.eval (.tmp 2)) w52 := is_any hv48
    refine wpList_nil ?_
    refine then_ ?_
    refine wp_ret ?_
    refine blockR ?_
    refine thenR ?_
    refine ret_cell rfl Tryz.underlying30 rfl (by kernel_rfl) hf43 g55 (hb54.ptr hv57) ?_
    exact congrArg nmV (root_zero (by omega)).symm
  · intro hc37
    try simp only [cond_norm] at hc37
    refine wp_seq ?_
    refine wp_region_lit ?_
    refine wp_all [([5], []), ([], [0])] [0, 2] w0.heap.size hf27 g36.size (by kernel_rfl) (bund_cons h32 bund_nil) ?_
    refine ch rfl (ob_eql (arg_free 0 rfl rfl) arg_c) ?_
    refine ch rfl (ob_assign (arg_op 0 0 rfl rfl rfl rfl)) ?_
    refine ch_nil ?_
    intro a58 w59 hf60 hg61 hk62 hn63
    have h64 : Holds _ (a58.eval (.tmp 9)) w59 := hn63.at 1 0 rfl rfl rfl
    have h65 := hk62.holds rfl h33
    have hv66 : Holds (Is (PtrV bk10)) (a58.eval (.tmp 2)) w59 := is_any (hk62.holds rfl hv34)
    have hb67 := hb35.up hg61
    have g68 := g36.trans hg61
    clear h33 hv34 hb35 g36 hf27 hk62 hn63 hg61
    refine then_ ?_
    refine wp_if h64 ?_ ?_
    · intro hc69
      try simp only [cond_norm] at hc69
      refine wp_seq ?_
      have g70 : Grow w59 w59 := Grow.refl _
      have hl71 : bk10 < w59.heap.size := hb67.lt
      have hz72 : w0.heap.size ≤ w59.heap.size := g68.size
      refine wp_region_lit ?_
      refine wp_seg (l1 := [_, _, _, _]) [([0], []), ([], [0]), ([], [1]), ([], [2])] [2] w59.heap.size hf60 g70.size (by kernel_rfl) (bund_cons (is_any h65) bund_nil) ?_
      refine ch rfl (ob_move (arg_free 0 rfl rfl)) ?_
      refine ch rfl (ob_ix (ArgOK.val (arg_op 0 0 rfl rfl rfl rfl) (hv0.up g68)) arg_c (show (0 : Int) = ((0 : Nat) : Int) from rfl) ?_ Tryz.underlying25 szNm) ?_
      · omega
      refine ch rfl (ob_load_nm (arg_op 1 0 rfl rfl rfl rfl)) ?_
      refine ch rfl (ob_call1 (by kernel_rfl) (c_single) (arg_op 2 0 rfl rfl rfl rfl)) ?_
      refine ch_nil ?_
      intro a73 w74 hf75 hg76 hk77 hn78
      have h79 : Holds _ (a73.eval (.tmp 14)) w74 := hn78.at 3 0 rfl rfl rfl
      have hv80 : Holds (Is (PtrV bk10)) (a73.eval (.tmp 2)) w74 := is_any (hk77.holds rfl hv66)
      have hb81 := hb67.up hg76
      have g82 := g68.trans hg76
      have g83 := g70.trans hg76
      clear hv66 hb67 g68 g70 hf60 hk77 hn78
      refine wl_store_nm hv80 hb81 rfl h79 ?_
      intro w84 ho85 hb86
      have g87 : Grow w0 w84 := g82.only ho85 (by omega)
      have hv89 : Holds (Is (PtrV bk10)) (a73.eval (.tmp 2)) w84 := is_any hv80
      refine wpList_nil ?_
      refine then_ ?_
      refine wp_ret ?_
      refine blockR ?_
      refine thenR ?_
      refine ret_cell rfl Tryz.underlying30 rfl (by kernel_rfl) hf75 g87 (hb86.ptr hv89) ?_
      exact congrArg nmV (root_one (by omega)).symm
    · intro hc69
      try simp only [cond_norm] at hc69
      refine wp_skip ?_
      refine blockN ?_
      refine then_ ?_
      refine wp_seq ?_
      have g90 : Grow w59 w59 := Grow.refl _
      have hl91 : bk10 < w59.heap.size := hb67.lt
      have hz92 : w0.heap.size ≤ w59.heap.size := g68.size
      refine wp_region_lit ?_
      refine wp_all [([0], []), ([], [0]), ([], [1]), ([], [2])] [0, 2] w59.heap.size hf60 g90.size (by kernel_rfl) (bund_cons (is_any h65) bund_nil) ?_
      refine ch rfl (ob_move (arg_free 0 rfl rfl)) ?_
      refine ch rfl (ob_len (ArgOK.val (arg_op 0 0 rfl rfl rfl rfl) (hv0.up g68)) Tryz.underlying25) ?_
      refine ch rfl (ob_call1 (by kernel_rfl) (c_split (n := l.length) ?_ ?_) (arg_op 1 0 rfl rfl rfl rfl)) ?_
      · omega
      · rfl
      refine ch rfl (ob_assign (arg_op 2 0 rfl rfl rfl rfl)) ?_
      refine ch_nil ?_
      intro a93 w94 hf95 hg96 hk97 hn98
      have h99 : Holds _ (a93.eval (.tmp 3)) w94 := hn98.at 3 0 rfl rfl rfl
      have h100 := hk97.holds rfl h65
      have hv101 : Holds (Is (PtrV bk10)) (a93.eval (.tmp 2)) w94 := is_any (hk97.holds rfl hv66)
      have hb102 := hb67.up hg96
      have g103 := g68.trans hg96
      have g104 := g90.trans hg96
      clear h65 hv66 hb67 g68 g90 hf60 hk97 hn98
      refine then_ ?_
      refine wp_seq ?_
      have hb := split_bound (n := l.length) (by omega)
      have g105 : Grow w94 w94 := Grow.refl _
      have hl106 : bk10 < w94.heap.size := hb102.lt
      have hz107 : w59.heap.size ≤ w94.heap.size := g104.size
      refine wp_calm_tail (l1 := [_, _, _, _, _, _, _, _, _]) [0, 0, 3, 7, 0, 0, 48, 127, 255, 511] [([0], []), ([3], []), ([], [0, 1]), ([], [2]), ([0], []), ([3], []), ([], [4, 5]), ([], [6]), ([], [3, 7])] [2] w94.heap.size hf95 g105.size (by kernel_rfl) (bund_cons (is_any h100) (bund_cons h99 bund_nil)) ?_
      intro ws108 hs109
      refine ch rfl (ob_move (arg_free 0 rfl rfl)) ?_
      refine ch rfl (ob_move (arg_free 1 rfl rfl)) ?_
      refine ch rfl (ob_slice_to (ArgOK.val (arg_op 0 1 rfl rfl rfl rfl) ((hv0.up g103).up hs109)) (arg_op 1 0 rfl rfl rfl rfl) (rfl) ?_ Tryz.underlying25 szNm) ?_
      · omega
      refine ch rfl (ob_call1 (by kernel_rfl) (ih _ ?_) (arg_op 2 0 rfl rfl rfl rfl)) ?_
      · ((try simp only [List.length_take, List.length_drop, List.length_cons, List.length_nil]); omega)
      refine ch rfl (ob_move (arg_free 0 rfl rfl)) ?_
      refine ch rfl (ob_move (arg_free 1 rfl rfl)) ?_
      refine ch rfl (ob_slice_from (ArgOK.val (arg_op 4 1 rfl rfl rfl rfl) ((hv0.up g103).up hs109)) (arg_op 5 0 rfl rfl rfl rfl) (rfl) ?_ Tryz.underlying25 szNm) ?_
      · omega
      refine ch rfl (ob_call1 (by kernel_rfl) (ih _ ?_) (arg_op 6 0 rfl rfl rfl rfl)) ?_
      · ((try simp only [List.length_take, List.length_drop, List.length_cons, List.length_nil]); omega)
      refine ch rfl (ob_call3 (by kernel_rfl) (c_Pair) (arg_cb 18 rfl) (arg_op 3 4 rfl rfl rfl rfl) (arg_op 7 0 rfl rfl rfl rfl)) ?_
      refine ch_nil ?_
      intro a110 w111 hf112 hg113 hk114 hn115
      have h116 : Holds _ (a110.eval (.tmp 26)) w111 := hn115.at 8 0 rfl rfl rfl
      have hv117 : Holds (Is (PtrV bk10)) (a110.eval (.tmp 2)) w111 := is_any (hk114.holds rfl hv101)
      have hb118 := hb102.up hg113
      have g119 := g103.trans hg113
      have g120 := g104.trans hg113
      have g121 := g105.trans hg113
      clear hv101 hb102 g103 g104 g105 hf95 hk114 hn115
      refine wl_store_nm hv117 hb118 rfl h116 ?_
      intro w122 ho123 hb124
      have g125 : Grow w0 w122 := g119.only ho123 (by omega)
      have hv128 : Holds (Is (PtrV bk10)) (a110.eval (.tmp 2)) w122 := is_any hv117
      refine wpList_nil ?_
      refine then_ ?_
      refine wp_ret ?_
      refine ret_cell rfl Tryz.underlying30 rfl (by kernel_rfl) hf112 g125 (hb124.ptr hv128) ?_
      exact congrArg nmV (root_two (by omega)).symm
theorem c_Root : ∀ {l : List UInt64} (_ : l.length ≤ 9223372036854775807), Con1 68 (Sl elNm l) (fun _ => Is (nmV (root l))) := by
  have key : ∀ (n : Nat) (l : List UInt64), l.length = n → n ≤ 9223372036854775807 → Con1 68 (Sl elNm l) (fun _ => Is (nmV (root l))) := by
    intro n
    induction n using Nat.strongRecOn with
    | _ n ih =>
      intro l hl hn
      exact c_Root_step (by omega) fun m hm => ih m.length (by omega) m rfl (by omega)
  intro l hl
  exact key l.length l rfl hl
set_option maxRecDepth 100000 in
theorem c_rRoot_step {l : List UInt64} (hl : l.length ≤ 9223372036854775807) (ih : ∀ m : List UInt64, m.length < l.length → Con1 49 (Sl elNm m) (fun _ => Is (nmV (root m)))) : Con1 49 (Sl elNm l) (fun _ => Is (nmV (root l))) := by
  intro lo v0 w0 hlo hv0
  refine enter Tryz.func49 rfl Tryz.ntmps49 (by simp) ?_
  intro a0 hf0 ha
  have h00 : Holds (Is v0) (a0.eval (.tmp 0)) w0 := arg_holds ha rfl rfl
  clear ha
  have g0 : Grow w0 w0 := Grow.refl _
  refine wp_seq ?_
  refine wp_region_lit ?_
  refine wp_all [([], [])] [0] w0.heap.size hf0 g0.size (by kernel_rfl) bund_nil ?_
  refine ch rfl (ob_alloc_nm) ?_
  refine ch_nil ?_
  intro a1 w2 hf3 hg4 hk5 hn6
  have h7 : Holds _ (a1.eval (.tmp 2)) w2 := hn6.at 0 0 rfl rfl rfl
  have h8 := hk5.holds rfl h00
  have g9 := g0.trans hg4
  obtain ⟨bk10, hl11, hv12, hb13⟩ := OwnB.blk (lo := w0.heap.size) h7
  clear h00 g0 hf0 hk5 hn6
  refine then_ ?_
  refine wp_seq ?_
  refine wp_seq ?_
  refine wp_region_lit ?_
  refine wp_all [([0], []), ([], [0])] [0, 2] w0.heap.size hf3 g9.size (by kernel_rfl) (bund_cons (is_any h8) bund_nil) ?_
  refine ch rfl (ob_move (arg_free 0 rfl rfl)) ?_
  refine ch rfl (ob_len (ArgOK.val (arg_op 0 0 rfl rfl rfl rfl) (hv0.up g9)) Tryz.underlying25) ?_
  refine ch_nil ?_
  intro a14 w15 hf16 hg17 hk18 hn19
  have h20 : Holds _ (a14.eval (.tmp 5)) w15 := hn19.at 1 0 rfl rfl rfl
  have h21 := hk18.holds rfl h8
  have hv22 : Holds (Is (PtrV bk10)) (a14.eval (.tmp 2)) w15 := is_any (hk18.holds rfl hv12)
  have hb23 := hb13.up hg17
  have g24 := g9.trans hg17
  clear h8 hv12 hb13 g9 hf3 hk18 hn19 hg17
  refine then_ ?_
  refine wp_block ?_
  refine wp_seq ?_
  refine wp_region_lit ?_
  refine wp_all [([5], []), ([], [0])] [0, 2, 5] w0.heap.size hf16 g24.size (by kernel_rfl) (bund_cons h20 bund_nil) ?_
  refine ch rfl (ob_eql (arg_free 0 rfl rfl) arg_c) ?_
  refine ch rfl (ob_assign (arg_op 0 0 rfl rfl rfl rfl)) ?_
  refine ch_nil ?_
  intro a25 w26 hf27 hg28 hk29 hn30
  have h31 : Holds _ (a25.eval (.tmp 6)) w26 := hn30.at 1 0 rfl rfl rfl
  have h32 := hk29.holds rfl (h20.up hg28)
  have h33 := hk29.holds rfl h21
  have hv34 : Holds (Is (PtrV bk10)) (a25.eval (.tmp 2)) w26 := is_any (hk29.holds rfl hv22)
  have hb35 := hb23.up hg28
  have g36 := g24.trans hg28
  clear h20 h21 hv22 hb23 g24 hf16 hk29 hn30 hg28
  refine then_ ?_
  refine wp_if h31 ?_ ?_
  · intro hc37
    try simp only [cond_norm] at hc37
    refine wp_seq ?_
    have g38 : Grow w26 w26 := Grow.refl _
    have hl39 : bk10 < w26.heap.size := hb35.lt
    have hz40 : w0.heap.size ≤ w26.heap.size := g36.size
    refine wp_region_lit ?_
    refine wp_seg (l1 := [_]) [([], [])] [2] w26.heap.size hf27 g38.size (by kernel_rfl) bund_nil ?_
    refine ch rfl (ob_call2 (by kernel_rfl) (c_rTagged ?_) (arg_cb 16 rfl) (arg_cg (fun w => sl_nil))) ?_
    · ((try simp only [List.length_append, List.length_cons, List.length_nil, nmBytes_len, List.length_take, List.length_drop, flat_len]); omega)
    refine ch_nil ?_
    intro a41 w42 hf43 hg44 hk45 hn46
    have h47 : Holds _ (a41.eval (.tmp 8)) w42 := hn46.at 0 0 rfl rfl rfl
    have hv48 : Holds (Is (PtrV bk10)) (a41.eval (.tmp 2)) w42 := is_any (hk45.holds rfl hv34)
    have hb49 := hb35.up hg44
    have g50 := g36.trans hg44
    have g51 := g38.trans hg44
    clear hv34 hb35 g36 g38 hf27 hk45 hn46
    refine wl_store_nm hv48 hb49 rfl h47 ?_
    intro w52 ho53 hb54
    have g55 : Grow w0 w52 := g50.only ho53 (by omega)
    have hv57 : Holds (Is (PtrV bk10)) (a41.eval (.tmp 2)) w52 := is_any hv48
    refine wpList_nil ?_
    refine then_ ?_
    refine wp_ret ?_
    refine blockR ?_
    refine thenR ?_
    refine ret_cell rfl Tryz.underlying30 rfl (by kernel_rfl) hf43 g55 (hb54.ptr hv57) ?_
    exact congrArg nmV (root_zero (by omega)).symm
  · intro hc37
    try simp only [cond_norm] at hc37
    refine wp_seq ?_
    refine wp_region_lit ?_
    refine wp_all [([5], []), ([], [0])] [0, 2] w0.heap.size hf27 g36.size (by kernel_rfl) (bund_cons h32 bund_nil) ?_
    refine ch rfl (ob_eql (arg_free 0 rfl rfl) arg_c) ?_
    refine ch rfl (ob_assign (arg_op 0 0 rfl rfl rfl rfl)) ?_
    refine ch_nil ?_
    intro a58 w59 hf60 hg61 hk62 hn63
    have h64 : Holds _ (a58.eval (.tmp 9)) w59 := hn63.at 1 0 rfl rfl rfl
    have h65 := hk62.holds rfl h33
    have hv66 : Holds (Is (PtrV bk10)) (a58.eval (.tmp 2)) w59 := is_any (hk62.holds rfl hv34)
    have hb67 := hb35.up hg61
    have g68 := g36.trans hg61
    clear h33 hv34 hb35 g36 hf27 hk62 hn63 hg61
    refine then_ ?_
    refine wp_if h64 ?_ ?_
    · intro hc69
      try simp only [cond_norm] at hc69
      refine wp_seq ?_
      have g70 : Grow w59 w59 := Grow.refl _
      have hl71 : bk10 < w59.heap.size := hb67.lt
      have hz72 : w0.heap.size ≤ w59.heap.size := g68.size
      refine wp_region_lit ?_
      refine wp_seg (l1 := [_, _, _, _]) [([0], []), ([], [0]), ([], [1]), ([], [2])] [2] w59.heap.size hf60 g70.size (by kernel_rfl) (bund_cons (is_any h65) bund_nil) ?_
      refine ch rfl (ob_move (arg_free 0 rfl rfl)) ?_
      refine ch rfl (ob_ix (ArgOK.val (arg_op 0 0 rfl rfl rfl rfl) (hv0.up g68)) arg_c (show (0 : Int) = ((0 : Nat) : Int) from rfl) ?_ Tryz.underlying25 szNm) ?_
      · omega
      refine ch rfl (ob_slice_nmF (arg_op 1 0 rfl rfl rfl rfl)) ?_
      refine ch rfl (ob_call2 (by kernel_rfl) (c_rTagged ?_) (arg_cb 17 rfl) (ArgOK.fsl (arg_op 2 0 rfl rfl rfl rfl))) ?_
      · ((try simp only [List.length_append, List.length_cons, List.length_nil, nmBytes_len, List.length_take, List.length_drop, flat_len]); omega)
      refine ch_nil ?_
      intro a73 w74 hf75 hg76 hk77 hn78
      have h79 : Holds _ (a73.eval (.tmp 14)) w74 := hn78.at 3 0 rfl rfl rfl
      have hv80 : Holds (Is (PtrV bk10)) (a73.eval (.tmp 2)) w74 := is_any (hk77.holds rfl hv66)
      have hb81 := hb67.up hg76
      have g82 := g68.trans hg76
      have g83 := g70.trans hg76
      clear hv66 hb67 g68 g70 hf60 hk77 hn78
      refine wl_store_nm hv80 hb81 rfl h79 ?_
      intro w84 ho85 hb86
      have g87 : Grow w0 w84 := g82.only ho85 (by omega)
      have hv89 : Holds (Is (PtrV bk10)) (a73.eval (.tmp 2)) w84 := is_any hv80
      refine wpList_nil ?_
      refine then_ ?_
      refine wp_ret ?_
      refine blockR ?_
      refine thenR ?_
      refine ret_cell rfl Tryz.underlying30 rfl (by kernel_rfl) hf75 g87 (hb86.ptr hv89) ?_
      exact congrArg nmV (root_one (by omega)).symm
    · intro hc69
      try simp only [cond_norm] at hc69
      refine wp_skip ?_
      refine blockN ?_
      refine then_ ?_
      refine wp_seq ?_
      have g90 : Grow w59 w59 := Grow.refl _
      have hl91 : bk10 < w59.heap.size := hb67.lt
      have hz92 : w0.heap.size ≤ w59.heap.size := g68.size
      refine wp_region_lit ?_
      refine wp_all [([0], []), ([], [0]), ([], [1]), ([], [2])] [0, 2] w59.heap.size hf60 g90.size (by kernel_rfl) (bund_cons (is_any h65) bund_nil) ?_
      refine ch rfl (ob_move (arg_free 0 rfl rfl)) ?_
      refine ch rfl (ob_len (ArgOK.val (arg_op 0 0 rfl rfl rfl rfl) (hv0.up g68)) Tryz.underlying25) ?_
      refine ch rfl (ob_call1 (by kernel_rfl) (c_rsplit (n := l.length) ?_ ?_) (arg_op 1 0 rfl rfl rfl rfl)) ?_
      · omega
      · rfl
      refine ch rfl (ob_assign (arg_op 2 0 rfl rfl rfl rfl)) ?_
      refine ch_nil ?_
      intro a93 w94 hf95 hg96 hk97 hn98
      have h99 : Holds _ (a93.eval (.tmp 3)) w94 := hn98.at 3 0 rfl rfl rfl
      have h100 := hk97.holds rfl h65
      have hv101 : Holds (Is (PtrV bk10)) (a93.eval (.tmp 2)) w94 := is_any (hk97.holds rfl hv66)
      have hb102 := hb67.up hg96
      have g103 := g68.trans hg96
      have g104 := g90.trans hg96
      clear h65 hv66 hb67 g68 g90 hf60 hk97 hn98
      refine then_ ?_
      refine wp_seq ?_
      have hb := split_bound (n := l.length) (by omega)
      have g105 : Grow w94 w94 := Grow.refl _
      have hl106 : bk10 < w94.heap.size := hb102.lt
      have hz107 : w59.heap.size ≤ w94.heap.size := g104.size
      refine wp_calm_tail (l1 := [_, _, _, _, _, _, _, _, _]) [0, 0, 3, 7, 0, 0, 48, 127, 255, 511] [([0], []), ([3], []), ([], [0, 1]), ([], [2]), ([0], []), ([3], []), ([], [4, 5]), ([], [6]), ([], [3, 7])] [2] w94.heap.size hf95 g105.size (by kernel_rfl) (bund_cons (is_any h100) (bund_cons h99 bund_nil)) ?_
      intro ws108 hs109
      refine ch rfl (ob_move (arg_free 0 rfl rfl)) ?_
      refine ch rfl (ob_move (arg_free 1 rfl rfl)) ?_
      refine ch rfl (ob_slice_to (ArgOK.val (arg_op 0 1 rfl rfl rfl rfl) ((hv0.up g103).up hs109)) (arg_op 1 0 rfl rfl rfl rfl) (rfl) ?_ Tryz.underlying25 szNm) ?_
      · omega
      refine ch rfl (ob_call1 (by kernel_rfl) (ih _ ?_) (arg_op 2 0 rfl rfl rfl rfl)) ?_
      · ((try simp only [List.length_take, List.length_drop, List.length_cons, List.length_nil]); omega)
      refine ch rfl (ob_move (arg_free 0 rfl rfl)) ?_
      refine ch rfl (ob_move (arg_free 1 rfl rfl)) ?_
      refine ch rfl (ob_slice_from (ArgOK.val (arg_op 4 1 rfl rfl rfl rfl) ((hv0.up g103).up hs109)) (arg_op 5 0 rfl rfl rfl rfl) (rfl) ?_ Tryz.underlying25 szNm) ?_
      · omega
      refine ch rfl (ob_call1 (by kernel_rfl) (ih _ ?_) (arg_op 6 0 rfl rfl rfl rfl)) ?_
      · ((try simp only [List.length_take, List.length_drop, List.length_cons, List.length_nil]); omega)
      refine ch rfl (ob_call3 (by kernel_rfl) (c_rPair) (arg_cb 18 rfl) (arg_op 3 4 rfl rfl rfl rfl) (arg_op 7 0 rfl rfl rfl rfl)) ?_
      refine ch_nil ?_
      intro a110 w111 hf112 hg113 hk114 hn115
      have h116 : Holds _ (a110.eval (.tmp 26)) w111 := hn115.at 8 0 rfl rfl rfl
      have hv117 : Holds (Is (PtrV bk10)) (a110.eval (.tmp 2)) w111 := is_any (hk114.holds rfl hv101)
      have hb118 := hb102.up hg113
      have g119 := g103.trans hg113
      have g120 := g104.trans hg113
      have g121 := g105.trans hg113
      clear hv101 hb102 g103 g104 g105 hf95 hk114 hn115
      refine wl_store_nm hv117 hb118 rfl h116 ?_
      intro w122 ho123 hb124
      have g125 : Grow w0 w122 := g119.only ho123 (by omega)
      have hv128 : Holds (Is (PtrV bk10)) (a110.eval (.tmp 2)) w122 := is_any hv117
      refine wpList_nil ?_
      refine then_ ?_
      refine wp_ret ?_
      refine ret_cell rfl Tryz.underlying30 rfl (by kernel_rfl) hf112 g125 (hb124.ptr hv128) ?_
      exact congrArg nmV (root_two (by omega)).symm
theorem c_rRoot : ∀ {l : List UInt64} (_ : l.length ≤ 9223372036854775807), Con1 49 (Sl elNm l) (fun _ => Is (nmV (root l))) := by
  have key : ∀ (n : Nat) (l : List UInt64), l.length = n → n ≤ 9223372036854775807 → Con1 49 (Sl elNm l) (fun _ => Is (nmV (root l))) := by
    intro n
    induction n using Nat.strongRecOn with
    | _ n ih =>
      intro l hl hn
      exact c_rRoot_step (by omega) fun m hm => ih m.length (by omega) m rfl (by omega)
  intro l hl
  exact key l.length l rfl hl
set_option maxRecDepth 100000 in
theorem c_computed_step {x : UInt64} {i n : Nat} {iz nz : Int} {p : List UInt64} (h1 : 1 ≤ n) (hn : n ≤ 9223372036854775807) (hi : i < n) (hd : p.length = dep i n) (hiz : iz = (i : Int)) (hnz : nz = (n : Int)) (ih : ∀ (i' n' : Nat) (iz' nz' : Int) (p' : List UInt64), n' < n → 1 ≤ n' → i' < n' → p'.length = dep i' n' → iz' = (i' : Int) → nz' = (n' : Int) → Con4 114 (Is (nmV x)) (Is (intV iz')) (Is (intV nz')) (Sl elNm p') (fun _ => Is (nmV (comp x i' n' p')))) : Con4 114 (Is (nmV x)) (Is (intV iz)) (Is (intV nz)) (Sl elNm p) (fun _ => Is (nmV (comp x i n p))) := by
  intro lo v0 v1 v2 v3 w0 hlo hv0 hv1 hv2 hv3
  refine enter Tryz.func114 rfl Tryz.ntmps114 (by simp) ?_
  intro a0 hf0 ha
  have h00 : Holds _ (a0.eval (.tmp 0)) w0 := arg_holds ha rfl hv0
  have h01 : Holds _ (a0.eval (.tmp 1)) w0 := arg_holds ha rfl hv1
  have h02 : Holds _ (a0.eval (.tmp 2)) w0 := arg_holds ha rfl hv2
  have h03 : Holds (Is v3) (a0.eval (.tmp 3)) w0 := arg_holds ha rfl rfl
  clear ha
  have g0 : Grow w0 w0 := Grow.refl _
  refine wp_seq ?_
  refine wp_region_lit ?_
  refine wp_seg (l1 := [_]) [([0], [])] [1, 2, 3] w0.heap.size hf0 g0.size (by kernel_rfl) (bund_cons h00 bund_nil) ?_
  refine ch rfl (ob_box_nm (arg_free 0 rfl rfl)) ?_
  refine ch_nil ?_
  intro a1 w2 hf3 hg4 hk5 hn6
  have h7 : Holds _ (a1.eval (.tmp 4)) w2 := hn6.at 0 0 rfl rfl rfl
  have h8 := hk5.holds rfl h01
  have h9 := hk5.holds rfl h02
  have h10 := hk5.holds rfl h03
  have g11 := g0.trans hg4
  obtain ⟨bk12, hl13, hv14, hb15⟩ := OwnB.blk (lo := w0.heap.size) h7
  clear h01 h02 h03 g0 hf0 hk5 hn6
  have g16 : Grow w2 w2 := Grow.refl _
  have hl17 : bk12 < w2.heap.size := hb15.lt
  have hz18 : w0.heap.size ≤ w2.heap.size := g11.size
  refine wp_all [([], [])] [1, 2, 3, 4] w2.heap.size hf3 g16.size (by kernel_rfl) bund_nil ?_
  refine ch rfl (ob_alloc_nm) ?_
  refine ch_nil ?_
  intro a19 w20 hf21 hg22 hk23 hn24
  have h25 : Holds _ (a19.eval (.tmp 8)) w20 := hn24.at 0 0 rfl rfl rfl
  have h26 := hk23.holds rfl h8
  have h27 := hk23.holds rfl h9
  have h28 := hk23.holds rfl h10
  have hv29 : Holds (Is (PtrV bk12)) (a19.eval (.tmp 4)) w20 := is_any (hk23.holds rfl hv14)
  have hb30 := hb15.up hg22
  have g31 := g11.trans hg22
  have g32 := g16.trans hg22
  obtain ⟨bk33, hl34, hv35, hb36⟩ := OwnB.blk (lo := w2.heap.size) h25
  clear h8 h9 h10 hv14 hb15 g11 g16 hf3 hk23 hn24
  refine then_ ?_
  refine wp_seq ?_
  refine wp_seq ?_
  refine wp_region_lit ?_
  refine wp_all [([2], []), ([], [0])] [1, 2, 3, 4, 8] w2.heap.size hf21 g32.size (by kernel_rfl) (bund_cons (is_any h27) bund_nil) ?_
  refine ch rfl (ob_move (arg_free 0 rfl rfl)) ?_
  refine ch rfl (ob_eql (arg_op 0 0 rfl rfl rfl rfl) arg_c) ?_
  refine ch_nil ?_
  intro a37 w38 hf39 hg40 hk41 hn42
  have h43 : Holds _ (a37.eval (.tmp 12)) w38 := hn42.at 1 0 rfl rfl rfl
  have h44 := hk41.holds rfl h26
  have h45 := hk41.holds rfl h27
  have h46 := hk41.holds rfl h28
  have hv47 : Holds (Is (PtrV bk12)) (a37.eval (.tmp 4)) w38 := is_any (hk41.holds rfl hv29)
  have hb48 := hb30.up hg40
  have hv49 : Holds (Is (PtrV bk33)) (a37.eval (.tmp 8)) w38 := is_any (hk41.holds rfl hv35)
  have hb50 := hb36.up hg40
  have g51 := g31.trans hg40
  have g52 := g32.trans hg40
  clear h26 h27 h28 hv29 hb30 hv35 hb36 g31 g32 hf21 hk41 hn42 hg40
  refine then_ ?_
  refine wp_if h43 ?_ ?_
  · intro hc53
    try simp only [cond_norm] at hc53
    refine wp_seq ?_
    have g54 : Grow w38 w38 := Grow.refl _
    have hl55 : bk12 < w38.heap.size := hb48.lt
    have hl56 : bk33 < w38.heap.size := hb50.lt
    have hz57 : w2.heap.size ≤ w38.heap.size := g52.size
    refine wp_region_lit ?_
    refine wp_seg (l1 := [_, _]) [([4], []), ([], [0])] [8] w38.heap.size hf39 g54.size (by kernel_rfl) (bund_cons (hb48.ownp hv47) bund_nil) ?_
    refine ch rfl (ob_load_nm (ArgOK.ownp (arg_free 0 rfl rfl))) ?_
    refine ch rfl (ob_call1 (by kernel_rfl) (c_single) (arg_op 0 0 rfl rfl rfl rfl)) ?_
    refine ch_nil ?_
    intro a58 w59 hf60 hg61 hk62 hn63
    have h64 : Holds _ (a58.eval (.tmp 14)) w59 := hn63.at 1 0 rfl rfl rfl
    have hv65 : Holds (Is (PtrV bk33)) (a58.eval (.tmp 8)) w59 := is_any (hk62.holds rfl hv49)
    have hb66 := hb50.up hg61
    have g67 := g51.trans hg61
    have g68 := g52.trans hg61
    have g69 := g54.trans hg61
    clear hv49 hb50 g51 g52 g54 hf39 hk62 hn63
    refine wl_store_nm hv65 hb66 rfl h64 ?_
    intro w70 ho71 hb72
    have g73 : Grow w0 w70 := g67.only ho71 (by omega)
    have g74 : Grow w2 w70 := g68.only ho71 (by omega)
    have hv76 : Holds (Is (PtrV bk33)) (a58.eval (.tmp 8)) w70 := is_any hv65
    refine wpList_nil ?_
    refine then_ ?_
    refine wp_ret ?_
    refine thenR ?_
    refine ret_cell rfl Tryz.underlying30 rfl (by kernel_rfl) hf60 g73 (hb72.ptr hv76) ?_
    exact congrArg nmV (comp_one x i p (by omega)).symm
  · intro hc53
    try simp only [cond_norm] at hc53
    refine wp_skip ?_
    refine then_ ?_
    refine wp_seq ?_
    have hpl := dep_lt n i n (Nat.le_refl _) (by omega)
    have hb := split_bound (n := n) (by omega)
    have hpos := dep_pos (i := i) (n := n) (by omega)
    have g77 : Grow w38 w38 := Grow.refl _
    have hl78 : bk12 < w38.heap.size := hb48.lt
    have hl79 : bk33 < w38.heap.size := hb50.lt
    have hz80 : w2.heap.size ≤ w38.heap.size := g52.size
    refine wp_region_lit ?_
    refine wp_all [([2], []), ([], [0]), ([3], []), ([], [2]), ([], [3]), ([], [1]), ([], [4])] [1, 2, 3, 4, 8] w38.heap.size hf39 g77.size (by kernel_rfl) (bund_cons (is_any h45) (bund_cons (is_any h46) bund_nil)) ?_
    refine ch rfl (ob_move (arg_free 0 rfl rfl)) ?_
    refine ch rfl (ob_call1 (by kernel_rfl) (c_split (n := n) ?_ ?_) (arg_op 0 0 rfl rfl rfl rfl)) ?_
    · omega
    · assumption
    refine ch rfl (ob_move (arg_free 1 rfl rfl)) ?_
    refine ch rfl (ob_len (ArgOK.val (arg_op 2 0 rfl rfl rfl rfl) (hv3.up g51)) Tryz.underlying25) ?_
    first
      | (refine ch rfl (ob_sub' (arg_op 3 0 rfl rfl rfl rfl) arg_c ?_) ?_; · omega)
      | refine ch rfl (ob_sub (arg_op 3 0 rfl rfl rfl rfl) arg_c) ?_
    refine ch rfl (ob_assign (arg_op 1 3 rfl rfl rfl rfl)) ?_
    refine ch rfl (ob_assign (arg_op 4 1 rfl rfl rfl rfl)) ?_
    refine ch_nil ?_
    intro a81 w82 hf83 hg84 hk85 hn86
    have h87 : Holds _ (a81.eval (.tmp 9)) w82 := hn86.at 5 1 rfl rfl rfl
    have h88 : Holds _ (a81.eval (.tmp 10)) w82 := hn86.at 6 0 rfl rfl rfl
    have h89 := hk85.holds rfl h44
    have h90 := hk85.holds rfl h45
    have h91 := hk85.holds rfl h46
    have hv92 : Holds (Is (PtrV bk12)) (a81.eval (.tmp 4)) w82 := is_any (hk85.holds rfl hv47)
    have hb93 := hb48.up hg84
    have hv94 : Holds (Is (PtrV bk33)) (a81.eval (.tmp 8)) w82 := is_any (hk85.holds rfl hv49)
    have hb95 := hb50.up hg84
    have g96 := g51.trans hg84
    have g97 := g52.trans hg84
    have g98 := g77.trans hg84
    clear h44 h45 h46 hv47 hb48 hv49 hb50 g51 g52 g77 hf39 hk85 hn86
    refine then_ ?_
    refine wp_seq ?_
    refine wp_seq ?_
    refine wp_region_lit ?_
    refine wp_all [([1], []), ([9], []), ([], [0, 1])] [1, 2, 3, 4, 8, 9, 10] w38.heap.size hf83 g98.size (by kernel_rfl) (bund_cons (is_any h89) (bund_cons h87 bund_nil)) ?_
    refine ch rfl (ob_move (arg_free 0 rfl rfl)) ?_
    refine ch rfl (ob_move (arg_free 1 rfl rfl)) ?_
    refine ch rfl (ob_lss (arg_op 0 1 rfl rfl rfl rfl) (arg_op 1 0 rfl rfl rfl rfl)) ?_
    refine ch_nil ?_
    intro a99 w100 hf101 hg102 hk103 hn104
    have h105 : Holds _ (a99.eval (.tmp 22)) w100 := hn104.at 2 0 rfl rfl rfl
    have h106 := hk103.holds rfl (h87.up hg102)
    have h107 := hk103.holds rfl (h88.up hg102)
    have h108 := hk103.holds rfl h89
    have h109 := hk103.holds rfl h90
    have h110 := hk103.holds rfl h91
    have hv111 : Holds (Is (PtrV bk12)) (a99.eval (.tmp 4)) w100 := is_any (hk103.holds rfl hv92)
    have hb112 := hb93.up hg102
    have hv113 : Holds (Is (PtrV bk33)) (a99.eval (.tmp 8)) w100 := is_any (hk103.holds rfl hv94)
    have hb114 := hb95.up hg102
    have g115 := g96.trans hg102
    have g116 := g97.trans hg102
    have g117 := g98.trans hg102
    clear h87 h88 h89 h90 h91 hv92 hb93 hv94 hb95 g96 g97 g98 hf83 hk103 hn104 hg102
    refine then_ ?_
    refine wp_if h105 ?_ ?_
    · intro hc118
      try simp only [cond_norm] at hc118
      refine wp_seq ?_
      have g119 : Grow w100 w100 := Grow.refl _
      have hl120 : bk12 < w100.heap.size := hb112.lt
      have hl121 : bk33 < w100.heap.size := hb114.lt
      have hz122 : w38.heap.size ≤ w100.heap.size := g117.size
      refine wp_calm_tail (l1 := [_, _, _, _, _, _, _, _, _, _, _, _]) [0, 0, 0, 0, 0, 24, 63, 0, 0, 384, 896, 2047, 4095] [([4], []), ([1], []), ([9], []), ([3], []), ([10], []), ([], [3, 4]), ([], [0, 1, 2, 5]), ([3], []), ([10], []), ([], [7, 8]), ([], [9]), ([], [6, 10])] [8] w100.heap.size hf101 g119.size (by kernel_rfl) (bund_cons (hb112.ownp hv111) (bund_cons (is_any h108) (bund_cons h106 (bund_cons (is_any h110) (bund_cons h107 bund_nil))))) ?_
      intro ws123 hs124
      refine ch rfl (ob_load_nm (ArgOK.ownp (arg_free 0 rfl rfl))) ?_
      refine ch rfl (ob_move (arg_free 1 rfl rfl)) ?_
      refine ch rfl (ob_move (arg_free 2 rfl rfl)) ?_
      refine ch rfl (ob_move (arg_free 3 rfl rfl)) ?_
      refine ch rfl (ob_move (arg_free 4 rfl rfl)) ?_
      refine ch rfl (ob_slice_to (ArgOK.val (arg_op 3 1 rfl rfl rfl rfl) ((hv3.up g115).up hs124)) (arg_op 4 0 rfl rfl rfl rfl) ((show ((p.length : Int) - 1) = ((p.length - 1 : Nat) : Int) by omega)) ?_ Tryz.underlying25 szNm) ?_
      · omega
      refine ch rfl (ob_call4 (by kernel_rfl) (ih i (split n) _ _ _ ?_ ?_ ?_ ?_ ?_ ?_) (arg_op 0 5 rfl rfl rfl rfl) (arg_op 1 4 rfl rfl rfl rfl) (arg_op 2 3 rfl rfl rfl rfl) (arg_op 5 0 rfl rfl rfl rfl)) ?_
      · omega
      · omega
      · omega
      · (have hq := dep_left (i := i) (n := n) (by omega) (by omega); rw [List.length_take]; omega)
      · omega
      · omega
      refine ch rfl (ob_move (arg_free 3 rfl rfl)) ?_
      refine ch rfl (ob_move (arg_free 4 rfl rfl)) ?_
      refine ch rfl (ob_ix (ArgOK.val (arg_op 7 1 rfl rfl rfl rfl) ((hv3.up g115).up hs124)) (arg_op 8 0 rfl rfl rfl rfl) ((show ((p.length : Int) - 1) = ((p.length - 1 : Nat) : Int) by omega)) ?_ Tryz.underlying25 szNm) ?_
      · omega
      refine ch rfl (ob_load_nm (arg_op 9 0 rfl rfl rfl rfl)) ?_
      refine ch rfl (ob_call3 (by kernel_rfl) (c_Pair) (arg_cb 18 rfl) (arg_op 6 4 rfl rfl rfl rfl) (arg_op 10 0 rfl rfl rfl rfl)) ?_
      refine ch_nil ?_
      intro a125 w126 hf127 hg128 hk129 hn130
      have h131 : Holds _ (a125.eval (.tmp 34)) w126 := hn130.at 11 0 rfl rfl rfl
      have hv132 : Holds (Is (PtrV bk33)) (a125.eval (.tmp 8)) w126 := is_any (hk129.holds rfl hv113)
      have hb133 := hb114.up hg128
      have g134 := g115.trans hg128
      have g135 := g116.trans hg128
      have g136 := g117.trans hg128
      have g137 := g119.trans hg128
      clear hv113 hb114 g115 g116 g117 g119 hf101 hk129 hn130
      refine wl_store_nm hv132 hb133 rfl h131 ?_
      intro w138 ho139 hb140
      have g141 : Grow w0 w138 := g134.only ho139 (by omega)
      have g142 : Grow w2 w138 := g135.only ho139 (by omega)
      have hv145 : Holds (Is (PtrV bk33)) (a125.eval (.tmp 8)) w138 := is_any hv132
      refine wpList_nil ?_
      refine then_ ?_
      refine wp_ret ?_
      refine thenR ?_
      refine ret_cell rfl Tryz.underlying30 rfl (by kernel_rfl) hf127 g141 (hb140.ptr hv145) ?_
      exact congrArg nmV (comp_left x p (by omega) (by omega)).symm
    · intro hc118
      try simp only [cond_norm] at hc118
      refine wp_skip ?_
      refine then_ ?_
      refine wp_seq ?_
      have g146 : Grow w100 w100 := Grow.refl _
      have hl147 : bk12 < w100.heap.size := hb112.lt
      have hl148 : bk33 < w100.heap.size := hb114.lt
      have hz149 : w38.heap.size ≤ w100.heap.size := g117.size
      refine wp_calm_tail (l1 := [_, _, _, _, _, _, _, _, _, _, _, _, _, _, _, _]) [0, 0, 3, 7, 0, 0, 0, 96, 0, 0, 768, 0, 0, 6144, 16368, 32767, 65535] [([3], []), ([10], []), ([], [0, 1]), ([], [2]), ([4], []), ([1], []), ([9], []), ([], [5, 6]), ([2], []), ([9], []), ([], [8, 9]), ([3], []), ([10], []), ([], [11, 12]), ([], [4, 7, 10, 13]), ([], [3, 14])] [8] w100.heap.size hf101 g146.size (by kernel_rfl) (bund_cons (is_any h110) (bund_cons h107 (bund_cons (hb112.ownp hv111) (bund_cons (is_any h108) (bund_cons h106 (bund_cons (is_any h109) bund_nil)))))) ?_
      intro ws150 hs151
      refine ch rfl (ob_move (arg_free 0 rfl rfl)) ?_
      refine ch rfl (ob_move (arg_free 1 rfl rfl)) ?_
      refine ch rfl (ob_ix (ArgOK.val (arg_op 0 1 rfl rfl rfl rfl) ((hv3.up g115).up hs151)) (arg_op 1 0 rfl rfl rfl rfl) ((show ((p.length : Int) - 1) = ((p.length - 1 : Nat) : Int) by omega)) ?_ Tryz.underlying25 szNm) ?_
      · omega
      refine ch rfl (ob_load_nm (arg_op 2 0 rfl rfl rfl rfl)) ?_
      refine ch rfl (ob_load_nm (ArgOK.ownp (arg_free 2 rfl rfl))) ?_
      refine ch rfl (ob_move (arg_free 3 rfl rfl)) ?_
      refine ch rfl (ob_move (arg_free 4 rfl rfl)) ?_
      first
        | (refine ch rfl (ob_sub' (arg_op 5 1 rfl rfl rfl rfl) (arg_op 6 0 rfl rfl rfl rfl) ?_) ?_; · omega)
        | refine ch rfl (ob_sub (arg_op 5 1 rfl rfl rfl rfl) (arg_op 6 0 rfl rfl rfl rfl)) ?_
      refine ch rfl (ob_move (arg_free 5 rfl rfl)) ?_
      refine ch rfl (ob_move (arg_free 4 rfl rfl)) ?_
      first
        | (refine ch rfl (ob_sub' (arg_op 8 1 rfl rfl rfl rfl) (arg_op 9 0 rfl rfl rfl rfl) ?_) ?_; · omega)
        | refine ch rfl (ob_sub (arg_op 8 1 rfl rfl rfl rfl) (arg_op 9 0 rfl rfl rfl rfl)) ?_
      refine ch rfl (ob_move (arg_free 0 rfl rfl)) ?_
      refine ch rfl (ob_move (arg_free 1 rfl rfl)) ?_
      refine ch rfl (ob_slice_to (ArgOK.val (arg_op 11 1 rfl rfl rfl rfl) ((hv3.up g115).up hs151)) (arg_op 12 0 rfl rfl rfl rfl) ((show ((p.length : Int) - 1) = ((p.length - 1 : Nat) : Int) by omega)) ?_ Tryz.underlying25 szNm) ?_
      · omega
      refine ch rfl (ob_call4 (by kernel_rfl) (ih (i - split n) ((n - split n)) _ _ _ ?_ ?_ ?_ ?_ ?_ ?_) (arg_op 4 9 rfl rfl rfl rfl) (arg_op 7 6 rfl rfl rfl rfl) (arg_op 10 3 rfl rfl rfl rfl) (arg_op 13 0 rfl rfl rfl rfl)) ?_
      · omega
      · omega
      · omega
      · (have hq := dep_right (i := i) (n := n) (by omega) (by omega); rw [List.length_take]; omega)
      · omega
      · omega
      refine ch rfl (ob_call3 (by kernel_rfl) (c_Pair) (arg_cb 18 rfl) (arg_op 3 11 rfl rfl rfl rfl) (arg_op 14 0 rfl rfl rfl rfl)) ?_
      refine ch_nil ?_
      intro a152 w153 hf154 hg155 hk156 hn157
      have h158 : Holds _ (a152.eval (.tmp 50)) w153 := hn157.at 15 0 rfl rfl rfl
      have hv159 : Holds (Is (PtrV bk33)) (a152.eval (.tmp 8)) w153 := is_any (hk156.holds rfl hv113)
      have hb160 := hb114.up hg155
      have g161 := g115.trans hg155
      have g162 := g116.trans hg155
      have g163 := g117.trans hg155
      have g164 := g146.trans hg155
      clear hv113 hb114 g115 g116 g117 g146 hf101 hk156 hn157
      refine wl_store_nm hv159 hb160 rfl h158 ?_
      intro w165 ho166 hb167
      have g168 : Grow w0 w165 := g161.only ho166 (by omega)
      have g169 : Grow w2 w165 := g162.only ho166 (by omega)
      have hv172 : Holds (Is (PtrV bk33)) (a152.eval (.tmp 8)) w165 := is_any hv159
      refine wpList_nil ?_
      refine then_ ?_
      refine wp_ret ?_
      refine ret_cell rfl Tryz.underlying30 rfl (by kernel_rfl) hf154 g168 (hb167.ptr hv172) ?_
      exact congrArg nmV (comp_right x p (by omega) (by omega)).symm
theorem c_computed {x : UInt64} : ∀ {i n : Nat} {iz nz : Int} {p : List UInt64} (_ : 1 ≤ n) (_ : n ≤ 9223372036854775807) (_ : i < n) (_ : p.length = dep i n) (_ : iz = (i : Int)) (_ : nz = (n : Int)), Con4 114 (Is (nmV x)) (Is (intV iz)) (Is (intV nz)) (Sl elNm p) (fun _ => Is (nmV (comp x i n p))) := by
  have key : ∀ (n i : Nat) (iz nz : Int) (p : List UInt64), 1 ≤ n → n ≤ 9223372036854775807 → i < n → p.length = dep i n → iz = (i : Int) → nz = (n : Int) → Con4 114 (Is (nmV x)) (Is (intV iz)) (Is (intV nz)) (Sl elNm p) (fun _ => Is (nmV (comp x i n p))) := by
    intro n
    induction n using Nat.strongRecOn with
    | _ n ih =>
      intro i iz nz p h1 h2 h3 h4 h5 h6
      exact c_computed_step h1 h2 h3 h4 h5 h6 fun i' n' iz' nz' p' g1 g2 g3 g4 g5 g6 => ih n' g1 i' iz' nz' p' g2 (by omega) g3 g4 g5 g6
  intro i n iz nz p h1 h2 h3 h4 h5 h6
  exact key n i iz nz p h1 h2 h3 h4 h5 h6
set_option maxRecDepth 100000 in
theorem c_Follow {x : UInt64} {i n : Int} {p : List UInt64} (hi : -9223372036854775808 ≤ i) (hn : n ≤ 9223372036854775807) : Con4 95 (Is (nmV x)) (Is (intV i)) (Is (intV n)) (Sl elNm p) (fun _ => Two (Is (nmV (folV x i n p))) (Is (.bool (folB i n p)))) := by
  intro lo v0 v1 v2 v3 w0 hlo hv0 hv1 hv2 hv3
  refine enter Tryz.func95 rfl Tryz.ntmps95 (by simp) ?_
  intro a0 hf0 ha
  have h00 : Holds _ (a0.eval (.tmp 0)) w0 := arg_holds ha rfl hv0
  have h01 : Holds _ (a0.eval (.tmp 1)) w0 := arg_holds ha rfl hv1
  have h02 : Holds _ (a0.eval (.tmp 2)) w0 := arg_holds ha rfl hv2
  have h03 : Holds (Is v3) (a0.eval (.tmp 3)) w0 := arg_holds ha rfl rfl
  clear ha
  have g0 : Grow w0 w0 := Grow.refl _
  refine wp_seq ?_
  refine wp_region_lit ?_
  refine wp_seg (l1 := [_]) [([0], [])] [1, 2, 3] w0.heap.size hf0 g0.size (by kernel_rfl) (bund_cons h00 bund_nil) ?_
  refine ch rfl (ob_box_nm (arg_free 0 rfl rfl)) ?_
  refine ch_nil ?_
  intro a1 w2 hf3 hg4 hk5 hn6
  have h7 : Holds _ (a1.eval (.tmp 4)) w2 := hn6.at 0 0 rfl rfl rfl
  have h8 := hk5.holds rfl h01
  have h9 := hk5.holds rfl h02
  have h10 := hk5.holds rfl h03
  have g11 := g0.trans hg4
  obtain ⟨bk12, hl13, hv14, hb15⟩ := OwnB.blk (lo := w0.heap.size) h7
  clear h01 h02 h03 g0 hf0 hk5 hn6
  have g16 : Grow w2 w2 := Grow.refl _
  have hl17 : bk12 < w2.heap.size := hb15.lt
  have hz18 : w0.heap.size ≤ w2.heap.size := g11.size
  refine wp_all [([], []), ([], [])] [1, 2, 3, 4] w2.heap.size hf3 g16.size (by kernel_rfl) bund_nil ?_
  refine ch rfl (ob_alloc_nm) ?_
  refine ch rfl (ob_assign arg_c) ?_
  refine ch_nil ?_
  intro a19 w20 hf21 hg22 hk23 hn24
  have h25 : Holds _ (a19.eval (.tmp 8)) w20 := hn24.at 0 1 rfl rfl rfl
  have h26 := hk23.holds rfl h8
  have h27 := hk23.holds rfl h9
  have h28 := hk23.holds rfl h10
  have hv29 : Holds (Is (PtrV bk12)) (a19.eval (.tmp 4)) w20 := is_any (hk23.holds rfl hv14)
  have hb30 := hb15.up hg22
  have g31 := g11.trans hg22
  have g32 := g16.trans hg22
  obtain ⟨bk33, hl34, hv35, hb36⟩ := OwnB.blk (lo := w2.heap.size) h25
  clear h8 h9 h10 hv14 hb15 g11 g16 hf3 hk23 hn24
  refine then_ ?_
  refine wp_seq ?_
  refine wp_seq ?_
  have g37 : Grow w20 w20 := Grow.refl _
  have hl38 : bk12 < w20.heap.size := hb30.lt
  have hl39 : bk33 < w20.heap.size := hb36.lt
  have hz40 : w2.heap.size ≤ w20.heap.size := g32.size
  refine wp_region_lit ?_
  refine wp_all [([1], []), ([2], []), ([], [0, 1]), ([], [2])] [1, 2, 3, 4, 8] w20.heap.size hf21 g37.size (by kernel_rfl) (bund_cons (is_any h26) (bund_cons (is_any h27) bund_nil)) ?_
  refine ch rfl (ob_move (arg_free 0 rfl rfl)) ?_
  refine ch rfl (ob_move (arg_free 1 rfl rfl)) ?_
  refine ch rfl (ob_call2 (by kernel_rfl) (c_Depth ?_ ?_) (arg_op 0 1 rfl rfl rfl rfl) (arg_op 1 0 rfl rfl rfl rfl)) ?_
  · omega
  · omega
  refine ch rfl (ob_assign (arg_op 2 0 rfl rfl rfl rfl)) ?_
  refine ch_nil ?_
  intro a41 w42 hf43 hg44 hk45 hn46
  have h47 : Holds _ (a41.eval (.tmp 10)) w42 := hn46.at 3 0 rfl rfl rfl
  have h48 := hk45.holds rfl h26
  have h49 := hk45.holds rfl h27
  have h50 := hk45.holds rfl h28
  have hv51 : Holds (Is (PtrV bk12)) (a41.eval (.tmp 4)) w42 := is_any (hk45.holds rfl hv29)
  have hb52 := hb30.up hg44
  have hv53 : Holds (Is (PtrV bk33)) (a41.eval (.tmp 8)) w42 := is_any (hk45.holds rfl hv35)
  have hb54 := hb36.up hg44
  have g55 := g31.trans hg44
  have g56 := g32.trans hg44
  have g57 := g37.trans hg44
  clear h26 h27 h28 hv29 hb30 hv35 hb36 g31 g32 g37 hf21 hk45 hn46
  refine then_ ?_
  refine wp_seq ?_
  refine wp_region_lit ?_
  refine wp_all [([10], []), ([], [0]), ([], [1]), ([3], [2]), ([], [3, 2]), ([10], [2]), ([], [4, 5, 2]), ([], [2, 6])] [1, 2, 3, 4, 8] w20.heap.size hf43 g57.size (by kernel_rfl) (bund_cons h47 (bund_cons (is_any h50) bund_nil)) ?_
  refine ch rfl (ob_move (arg_free 0 rfl rfl)) ?_
  refine ch rfl (ob_lss (arg_op 0 0 rfl rfl rfl rfl) arg_c) ?_
  refine ch rfl (ob_move (arg_op 1 0 rfl rfl rfl rfl)) ?_
  refine chg (b := _) rfl rfl (arg_op 2 0 rfl rfl rfl rfl) (fun hb2 => ob_move (arg_free 1 rfl rfl)) ?_
  refine chg (b := _) rfl rfl (arg_op 2 1 rfl rfl rfl rfl) (fun hb2 => ob_len (ArgOK.val (ArgOK.when (arg_op 3 0 rfl rfl rfl rfl) hb2) (hv3.up g55)) Tryz.underlying25) ?_
  refine chg (b := _) rfl rfl (arg_op 2 2 rfl rfl rfl rfl) (fun hb2 => ob_move (arg_free 0 rfl rfl)) ?_
  refine chg (b := _) rfl rfl (arg_op 2 3 rfl rfl rfl rfl) (fun hb2 => ob_neq (ArgOK.when (arg_op 4 1 rfl rfl rfl rfl) hb2) (ArgOK.when (arg_op 5 0 rfl rfl rfl rfl) hb2)) ?_
  refine ch rfl (ob_or (arg_op 2 4 rfl rfl rfl rfl) (arg_op 6 0 rfl rfl rfl rfl)) ?_
  refine ch_nil ?_
  intro a58 w59 hf60 hg61 hk62 hn63
  have h64 : Holds _ (a58.eval (.tmp 21)) w59 := hn63.at 7 0 rfl rfl rfl
  have h65 := hk62.holds rfl h48
  have h66 := hk62.holds rfl h49
  have h67 := hk62.holds rfl h50
  have hv68 : Holds (Is (PtrV bk12)) (a58.eval (.tmp 4)) w59 := is_any (hk62.holds rfl hv51)
  have hb69 := hb52.up hg61
  have hv70 : Holds (Is (PtrV bk33)) (a58.eval (.tmp 8)) w59 := is_any (hk62.holds rfl hv53)
  have hb71 := hb54.up hg61
  have g72 := g55.trans hg61
  have g73 := g56.trans hg61
  have g74 := g57.trans hg61
  clear h48 h49 h50 hv51 hb52 hv53 hb54 g55 g56 g57 hf43 hk62 hn63 hg61
  refine then_ ?_
  refine wp_if h64 ?_ ?_
  · intro hc75
    try simp only [cond_norm] at hc75
    refine wp_seq ?_
    have g76 : Grow w59 w59 := Grow.refl _
    have hl77 : bk12 < w59.heap.size := hb69.lt
    have hl78 : bk33 < w59.heap.size := hb71.lt
    have hz79 : w20.heap.size ≤ w59.heap.size := g74.size
    refine wp_region_lit ?_
    refine wp_seg (l1 := [_]) [([], [])] [8] w59.heap.size hf60 g76.size (by kernel_rfl) bund_nil ?_
    refine ch rfl (ob_build_nm0) ?_
    refine ch_nil ?_
    intro a80 w81 hf82 hg83 hk84 hn85
    have h86 : Holds _ (a80.eval (.tmp 22)) w81 := hn85.at 0 0 rfl rfl rfl
    have hv87 : Holds (Is (PtrV bk33)) (a80.eval (.tmp 8)) w81 := is_any (hk84.holds rfl hv70)
    have hb88 := hb71.up hg83
    have g89 := g72.trans hg83
    have g90 := g73.trans hg83
    have g91 := g74.trans hg83
    have g92 := g76.trans hg83
    clear hv70 hb71 g72 g73 g74 g76 hf60 hk84 hn85
    refine wl_store_nm hv87 hb88 rfl h86 ?_
    intro w93 ho94 hb95
    have g96 : Grow w0 w93 := g89.only ho94 (by omega)
    have g97 : Grow w2 w93 := g90.only ho94 (by omega)
    have hv100 : Holds (Is (PtrV bk33)) (a80.eval (.tmp 8)) w93 := is_any hv87
    refine wp_all [([], [])] [8] w2.heap.size hf82 g97.size (by kernel_rfl) bund_nil ?_
    refine ch rfl (ob_assign arg_c) ?_
    refine ch_nil ?_
    intro a101 w102 hf103 hg104 hk105 hn106
    have h107 : Holds _ (a101.eval (.tmp 9)) w102 := hn106.at 0 0 rfl rfl rfl
    have hv108 : Holds (Is (PtrV bk33)) (a101.eval (.tmp 8)) w102 := is_any (hk105.holds rfl hv100)
    have hb109 := hb95.up hg104
    have g110 := g96.trans hg104
    have g111 := g97.trans hg104
    clear hv100 hb95 g96 g97 hf82 hk105 hn106 hg104
    refine then_ ?_
    refine wp_ret ?_
    refine thenR ?_
    refine ret_cell_tmp rfl Tryz.underlying30 rfl (by kernel_rfl) hf103 g110 (hb109.ptr hv108) ?_ (is_cast h107 (congrArg Value.bool (by first | exact folB_no (by omega) | exact folB_yes ⟨by omega, by omega⟩)))
    exact congrArg nmV (folV_no (by omega))
  · intro hc75
    try simp only [cond_norm] at hc75
    have hp := depI_pos (i := i) (n := n) (by omega)
    refine wp_skip ?_
    refine then_ ?_
    refine wp_seq ?_
    have g112 : Grow w59 w59 := Grow.refl _
    have hl113 : bk12 < w59.heap.size := hb69.lt
    have hl114 : bk33 < w59.heap.size := hb71.lt
    have hz115 : w20.heap.size ≤ w59.heap.size := g74.size
    refine wp_region_lit ?_
    refine wp_seg (l1 := [_, _, _, _, _]) [([4], []), ([1], []), ([2], []), ([3], []), ([], [0, 1, 2, 3])] [8] w59.heap.size hf60 g112.size (by kernel_rfl) (bund_cons (hb69.ownp hv68) (bund_cons (is_any h65) (bund_cons (is_any h66) (bund_cons (is_any h67) bund_nil)))) ?_
    refine ch rfl (ob_load_nm (ArgOK.ownp (arg_free 0 rfl rfl))) ?_
    refine ch rfl (ob_move (arg_free 1 rfl rfl)) ?_
    refine ch rfl (ob_move (arg_free 2 rfl rfl)) ?_
    refine ch rfl (ob_move (arg_free 3 rfl rfl)) ?_
    refine ch rfl (ob_call4 (by kernel_rfl) (c_computed (i := i.toNat) (n := n.toNat) ?_ ?_ ?_ ?_ ?_ ?_) (arg_op 0 3 rfl rfl rfl rfl) (arg_op 1 2 rfl rfl rfl rfl) (arg_op 2 1 rfl rfl rfl rfl) (ArgOK.val (arg_op 3 0 rfl rfl rfl rfl) (hv3.up g72))) ?_
    · omega
    · omega
    · omega
    · (have hq := depI_nat (i := i) (n := n) (by omega); omega)
    · omega
    · omega
    refine ch_nil ?_
    intro a116 w117 hf118 hg119 hk120 hn121
    have h122 : Holds _ (a116.eval (.tmp 27)) w117 := hn121.at 4 0 rfl rfl rfl
    have hv123 : Holds (Is (PtrV bk33)) (a116.eval (.tmp 8)) w117 := is_any (hk120.holds rfl hv70)
    have hb124 := hb71.up hg119
    have g125 := g72.trans hg119
    have g126 := g73.trans hg119
    have g127 := g74.trans hg119
    have g128 := g112.trans hg119
    clear hv70 hb71 g72 g73 g74 g112 hf60 hk120 hn121
    refine wl_store_nm hv123 hb124 rfl h122 ?_
    intro w129 ho130 hb131
    have g132 : Grow w0 w129 := g125.only ho130 (by omega)
    have g133 : Grow w2 w129 := g126.only ho130 (by omega)
    have hv136 : Holds (Is (PtrV bk33)) (a116.eval (.tmp 8)) w129 := is_any hv123
    refine wp_all [([], [])] [8] w2.heap.size hf118 g133.size (by kernel_rfl) bund_nil ?_
    refine ch rfl (ob_assign arg_c) ?_
    refine ch_nil ?_
    intro a137 w138 hf139 hg140 hk141 hn142
    have h143 : Holds _ (a137.eval (.tmp 9)) w138 := hn142.at 0 0 rfl rfl rfl
    have hv144 : Holds (Is (PtrV bk33)) (a137.eval (.tmp 8)) w138 := is_any (hk141.holds rfl hv136)
    have hb145 := hb131.up hg140
    have g146 := g132.trans hg140
    have g147 := g133.trans hg140
    clear hv136 hb131 g132 g133 hf118 hk141 hn142 hg140
    refine then_ ?_
    refine wp_ret ?_
    refine ret_cell_tmp rfl Tryz.underlying30 rfl (by kernel_rfl) hf139 g146 (hb145.ptr hv144) ?_ (is_cast h143 (congrArg Value.bool (by first | exact folB_no (by omega) | exact folB_yes ⟨by omega, by omega⟩)))
    exact congrArg nmV (folV_yes ⟨by omega, by omega⟩)
set_option maxRecDepth 100000 in
theorem c_Verify {r x : UInt64} {i n : Int} {p : List UInt64} (hi : -9223372036854775808 ≤ i) (hn : n ≤ 9223372036854775807) : Con5 51 (Is (nmV r)) (Is (nmV x)) (Is (intV i)) (Is (intV n)) (Sl elNm p) (fun _ => Is (.bool (verB r x i n p))) := by
  intro lo v0 v1 v2 v3 v4 w0 hlo hv0 hv1 hv2 hv3 hv4
  refine enter Tryz.func51 rfl Tryz.ntmps51 (by simp) ?_
  intro a0 hf0 ha
  have h00 : Holds _ (a0.eval (.tmp 0)) w0 := arg_holds ha rfl hv0
  have h01 : Holds _ (a0.eval (.tmp 1)) w0 := arg_holds ha rfl hv1
  have h02 : Holds _ (a0.eval (.tmp 2)) w0 := arg_holds ha rfl hv2
  have h03 : Holds _ (a0.eval (.tmp 3)) w0 := arg_holds ha rfl hv3
  have h04 : Holds (Is v4) (a0.eval (.tmp 4)) w0 := arg_holds ha rfl rfl
  clear ha
  have g0 : Grow w0 w0 := Grow.refl _
  refine wp_seq ?_
  refine wp_region_lit ?_
  refine wp_seg (l1 := [_]) [([0], [])] [1, 2, 3, 4] w0.heap.size hf0 g0.size (by kernel_rfl) (bund_cons h00 bund_nil) ?_
  refine ch rfl (ob_box_nm (arg_free 0 rfl rfl)) ?_
  refine ch_nil ?_
  intro a1 w2 hf3 hg4 hk5 hn6
  have h7 : Holds _ (a1.eval (.tmp 5)) w2 := hn6.at 0 0 rfl rfl rfl
  have h8 := hk5.holds rfl h01
  have h9 := hk5.holds rfl h02
  have h10 := hk5.holds rfl h03
  have h11 := hk5.holds rfl h04
  have g12 := g0.trans hg4
  obtain ⟨bk13, hl14, hv15, hb16⟩ := OwnB.blk (lo := w0.heap.size) h7
  clear h01 h02 h03 h04 g0 hf0 hk5 hn6
  have g17 : Grow w2 w2 := Grow.refl _
  have hl18 : bk13 < w2.heap.size := hb16.lt
  have hz19 : w0.heap.size ≤ w2.heap.size := g12.size
  refine wp_all [([1], []), ([], [])] [2, 3, 4, 5] w2.heap.size hf3 g17.size (by kernel_rfl) (bund_cons (is_any h8) bund_nil) ?_
  refine ch rfl (ob_box_nm (arg_free 0 rfl rfl)) ?_
  refine ch rfl (ob_assign arg_c) ?_
  refine ch_nil ?_
  intro a20 w21 hf22 hg23 hk24 hn25
  have h26 : Holds _ (a20.eval (.tmp 6)) w21 := hn25.at 0 1 rfl rfl rfl
  have h27 := hk24.holds rfl h9
  have h28 := hk24.holds rfl h10
  have h29 := hk24.holds rfl h11
  have hv30 : Holds (Is (PtrV bk13)) (a20.eval (.tmp 5)) w21 := is_any (hk24.holds rfl hv15)
  have hb31 := hb16.up hg23
  have g32 := g12.trans hg23
  have g33 := g17.trans hg23
  obtain ⟨bk34, hl35, hv36, hb37⟩ := OwnB.blk (lo := w2.heap.size) h26
  clear h9 h10 h11 hv15 hb16 g12 g17 hf3 hk24 hn25
  refine then_ ?_
  refine wp_seq ?_
  have g38 : Grow w21 w21 := Grow.refl _
  have hl39 : bk13 < w21.heap.size := hb31.lt
  have hl40 : bk34 < w21.heap.size := hb37.lt
  have hz41 : w2.heap.size ≤ w21.heap.size := g33.size
  refine wp_region_lit ?_
  refine wp_seg (l1 := [_, _, _, _, _, _, _, _, _]) [([6], []), ([2], []), ([3], []), ([4], []), ([], [0, 1, 2, 3]), ([], [4]), ([], [5]), ([], [5]), ([], [])] [5] w21.heap.size hf22 g38.size (by kernel_rfl) (bund_cons (hb37.ownp hv36) (bund_cons (is_any h27) (bund_cons (is_any h28) (bund_cons (is_any h29) bund_nil)))) ?_
  refine ch rfl (ob_load_nm (ArgOK.ownp (arg_free 0 rfl rfl))) ?_
  refine ch rfl (ob_move (arg_free 1 rfl rfl)) ?_
  refine ch rfl (ob_move (arg_free 2 rfl rfl)) ?_
  refine ch rfl (ob_move (arg_free 3 rfl rfl)) ?_
  refine ch rfl (ob_call4 (by kernel_rfl) (c_Follow ?_ ?_) (arg_op 0 3 rfl rfl rfl rfl) (arg_op 1 2 rfl rfl rfl rfl) (arg_op 2 1 rfl rfl rfl rfl) (ArgOK.val (arg_op 3 0 rfl rfl rfl rfl) (hv4.up g32))) ?_
  · omega
  · omega
  refine ch rfl (ob_move (arg_op 4 0 rfl rfl rfl rfl)) ?_
  refine ch rfl (ob_extract0 (arg_op 5 0 rfl rfl rfl rfl)) ?_
  refine ch rfl (ob_extract1 (arg_op 5 1 rfl rfl rfl rfl)) ?_
  refine ch rfl (ob_alloc_nm) ?_
  refine ch_nil ?_
  intro a42 w43 hf44 hg45 hk46 hn47
  have h48 : Holds _ (a42.eval (.tmp 19)) w43 := hn47.at 6 2 rfl rfl rfl
  have h49 : Holds _ (a42.eval (.tmp 20)) w43 := hn47.at 7 1 rfl rfl rfl
  have h50 : Holds _ (a42.eval (.tmp 11)) w43 := hn47.at 8 0 rfl rfl rfl
  have hv51 : Holds (Is (PtrV bk13)) (a42.eval (.tmp 5)) w43 := is_any (hk46.holds rfl hv30)
  have hb52 := hb31.up hg45
  have g53 := g32.trans hg45
  have g54 := g33.trans hg45
  have g55 := g38.trans hg45
  obtain ⟨bk56, hl57, hv58, hb59⟩ := OwnB.blk (lo := w21.heap.size) h50
  clear hv30 hb31 g32 g33 g38 hf22 hk46 hn47
  refine wl_store_nm hv58 hb59 rfl h48 ?_
  intro w60 ho61 hb62
  have g63 : Grow w0 w60 := g53.only ho61 (by omega)
  have g64 : Grow w2 w60 := g54.only ho61 (by omega)
  have g65 : Grow w21 w60 := g55.only ho61 (by omega)
  have h66 : Holds _ (a42.eval (.tmp 20)) w60 := is_any h49
  have hv67 : Holds (Is (PtrV bk13)) (a42.eval (.tmp 5)) w60 := is_any hv51
  have hb68 : Blk bk13 _ w60 := hb52.only ho61 (by omega)
  have hv69 : Holds (Is (PtrV bk56)) (a42.eval (.tmp 11)) w60 := is_any hv58
  refine wp_all [([20], [])] [5, 11] w21.heap.size hf44 g65.size (by kernel_rfl) (bund_cons h66 bund_nil) ?_
  refine ch rfl (ob_assign (arg_free 0 rfl rfl)) ?_
  refine ch_nil ?_
  intro a70 w71 hf72 hg73 hk74 hn75
  have h76 : Holds _ (a70.eval (.tmp 12)) w71 := hn75.at 0 0 rfl rfl rfl
  have hv77 : Holds (Is (PtrV bk13)) (a70.eval (.tmp 5)) w71 := is_any (hk74.holds rfl hv67)
  have hb78 := hb68.up hg73
  have hv79 : Holds (Is (PtrV bk56)) (a70.eval (.tmp 11)) w71 := is_any (hk74.holds rfl hv69)
  have hb80 := hb62.up hg73
  have g81 := g63.trans hg73
  have g82 := g64.trans hg73
  have g83 := g65.trans hg73
  clear hv67 hb68 hv69 hb62 g63 g64 g65 hf44 hk74 hn75 hg73
  refine then_ ?_
  refine wp_seq ?_
  refine wp_region_lit ?_
  refine wp_all [([12], []), ([], [0]), ([11], [1]), ([5], [1]), ([], [2, 3, 1]), ([], [1, 4]), ([], [5])] [] w21.heap.size hf72 g83.size (by kernel_rfl) (bund_cons h76 (bund_cons (hb80.ownp hv79) (bund_cons (hb78.ownp hv77) bund_nil))) ?_
  refine ch rfl (ob_move (arg_free 0 rfl rfl)) ?_
  refine ch rfl (ob_move (arg_op 0 0 rfl rfl rfl rfl)) ?_
  refine chg (b := _) rfl rfl (arg_op 1 0 rfl rfl rfl rfl) (fun hb1 => ob_load_nm (ArgOK.ownp (arg_free 1 rfl rfl))) ?_
  refine chg (b := _) rfl rfl (arg_op 1 1 rfl rfl rfl rfl) (fun hb1 => ob_load_nm (ArgOK.ownp (arg_free 2 rfl rfl))) ?_
  refine chg (b := _) rfl rfl (arg_op 1 2 rfl rfl rfl rfl) (fun hb1 => ob_eqnm (ArgOK.when (arg_op 2 1 rfl rfl rfl rfl) hb1) (ArgOK.when (arg_op 3 0 rfl rfl rfl rfl) hb1)) ?_
  refine ch rfl (ob_and (arg_op 1 3 rfl rfl rfl rfl) (arg_op 4 0 rfl rfl rfl rfl)) ?_
  refine ch rfl (ob_assign (arg_op 5 0 rfl rfl rfl rfl)) ?_
  refine ch_nil ?_
  intro a84 w85 hf86 hg87 hk88 hn89
  have h90 : Holds _ (a84.eval (.tmp 10)) w85 := hn89.at 6 0 rfl rfl rfl
  have g91 := g81.trans hg87
  have g92 := g82.trans hg87
  have g93 := g83.trans hg87
  clear g81 g82 g83 hf72 hk88 hn89 hg87
  refine then_ ?_
  refine wp_ret ?_
  exact ret_tmp rfl hf86 g91 h90
end Ex
end Go.Proofs.YtnmfiiejhoafnaaGreat
