/- Two leaves accepted at one place: a collision. -/
import Derived.Test.YtnmfiiejhoafnaaMerkle2
import Derived.Test.YtnmfiiejhoafnaaStp
namespace Go.Proofs.Ytnmfiiejhoafnaa
namespace Ex
open Go Calm Go.RowKit

theorem splitGo_pow : ∀ (f n k : Nat), 1 ≤ k → n ≤ f + k → (∃ a, k = 2 ^ a) → (∃ a, splitGo f n k = 2 ^ a) ∧ n ≤ 2 * splitGo f n k
  | 0, n, k, h1, h2, h3 => ⟨h3, by simp only [splitGo]; omega⟩
  | f + 1, n, k, h1, h2, h3 => by
    simp only [splitGo]
    split
    · obtain ⟨a, ha⟩ := h3
      exact splitGo_pow f n (2 * k) (by omega) (by omega) ⟨a + 1, by rw [ha, Nat.pow_succ]; omega⟩
    · exact ⟨h3, by omega⟩
theorem split_pow (n : Nat) : (∃ a, split n = 2 ^ a) ∧ n ≤ 2 * split n := splitGo_pow n n 1 (by omega) (by omega) ⟨0, rfl⟩
theorem dep_le : ∀ (j i n : Nat), n ≤ 2 ^ j → dep i n ≤ j
  | 0, i, n, h => by rw [dep_one i n (by simpa using h)]; omega
  | j + 1, i, n, h => by
    by_cases h1 : n ≤ 1
    · rw [dep_one i n h1]; omega
    · have hb := split_bound (n := n) (by omega)
      obtain ⟨⟨a, ha⟩, h2⟩ := split_pow n
      have h3 : split n ≤ 2 ^ j := by
        rw [ha]
        refine Nat.pow_le_pow_right (by omega) ?_
        refine Classical.byContradiction fun hn => ?_
        have : 2 ^ (j + 1) ≤ 2 ^ a := Nat.pow_le_pow_right (by omega) (by omega)
        omega
      by_cases hi : i < split n
      · rw [dep_left (by omega) hi]
        have := dep_le j i (split n) h3
        omega
      · rw [dep_right (by omega) (by omega)]
        have := dep_le j (i - split n) (n - split n) (by omega)
        omega
/-- the nodes on the way from a leaf to the root -/
def climbGo : Nat → UInt64 → Nat → Nat → List UInt64 → List (List UInt8 × UInt64)
  | 0, x, _, _, _ => [(nmBytes x, single x)]
  | f + 1, x, i, n, p => if n ≤ 1 then [(nmBytes x, single x)] else
    if i < split n then climbGo f x i (split n) (p.take (p.length - 1)) ++ [(nmBytes (comp x i (split n) (p.take (p.length - 1))) ++ nmBytes (p.getD (p.length - 1) 0), comp x i n p)]
    else climbGo f x (i - split n) (n - split n) (p.take (p.length - 1)) ++ [(nmBytes (p.getD (p.length - 1) 0) ++ nmBytes (comp x (i - split n) (n - split n) (p.take (p.length - 1))), comp x i n p)]
theorem climbGo_fuel : ∀ (f g : Nat) (x : UInt64) (i n : Nat) (p : List UInt64), n ≤ f + 1 → n ≤ g + 1 → climbGo f x i n p = climbGo g x i n p
  | 0, 0, _, _, _, _, _, _ => rfl
  | 0, g + 1, x, i, n, p, h1, _ => by
    simp only [climbGo]
    rw [if_pos (by omega)]
  | f + 1, 0, x, i, n, p, _, h2 => by
    simp only [climbGo]
    rw [if_pos (by omega)]
  | f + 1, g + 1, x, i, n, p, h1, h2 => by
    simp only [climbGo]
    split
    · rfl
    · have hb := split_bound (n := n) (by omega)
      rw [climbGo_fuel f g x i (split n) _ (by omega) (by omega), climbGo_fuel f g x (i - split n) (n - split n) _ (by omega) (by omega)]
def climb (x : UInt64) (i n : Nat) (p : List UInt64) : List (List UInt8 × UInt64) := climbGo n x i n p
theorem climb_one {n : Nat} (x : UInt64) (i : Nat) (p : List UInt64) (h : n ≤ 1) : climb x i n p = [(nmBytes x, single x)] := by
  unfold climb
  rw [climbGo_fuel n (n + 1) x i n p (by omega) (by omega)]
  simp only [climbGo]
  rw [if_pos h]
theorem climb_left {i n : Nat} (x : UInt64) (p : List UInt64) (h : 2 ≤ n) (hi : i < split n) :
    climb x i n p = climb x i (split n) (p.take (p.length - 1)) ++ [(nmBytes (comp x i (split n) (p.take (p.length - 1))) ++ nmBytes (p.getD (p.length - 1) 0), comp x i n p)] := by
  have hb := split_bound h
  unfold climb
  rw [climbGo_fuel n (n + 1) x i n p (by omega) (by omega)]
  simp only [climbGo]
  rw [if_neg (by omega), if_pos hi, climbGo_fuel n (split n) x i (split n) _ (by omega) (by omega)]
theorem climb_right {i n : Nat} (x : UInt64) (p : List UInt64) (h : 2 ≤ n) (hi : split n ≤ i) :
    climb x i n p = climb x (i - split n) (n - split n) (p.take (p.length - 1)) ++ [(nmBytes (p.getD (p.length - 1) 0) ++ nmBytes (comp x (i - split n) (n - split n) (p.take (p.length - 1))), comp x i n p)] := by
  have hb := split_bound h
  unfold climb
  rw [climbGo_fuel n (n + 1) x i n p (by omega) (by omega)]
  simp only [climbGo]
  rw [if_neg (by omega), if_neg (by omega), climbGo_fuel n (n - split n) x (i - split n) (n - split n) _ (by omega) (by omega)]
theorem climb_len : ∀ (m : Nat) (x : UInt64) (i n : Nat) (p : List UInt64), n ≤ m → (climb x i n p).length = dep i n + 1
  | m, x, i, n, p, hm => by
    by_cases h : n ≤ 1
    · rw [climb_one x i p h, dep_one i n h]; rfl
    · have hb := split_bound (n := n) (by omega)
      cases m with
      | zero => omega
      | succ m =>
        by_cases hi : i < split n
        · rw [climb_left x p (by omega) hi, dep_left (by omega) hi, List.length_append, climb_len m x i _ _ (by omega)]; rfl
        · rw [climb_right x p (by omega) (by omega), dep_right (by omega) (by omega), List.length_append, climb_len m x _ _ _ (by omega)]; rfl
theorem climb_last (x : UInt64) (i n : Nat) (p : List UInt64) : ((climb x i n p).getD (dep i n) default).2 = comp x i n p := by
  by_cases h : n ≤ 1
  · rw [climb_one x i p h, dep_one i n h, comp_one x i p h]; rfl
  · have hl := climb_len n x i n p (Nat.le_refl n)
    by_cases hi : i < split n
    · have hl2 := climb_len (split n) x i (split n) (p.take (p.length - 1)) (Nat.le_refl _)
      rw [climb_left x p (by omega) hi, dep_left (by omega) hi, List.getD_eq_getElem?_getD, List.getElem?_append_right (by omega), hl2, Nat.sub_self]; rfl
    · have hl2 := climb_len (n - split n) x (i - split n) (n - split n) (p.take (p.length - 1)) (Nat.le_refl _)
      rw [climb_right x p (by omega) (by omega), dep_right (by omega) (by omega), List.getD_eq_getElem?_getD, List.getElem?_append_right (by omega), hl2, Nat.sub_self]; rfl
/-- bytes of two names tell the names -/
theorem nmBytes_inj {x y : UInt64} (h : nmBytes x = nmBytes y) : x = y := by
  unfold nmBytes at h
  simp only [List.cons.injEq, and_true] at h
  obtain ⟨h0, h1, h2, h3, h4, h5, h6, h7⟩ := h
  refine nb_inj fun i hi => ?_
  match i, hi with
  | 0, _ => exact h0
  | 1, _ => exact h1
  | 2, _ => exact h2
  | 3, _ => exact h3
  | 4, _ => exact h4
  | 5, _ => exact h5
  | 6, _ => exact h6
  | 7, _ => exact h7
theorem nmBytes2_inj {x y x' y' : UInt64} (h : nmBytes x ++ nmBytes y = nmBytes x' ++ nmBytes y') : x = x' ∧ y = y' := by
  have := List.append_inj h (show (nmBytes x).length = (nmBytes x').length from rfl)
  exact ⟨nmBytes_inj this.1, nmBytes_inj this.2⟩
/-- two leaves, one root: some step takes two inputs to one name -/
theorem binds : ∀ (m : Nat) (a b : UInt64) (i n : Nat) (p q : List UInt64), n ≤ m → a ≠ b → comp a i n p = comp b i n q →
    ∃ k, k < dep i n + 1 ∧ ((climb a i n p).getD k default).1 ≠ ((climb b i n q).getD k default).1 ∧ ((climb a i n p).getD k default).2 = ((climb b i n q).getD k default).2
  | m, a, b, i, n, p, q, hm, hne, he => by
    by_cases h : n ≤ 1
    · refine ⟨0, by omega, ?_, ?_⟩
      · rw [climb_one a i p h, climb_one b i q h]
        exact fun hh => hne (nmBytes_inj hh)
      · rw [climb_one a i p h, climb_one b i q h]
        rw [comp_one a i p h, comp_one b i q h] at he
        exact he
    · have hb := split_bound (n := n) (by omega)
      cases m with
      | zero => omega
      | succ m =>
        by_cases hi : i < split n
        · have la := climb_len (split n) a i (split n) (p.take (p.length - 1)) (Nat.le_refl _)
          have lb := climb_len (split n) b i (split n) (q.take (q.length - 1)) (Nat.le_refl _)
          by_cases hh : comp a i (split n) (p.take (p.length - 1)) = comp b i (split n) (q.take (q.length - 1))
          · obtain ⟨k, h1, h2, h3⟩ := binds m a b i (split n) _ _ (by omega) hne hh
            have e : ∀ (l r : List (List UInt8 × UInt64)), l.length = dep i (split n) + 1 → (l ++ r).getD k default = l.getD k default := fun l r hl => by
              rw [List.getD_eq_getElem?_getD, List.getElem?_append_left (by omega), ← List.getD_eq_getElem?_getD]
            refine ⟨k, by rw [dep_left (by omega) hi]; omega, ?_, ?_⟩
            · rw [climb_left a p (by omega) hi, climb_left b q (by omega) hi, e _ _ la, e _ _ lb]; exact h2
            · rw [climb_left a p (by omega) hi, climb_left b q (by omega) hi, e _ _ la, e _ _ lb]; exact h3
          · have e : ∀ (l : List (List UInt8 × UInt64)) (y : List UInt8 × UInt64), l.length = dep i (split n) + 1 → (l ++ [y]).getD (dep i (split n) + 1) default = y := fun l y hl => by
              rw [List.getD_eq_getElem?_getD, List.getElem?_append_right (by omega), hl, Nat.sub_self]; rfl
            refine ⟨dep i (split n) + 1, by rw [dep_left (by omega) hi]; omega, ?_, ?_⟩
            · rw [climb_left a p (by omega) hi, climb_left b q (by omega) hi, e _ _ la, e _ _ lb]
              exact fun hc => hh (nmBytes2_inj hc).1
            · rw [climb_left a p (by omega) hi, climb_left b q (by omega) hi, e _ _ la, e _ _ lb]
              exact he
        · have la := climb_len (n - split n) a (i - split n) (n - split n) (p.take (p.length - 1)) (Nat.le_refl _)
          have lb := climb_len (n - split n) b (i - split n) (n - split n) (q.take (q.length - 1)) (Nat.le_refl _)
          by_cases hh : comp a (i - split n) (n - split n) (p.take (p.length - 1)) = comp b (i - split n) (n - split n) (q.take (q.length - 1))
          · obtain ⟨k, h1, h2, h3⟩ := binds m a b (i - split n) (n - split n) _ _ (by omega) hne hh
            have e : ∀ (l r : List (List UInt8 × UInt64)), l.length = dep (i - split n) (n - split n) + 1 → (l ++ r).getD k default = l.getD k default := fun l r hl => by
              rw [List.getD_eq_getElem?_getD, List.getElem?_append_left (by omega), ← List.getD_eq_getElem?_getD]
            refine ⟨k, by rw [dep_right (by omega) (by omega)]; omega, ?_, ?_⟩
            · rw [climb_right a p (by omega) (by omega), climb_right b q (by omega) (by omega), e _ _ la, e _ _ lb]; exact h2
            · rw [climb_right a p (by omega) (by omega), climb_right b q (by omega) (by omega), e _ _ la, e _ _ lb]; exact h3
          · have e : ∀ (l : List (List UInt8 × UInt64)) (y : List UInt8 × UInt64), l.length = dep (i - split n) (n - split n) + 1 → (l ++ [y]).getD (dep (i - split n) (n - split n) + 1) default = y := fun l y hl => by
              rw [List.getD_eq_getElem?_getD, List.getElem?_append_right (by omega), hl, Nat.sub_self]; rfl
            refine ⟨dep (i - split n) (n - split n) + 1, by rw [dep_right (i := i) (n := n) (by omega) (by omega)]; omega, ?_, ?_⟩
            · rw [climb_right a p (by omega) (by omega), climb_right b q (by omega) (by omega), e _ _ la, e _ _ lb]
              exact fun hc => hh (nmBytes2_inj hc).2
            · rw [climb_right a p (by omega) (by omega), climb_right b q (by omega) (by omega), e _ _ la, e _ _ lb]
              exact he

theorem climb_l {i n : Nat} (x : UInt64) (p : List UInt64) (h : 2 ≤ n) (hi : i < split n) :
    climb x i (split n) (p.take (p.length - 1)) ++ [(nmBytes (comp x i (split n) (p.take (p.length - 1))) ++ nmBytes (p.getD (p.length - 1) default), pairN 18 (comp x i (split n) (p.take (p.length - 1))) (p.getD (p.length - 1) default))] = climb x i n p := by
  rw [climb_left x p h hi, comp_left x p h hi]
  rfl
theorem climb_r {i n : Nat} (x : UInt64) (p : List UInt64) (h : 2 ≤ n) (hi : split n ≤ i) :
    climb x (i - split n) (n - split n) (p.take (p.length - 1)) ++ [(nmBytes (p.getD (p.length - 1) default) ++ nmBytes (comp x (i - split n) (n - split n) (p.take (p.length - 1))), pairN 18 (p.getD (p.length - 1) default) (comp x (i - split n) (n - split n) (p.take (p.length - 1))))] = climb x i n p := by
  rw [climb_right x p h hi, comp_right x p h hi]
  rfl
theorem climb_top (x : UInt64) (i n : Nat) (p : List UInt64) : ((climb x i n p).getD ((climb x i n p).length - 1) default).2 = comp x i n p := by
  rw [climb_len n x i n p (Nat.le_refl n), Nat.add_sub_cancel]
  exact climb_last x i n p
theorem climb_ge (x : UInt64) (i n : Nat) (p : List UInt64) : 1 ≤ (climb x i n p).length ∧ (climb x i n p).length ≤ n + 1 := by
  rw [climb_len n x i n p (Nat.le_refl n)]
  by_cases h : 1 ≤ n
  · have := dep_lt n i n (Nat.le_refl n) h
    omega
  · rw [dep_one i n (by omega)]
    omega
theorem bind_facts {r a b : UInt64} {i n : Int} {p q : List UInt64} (hp : verB r a i n p = true) (hq : verB r b i n q = true) (hn : n ≤ 9223372036854775807) :
    0 ≤ i ∧ i < n ∧ p.length = dep i.toNat n.toNat ∧ q.length = dep i.toNat n.toNat ∧ dep i.toNat n.toNat ≤ 63 ∧ comp a i.toNat n.toNat p = comp b i.toNat n.toNat q := by
  unfold verB folB at hp hq
  simp only [Bool.and_eq_true, decide_eq_true_eq] at hp hq
  obtain ⟨⟨h1, h2⟩, h3⟩ := hp
  obtain ⟨⟨g1, g2⟩, g3⟩ := hq
  have hi := depI_pos h1
  have hd := depI_nat h1
  rw [← folV_yes ⟨h1, h2⟩] at h3
  rw [← folV_yes ⟨g1, g2⟩] at g3
  have hle : dep i.toNat n.toNat ≤ 63 := dep_le 63 i.toNat n.toNat (by omega)
  exact ⟨hi.1, hi.2, by omega, by omega, hle, h3.trans g3.symm⟩
theorem all_step {P : Nat → Prop} {k : Nat} (h : ∀ j, j < k → ¬ P j) (hk : ¬ P k) : ∀ j, j < k + 1 → ¬ P j := fun j hj => by
  by_cases e : j = k
  · subst e; exact hk
  · exact h j (by omega)

set_option maxRecDepth 100000 in
theorem c_climb3_step {x : UInt64} {i n : Nat} {iz nz : Int} {p : List UInt64} (h1 : 1 ≤ n) (hn : n ≤ 9223372036854775807) (hi : i < n) (hd : p.length = dep i n) (h64 : p.length ≤ 64) (hiz : iz = (i : Int)) (hnz : nz = (n : Int)) (ih : ∀ (i' n' : Nat) (iz' nz' : Int) (p' : List UInt64), n' < n → 1 ≤ n' → i' < n' → p'.length = dep i' n' → iz' = (i' : Int) → nz' = (n' : Int) → Con4 65 (Is (nmV x)) (Is (intV iz')) (Is (intV nz')) (Sl elNm p') (fun lo => OwnS lo elStep (climb x i' n' p'))) : Con4 65 (Is (nmV x)) (Is (intV iz)) (Is (intV nz)) (Sl elNm p) (fun lo => OwnS lo elStep (climb x i n p)) := by
  intro lo v0 v1 v2 v3 w0 hlo hv0 hv1 hv2 hv3
  refine enter Try.func65 rfl Try.ntmps65 (by simp) ?_
  intro a0 hf0 ha
  have h00 : Holds _ (a0.eval (.tmp 0)) w0 := arg_holds ha rfl hv0
  have h01 : Holds _ (a0.eval (.tmp 1)) w0 := arg_holds ha rfl hv1
  have h02 : Holds _ (a0.eval (.tmp 2)) w0 := arg_holds ha rfl hv2
  have h03 : Holds (Is v3) (a0.eval (.tmp 3)) w0 := arg_holds ha rfl rfl
  clear ha
  have g0 : Grow w0 w0 := Grow.refl _
  refine wp_seq ?_
  refine wp_region_lit ?_
  refine wp_all [([0], []), ([], [])] [1, 2, 3] w0.heap.size hf0 g0.size (by kernel_rfl) (bund_cons h00 bund_nil) ?_
  refine ch rfl (ob_box_nm (arg_free 0 rfl rfl)) ?_
  refine ch rfl (ob_assign (arg_cg (G := Any) (fun w => trivial))) ?_
  refine ch_nil ?_
  intro a1 w2 hf3 hg4 hk5 hn6
  have h7 : Holds _ (a1.eval (.tmp 4)) w2 := hn6.at 0 1 rfl rfl rfl
  have h8 : Holds _ (a1.eval (.tmp 1)) w0 := hk5.holds rfl h01
  have h9 : Holds _ (a1.eval (.tmp 2)) w0 := hk5.holds rfl h02
  have h10 : Holds _ (a1.eval (.tmp 3)) w0 := hk5.holds rfl h03
  have g11 : Grow w0 w2 := g0.trans hg4
  obtain ⟨bk12, hl13, hv14, hb15⟩ := OwnB.blk (lo := w0.heap.size) h7
  clear h01 h02 h03 g0 hf0 hk5 hn6
  refine then_ ?_
  refine wp_seq ?_
  refine wp_seq ?_
  refine wp_region_lit ?_
  refine wp_all [([2], []), ([], [0])] [1, 2, 3, 4] w0.heap.size hf3 g11.size (by kernel_rfl) (bund_cons (is_any h9) bund_nil) ?_
  refine ch rfl (ob_move (arg_free 0 rfl rfl)) ?_
  refine ch rfl (ob_eql (arg_op 0 0 rfl rfl rfl rfl) arg_c) ?_
  refine ch_nil ?_
  intro a16 w17 hf18 hg19 hk20 hn21
  have h22 : Holds _ (a16.eval (.tmp 15)) w17 := hn21.at 1 0 rfl rfl rfl
  have h23 : Holds _ (a16.eval (.tmp 1)) w0 := hk20.holds rfl h8
  have h24 : Holds _ (a16.eval (.tmp 2)) w0 := hk20.holds rfl h9
  have h25 : Holds _ (a16.eval (.tmp 3)) w0 := hk20.holds rfl h10
  have hv26 : Holds (Is (PtrV bk12)) (a16.eval (.tmp 4)) w17 := is_any (hk20.holds rfl hv14)
  have hb27 : Blk bk12 _ w17 := hb15.up hg19
  have g28 : Grow w0 w17 := g11.trans hg19
  clear h8 h9 h10 hv14 hb15 g11 hf3 hk20 hn21 hg19
  refine then_ ?_
  refine wp_if h22 ?_ ?_
  · intro hc29
    try simp only [cond_norm] at hc29
    refine wp_seq ?_
    have g30 : Grow w17 w17 := Grow.refl _
    have hl31 : bk12 < w17.heap.size := hb27.lt
    have hz32 : w0.heap.size ≤ w17.heap.size := g28.size
    refine wp_calm [0, 1, 0, 4, 15, 31, 63] [([4], []), ([], [0]), ([4], []), ([], [2]), ([], [1, 3]), ([], [4]), ([], [5])] [] w17.heap.size hf18 g30.size (by kernel_rfl) (bund_cons (hb27.ownp hv26) bund_nil) ?_
    intro ws33 hs34
    refine ch rfl (ob_slice_nmF (ArgOK.ownp (arg_free 0 rfl rfl))) ?_
    refine ch rfl (ob_b2s (ArgOK.fsl (arg_op 0 0 rfl rfl rfl rfl)) Try.underlying34 Try.underlying9) ?_
    refine ch rfl (ob_slice_nmF (ArgOK.ownp (arg_free 0 rfl rfl))) ?_
    refine ch rfl (ob_call2 (by kernel_rfl) (c_rTagged ?_) (arg_cb 17 rfl) (ArgOK.fsl (arg_op 2 0 rfl rfl rfl rfl))) ?_
    · ((try simp only [List.length_append, List.length_cons, List.length_nil, nmBytes_len, List.length_take, List.length_drop, flat_len]); omega)
    refine ch rfl (ob_build_step (arg_op 1 2 rfl rfl rfl rfl) (arg_op 3 0 rfl rfl rfl rfl)) ?_
    refine ch rfl (ob_bs1_step (arg_op 4 0 rfl rfl rfl rfl)) ?_
    refine ch rfl (ob_assign (arg_op 5 0 rfl rfl rfl rfl)) ?_
    refine ch_nil ?_
    intro a35 w36 hf37 hg38 hk39 hn40
    have h41 : Holds (OwnF w17.heap.size _ _) (a35.eval (.tmp 8)) w36 := hn40.at 6 0 rfl rfl rfl
    have g42 : Grow w0 w36 := g28.trans hg38
    have g43 : Grow w17 w36 := g30.trans hg38
    clear g28 g30 hf18 hk39 hn40
    obtain ⟨V44, h45, hV46⟩ := nameV h41
    clear h41
    refine then_ ?_
    refine wp_ret ?_
    refine thenR ?_
    exact ret_tmp rfl hf37 g42 (OwnS.mono (cast_own (by first | exact (climb_one x i p (by omega)).symm | exact climb_l x p (by omega) (by omega) | exact climb_r x p (by omega) (by omega)) (OwnF.own (unV h45 hV46))) (by omega))
  · intro hc29
    try simp only [cond_norm] at hc29
    refine wp_skip ?_
    refine then_ ?_
    refine wp_seq ?_
    refine wp_region_lit ?_
    refine wp_all [([], [])] [1, 2, 3, 4] w0.heap.size hf18 g28.size (by kernel_rfl) bund_nil ?_
    refine ch rfl (ob_assign arg_c) ?_
    refine ch_nil ?_
    intro a47 w48 hf49 hg50 hk51 hn52
    have h53 : Holds _ (a47.eval (.tmp 9)) w48 := hn52.at 0 0 rfl rfl rfl
    have h54 : Holds _ (a47.eval (.tmp 1)) w0 := hk51.holds rfl h23
    have h55 : Holds _ (a47.eval (.tmp 2)) w0 := hk51.holds rfl h24
    have h56 : Holds _ (a47.eval (.tmp 3)) w0 := hk51.holds rfl h25
    have hv57 : Holds (Is (PtrV bk12)) (a47.eval (.tmp 4)) w48 := is_any (hk51.holds rfl hv26)
    have hb58 : Blk bk12 _ w48 := hb27.up hg50
    have g59 : Grow w0 w48 := g28.trans hg50
    clear h23 h24 h25 hv26 hb27 g28 hf18 hk51 hn52 hg50
    refine then_ ?_
    refine wp_seq ?_
    refine wp_block ?_
    have g60 : Grow w48 w48 := Grow.refl _
    have hl61 : bk12 < w48.heap.size := hb58.lt
    have hz62 : w0.heap.size ≤ w48.heap.size := g59.size
    refine wp_loopL (α := Nat) (fun k a' w' => Fr 88 a' ∧ (1 ≤ k) ∧ (k ≤ 1 ∨ k < n) ∧ (splitGo n n k = split n) ∧ Grow w0 w' ∧ Grow w48 w' ∧ Keep [1, 2, 3, 4] a47 a' ∧ Holds (Is (intV (k : Int))) (a'.eval (.tmp 9)) w' ∧ Blk bk12 (nmCells x) w') (fun k => n - k) (1) ⟨hf49, (by omega), (by omega), (by rfl), g59, g60, Keep.refl _ _, (is_cast h53 (by first | rfl | (refine congrArg intV ?_; (try dsimp only); omega))), hb58⟩ ?_
    intro k a63 w64 ⟨hf65, hi67, hi68, hi69, g70, g71, kk66, h72, hb73⟩
    have h74 : Holds _ (a63.eval (.tmp 1)) w0 := kk66.holds rfl h54
    have h75 : Holds _ (a63.eval (.tmp 2)) w0 := kk66.holds rfl h55
    have h76 : Holds _ (a63.eval (.tmp 3)) w0 := kk66.holds rfl h56
    have hv77 : Holds (Is (PtrV bk12)) (a63.eval (.tmp 4)) w64 := is_any (kk66.holds rfl hv57)
    refine wp_seq ?_
    refine wp_seq ?_
    refine wp_region_lit ?_
    refine wp_all [([9], []), ([2], []), ([9], []), ([], [1, 2]), ([], [0, 3])] [1, 2, 3, 4, 9] w48.heap.size hf65 g71.size (by kernel_rfl) (bund_cons h72 (bund_cons (is_any h75) bund_nil)) ?_
    refine ch rfl (ob_move (arg_free 0 rfl rfl)) ?_
    refine ch rfl (ob_move (arg_free 1 rfl rfl)) ?_
    refine ch rfl (ob_move (arg_free 0 rfl rfl)) ?_
    first
      | (refine ch rfl (ob_sub' (arg_op 1 1 rfl rfl rfl rfl) (arg_op 2 0 rfl rfl rfl rfl) ?_) ?_; · omega)
      | refine ch rfl (ob_sub (arg_op 1 1 rfl rfl rfl rfl) (arg_op 2 0 rfl rfl rfl rfl)) ?_
    refine ch rfl (ob_lss (arg_op 0 3 rfl rfl rfl rfl) (arg_op 3 0 rfl rfl rfl rfl)) ?_
    refine ch_nil ?_
    intro a78 w79 hf80 hg81 hk82 hn83
    have h84 : Holds _ (a78.eval (.tmp 26)) w79 := hn83.at 4 0 rfl rfl rfl
    have h85 : Holds _ (a78.eval (.tmp 9)) w79 := hk82.holds rfl (h72.up hg81)
    have h86 : Holds _ (a78.eval (.tmp 1)) w0 := hk82.holds rfl h74
    have h87 : Holds _ (a78.eval (.tmp 2)) w0 := hk82.holds rfl h75
    have h88 : Holds _ (a78.eval (.tmp 3)) w0 := hk82.holds rfl h76
    have hv89 : Holds (Is (PtrV bk12)) (a78.eval (.tmp 4)) w79 := is_any (hk82.holds rfl hv77)
    have hb90 : Blk bk12 _ w79 := hb73.up hg81
    have g91 : Grow w0 w79 := g70.trans hg81
    have g92 : Grow w48 w79 := g71.trans hg81
    have kk93 : Keep _ a47 a78 := kk66.trans hk82 rfl
    clear h72 h74 h75 h76 hv77 hb73 g70 g71 kk66 hf65 hk82 hn83 hg81
    refine then_ ?_
    refine wp_if h84 ?_ ?_
    · intro hc94
      try simp only [cond_norm] at hc94
      refine wp_skip ?_
      refine then_ ?_
      refine wp_block ?_
      refine wp_region_lit ?_
      refine wp_all [([9], []), ([], [0]), ([], [1])] [1, 2, 3, 4] w48.heap.size hf80 g92.size (by kernel_rfl) (bund_cons h85 bund_nil) ?_
      refine ch rfl (ob_move (arg_free 0 rfl rfl)) ?_
      first
        | (refine ch rfl (ob_mul' arg_c (arg_op 0 0 rfl rfl rfl rfl) ?_) ?_; · omega)
        | refine ch rfl (ob_mul arg_c (arg_op 0 0 rfl rfl rfl rfl)) ?_
      refine ch rfl (ob_assign (arg_op 1 0 rfl rfl rfl rfl)) ?_
      refine ch_nil ?_
      intro a95 w96 hf97 hg98 hk99 hn100
      have h101 : Holds _ (a95.eval (.tmp 9)) w96 := hn100.at 2 0 rfl rfl rfl
      have h102 : Holds _ (a95.eval (.tmp 1)) w0 := hk99.holds rfl h86
      have h103 : Holds _ (a95.eval (.tmp 2)) w0 := hk99.holds rfl h87
      have h104 : Holds _ (a95.eval (.tmp 3)) w0 := hk99.holds rfl h88
      have hv105 : Holds (Is (PtrV bk12)) (a95.eval (.tmp 4)) w96 := is_any (hk99.holds rfl hv89)
      have hb106 : Blk bk12 _ w96 := hb90.up hg98
      have g107 : Grow w0 w96 := g91.trans hg98
      have g108 : Grow w48 w96 := g92.trans hg98
      have kk109 : Keep _ a47 a95 := kk93.trans hk99 rfl
      clear h86 h87 h88 hv89 hb90 g91 g92 kk93 hf80 hk99 hn100 hg98
      refine blockN ?_
      refine then_ ?_
      exact ⟨(2 * k), (by ((try dsimp only); omega)), hf97, (by omega), (by omega), (by rw [splitN_step (by omega) (by omega)]; assumption), g107, g108, kk109, (is_cast h101 (by first | rfl | (refine congrArg intV ?_; (try dsimp only); omega))), hb106⟩
    · intro hc94
      try simp only [cond_norm] at hc94
      have hk : k = split n := (splitN_end (n := n) (by assumption) (by omega)).trans (by assumption)
      refine wp_exit ?_
      refine thenX ?_
      refine thenX ?_
      refine blockX ?_
      refine then_ ?_
      refine wp_seq ?_
      have hpl := dep_lt n i n (Nat.le_refl _) (by omega)
      have hb := split_bound (n := n) (by omega)
      have hpos := dep_pos (i := i) (n := n) (by omega)
      subst hk
      have g110 : Grow w79 w79 := Grow.refl _
      have hl111 : bk12 < w79.heap.size := hb90.lt
      have hz112 : w48.heap.size ≤ w79.heap.size := g92.size
      refine wp_region_lit ?_
      refine wp_seg (l1 := [_, _, _, _, _, _, _]) [([3], []), ([3], []), ([], [1]), ([], [2]), ([], [0, 3]), ([], [4]), ([], [])] [1, 2, 3, 4, 9] w79.heap.size hf80 g110.size (by kernel_rfl) (bund_cons (is_any h88) bund_nil) ?_
      refine ch rfl (ob_move (arg_free 0 rfl rfl)) ?_
      refine ch rfl (ob_move (arg_free 0 rfl rfl)) ?_
      refine ch rfl (ob_len (ArgOK.val (arg_op 1 0 rfl rfl rfl rfl) (hv3.up g91)) Try.underlying39) ?_
      first
        | (refine ch rfl (ob_sub' (arg_op 2 0 rfl rfl rfl rfl) arg_c ?_) ?_; · omega)
        | refine ch rfl (ob_sub (arg_op 2 0 rfl rfl rfl rfl) arg_c) ?_
      refine ch rfl (ob_ix (ArgOK.val (arg_op 0 3 rfl rfl rfl rfl) (hv3.up g91)) (arg_op 3 0 rfl rfl rfl rfl) ((show ((p.length : Int) - 1) = ((p.length - 1 : Nat) : Int) by omega)) ?_ Try.underlying39 szNm) ?_
      · omega
      refine ch rfl (ob_load_nm (arg_op 4 0 rfl rfl rfl rfl)) ?_
      refine ch rfl (ob_alloc_nm) ?_
      refine ch_nil ?_
      intro a113 w114 hf115 hg116 hk117 hn118
      have h119 : Holds _ (a113.eval (.tmp 34)) w114 := hn118.at 5 1 rfl rfl rfl
      have h120 : Holds _ (a113.eval (.tmp 10)) w114 := hn118.at 6 0 rfl rfl rfl
      have h121 : Holds _ (a113.eval (.tmp 9)) w79 := hk117.holds rfl h85
      have h122 : Holds _ (a113.eval (.tmp 1)) w0 := hk117.holds rfl h86
      have h123 : Holds _ (a113.eval (.tmp 2)) w0 := hk117.holds rfl h87
      have h124 : Holds _ (a113.eval (.tmp 3)) w0 := hk117.holds rfl h88
      have hv125 : Holds (Is (PtrV bk12)) (a113.eval (.tmp 4)) w114 := is_any (hk117.holds rfl hv89)
      have hb126 : Blk bk12 _ w114 := hb90.up hg116
      have g127 : Grow w0 w114 := g91.trans hg116
      have g128 : Grow w48 w114 := g92.trans hg116
      have g129 : Grow w79 w114 := g110.trans hg116
      obtain ⟨bk130, hl131, hv132, hb133⟩ := OwnB.blk (lo := w79.heap.size) h120
      clear h85 h86 h87 h88 hv89 hb90 g91 g92 g110 hf80 hk117 hn118
      refine wl_store_nm hv132 hb133 rfl h119 ?_
      intro w134 ho135 hb136
      have g137 : Grow w0 w134 := g127.only ho135 (by omega)
      have g138 : Grow w48 w134 := g128.only ho135 (by omega)
      have g139 : Grow w79 w134 := g129.only ho135 (by omega)
      have hv140 : Holds (Is (PtrV bk12)) (a113.eval (.tmp 4)) w134 := is_any hv125
      have hb141 : Blk bk12 _ w134 := hb126.only ho135 (by omega)
      have hv142 : Holds (Is (PtrV bk130)) (a113.eval (.tmp 10)) w134 := is_any hv132
      refine wpList_nil ?_
      refine then_ ?_
      refine wp_seq ?_
      refine wp_region_lit ?_
      refine wp_all [([], [])] [1, 2, 3, 4, 9, 10] w79.heap.size hf115 g139.size (by kernel_rfl) bund_nil ?_
      refine ch rfl (ob_assign (arg_cg (G := Any) (fun w => trivial))) ?_
      refine ch_nil ?_
      intro a143 w144 hf145 hg146 hk147 hn148
      have h149 : Holds _ (a143.eval (.tmp 9)) w79 := hk147.holds rfl h121
      have h150 : Holds _ (a143.eval (.tmp 1)) w0 := hk147.holds rfl h122
      have h151 : Holds _ (a143.eval (.tmp 2)) w0 := hk147.holds rfl h123
      have h152 : Holds _ (a143.eval (.tmp 3)) w0 := hk147.holds rfl h124
      have hv153 : Holds (Is (PtrV bk12)) (a143.eval (.tmp 4)) w144 := is_any (hk147.holds rfl hv140)
      have hb154 : Blk bk12 _ w144 := hb141.up hg146
      have hv155 : Holds (Is (PtrV bk130)) (a143.eval (.tmp 10)) w144 := is_any (hk147.holds rfl hv142)
      have hb156 : Blk bk130 _ w144 := hb136.up hg146
      have g157 : Grow w0 w144 := g137.trans hg146
      have g158 : Grow w48 w144 := g138.trans hg146
      have g159 : Grow w79 w144 := g139.trans hg146
      clear h121 h122 h123 h124 hv140 hb141 hv142 hb136 g137 g138 g139 hf115 hk147 hn148 hg146
      refine then_ ?_
      refine wp_seq ?_
      have g160 : Grow w144 w144 := Grow.refl _
      have hl161 : bk12 < w144.heap.size := hb154.lt
      have hl162 : bk130 < w144.heap.size := hb156.lt
      have hz163 : w79.heap.size ≤ w144.heap.size := g159.size
      refine wp_calm2 (l1 := [_, _, _, _]) (l2 := [_, _]) [2, 3] (some 1) [0, 0, 0, 0, 13, 31] [([10], []), ([10], []), ([], []), ([], [])] [1, 2, 3, 4, 9, 10] w144.heap.size hf145 g160.size (by kernel_rfl) (bund_cons (hb156.ownp hv155) bund_nil) ?_
      intro ws164 hs165
      refine ch rfl (ob_load_nm (ArgOK.ownp (arg_free 0 rfl rfl))) ?_
      refine ch rfl (ob_load_nm (ArgOK.ownp (arg_free 0 rfl rfl))) ?_
      refine ch rfl (ob_alloc_nm) ?_
      refine ch rfl (ob_alloc_nm) ?_
      refine ch_nil ?_
      refine ⟨ptrok2 rfl rfl, ?_, ?_⟩
      · intro a167 w168 hf169 hg170 hk171 hn172 hap166
        have h173 : Holds _ (a167.eval (.tmp 35)) w168 := hn172.at 0 3 rfl rfl rfl
        have h174 : Holds _ (a167.eval (.tmp 36)) w168 := hn172.at 1 2 rfl rfl rfl
        have h175 : Holds _ (a167.eval (.tmp 12)) w168 := hn172.at 2 1 rfl rfl rfl
        have h176 : Holds _ (a167.eval (.tmp 13)) w168 := hn172.at 3 0 rfl rfl rfl
        have h177 : Holds _ (a167.eval (.tmp 9)) w79 := hk171.holds rfl h149
        have h178 : Holds _ (a167.eval (.tmp 1)) w0 := hk171.holds rfl h150
        have h179 : Holds _ (a167.eval (.tmp 2)) w0 := hk171.holds rfl h151
        have h180 : Holds _ (a167.eval (.tmp 3)) w0 := hk171.holds rfl h152
        have hv181 : Holds (Is (PtrV bk12)) (a167.eval (.tmp 4)) w168 := is_any (hk171.holds rfl hv153)
        have hb182 : Blk bk12 _ w168 := hb154.up hg170
        have hv183 : Holds (Is (PtrV bk130)) (a167.eval (.tmp 10)) w168 := is_any (hk171.holds rfl hv155)
        have hb184 : Blk bk130 _ w168 := hb156.up hg170
        have g185 : Grow w0 w168 := g157.trans hg170
        have g186 : Grow w48 w168 := g158.trans hg170
        have g187 : Grow w79 w168 := g159.trans hg170
        have g188 : Grow w144 w168 := g160.trans hg170
        obtain ⟨bk189, hl190, hv191, hb192⟩ := OwnB.blk (lo := w144.heap.size) h175
        obtain ⟨bk193, hl194, hv195, hb196⟩ := OwnB.blk (lo := w144.heap.size) h176
        have hne197 : bk189 ≠ bk193 := Apart.at hap166 2 3 rfl rfl rfl rfl rfl hv191 hv195
        clear h149 h150 h151 h152 hv153 hb154 hv155 hb156 g157 g158 g159 g160 hf145 hk171 hn172
        refine wl_store_nm hv191 hb192 rfl h173 ?_
        intro w198 ho199 hb200
        have g201 : Grow w0 w198 := g185.only ho199 (by omega)
        have g202 : Grow w48 w198 := g186.only ho199 (by omega)
        have g203 : Grow w79 w198 := g187.only ho199 (by omega)
        have g204 : Grow w144 w198 := g188.only ho199 (by omega)
        have h205 : Holds _ (a167.eval (.tmp 36)) w198 := is_any h174
        have hv206 : Holds (Is (PtrV bk12)) (a167.eval (.tmp 4)) w198 := is_any hv181
        have hb207 : Blk bk12 _ w198 := hb182.only ho199 (by omega)
        have hv208 : Holds (Is (PtrV bk189)) (a167.eval (.tmp 12)) w198 := is_any hv191
        have hv209 : Holds (Is (PtrV bk193)) (a167.eval (.tmp 13)) w198 := is_any hv195
        have hb210 : Blk bk193 _ w198 := hb196.only ho199 (by omega)
        refine wl_store_nm hv209 hb210 rfl h205 ?_
        intro w211 ho212 hb213
        have g214 : Grow w0 w211 := g201.only ho212 (by omega)
        have g215 : Grow w48 w211 := g202.only ho212 (by omega)
        have g216 : Grow w79 w211 := g203.only ho212 (by omega)
        have g217 : Grow w144 w211 := g204.only ho212 (by omega)
        have hv218 : Holds (Is (PtrV bk12)) (a167.eval (.tmp 4)) w211 := is_any hv206
        have hb219 : Blk bk12 _ w211 := hb207.only ho212 (by omega)
        have hv220 : Holds (Is (PtrV bk189)) (a167.eval (.tmp 12)) w211 := is_any hv208
        have hb221 : Blk bk189 _ w211 := hb200.only ho212 (by omega)
        have hv222 : Holds (Is (PtrV bk193)) (a167.eval (.tmp 13)) w211 := is_any hv209
        refine wpList_nil ?_
        refine then_ ?_
        refine wp_seq ?_
        refine wp_seq ?_
        refine wp_region_lit ?_
        refine wp_all [([1], []), ([9], []), ([], [0, 1])] [1, 2, 3, 4, 9, 12, 13] w144.heap.size hf169 g217.size (by kernel_rfl) (bund_cons (is_any h178) (bund_cons (is_any h177) bund_nil)) ?_
        refine ch rfl (ob_move (arg_free 0 rfl rfl)) ?_
        refine ch rfl (ob_move (arg_free 1 rfl rfl)) ?_
        refine ch rfl (ob_lss (arg_op 0 1 rfl rfl rfl rfl) (arg_op 1 0 rfl rfl rfl rfl)) ?_
        refine ch_nil ?_
        intro a223 w224 hf225 hg226 hk227 hn228
        have h229 : Holds _ (a223.eval (.tmp 39)) w224 := hn228.at 2 0 rfl rfl rfl
        have h230 : Holds _ (a223.eval (.tmp 9)) w79 := hk227.holds rfl h177
        have h231 : Holds _ (a223.eval (.tmp 1)) w0 := hk227.holds rfl h178
        have h232 : Holds _ (a223.eval (.tmp 2)) w0 := hk227.holds rfl h179
        have h233 : Holds _ (a223.eval (.tmp 3)) w0 := hk227.holds rfl h180
        have hv234 : Holds (Is (PtrV bk12)) (a223.eval (.tmp 4)) w224 := is_any (hk227.holds rfl hv218)
        have hb235 : Blk bk12 _ w224 := hb219.up hg226
        have hv236 : Holds (Is (PtrV bk189)) (a223.eval (.tmp 12)) w224 := is_any (hk227.holds rfl hv220)
        have hb237 : Blk bk189 _ w224 := hb221.up hg226
        have hv238 : Holds (Is (PtrV bk193)) (a223.eval (.tmp 13)) w224 := is_any (hk227.holds rfl hv222)
        have hb239 : Blk bk193 _ w224 := hb213.up hg226
        have g240 : Grow w0 w224 := g214.trans hg226
        have g241 : Grow w48 w224 := g215.trans hg226
        have g242 : Grow w79 w224 := g216.trans hg226
        have g243 : Grow w144 w224 := g217.trans hg226
        clear h177 h178 h179 h180 hv218 hb219 hv220 hb221 hv222 hb213 g214 g215 g216 g217 hf169 hk227 hn228 hg226
        refine then_ ?_
        refine wp_if h229 ?_ ?_
        · intro hc244
          try simp only [cond_norm] at hc244
          refine wp_seq ?_
          have g245 : Grow w224 w224 := Grow.refl _
          have hl246 : bk12 < w224.heap.size := hb235.lt
          have hl247 : bk189 < w224.heap.size := hb237.lt
          have hl248 : bk193 < w224.heap.size := hb239.lt
          have hz249 : w144.heap.size ≤ w224.heap.size := g243.size
          refine wp_calm [0, 0, 0, 0, 0, 16, 48, 120, 255, 511] [([4], []), ([1], []), ([9], []), ([3], []), ([3], []), ([], [4]), ([], [5]), ([], [3, 6]), ([], [0, 1, 2, 7]), ([], [8])] [12, 13] w224.heap.size hf225 g245.size (by kernel_rfl) (bund_cons (hb235.ownp hv234) (bund_cons (is_any h231) (bund_cons (is_any h230) (bund_cons (is_any h233) bund_nil)))) ?_
          intro ws250 hs251
          refine ch rfl (ob_load_nm (ArgOK.ownp (arg_free 0 rfl rfl))) ?_
          refine ch rfl (ob_move (arg_free 1 rfl rfl)) ?_
          refine ch rfl (ob_move (arg_free 2 rfl rfl)) ?_
          refine ch rfl (ob_move (arg_free 3 rfl rfl)) ?_
          refine ch rfl (ob_move (arg_free 3 rfl rfl)) ?_
          refine ch rfl (ob_len (ArgOK.val (arg_op 4 0 rfl rfl rfl rfl) ((hv3.up g240).up hs251)) Try.underlying39) ?_
          first
            | (refine ch rfl (ob_sub' (arg_op 5 0 rfl rfl rfl rfl) arg_c ?_) ?_; · omega)
            | refine ch rfl (ob_sub (arg_op 5 0 rfl rfl rfl rfl) arg_c) ?_
          refine ch rfl (ob_slice_to (ArgOK.val (arg_op 3 3 rfl rfl rfl rfl) ((hv3.up g240).up hs251)) (arg_op 6 0 rfl rfl rfl rfl) ((show ((p.length : Int) - 1) = ((p.length - 1 : Nat) : Int) by omega)) ?_ Try.underlying39 szNm) ?_
          · omega
          refine ch rfl (ob_call4 (by kernel_rfl) (ih i (split n) _ _ _ ?_ ?_ ?_ ?_ ?_ ?_) (arg_op 0 7 rfl rfl rfl rfl) (arg_op 1 6 rfl rfl rfl rfl) (arg_op 2 5 rfl rfl rfl rfl) (arg_op 7 0 rfl rfl rfl rfl)) ?_
          · omega
          · omega
          · omega
          · (have hq := dep_left (i := i) (n := n) (by omega) (by omega); rw [List.length_take]; omega)
          · omega
          · omega
          refine ch rfl (ob_assign (arg_op 8 0 rfl rfl rfl rfl)) ?_
          refine ch_nil ?_
          intro a252 w253 hf254 hg255 hk256 hn257
          have h258 : Holds (OwnS w224.heap.size _ _) (a252.eval (.tmp 11)) w253 := hn257.at 9 0 rfl rfl rfl
          have hv259 : Holds (Is (PtrV bk189)) (a252.eval (.tmp 12)) w253 := is_any (hk256.holds rfl hv236)
          have hb260 : Blk bk189 _ w253 := hb237.up hg255
          have hv261 : Holds (Is (PtrV bk193)) (a252.eval (.tmp 13)) w253 := is_any (hk256.holds rfl hv238)
          have hb262 : Blk bk193 _ w253 := hb239.up hg255
          have g263 : Grow w0 w253 := g240.trans hg255
          have g264 : Grow w48 w253 := g241.trans hg255
          have g265 : Grow w79 w253 := g242.trans hg255
          have g266 : Grow w144 w253 := g243.trans hg255
          have g267 : Grow w224 w253 := g245.trans hg255
          clear hv236 hb237 hv238 hb239 g240 g241 g242 g243 g245 hf225 hk256 hn257
          obtain ⟨V268, h269, hV270⟩ := nameV h258
          clear h258
          refine then_ ?_
          have hge := climb_ge x i (split n) (p.take (p.length - 1))
          have hcl := climb_len (split n) x i (split n) (p.take (p.length - 1)) (Nat.le_refl _)
          have hdl := dep_left (i := i) (n := n) (by omega) (by omega)
          have g271 : Grow w253 w253 := Grow.refl _
          have hl272 : bk189 < w253.heap.size := hb260.lt
          have hl273 : bk193 < w253.heap.size := hb262.lt
          have hz274 : w224.heap.size ≤ w253.heap.size := g267.size
          refine wp_region_lit ?_
          refine wp_seg (l1 := [_, _, _, _, _, _, _]) [([11], []), ([11], []), ([], [1]), ([], [2]), ([], [0, 3]), ([], [4]), ([], [5])] [11, 12, 13] w253.heap.size hf254 g271.size (by kernel_rfl) (bund_cons h269 bund_nil) ?_
          refine ch rfl (ob_move (arg_free 0 rfl rfl)) ?_
          refine ch rfl (ob_move (arg_free 0 rfl rfl)) ?_
          refine ch rfl (ob_len (ArgOK.sl (ArgOK.val (arg_op 1 0 rfl rfl rfl rfl) hV270)) Try.underlying66) ?_
          first
            | (refine ch rfl (ob_sub' (arg_op 2 0 rfl rfl rfl rfl) arg_c ?_) ?_; · omega)
            | refine ch rfl (ob_sub (arg_op 2 0 rfl rfl rfl rfl) arg_c) ?_
          refine ch rfl (ob_ix (ArgOK.sl (ArgOK.val (arg_op 0 3 rfl rfl rfl rfl) hV270)) (arg_op 3 0 rfl rfl rfl rfl) ((show (((climb x i (split n) (p.take (p.length - 1))).length : Int) - 1) = (((climb x i (split n) (p.take (p.length - 1))).length - 1 : Nat) : Int) by omega)) ?_ Try.underlying66 szStep) ?_
          · omega
          refine ch rfl (ob_fa_step1 (arg_op 4 0 rfl rfl rfl rfl)) ?_
          refine ch rfl (ob_load_nm (arg_op 5 0 rfl rfl rfl rfl)) ?_
          refine ch_nil ?_
          intro a275 w276 hf277 hg278 hk279 hn280
          have h281 : Holds _ (a275.eval (.tmp 55)) w276 := hn280.at 6 0 rfl rfl rfl
          have h282 : Holds _ (a275.eval (.tmp 11)) w253 := hk279.holds rfl h269
          have hv283 : Holds (Is (PtrV bk189)) (a275.eval (.tmp 12)) w276 := is_any (hk279.holds rfl hv259)
          have hb284 : Blk bk189 _ w276 := hb260.up hg278
          have hv285 : Holds (Is (PtrV bk193)) (a275.eval (.tmp 13)) w276 := is_any (hk279.holds rfl hv261)
          have hb286 : Blk bk193 _ w276 := hb262.up hg278
          have g287 : Grow w0 w276 := g263.trans hg278
          have g288 : Grow w48 w276 := g264.trans hg278
          have g289 : Grow w79 w276 := g265.trans hg278
          have g290 : Grow w144 w276 := g266.trans hg278
          have g291 : Grow w224 w276 := g267.trans hg278
          have g292 : Grow w253 w276 := g271.trans hg278
          clear h269 hv259 hb260 hv261 hb262 g263 g264 g265 g266 g267 g271 hf254 hk279 hn280
          refine wl_store_nm hv283 hb284 rfl h281 ?_
          intro w293 ho294 hb295
          have g296 : Grow w0 w293 := g287.only ho294 (by omega)
          have g297 : Grow w48 w293 := g288.only ho294 (by omega)
          have g298 : Grow w79 w293 := g289.only ho294 (by omega)
          have g299 : Grow w144 w293 := g290.only ho294 (by omega)
          have h300 : Holds _ (a275.eval (.tmp 11)) w293 := is_any h282
          have hv301 : Holds (Is (PtrV bk189)) (a275.eval (.tmp 12)) w293 := is_any hv283
          have hv302 : Holds (Is (PtrV bk193)) (a275.eval (.tmp 13)) w293 := is_any hv285
          have hb303 : Blk bk193 _ w293 := hb286.only ho294 (by omega)
          have hV304 : Holds (OwnS w144.heap.size _ _) V268 w293 := OwnS.mono (OwnS.only (hV270.up g292) ho294 (by omega)) (by omega)
          refine wpList_nil ?_
          refine then_ ?_
          refine wp_seq ?_
          have hb305 : Blk bk189 (nmCells (comp x i (split n) (p.take (p.length - 1)))) w293 := (congrArg (fun x => Blk bk189 (nmCells x) w293) (climb_top _ _ _ _)).mp hb295
          have g306 : Grow w293 w293 := Grow.refl _
          have hl307 : bk189 < w293.heap.size := hb305.lt
          have hl308 : bk193 < w293.heap.size := hb303.lt
          have hz309 : w144.heap.size ≤ w293.heap.size := g299.size
          refine wp_calm_tail (l1 := [_, _, _, _, _, _, _, _, _, _, _]) [0, 0, 2, 0, 8, 30, 0, 0, 192, 510, 1022, 2047, 4095] [([11], []), ([12], []), ([], [1]), ([13], []), ([], [3]), ([], [2, 4]), ([12], []), ([13], []), ([], [6, 7]), ([], [5, 8]), ([], [9])] [] w293.heap.size hf277 g306.size (by kernel_rfl) (bund_cons h300 (bund_cons (hb305.ownp hv301) (bund_cons (hb303.ownp hv302) bund_nil))) ?_
          intro ws310 hs311
          refine ch rfl (ob_move (arg_free 0 rfl rfl)) ?_
          refine ch rfl (ob_slice_nmF (ArgOK.ownp (arg_free 1 rfl rfl))) ?_
          refine ch rfl (ob_b2s (ArgOK.fsl (arg_op 1 0 rfl rfl rfl rfl)) Try.underlying34 Try.underlying9) ?_
          refine ch rfl (ob_slice_nmF (ArgOK.ownp (arg_free 2 rfl rfl))) ?_
          refine ch rfl (ob_b2s (ArgOK.fsl (arg_op 3 0 rfl rfl rfl rfl)) Try.underlying34 Try.underlying9) ?_
          refine ch rfl (ob_add_str (arg_op 2 2 rfl rfl rfl rfl) (arg_op 4 0 rfl rfl rfl rfl) ?_) ?_
          · ((try simp only [List.length_append, List.length_cons, List.length_nil, nmBytes_len, elByte, elNm, elInt, maxLen]); omega)
          refine ch rfl (ob_load_nm (ArgOK.ownp (arg_free 1 rfl rfl))) ?_
          refine ch rfl (ob_load_nm (ArgOK.ownp (arg_free 2 rfl rfl))) ?_
          refine ch rfl (ob_call3 (by kernel_rfl) (c_rPair) (arg_cb 18 rfl) (arg_op 6 1 rfl rfl rfl rfl) (arg_op 7 0 rfl rfl rfl rfl)) ?_
          refine ch rfl (ob_build_step (arg_op 5 3 rfl rfl rfl rfl) (arg_op 8 0 rfl rfl rfl rfl)) ?_
          refine ch rfl (ob_bs1_step (arg_op 9 0 rfl rfl rfl rfl)) ?_
          refine ch_nil ?_
          intro a312 w313 hf314 hg315 hk316 hn317
          have h318 : Holds _ (a312.eval (.tmp 76)) w313 := hn317.at 0 10 rfl rfl rfl
          have h319 : Holds (OwnF w293.heap.size _ _) (a312.eval (.tmp 86)) w313 := hn317.at 10 0 rfl rfl rfl
          have g320 : Grow w0 w313 := g296.trans hg315
          have g321 : Grow w48 w313 := g297.trans hg315
          have g322 : Grow w79 w313 := g298.trans hg315
          have g323 : Grow w144 w313 := g299.trans hg315
          have g324 : Grow w293 w313 := g306.trans hg315
          clear g296 g297 g298 g299 g306 hf277 hk316 hn317
          obtain ⟨V325, h326, hV327⟩ := nameV h319
          clear h319
          refine wl_appendW elStepP [] hf314 (by kernel_rfl) rfl Try.underlying66 (unV h318 (hV304.up g324)) (OwnS.sl (OwnF.own (unV h326 hV327))) ?_ ?_ g323.size ?_
          · (simp only [List.length_cons, List.length_nil, maxLen]; omega)
          · (simp only [List.length_cons, List.length_nil, elStep]; omega)
          intro a328 w329 hf330 hw331 hk332 h333
          have g334 : Grow w0 w329 := g320.wr hw331 (by omega)
          have g335 : Grow w48 w329 := g321.wr hw331 (by omega)
          have g336 : Grow w79 w329 := g322.wr hw331 (by omega)
          have g337 : Grow w144 w329 := g323.wr hw331 (by omega)
          obtain ⟨V338, h339, hV340⟩ := nameV h333
          clear h333
          refine wp_all [([87], [])] [] w144.heap.size hf330 g337.size (by kernel_rfl) (bund_cons h339 bund_nil) ?_
          refine ch rfl (ob_assign (arg_free 0 rfl rfl)) ?_
          refine ch_nil ?_
          intro a341 w342 hf343 hg344 hk345 hn346
          have h347 : Holds _ (a341.eval (.tmp 8)) w342 := hn346.at 0 0 rfl rfl rfl
          have g348 : Grow w0 w342 := g334.trans hg344
          have g349 : Grow w48 w342 := g335.trans hg344
          have g350 : Grow w79 w342 := g336.trans hg344
          have g351 : Grow w144 w342 := g337.trans hg344
          have hV352 : Holds _ V338 w342 := hV340.up hg344
          clear g334 g335 g336 g337 hf330 hk345 hn346 hg344 hV340
          refine then_ ?_
          refine wp_ret ?_
          exact ret_tmp rfl hf343 g348 (OwnS.mono (cast_own (by first | exact (climb_one x i p (by omega)).symm | exact climb_l x p (by omega) (by omega) | exact climb_r x p (by omega) (by omega)) (unV h347 hV352)) (by omega))
        · intro hc244
          try simp only [cond_norm] at hc244
          refine wp_seq ?_
          have g353 : Grow w224 w224 := Grow.refl _
          have hl354 : bk12 < w224.heap.size := hb235.lt
          have hl355 : bk189 < w224.heap.size := hb237.lt
          have hl356 : bk193 < w224.heap.size := hb239.lt
          have hz357 : w144.heap.size ≤ w224.heap.size := g243.size
          refine wp_calm [0, 0, 0, 6, 0, 0, 48, 0, 0, 256, 768, 1920, 4095, 8191] [([4], []), ([1], []), ([9], []), ([], [1, 2]), ([2], []), ([9], []), ([], [4, 5]), ([3], []), ([3], []), ([], [8]), ([], [9]), ([], [7, 10]), ([], [0, 3, 6, 11]), ([], [12])] [12, 13] w224.heap.size hf225 g353.size (by kernel_rfl) (bund_cons (hb235.ownp hv234) (bund_cons (is_any h231) (bund_cons (is_any h230) (bund_cons (is_any h232) (bund_cons (is_any h233) bund_nil))))) ?_
          intro ws358 hs359
          refine ch rfl (ob_load_nm (ArgOK.ownp (arg_free 0 rfl rfl))) ?_
          refine ch rfl (ob_move (arg_free 1 rfl rfl)) ?_
          refine ch rfl (ob_move (arg_free 2 rfl rfl)) ?_
          first
            | (refine ch rfl (ob_sub' (arg_op 1 1 rfl rfl rfl rfl) (arg_op 2 0 rfl rfl rfl rfl) ?_) ?_; · omega)
            | refine ch rfl (ob_sub (arg_op 1 1 rfl rfl rfl rfl) (arg_op 2 0 rfl rfl rfl rfl)) ?_
          refine ch rfl (ob_move (arg_free 3 rfl rfl)) ?_
          refine ch rfl (ob_move (arg_free 2 rfl rfl)) ?_
          first
            | (refine ch rfl (ob_sub' (arg_op 4 1 rfl rfl rfl rfl) (arg_op 5 0 rfl rfl rfl rfl) ?_) ?_; · omega)
            | refine ch rfl (ob_sub (arg_op 4 1 rfl rfl rfl rfl) (arg_op 5 0 rfl rfl rfl rfl)) ?_
          refine ch rfl (ob_move (arg_free 4 rfl rfl)) ?_
          refine ch rfl (ob_move (arg_free 4 rfl rfl)) ?_
          refine ch rfl (ob_len (ArgOK.val (arg_op 8 0 rfl rfl rfl rfl) ((hv3.up g240).up hs359)) Try.underlying39) ?_
          first
            | (refine ch rfl (ob_sub' (arg_op 9 0 rfl rfl rfl rfl) arg_c ?_) ?_; · omega)
            | refine ch rfl (ob_sub (arg_op 9 0 rfl rfl rfl rfl) arg_c) ?_
          refine ch rfl (ob_slice_to (ArgOK.val (arg_op 7 3 rfl rfl rfl rfl) ((hv3.up g240).up hs359)) (arg_op 10 0 rfl rfl rfl rfl) ((show ((p.length : Int) - 1) = ((p.length - 1 : Nat) : Int) by omega)) ?_ Try.underlying39 szNm) ?_
          · omega
          refine ch rfl (ob_call4 (by kernel_rfl) (ih (i - split n) ((n - split n)) _ _ _ ?_ ?_ ?_ ?_ ?_ ?_) (arg_op 0 11 rfl rfl rfl rfl) (arg_op 3 8 rfl rfl rfl rfl) (arg_op 6 5 rfl rfl rfl rfl) (arg_op 11 0 rfl rfl rfl rfl)) ?_
          · omega
          · omega
          · omega
          · (have hq := dep_right (i := i) (n := n) (by omega) (by omega); rw [List.length_take]; omega)
          · omega
          · omega
          refine ch rfl (ob_assign (arg_op 12 0 rfl rfl rfl rfl)) ?_
          refine ch_nil ?_
          intro a360 w361 hf362 hg363 hk364 hn365
          have h366 : Holds (OwnS w224.heap.size _ _) (a360.eval (.tmp 11)) w361 := hn365.at 13 0 rfl rfl rfl
          have hv367 : Holds (Is (PtrV bk189)) (a360.eval (.tmp 12)) w361 := is_any (hk364.holds rfl hv236)
          have hb368 : Blk bk189 _ w361 := hb237.up hg363
          have hv369 : Holds (Is (PtrV bk193)) (a360.eval (.tmp 13)) w361 := is_any (hk364.holds rfl hv238)
          have hb370 : Blk bk193 _ w361 := hb239.up hg363
          have g371 : Grow w0 w361 := g240.trans hg363
          have g372 : Grow w48 w361 := g241.trans hg363
          have g373 : Grow w79 w361 := g242.trans hg363
          have g374 : Grow w144 w361 := g243.trans hg363
          have g375 : Grow w224 w361 := g353.trans hg363
          clear hv236 hb237 hv238 hb239 g240 g241 g242 g243 g353 hf225 hk364 hn365
          obtain ⟨V376, h377, hV378⟩ := nameV h366
          clear h366
          refine then_ ?_
          have hge := climb_ge x (i - split n) (n - split n) (p.take (p.length - 1))
          have hcl := climb_len (n - split n) x (i - split n) (n - split n) (p.take (p.length - 1)) (Nat.le_refl _)
          have hdl := dep_right (i := i) (n := n) (by omega) (by omega)
          have g379 : Grow w361 w361 := Grow.refl _
          have hl380 : bk189 < w361.heap.size := hb368.lt
          have hl381 : bk193 < w361.heap.size := hb370.lt
          have hz382 : w224.heap.size ≤ w361.heap.size := g375.size
          refine wp_region_lit ?_
          refine wp_seg (l1 := [_, _, _, _, _, _, _]) [([11], []), ([11], []), ([], [1]), ([], [2]), ([], [0, 3]), ([], [4]), ([], [5])] [11, 12, 13] w361.heap.size hf362 g379.size (by kernel_rfl) (bund_cons h377 bund_nil) ?_
          refine ch rfl (ob_move (arg_free 0 rfl rfl)) ?_
          refine ch rfl (ob_move (arg_free 0 rfl rfl)) ?_
          refine ch rfl (ob_len (ArgOK.sl (ArgOK.val (arg_op 1 0 rfl rfl rfl rfl) hV378)) Try.underlying66) ?_
          first
            | (refine ch rfl (ob_sub' (arg_op 2 0 rfl rfl rfl rfl) arg_c ?_) ?_; · omega)
            | refine ch rfl (ob_sub (arg_op 2 0 rfl rfl rfl rfl) arg_c) ?_
          refine ch rfl (ob_ix (ArgOK.sl (ArgOK.val (arg_op 0 3 rfl rfl rfl rfl) hV378)) (arg_op 3 0 rfl rfl rfl rfl) ((show (((climb x (i - split n) (n - split n) (p.take (p.length - 1))).length : Int) - 1) = (((climb x (i - split n) (n - split n) (p.take (p.length - 1))).length - 1 : Nat) : Int) by omega)) ?_ Try.underlying66 szStep) ?_
          · omega
          refine ch rfl (ob_fa_step1 (arg_op 4 0 rfl rfl rfl rfl)) ?_
          refine ch rfl (ob_load_nm (arg_op 5 0 rfl rfl rfl rfl)) ?_
          refine ch_nil ?_
          intro a383 w384 hf385 hg386 hk387 hn388
          have h389 : Holds _ (a383.eval (.tmp 75)) w384 := hn388.at 6 0 rfl rfl rfl
          have h390 : Holds _ (a383.eval (.tmp 11)) w361 := hk387.holds rfl h377
          have hv391 : Holds (Is (PtrV bk189)) (a383.eval (.tmp 12)) w384 := is_any (hk387.holds rfl hv367)
          have hb392 : Blk bk189 _ w384 := hb368.up hg386
          have hv393 : Holds (Is (PtrV bk193)) (a383.eval (.tmp 13)) w384 := is_any (hk387.holds rfl hv369)
          have hb394 : Blk bk193 _ w384 := hb370.up hg386
          have g395 : Grow w0 w384 := g371.trans hg386
          have g396 : Grow w48 w384 := g372.trans hg386
          have g397 : Grow w79 w384 := g373.trans hg386
          have g398 : Grow w144 w384 := g374.trans hg386
          have g399 : Grow w224 w384 := g375.trans hg386
          have g400 : Grow w361 w384 := g379.trans hg386
          clear h377 hv367 hb368 hv369 hb370 g371 g372 g373 g374 g375 g379 hf362 hk387 hn388
          refine wl_store_nm hv393 hb394 rfl h389 ?_
          intro w401 ho402 hb403
          have g404 : Grow w0 w401 := g395.only ho402 (by omega)
          have g405 : Grow w48 w401 := g396.only ho402 (by omega)
          have g406 : Grow w79 w401 := g397.only ho402 (by omega)
          have g407 : Grow w144 w401 := g398.only ho402 (by omega)
          have h408 : Holds _ (a383.eval (.tmp 11)) w401 := is_any h390
          have hv409 : Holds (Is (PtrV bk189)) (a383.eval (.tmp 12)) w401 := is_any hv391
          have hb410 : Blk bk189 _ w401 := hb392.only ho402 (by omega)
          have hv411 : Holds (Is (PtrV bk193)) (a383.eval (.tmp 13)) w401 := is_any hv393
          have hV412 : Holds (OwnS w144.heap.size _ _) V376 w401 := OwnS.mono (OwnS.only (hV378.up g400) ho402 (by omega)) (by omega)
          refine wpList_nil ?_
          refine then_ ?_
          refine wp_seq ?_
          have hb413 : Blk bk193 (nmCells (comp x (i - split n) (n - split n) (p.take (p.length - 1)))) w401 := (congrArg (fun x => Blk bk193 (nmCells x) w401) (climb_top _ _ _ _)).mp hb403
          have g414 : Grow w401 w401 := Grow.refl _
          have hl415 : bk189 < w401.heap.size := hb410.lt
          have hl416 : bk193 < w401.heap.size := hb413.lt
          have hz417 : w144.heap.size ≤ w401.heap.size := g407.size
          refine wp_calm_tail (l1 := [_, _, _, _, _, _, _, _, _, _, _]) [0, 0, 2, 0, 8, 30, 0, 0, 192, 510, 1022, 2047, 4095] [([11], []), ([12], []), ([], [1]), ([13], []), ([], [3]), ([], [2, 4]), ([12], []), ([13], []), ([], [6, 7]), ([], [5, 8]), ([], [9])] [] w401.heap.size hf385 g414.size (by kernel_rfl) (bund_cons h408 (bund_cons (hb410.ownp hv409) (bund_cons (hb413.ownp hv411) bund_nil))) ?_
          intro ws418 hs419
          refine ch rfl (ob_move (arg_free 0 rfl rfl)) ?_
          refine ch rfl (ob_slice_nmF (ArgOK.ownp (arg_free 1 rfl rfl))) ?_
          refine ch rfl (ob_b2s (ArgOK.fsl (arg_op 1 0 rfl rfl rfl rfl)) Try.underlying34 Try.underlying9) ?_
          refine ch rfl (ob_slice_nmF (ArgOK.ownp (arg_free 2 rfl rfl))) ?_
          refine ch rfl (ob_b2s (ArgOK.fsl (arg_op 3 0 rfl rfl rfl rfl)) Try.underlying34 Try.underlying9) ?_
          refine ch rfl (ob_add_str (arg_op 2 2 rfl rfl rfl rfl) (arg_op 4 0 rfl rfl rfl rfl) ?_) ?_
          · ((try simp only [List.length_append, List.length_cons, List.length_nil, nmBytes_len, elByte, elNm, elInt, maxLen]); omega)
          refine ch rfl (ob_load_nm (ArgOK.ownp (arg_free 1 rfl rfl))) ?_
          refine ch rfl (ob_load_nm (ArgOK.ownp (arg_free 2 rfl rfl))) ?_
          refine ch rfl (ob_call3 (by kernel_rfl) (c_rPair) (arg_cb 18 rfl) (arg_op 6 1 rfl rfl rfl rfl) (arg_op 7 0 rfl rfl rfl rfl)) ?_
          refine ch rfl (ob_build_step (arg_op 5 3 rfl rfl rfl rfl) (arg_op 8 0 rfl rfl rfl rfl)) ?_
          refine ch rfl (ob_bs1_step (arg_op 9 0 rfl rfl rfl rfl)) ?_
          refine ch_nil ?_
          intro a420 w421 hf422 hg423 hk424 hn425
          have h426 : Holds _ (a420.eval (.tmp 76)) w421 := hn425.at 0 10 rfl rfl rfl
          have h427 : Holds (OwnF w401.heap.size _ _) (a420.eval (.tmp 86)) w421 := hn425.at 10 0 rfl rfl rfl
          have g428 : Grow w0 w421 := g404.trans hg423
          have g429 : Grow w48 w421 := g405.trans hg423
          have g430 : Grow w79 w421 := g406.trans hg423
          have g431 : Grow w144 w421 := g407.trans hg423
          have g432 : Grow w401 w421 := g414.trans hg423
          clear g404 g405 g406 g407 g414 hf385 hk424 hn425
          obtain ⟨V433, h434, hV435⟩ := nameV h427
          clear h427
          refine wl_appendW elStepP [] hf422 (by kernel_rfl) rfl Try.underlying66 (unV h426 (hV412.up g432)) (OwnS.sl (OwnF.own (unV h434 hV435))) ?_ ?_ g431.size ?_
          · (simp only [List.length_cons, List.length_nil, maxLen]; omega)
          · (simp only [List.length_cons, List.length_nil, elStep]; omega)
          intro a436 w437 hf438 hw439 hk440 h441
          have g442 : Grow w0 w437 := g428.wr hw439 (by omega)
          have g443 : Grow w48 w437 := g429.wr hw439 (by omega)
          have g444 : Grow w79 w437 := g430.wr hw439 (by omega)
          have g445 : Grow w144 w437 := g431.wr hw439 (by omega)
          obtain ⟨V446, h447, hV448⟩ := nameV h441
          clear h441
          refine wp_all [([87], [])] [] w144.heap.size hf438 g445.size (by kernel_rfl) (bund_cons h447 bund_nil) ?_
          refine ch rfl (ob_assign (arg_free 0 rfl rfl)) ?_
          refine ch_nil ?_
          intro a449 w450 hf451 hg452 hk453 hn454
          have h455 : Holds _ (a449.eval (.tmp 8)) w450 := hn454.at 0 0 rfl rfl rfl
          have g456 : Grow w0 w450 := g442.trans hg452
          have g457 : Grow w48 w450 := g443.trans hg452
          have g458 : Grow w79 w450 := g444.trans hg452
          have g459 : Grow w144 w450 := g445.trans hg452
          have hV460 : Holds _ V446 w450 := hV448.up hg452
          clear g442 g443 g444 g445 hf438 hk453 hn454 hg452 hV448
          refine then_ ?_
          refine wp_ret ?_
          exact ret_tmp rfl hf451 g456 (OwnS.mono (cast_own (by first | exact (climb_one x i p (by omega)).symm | exact climb_l x p (by omega) (by omega) | exact climb_r x p (by omega) (by omega)) (unV h455 hV460)) (by omega))
      · intro dd hdd
        obtain rfl := Option.some.inj hdd
        intro a462 w463 hf464 hg465 hk466 hn467 hap461
        have h468 : Holds _ (a462.eval (.tmp 35)) w463 := hn467.at 0 3 rfl rfl rfl
        have h469 : Holds _ (a462.eval (.tmp 12)) w463 := hn467.at 2 1 rfl rfl rfl
        have h470 : Holds _ (a462.eval (.tmp 13)) w463 := hn467.at 3 0 rfl rfl rfl
        have h471 : Holds _ (a462.eval (.tmp 9)) w79 := hk466.holds rfl h149
        have h472 : Holds _ (a462.eval (.tmp 1)) w0 := hk466.holds rfl h150
        have h473 : Holds _ (a462.eval (.tmp 2)) w0 := hk466.holds rfl h151
        have h474 : Holds _ (a462.eval (.tmp 3)) w0 := hk466.holds rfl h152
        have hv475 : Holds (Is (PtrV bk12)) (a462.eval (.tmp 4)) w463 := is_any (hk466.holds rfl hv153)
        have hb476 : Blk bk12 _ w463 := hb154.up hg465
        have hv477 : Holds (Is (PtrV bk130)) (a462.eval (.tmp 10)) w463 := is_any (hk466.holds rfl hv155)
        have hb478 : Blk bk130 _ w463 := hb156.up hg465
        have g479 : Grow w0 w463 := g157.trans hg465
        have g480 : Grow w48 w463 := g158.trans hg465
        have g481 : Grow w79 w463 := g159.trans hg465
        have g482 : Grow w144 w463 := g160.trans hg465
        obtain ⟨bk483, hl484, hv485, hb486⟩ := OwnB.blk (lo := w144.heap.size) h469
        obtain ⟨bk487, hl488, hv489, hb490⟩ := OwnB.blk (lo := w144.heap.size) h470
        have hne491 : bk483 ≠ bk487 := Apart.at (hap461 rfl) 2 3 rfl rfl rfl rfl rfl hv485 hv489
        clear h149 h150 h151 h152 hv153 hb154 hv155 hb156 g157 g158 g159 g160 hf145 hk466 hn467
        refine wl_store_nm hv485 hb486 rfl h468 ?_
        intro w492 ho493 hb494
        have g495 : Grow w0 w492 := g479.only ho493 (by omega)
        have g496 : Grow w48 w492 := g480.only ho493 (by omega)
        have g497 : Grow w79 w492 := g481.only ho493 (by omega)
        have g498 : Grow w144 w492 := g482.only ho493 (by omega)
        have hv499 : Holds (Is (PtrV bk12)) (a462.eval (.tmp 4)) w492 := is_any hv475
        have hb500 : Blk bk12 _ w492 := hb476.only ho493 (by omega)
        have hv501 : Holds (Is (PtrV bk130)) (a462.eval (.tmp 10)) w492 := is_any hv477
        have hb502 : Blk bk130 _ w492 := hb478.only ho493 (by omega)
        have hv503 : Holds (Is (PtrV bk483)) (a462.eval (.tmp 12)) w492 := is_any hv485
        have hv504 : Holds (Is (PtrV bk487)) (a462.eval (.tmp 13)) w492 := is_any hv489
        have hb505 : Blk bk487 _ w492 := hb490.only ho493 (by omega)
        refine wp_seg (l1 := [_]) [([10], [])] [1, 2, 3, 4, 9, 12, 13] w144.heap.size hf464 g498.size (by kernel_rfl) (bund_cons (hb502.ownp hv501) bund_nil) ?_
        refine ch rfl (ob_load_nm (ArgOK.ownp (arg_free 0 rfl rfl))) ?_
        refine ch_nil ?_
        intro a506 w507 hf508 hg509 hk510 hn511
        have h512 : Holds _ (a506.eval (.tmp 36)) w507 := hn511.at 0 0 rfl rfl rfl
        have h513 : Holds _ (a506.eval (.tmp 9)) w79 := hk510.holds rfl h471
        have h514 : Holds _ (a506.eval (.tmp 1)) w0 := hk510.holds rfl h472
        have h515 : Holds _ (a506.eval (.tmp 2)) w0 := hk510.holds rfl h473
        have h516 : Holds _ (a506.eval (.tmp 3)) w0 := hk510.holds rfl h474
        have hv517 : Holds (Is (PtrV bk12)) (a506.eval (.tmp 4)) w507 := is_any (hk510.holds rfl hv499)
        have hb518 : Blk bk12 _ w507 := hb500.up hg509
        have hv519 : Holds (Is (PtrV bk483)) (a506.eval (.tmp 12)) w507 := is_any (hk510.holds rfl hv503)
        have hb520 : Blk bk483 _ w507 := hb494.up hg509
        have hv521 : Holds (Is (PtrV bk487)) (a506.eval (.tmp 13)) w507 := is_any (hk510.holds rfl hv504)
        have hb522 : Blk bk487 _ w507 := hb505.up hg509
        have g523 : Grow w0 w507 := g495.trans hg509
        have g524 : Grow w48 w507 := g496.trans hg509
        have g525 : Grow w79 w507 := g497.trans hg509
        have g526 : Grow w144 w507 := g498.trans hg509
        clear h471 h472 h473 h474 hv499 hb500 hv503 hb494 hv504 hb505 g495 g496 g497 g498 hf464 hk510 hn511 hg509
        refine wl_store_nm hv521 hb522 rfl h512 ?_
        intro w527 ho528 hb529
        have g530 : Grow w0 w527 := g523.only ho528 (by omega)
        have g531 : Grow w48 w527 := g524.only ho528 (by omega)
        have g532 : Grow w79 w527 := g525.only ho528 (by omega)
        have g533 : Grow w144 w527 := g526.only ho528 (by omega)
        have hv534 : Holds (Is (PtrV bk12)) (a506.eval (.tmp 4)) w527 := is_any hv517
        have hb535 : Blk bk12 _ w527 := hb518.only ho528 (by omega)
        have hv536 : Holds (Is (PtrV bk483)) (a506.eval (.tmp 12)) w527 := is_any hv519
        have hb537 : Blk bk483 _ w527 := hb520.only ho528 (by omega)
        have hv538 : Holds (Is (PtrV bk487)) (a506.eval (.tmp 13)) w527 := is_any hv521
        refine wpList_nil ?_
        refine then_ ?_
        refine wp_seq ?_
        refine wp_seq ?_
        refine wp_region_lit ?_
        refine wp_all [([1], []), ([9], []), ([], [0, 1])] [1, 2, 3, 4, 9, 12, 13] w144.heap.size hf508 g533.size (by kernel_rfl) (bund_cons (is_any h514) (bund_cons (is_any h513) bund_nil)) ?_
        refine ch rfl (ob_move (arg_free 0 rfl rfl)) ?_
        refine ch rfl (ob_move (arg_free 1 rfl rfl)) ?_
        refine ch rfl (ob_lss (arg_op 0 1 rfl rfl rfl rfl) (arg_op 1 0 rfl rfl rfl rfl)) ?_
        refine ch_nil ?_
        intro a539 w540 hf541 hg542 hk543 hn544
        have h545 : Holds _ (a539.eval (.tmp 39)) w540 := hn544.at 2 0 rfl rfl rfl
        have h546 : Holds _ (a539.eval (.tmp 9)) w79 := hk543.holds rfl h513
        have h547 : Holds _ (a539.eval (.tmp 1)) w0 := hk543.holds rfl h514
        have h548 : Holds _ (a539.eval (.tmp 2)) w0 := hk543.holds rfl h515
        have h549 : Holds _ (a539.eval (.tmp 3)) w0 := hk543.holds rfl h516
        have hv550 : Holds (Is (PtrV bk12)) (a539.eval (.tmp 4)) w540 := is_any (hk543.holds rfl hv534)
        have hb551 : Blk bk12 _ w540 := hb535.up hg542
        have hv552 : Holds (Is (PtrV bk483)) (a539.eval (.tmp 12)) w540 := is_any (hk543.holds rfl hv536)
        have hb553 : Blk bk483 _ w540 := hb537.up hg542
        have hv554 : Holds (Is (PtrV bk487)) (a539.eval (.tmp 13)) w540 := is_any (hk543.holds rfl hv538)
        have hb555 : Blk bk487 _ w540 := hb529.up hg542
        have g556 : Grow w0 w540 := g530.trans hg542
        have g557 : Grow w48 w540 := g531.trans hg542
        have g558 : Grow w79 w540 := g532.trans hg542
        have g559 : Grow w144 w540 := g533.trans hg542
        clear h513 h514 h515 h516 hv534 hb535 hv536 hb537 hv538 hb529 g530 g531 g532 g533 hf508 hk543 hn544 hg542
        refine then_ ?_
        refine wp_if h545 ?_ ?_
        · intro hc560
          try simp only [cond_norm] at hc560
          refine wp_seq ?_
          have g561 : Grow w540 w540 := Grow.refl _
          have hl562 : bk12 < w540.heap.size := hb551.lt
          have hl563 : bk483 < w540.heap.size := hb553.lt
          have hl564 : bk487 < w540.heap.size := hb555.lt
          have hz565 : w144.heap.size ≤ w540.heap.size := g559.size
          refine wp_calm [0, 0, 0, 0, 0, 16, 48, 120, 255, 511] [([4], []), ([1], []), ([9], []), ([3], []), ([3], []), ([], [4]), ([], [5]), ([], [3, 6]), ([], [0, 1, 2, 7]), ([], [8])] [12, 13] w540.heap.size hf541 g561.size (by kernel_rfl) (bund_cons (hb551.ownp hv550) (bund_cons (is_any h547) (bund_cons (is_any h546) (bund_cons (is_any h549) bund_nil)))) ?_
          intro ws566 hs567
          refine ch rfl (ob_load_nm (ArgOK.ownp (arg_free 0 rfl rfl))) ?_
          refine ch rfl (ob_move (arg_free 1 rfl rfl)) ?_
          refine ch rfl (ob_move (arg_free 2 rfl rfl)) ?_
          refine ch rfl (ob_move (arg_free 3 rfl rfl)) ?_
          refine ch rfl (ob_move (arg_free 3 rfl rfl)) ?_
          refine ch rfl (ob_len (ArgOK.val (arg_op 4 0 rfl rfl rfl rfl) ((hv3.up g556).up hs567)) Try.underlying39) ?_
          first
            | (refine ch rfl (ob_sub' (arg_op 5 0 rfl rfl rfl rfl) arg_c ?_) ?_; · omega)
            | refine ch rfl (ob_sub (arg_op 5 0 rfl rfl rfl rfl) arg_c) ?_
          refine ch rfl (ob_slice_to (ArgOK.val (arg_op 3 3 rfl rfl rfl rfl) ((hv3.up g556).up hs567)) (arg_op 6 0 rfl rfl rfl rfl) ((show ((p.length : Int) - 1) = ((p.length - 1 : Nat) : Int) by omega)) ?_ Try.underlying39 szNm) ?_
          · omega
          refine ch rfl (ob_call4 (by kernel_rfl) (ih i (split n) _ _ _ ?_ ?_ ?_ ?_ ?_ ?_) (arg_op 0 7 rfl rfl rfl rfl) (arg_op 1 6 rfl rfl rfl rfl) (arg_op 2 5 rfl rfl rfl rfl) (arg_op 7 0 rfl rfl rfl rfl)) ?_
          · omega
          · omega
          · omega
          · (have hq := dep_left (i := i) (n := n) (by omega) (by omega); rw [List.length_take]; omega)
          · omega
          · omega
          refine ch rfl (ob_assign (arg_op 8 0 rfl rfl rfl rfl)) ?_
          refine ch_nil ?_
          intro a568 w569 hf570 hg571 hk572 hn573
          have h574 : Holds (OwnS w540.heap.size _ _) (a568.eval (.tmp 11)) w569 := hn573.at 9 0 rfl rfl rfl
          have hv575 : Holds (Is (PtrV bk483)) (a568.eval (.tmp 12)) w569 := is_any (hk572.holds rfl hv552)
          have hb576 : Blk bk483 _ w569 := hb553.up hg571
          have hv577 : Holds (Is (PtrV bk487)) (a568.eval (.tmp 13)) w569 := is_any (hk572.holds rfl hv554)
          have hb578 : Blk bk487 _ w569 := hb555.up hg571
          have g579 : Grow w0 w569 := g556.trans hg571
          have g580 : Grow w48 w569 := g557.trans hg571
          have g581 : Grow w79 w569 := g558.trans hg571
          have g582 : Grow w144 w569 := g559.trans hg571
          have g583 : Grow w540 w569 := g561.trans hg571
          clear hv552 hb553 hv554 hb555 g556 g557 g558 g559 g561 hf541 hk572 hn573
          obtain ⟨V584, h585, hV586⟩ := nameV h574
          clear h574
          refine then_ ?_
          have hge := climb_ge x i (split n) (p.take (p.length - 1))
          have hcl := climb_len (split n) x i (split n) (p.take (p.length - 1)) (Nat.le_refl _)
          have hdl := dep_left (i := i) (n := n) (by omega) (by omega)
          have g587 : Grow w569 w569 := Grow.refl _
          have hl588 : bk483 < w569.heap.size := hb576.lt
          have hl589 : bk487 < w569.heap.size := hb578.lt
          have hz590 : w540.heap.size ≤ w569.heap.size := g583.size
          refine wp_region_lit ?_
          refine wp_seg (l1 := [_, _, _, _, _, _, _]) [([11], []), ([11], []), ([], [1]), ([], [2]), ([], [0, 3]), ([], [4]), ([], [5])] [11, 12, 13] w569.heap.size hf570 g587.size (by kernel_rfl) (bund_cons h585 bund_nil) ?_
          refine ch rfl (ob_move (arg_free 0 rfl rfl)) ?_
          refine ch rfl (ob_move (arg_free 0 rfl rfl)) ?_
          refine ch rfl (ob_len (ArgOK.sl (ArgOK.val (arg_op 1 0 rfl rfl rfl rfl) hV586)) Try.underlying66) ?_
          first
            | (refine ch rfl (ob_sub' (arg_op 2 0 rfl rfl rfl rfl) arg_c ?_) ?_; · omega)
            | refine ch rfl (ob_sub (arg_op 2 0 rfl rfl rfl rfl) arg_c) ?_
          refine ch rfl (ob_ix (ArgOK.sl (ArgOK.val (arg_op 0 3 rfl rfl rfl rfl) hV586)) (arg_op 3 0 rfl rfl rfl rfl) ((show (((climb x i (split n) (p.take (p.length - 1))).length : Int) - 1) = (((climb x i (split n) (p.take (p.length - 1))).length - 1 : Nat) : Int) by omega)) ?_ Try.underlying66 szStep) ?_
          · omega
          refine ch rfl (ob_fa_step1 (arg_op 4 0 rfl rfl rfl rfl)) ?_
          refine ch rfl (ob_load_nm (arg_op 5 0 rfl rfl rfl rfl)) ?_
          refine ch_nil ?_
          intro a591 w592 hf593 hg594 hk595 hn596
          have h597 : Holds _ (a591.eval (.tmp 55)) w592 := hn596.at 6 0 rfl rfl rfl
          have h598 : Holds _ (a591.eval (.tmp 11)) w569 := hk595.holds rfl h585
          have hv599 : Holds (Is (PtrV bk483)) (a591.eval (.tmp 12)) w592 := is_any (hk595.holds rfl hv575)
          have hb600 : Blk bk483 _ w592 := hb576.up hg594
          have hv601 : Holds (Is (PtrV bk487)) (a591.eval (.tmp 13)) w592 := is_any (hk595.holds rfl hv577)
          have hb602 : Blk bk487 _ w592 := hb578.up hg594
          have g603 : Grow w0 w592 := g579.trans hg594
          have g604 : Grow w48 w592 := g580.trans hg594
          have g605 : Grow w79 w592 := g581.trans hg594
          have g606 : Grow w144 w592 := g582.trans hg594
          have g607 : Grow w540 w592 := g583.trans hg594
          have g608 : Grow w569 w592 := g587.trans hg594
          clear h585 hv575 hb576 hv577 hb578 g579 g580 g581 g582 g583 g587 hf570 hk595 hn596
          refine wl_store_nm hv599 hb600 rfl h597 ?_
          intro w609 ho610 hb611
          have g612 : Grow w0 w609 := g603.only ho610 (by omega)
          have g613 : Grow w48 w609 := g604.only ho610 (by omega)
          have g614 : Grow w79 w609 := g605.only ho610 (by omega)
          have g615 : Grow w144 w609 := g606.only ho610 (by omega)
          have h616 : Holds _ (a591.eval (.tmp 11)) w609 := is_any h598
          have hv617 : Holds (Is (PtrV bk483)) (a591.eval (.tmp 12)) w609 := is_any hv599
          have hv618 : Holds (Is (PtrV bk487)) (a591.eval (.tmp 13)) w609 := is_any hv601
          have hb619 : Blk bk487 _ w609 := hb602.only ho610 (by omega)
          have hV620 : Holds (OwnS w144.heap.size _ _) V584 w609 := OwnS.mono (OwnS.only (hV586.up g608) ho610 (by omega)) (by omega)
          refine wpList_nil ?_
          refine then_ ?_
          refine wp_seq ?_
          have hb621 : Blk bk483 (nmCells (comp x i (split n) (p.take (p.length - 1)))) w609 := (congrArg (fun x => Blk bk483 (nmCells x) w609) (climb_top _ _ _ _)).mp hb611
          have g622 : Grow w609 w609 := Grow.refl _
          have hl623 : bk483 < w609.heap.size := hb621.lt
          have hl624 : bk487 < w609.heap.size := hb619.lt
          have hz625 : w144.heap.size ≤ w609.heap.size := g615.size
          refine wp_calm_tail (l1 := [_, _, _, _, _, _, _, _, _, _, _]) [0, 0, 2, 0, 8, 30, 0, 0, 192, 510, 1022, 2047, 4095] [([11], []), ([12], []), ([], [1]), ([13], []), ([], [3]), ([], [2, 4]), ([12], []), ([13], []), ([], [6, 7]), ([], [5, 8]), ([], [9])] [] w609.heap.size hf593 g622.size (by kernel_rfl) (bund_cons h616 (bund_cons (hb621.ownp hv617) (bund_cons (hb619.ownp hv618) bund_nil))) ?_
          intro ws626 hs627
          refine ch rfl (ob_move (arg_free 0 rfl rfl)) ?_
          refine ch rfl (ob_slice_nmF (ArgOK.ownp (arg_free 1 rfl rfl))) ?_
          refine ch rfl (ob_b2s (ArgOK.fsl (arg_op 1 0 rfl rfl rfl rfl)) Try.underlying34 Try.underlying9) ?_
          refine ch rfl (ob_slice_nmF (ArgOK.ownp (arg_free 2 rfl rfl))) ?_
          refine ch rfl (ob_b2s (ArgOK.fsl (arg_op 3 0 rfl rfl rfl rfl)) Try.underlying34 Try.underlying9) ?_
          refine ch rfl (ob_add_str (arg_op 2 2 rfl rfl rfl rfl) (arg_op 4 0 rfl rfl rfl rfl) ?_) ?_
          · ((try simp only [List.length_append, List.length_cons, List.length_nil, nmBytes_len, elByte, elNm, elInt, maxLen]); omega)
          refine ch rfl (ob_load_nm (ArgOK.ownp (arg_free 1 rfl rfl))) ?_
          refine ch rfl (ob_load_nm (ArgOK.ownp (arg_free 2 rfl rfl))) ?_
          refine ch rfl (ob_call3 (by kernel_rfl) (c_rPair) (arg_cb 18 rfl) (arg_op 6 1 rfl rfl rfl rfl) (arg_op 7 0 rfl rfl rfl rfl)) ?_
          refine ch rfl (ob_build_step (arg_op 5 3 rfl rfl rfl rfl) (arg_op 8 0 rfl rfl rfl rfl)) ?_
          refine ch rfl (ob_bs1_step (arg_op 9 0 rfl rfl rfl rfl)) ?_
          refine ch_nil ?_
          intro a628 w629 hf630 hg631 hk632 hn633
          have h634 : Holds _ (a628.eval (.tmp 76)) w629 := hn633.at 0 10 rfl rfl rfl
          have h635 : Holds (OwnF w609.heap.size _ _) (a628.eval (.tmp 86)) w629 := hn633.at 10 0 rfl rfl rfl
          have g636 : Grow w0 w629 := g612.trans hg631
          have g637 : Grow w48 w629 := g613.trans hg631
          have g638 : Grow w79 w629 := g614.trans hg631
          have g639 : Grow w144 w629 := g615.trans hg631
          have g640 : Grow w609 w629 := g622.trans hg631
          clear g612 g613 g614 g615 g622 hf593 hk632 hn633
          obtain ⟨V641, h642, hV643⟩ := nameV h635
          clear h635
          refine wl_appendW elStepP [] hf630 (by kernel_rfl) rfl Try.underlying66 (unV h634 (hV620.up g640)) (OwnS.sl (OwnF.own (unV h642 hV643))) ?_ ?_ g639.size ?_
          · (simp only [List.length_cons, List.length_nil, maxLen]; omega)
          · (simp only [List.length_cons, List.length_nil, elStep]; omega)
          intro a644 w645 hf646 hw647 hk648 h649
          have g650 : Grow w0 w645 := g636.wr hw647 (by omega)
          have g651 : Grow w48 w645 := g637.wr hw647 (by omega)
          have g652 : Grow w79 w645 := g638.wr hw647 (by omega)
          have g653 : Grow w144 w645 := g639.wr hw647 (by omega)
          obtain ⟨V654, h655, hV656⟩ := nameV h649
          clear h649
          refine wp_all [([87], [])] [] w144.heap.size hf646 g653.size (by kernel_rfl) (bund_cons h655 bund_nil) ?_
          refine ch rfl (ob_assign (arg_free 0 rfl rfl)) ?_
          refine ch_nil ?_
          intro a657 w658 hf659 hg660 hk661 hn662
          have h663 : Holds _ (a657.eval (.tmp 8)) w658 := hn662.at 0 0 rfl rfl rfl
          have g664 : Grow w0 w658 := g650.trans hg660
          have g665 : Grow w48 w658 := g651.trans hg660
          have g666 : Grow w79 w658 := g652.trans hg660
          have g667 : Grow w144 w658 := g653.trans hg660
          have hV668 : Holds _ V654 w658 := hV656.up hg660
          clear g650 g651 g652 g653 hf646 hk661 hn662 hg660 hV656
          refine then_ ?_
          refine wp_ret ?_
          exact ret_tmp rfl hf659 g664 (OwnS.mono (cast_own (by first | exact (climb_one x i p (by omega)).symm | exact climb_l x p (by omega) (by omega) | exact climb_r x p (by omega) (by omega)) (unV h663 hV668)) (by omega))
        · intro hc560
          try simp only [cond_norm] at hc560
          refine wp_seq ?_
          have g669 : Grow w540 w540 := Grow.refl _
          have hl670 : bk12 < w540.heap.size := hb551.lt
          have hl671 : bk483 < w540.heap.size := hb553.lt
          have hl672 : bk487 < w540.heap.size := hb555.lt
          have hz673 : w144.heap.size ≤ w540.heap.size := g559.size
          refine wp_calm [0, 0, 0, 6, 0, 0, 48, 0, 0, 256, 768, 1920, 4095, 8191] [([4], []), ([1], []), ([9], []), ([], [1, 2]), ([2], []), ([9], []), ([], [4, 5]), ([3], []), ([3], []), ([], [8]), ([], [9]), ([], [7, 10]), ([], [0, 3, 6, 11]), ([], [12])] [12, 13] w540.heap.size hf541 g669.size (by kernel_rfl) (bund_cons (hb551.ownp hv550) (bund_cons (is_any h547) (bund_cons (is_any h546) (bund_cons (is_any h548) (bund_cons (is_any h549) bund_nil))))) ?_
          intro ws674 hs675
          refine ch rfl (ob_load_nm (ArgOK.ownp (arg_free 0 rfl rfl))) ?_
          refine ch rfl (ob_move (arg_free 1 rfl rfl)) ?_
          refine ch rfl (ob_move (arg_free 2 rfl rfl)) ?_
          first
            | (refine ch rfl (ob_sub' (arg_op 1 1 rfl rfl rfl rfl) (arg_op 2 0 rfl rfl rfl rfl) ?_) ?_; · omega)
            | refine ch rfl (ob_sub (arg_op 1 1 rfl rfl rfl rfl) (arg_op 2 0 rfl rfl rfl rfl)) ?_
          refine ch rfl (ob_move (arg_free 3 rfl rfl)) ?_
          refine ch rfl (ob_move (arg_free 2 rfl rfl)) ?_
          first
            | (refine ch rfl (ob_sub' (arg_op 4 1 rfl rfl rfl rfl) (arg_op 5 0 rfl rfl rfl rfl) ?_) ?_; · omega)
            | refine ch rfl (ob_sub (arg_op 4 1 rfl rfl rfl rfl) (arg_op 5 0 rfl rfl rfl rfl)) ?_
          refine ch rfl (ob_move (arg_free 4 rfl rfl)) ?_
          refine ch rfl (ob_move (arg_free 4 rfl rfl)) ?_
          refine ch rfl (ob_len (ArgOK.val (arg_op 8 0 rfl rfl rfl rfl) ((hv3.up g556).up hs675)) Try.underlying39) ?_
          first
            | (refine ch rfl (ob_sub' (arg_op 9 0 rfl rfl rfl rfl) arg_c ?_) ?_; · omega)
            | refine ch rfl (ob_sub (arg_op 9 0 rfl rfl rfl rfl) arg_c) ?_
          refine ch rfl (ob_slice_to (ArgOK.val (arg_op 7 3 rfl rfl rfl rfl) ((hv3.up g556).up hs675)) (arg_op 10 0 rfl rfl rfl rfl) ((show ((p.length : Int) - 1) = ((p.length - 1 : Nat) : Int) by omega)) ?_ Try.underlying39 szNm) ?_
          · omega
          refine ch rfl (ob_call4 (by kernel_rfl) (ih (i - split n) ((n - split n)) _ _ _ ?_ ?_ ?_ ?_ ?_ ?_) (arg_op 0 11 rfl rfl rfl rfl) (arg_op 3 8 rfl rfl rfl rfl) (arg_op 6 5 rfl rfl rfl rfl) (arg_op 11 0 rfl rfl rfl rfl)) ?_
          · omega
          · omega
          · omega
          · (have hq := dep_right (i := i) (n := n) (by omega) (by omega); rw [List.length_take]; omega)
          · omega
          · omega
          refine ch rfl (ob_assign (arg_op 12 0 rfl rfl rfl rfl)) ?_
          refine ch_nil ?_
          intro a676 w677 hf678 hg679 hk680 hn681
          have h682 : Holds (OwnS w540.heap.size _ _) (a676.eval (.tmp 11)) w677 := hn681.at 13 0 rfl rfl rfl
          have hv683 : Holds (Is (PtrV bk483)) (a676.eval (.tmp 12)) w677 := is_any (hk680.holds rfl hv552)
          have hb684 : Blk bk483 _ w677 := hb553.up hg679
          have hv685 : Holds (Is (PtrV bk487)) (a676.eval (.tmp 13)) w677 := is_any (hk680.holds rfl hv554)
          have hb686 : Blk bk487 _ w677 := hb555.up hg679
          have g687 : Grow w0 w677 := g556.trans hg679
          have g688 : Grow w48 w677 := g557.trans hg679
          have g689 : Grow w79 w677 := g558.trans hg679
          have g690 : Grow w144 w677 := g559.trans hg679
          have g691 : Grow w540 w677 := g669.trans hg679
          clear hv552 hb553 hv554 hb555 g556 g557 g558 g559 g669 hf541 hk680 hn681
          obtain ⟨V692, h693, hV694⟩ := nameV h682
          clear h682
          refine then_ ?_
          have hge := climb_ge x (i - split n) (n - split n) (p.take (p.length - 1))
          have hcl := climb_len (n - split n) x (i - split n) (n - split n) (p.take (p.length - 1)) (Nat.le_refl _)
          have hdl := dep_right (i := i) (n := n) (by omega) (by omega)
          have g695 : Grow w677 w677 := Grow.refl _
          have hl696 : bk483 < w677.heap.size := hb684.lt
          have hl697 : bk487 < w677.heap.size := hb686.lt
          have hz698 : w540.heap.size ≤ w677.heap.size := g691.size
          refine wp_region_lit ?_
          refine wp_seg (l1 := [_, _, _, _, _, _, _]) [([11], []), ([11], []), ([], [1]), ([], [2]), ([], [0, 3]), ([], [4]), ([], [5])] [11, 12, 13] w677.heap.size hf678 g695.size (by kernel_rfl) (bund_cons h693 bund_nil) ?_
          refine ch rfl (ob_move (arg_free 0 rfl rfl)) ?_
          refine ch rfl (ob_move (arg_free 0 rfl rfl)) ?_
          refine ch rfl (ob_len (ArgOK.sl (ArgOK.val (arg_op 1 0 rfl rfl rfl rfl) hV694)) Try.underlying66) ?_
          first
            | (refine ch rfl (ob_sub' (arg_op 2 0 rfl rfl rfl rfl) arg_c ?_) ?_; · omega)
            | refine ch rfl (ob_sub (arg_op 2 0 rfl rfl rfl rfl) arg_c) ?_
          refine ch rfl (ob_ix (ArgOK.sl (ArgOK.val (arg_op 0 3 rfl rfl rfl rfl) hV694)) (arg_op 3 0 rfl rfl rfl rfl) ((show (((climb x (i - split n) (n - split n) (p.take (p.length - 1))).length : Int) - 1) = (((climb x (i - split n) (n - split n) (p.take (p.length - 1))).length - 1 : Nat) : Int) by omega)) ?_ Try.underlying66 szStep) ?_
          · omega
          refine ch rfl (ob_fa_step1 (arg_op 4 0 rfl rfl rfl rfl)) ?_
          refine ch rfl (ob_load_nm (arg_op 5 0 rfl rfl rfl rfl)) ?_
          refine ch_nil ?_
          intro a699 w700 hf701 hg702 hk703 hn704
          have h705 : Holds _ (a699.eval (.tmp 75)) w700 := hn704.at 6 0 rfl rfl rfl
          have h706 : Holds _ (a699.eval (.tmp 11)) w677 := hk703.holds rfl h693
          have hv707 : Holds (Is (PtrV bk483)) (a699.eval (.tmp 12)) w700 := is_any (hk703.holds rfl hv683)
          have hb708 : Blk bk483 _ w700 := hb684.up hg702
          have hv709 : Holds (Is (PtrV bk487)) (a699.eval (.tmp 13)) w700 := is_any (hk703.holds rfl hv685)
          have hb710 : Blk bk487 _ w700 := hb686.up hg702
          have g711 : Grow w0 w700 := g687.trans hg702
          have g712 : Grow w48 w700 := g688.trans hg702
          have g713 : Grow w79 w700 := g689.trans hg702
          have g714 : Grow w144 w700 := g690.trans hg702
          have g715 : Grow w540 w700 := g691.trans hg702
          have g716 : Grow w677 w700 := g695.trans hg702
          clear h693 hv683 hb684 hv685 hb686 g687 g688 g689 g690 g691 g695 hf678 hk703 hn704
          refine wl_store_nm hv709 hb710 rfl h705 ?_
          intro w717 ho718 hb719
          have g720 : Grow w0 w717 := g711.only ho718 (by omega)
          have g721 : Grow w48 w717 := g712.only ho718 (by omega)
          have g722 : Grow w79 w717 := g713.only ho718 (by omega)
          have g723 : Grow w144 w717 := g714.only ho718 (by omega)
          have h724 : Holds _ (a699.eval (.tmp 11)) w717 := is_any h706
          have hv725 : Holds (Is (PtrV bk483)) (a699.eval (.tmp 12)) w717 := is_any hv707
          have hb726 : Blk bk483 _ w717 := hb708.only ho718 (by omega)
          have hv727 : Holds (Is (PtrV bk487)) (a699.eval (.tmp 13)) w717 := is_any hv709
          have hV728 : Holds (OwnS w144.heap.size _ _) V692 w717 := OwnS.mono (OwnS.only (hV694.up g716) ho718 (by omega)) (by omega)
          refine wpList_nil ?_
          refine then_ ?_
          refine wp_seq ?_
          have hb729 : Blk bk487 (nmCells (comp x (i - split n) (n - split n) (p.take (p.length - 1)))) w717 := (congrArg (fun x => Blk bk487 (nmCells x) w717) (climb_top _ _ _ _)).mp hb719
          have g730 : Grow w717 w717 := Grow.refl _
          have hl731 : bk483 < w717.heap.size := hb726.lt
          have hl732 : bk487 < w717.heap.size := hb729.lt
          have hz733 : w144.heap.size ≤ w717.heap.size := g723.size
          refine wp_calm_tail (l1 := [_, _, _, _, _, _, _, _, _, _, _]) [0, 0, 2, 0, 8, 30, 0, 0, 192, 510, 1022, 2047, 4095] [([11], []), ([12], []), ([], [1]), ([13], []), ([], [3]), ([], [2, 4]), ([12], []), ([13], []), ([], [6, 7]), ([], [5, 8]), ([], [9])] [] w717.heap.size hf701 g730.size (by kernel_rfl) (bund_cons h724 (bund_cons (hb726.ownp hv725) (bund_cons (hb729.ownp hv727) bund_nil))) ?_
          intro ws734 hs735
          refine ch rfl (ob_move (arg_free 0 rfl rfl)) ?_
          refine ch rfl (ob_slice_nmF (ArgOK.ownp (arg_free 1 rfl rfl))) ?_
          refine ch rfl (ob_b2s (ArgOK.fsl (arg_op 1 0 rfl rfl rfl rfl)) Try.underlying34 Try.underlying9) ?_
          refine ch rfl (ob_slice_nmF (ArgOK.ownp (arg_free 2 rfl rfl))) ?_
          refine ch rfl (ob_b2s (ArgOK.fsl (arg_op 3 0 rfl rfl rfl rfl)) Try.underlying34 Try.underlying9) ?_
          refine ch rfl (ob_add_str (arg_op 2 2 rfl rfl rfl rfl) (arg_op 4 0 rfl rfl rfl rfl) ?_) ?_
          · ((try simp only [List.length_append, List.length_cons, List.length_nil, nmBytes_len, elByte, elNm, elInt, maxLen]); omega)
          refine ch rfl (ob_load_nm (ArgOK.ownp (arg_free 1 rfl rfl))) ?_
          refine ch rfl (ob_load_nm (ArgOK.ownp (arg_free 2 rfl rfl))) ?_
          refine ch rfl (ob_call3 (by kernel_rfl) (c_rPair) (arg_cb 18 rfl) (arg_op 6 1 rfl rfl rfl rfl) (arg_op 7 0 rfl rfl rfl rfl)) ?_
          refine ch rfl (ob_build_step (arg_op 5 3 rfl rfl rfl rfl) (arg_op 8 0 rfl rfl rfl rfl)) ?_
          refine ch rfl (ob_bs1_step (arg_op 9 0 rfl rfl rfl rfl)) ?_
          refine ch_nil ?_
          intro a736 w737 hf738 hg739 hk740 hn741
          have h742 : Holds _ (a736.eval (.tmp 76)) w737 := hn741.at 0 10 rfl rfl rfl
          have h743 : Holds (OwnF w717.heap.size _ _) (a736.eval (.tmp 86)) w737 := hn741.at 10 0 rfl rfl rfl
          have g744 : Grow w0 w737 := g720.trans hg739
          have g745 : Grow w48 w737 := g721.trans hg739
          have g746 : Grow w79 w737 := g722.trans hg739
          have g747 : Grow w144 w737 := g723.trans hg739
          have g748 : Grow w717 w737 := g730.trans hg739
          clear g720 g721 g722 g723 g730 hf701 hk740 hn741
          obtain ⟨V749, h750, hV751⟩ := nameV h743
          clear h743
          refine wl_appendW elStepP [] hf738 (by kernel_rfl) rfl Try.underlying66 (unV h742 (hV728.up g748)) (OwnS.sl (OwnF.own (unV h750 hV751))) ?_ ?_ g747.size ?_
          · (simp only [List.length_cons, List.length_nil, maxLen]; omega)
          · (simp only [List.length_cons, List.length_nil, elStep]; omega)
          intro a752 w753 hf754 hw755 hk756 h757
          have g758 : Grow w0 w753 := g744.wr hw755 (by omega)
          have g759 : Grow w48 w753 := g745.wr hw755 (by omega)
          have g760 : Grow w79 w753 := g746.wr hw755 (by omega)
          have g761 : Grow w144 w753 := g747.wr hw755 (by omega)
          obtain ⟨V762, h763, hV764⟩ := nameV h757
          clear h757
          refine wp_all [([87], [])] [] w144.heap.size hf754 g761.size (by kernel_rfl) (bund_cons h763 bund_nil) ?_
          refine ch rfl (ob_assign (arg_free 0 rfl rfl)) ?_
          refine ch_nil ?_
          intro a765 w766 hf767 hg768 hk769 hn770
          have h771 : Holds _ (a765.eval (.tmp 8)) w766 := hn770.at 0 0 rfl rfl rfl
          have g772 : Grow w0 w766 := g758.trans hg768
          have g773 : Grow w48 w766 := g759.trans hg768
          have g774 : Grow w79 w766 := g760.trans hg768
          have g775 : Grow w144 w766 := g761.trans hg768
          have hV776 : Holds _ V762 w766 := hV764.up hg768
          clear g758 g759 g760 g761 hf754 hk769 hn770 hg768 hV764
          refine then_ ?_
          refine wp_ret ?_
          exact ret_tmp rfl hf767 g772 (OwnS.mono (cast_own (by first | exact (climb_one x i p (by omega)).symm | exact climb_l x p (by omega) (by omega) | exact climb_r x p (by omega) (by omega)) (unV h771 hV776)) (by omega))


theorem c_climb3 {x : UInt64} : ∀ {i n : Nat} {iz nz : Int} {p : List UInt64} (_ : 1 ≤ n) (_ : n ≤ 9223372036854775807) (_ : i < n) (_ : p.length = dep i n) (_ : p.length ≤ 64) (_ : iz = (i : Int)) (_ : nz = (n : Int)), Con4 65 (Is (nmV x)) (Is (intV iz)) (Is (intV nz)) (Sl elNm p) (fun lo => OwnS lo elStep (climb x i n p)) := by
  have key : ∀ (n i : Nat) (iz nz : Int) (p : List UInt64), 1 ≤ n → n ≤ 9223372036854775807 → i < n → p.length = dep i n → p.length ≤ 64 → iz = (i : Int) → nz = (n : Int) → Con4 65 (Is (nmV x)) (Is (intV iz)) (Is (intV nz)) (Sl elNm p) (fun lo => OwnS lo elStep (climb x i n p)) := by
    intro n
    induction n using Nat.strongRecOn with
    | _ n ih =>
      intro i iz nz p h1 h2 h3 h4 h64 h5 h6
      refine c_climb3_step h1 h2 h3 h4 h64 h5 h6 fun i' n' iz' nz' p' g1 g2 g3 g4 g5 g6 => ?_
      by_cases hp : p'.length ≤ 64
      · exact ih n' g1 i' iz' nz' p' g2 (by omega) g3 g4 hp g5 g6
      · exact absurd (dep_le 63 i' n' (by omega)) (by omega)
  intro i n iz nz p h1 h2 h3 h4 h64 h5 h6
  exact key n i iz nz p h1 h2 h3 h4 h64 h5 h6

set_option maxRecDepth 100000 in
theorem c_MerkleBinds {r a b : UInt64} {i n : Int64} {p q : List UInt64} : Con7 19 (Is (nmV r)) (Is (nmV a)) (Is (nmV b)) (Is (intV i.toInt)) (Is (intV n.toInt)) (Sl elNm p) (Sl elNm q) (fun _ => Is (.bool true)) := by
  intro lo v0 v1 v2 v3 v4 v5 v6 w0 hlo hv0 hv1 hv2 hv3 hv4 hv5 hv6
  refine enter Try.func19 rfl Try.ntmps19 (by simp) ?_
  intro a0 hf0 ha
  have h00 : Holds _ (a0.eval (.tmp 0)) w0 := arg_holds ha rfl hv0
  have h01 : Holds _ (a0.eval (.tmp 1)) w0 := arg_holds ha rfl hv1
  have h02 : Holds _ (a0.eval (.tmp 2)) w0 := arg_holds ha rfl hv2
  have h03 : Holds _ (a0.eval (.tmp 3)) w0 := arg_holds ha rfl hv3
  have h04 : Holds _ (a0.eval (.tmp 4)) w0 := arg_holds ha rfl hv4
  have h05 : Holds (Is v5) (a0.eval (.tmp 5)) w0 := arg_holds ha rfl rfl
  have h06 : Holds (Is v6) (a0.eval (.tmp 6)) w0 := arg_holds ha rfl rfl
  clear ha
  have g0 : Grow w0 w0 := Grow.refl _
  have hi1 := i.le_toInt
  have hi2 := i.toInt_lt
  have hn1 := n.le_toInt
  have hn2 := n.toInt_lt
  refine wp_seq ?_
  refine wp_region_lit ?_
  refine wp_seg (l1 := [_]) [([0], [])] [1, 2, 3, 4, 5, 6] w0.heap.size hf0 g0.size (by kernel_rfl) (bund_cons h00 bund_nil) ?_
  refine ch rfl (ob_box_nm (arg_free 0 rfl rfl)) ?_
  refine ch_nil ?_
  intro a1 w2 hf3 hg4 hk5 hn6
  have h7 : Holds _ (a1.eval (.tmp 7)) w2 := hn6.at 0 0 rfl rfl rfl
  have h8 : Holds _ (a1.eval (.tmp 1)) w0 := hk5.holds rfl h01
  have h9 : Holds _ (a1.eval (.tmp 2)) w0 := hk5.holds rfl h02
  have h10 : Holds _ (a1.eval (.tmp 3)) w0 := hk5.holds rfl h03
  have h11 : Holds _ (a1.eval (.tmp 4)) w0 := hk5.holds rfl h04
  have h12 : Holds _ (a1.eval (.tmp 5)) w0 := hk5.holds rfl h05
  have h13 : Holds _ (a1.eval (.tmp 6)) w0 := hk5.holds rfl h06
  have g14 : Grow w0 w2 := g0.trans hg4
  obtain ⟨bk15, hl16, hv17, hb18⟩ := OwnB.blk (lo := w0.heap.size) h7
  clear h01 h02 h03 h04 h05 h06 g0 hf0 hk5 hn6
  have g19 : Grow w2 w2 := Grow.refl _
  have hl20 : bk15 < w2.heap.size := hb18.lt
  have hz21 : w0.heap.size ≤ w2.heap.size := g14.size
  refine wp_seg (l1 := [_]) [([1], [])] [2, 3, 4, 5, 6, 7] w2.heap.size hf3 g19.size (by kernel_rfl) (bund_cons (is_any h8) bund_nil) ?_
  refine ch rfl (ob_box_nm (arg_free 0 rfl rfl)) ?_
  refine ch_nil ?_
  intro a22 w23 hf24 hg25 hk26 hn27
  have h28 : Holds _ (a22.eval (.tmp 8)) w23 := hn27.at 0 0 rfl rfl rfl
  have h29 : Holds _ (a22.eval (.tmp 2)) w0 := hk26.holds rfl h9
  have h30 : Holds _ (a22.eval (.tmp 3)) w0 := hk26.holds rfl h10
  have h31 : Holds _ (a22.eval (.tmp 4)) w0 := hk26.holds rfl h11
  have h32 : Holds _ (a22.eval (.tmp 5)) w0 := hk26.holds rfl h12
  have h33 : Holds _ (a22.eval (.tmp 6)) w0 := hk26.holds rfl h13
  have hv34 : Holds (Is (PtrV bk15)) (a22.eval (.tmp 7)) w23 := is_any (hk26.holds rfl hv17)
  have hb35 : Blk bk15 _ w23 := hb18.up hg25
  have g36 : Grow w0 w23 := g14.trans hg25
  have g37 : Grow w2 w23 := g19.trans hg25
  obtain ⟨bk38, hl39, hv40, hb41⟩ := OwnB.blk (lo := w2.heap.size) h28
  clear h9 h10 h11 h12 h13 hv17 hb18 g14 g19 hf3 hk26 hn27
  have g42 : Grow w23 w23 := Grow.refl _
  have hl43 : bk15 < w23.heap.size := hb35.lt
  have hl44 : bk38 < w23.heap.size := hb41.lt
  have hz45 : w2.heap.size ≤ w23.heap.size := g37.size
  refine wp_all [([2], []), ([], [])] [3, 4, 5, 6, 7, 8] w23.heap.size hf24 g42.size (by kernel_rfl) (bund_cons (is_any h29) bund_nil) ?_
  refine ch rfl (ob_box_nm (arg_free 0 rfl rfl)) ?_
  refine ch rfl (ob_assign arg_c) ?_
  refine ch_nil ?_
  intro a46 w47 hf48 hg49 hk50 hn51
  have h52 : Holds _ (a46.eval (.tmp 9)) w47 := hn51.at 0 1 rfl rfl rfl
  have h53 : Holds _ (a46.eval (.tmp 3)) w0 := hk50.holds rfl h30
  have h54 : Holds _ (a46.eval (.tmp 4)) w0 := hk50.holds rfl h31
  have h55 : Holds _ (a46.eval (.tmp 5)) w0 := hk50.holds rfl h32
  have h56 : Holds _ (a46.eval (.tmp 6)) w0 := hk50.holds rfl h33
  have hv57 : Holds (Is (PtrV bk15)) (a46.eval (.tmp 7)) w47 := is_any (hk50.holds rfl hv34)
  have hb58 : Blk bk15 _ w47 := hb35.up hg49
  have hv59 : Holds (Is (PtrV bk38)) (a46.eval (.tmp 8)) w47 := is_any (hk50.holds rfl hv40)
  have hb60 : Blk bk38 _ w47 := hb41.up hg49
  have g61 : Grow w0 w47 := g36.trans hg49
  have g62 : Grow w2 w47 := g37.trans hg49
  have g63 : Grow w23 w47 := g42.trans hg49
  obtain ⟨bk64, hl65, hv66, hb67⟩ := OwnB.blk (lo := w23.heap.size) h52
  clear h30 h31 h32 h33 hv34 hb35 hv40 hb41 g36 g37 g42 hf24 hk50 hn51
  refine then_ ?_
  refine wp_seq ?_
  refine wp_seq ?_
  have g68 : Grow w47 w47 := Grow.refl _
  have hl69 : bk15 < w47.heap.size := hb58.lt
  have hl70 : bk38 < w47.heap.size := hb60.lt
  have hl71 : bk64 < w47.heap.size := hb67.lt
  have hz72 : w23.heap.size ≤ w47.heap.size := g63.size
  refine wp_region_lit ?_
  refine wp_all [([8], []), ([9], []), ([], [0, 1]), ([], [2]), ([7], [3]), ([8], [3]), ([3], [3]), ([4], [3]), ([5], [3]), ([], [4, 5, 6, 7, 8, 3]), ([], [9, 3]), ([], [3, 10]), ([], [11]), ([7], [12]), ([9], [12]), ([3], [12]), ([4], [12]), ([6], [12]), ([], [13, 14, 15, 16, 17, 12]), ([], [18, 12]), ([], [12, 19])] [3, 4, 5, 6, 8, 9] w47.heap.size hf48 g68.size (by kernel_rfl) (bund_cons (hb60.ownp hv59) (bund_cons (hb67.ownp hv66) (bund_cons (hb58.ownp hv57) (bund_cons (is_any h53) (bund_cons (is_any h54) (bund_cons (is_any h55) (bund_cons (is_any h56) bund_nil))))))) ?_
  refine ch rfl (ob_load_nm (ArgOK.ownp (arg_free 0 rfl rfl))) ?_
  refine ch rfl (ob_load_nm (ArgOK.ownp (arg_free 1 rfl rfl))) ?_
  refine ch rfl (ob_eqnm (arg_op 0 1 rfl rfl rfl rfl) (arg_op 1 0 rfl rfl rfl rfl)) ?_
  refine ch rfl (ob_move (arg_op 2 0 rfl rfl rfl rfl)) ?_
  refine chg (b := _) rfl rfl (arg_op 3 0 rfl rfl rfl rfl) (fun hb3 => ob_load_nm (ArgOK.ownp (arg_free 2 rfl rfl))) ?_
  refine chg (b := _) rfl rfl (arg_op 3 1 rfl rfl rfl rfl) (fun hb3 => ob_load_nm (ArgOK.ownp (arg_free 0 rfl rfl))) ?_
  refine chg (b := _) rfl rfl (arg_op 3 2 rfl rfl rfl rfl) (fun hb3 => ob_move (arg_free 3 rfl rfl)) ?_
  refine chg (b := _) rfl rfl (arg_op 3 3 rfl rfl rfl rfl) (fun hb3 => ob_move (arg_free 4 rfl rfl)) ?_
  refine chg (b := _) rfl rfl (arg_op 3 4 rfl rfl rfl rfl) (fun hb3 => ob_move (arg_free 5 rfl rfl)) ?_
  refine chg (b := _) rfl rfl (arg_op 3 5 rfl rfl rfl rfl) (fun hb3 => ob_call5 (by kernel_rfl) (c_Verify ?_ ?_) (ArgOK.when (arg_op 4 4 rfl rfl rfl rfl) hb3) (ArgOK.when (arg_op 5 3 rfl rfl rfl rfl) hb3) (ArgOK.when (arg_op 6 2 rfl rfl rfl rfl) hb3) (ArgOK.when (arg_op 7 1 rfl rfl rfl rfl) hb3) (ArgOK.val (ArgOK.when (arg_op 8 0 rfl rfl rfl rfl) hb3) (hv5.up g61))) ?_
  · omega
  · omega
  refine chg (b := _) rfl rfl (arg_op 3 6 rfl rfl rfl rfl) (fun hb3 => ob_not (ArgOK.when (arg_op 9 0 rfl rfl rfl rfl) hb3)) ?_
  refine ch rfl (ob_or (arg_op 3 7 rfl rfl rfl rfl) (arg_op 10 0 rfl rfl rfl rfl)) ?_
  refine ch rfl (ob_move (arg_op 11 0 rfl rfl rfl rfl)) ?_
  refine chg (b := _) rfl rfl (arg_op 12 0 rfl rfl rfl rfl) (fun hb12 => ob_load_nm (ArgOK.ownp (arg_free 2 rfl rfl))) ?_
  refine chg (b := _) rfl rfl (arg_op 12 1 rfl rfl rfl rfl) (fun hb12 => ob_load_nm (ArgOK.ownp (arg_free 1 rfl rfl))) ?_
  refine chg (b := _) rfl rfl (arg_op 12 2 rfl rfl rfl rfl) (fun hb12 => ob_move (arg_free 3 rfl rfl)) ?_
  refine chg (b := _) rfl rfl (arg_op 12 3 rfl rfl rfl rfl) (fun hb12 => ob_move (arg_free 4 rfl rfl)) ?_
  refine chg (b := _) rfl rfl (arg_op 12 4 rfl rfl rfl rfl) (fun hb12 => ob_move (arg_free 6 rfl rfl)) ?_
  refine chg (b := _) rfl rfl (arg_op 12 5 rfl rfl rfl rfl) (fun hb12 => ob_call5 (by kernel_rfl) (c_Verify ?_ ?_) (ArgOK.when (arg_op 13 4 rfl rfl rfl rfl) hb12) (ArgOK.when (arg_op 14 3 rfl rfl rfl rfl) hb12) (ArgOK.when (arg_op 15 2 rfl rfl rfl rfl) hb12) (ArgOK.when (arg_op 16 1 rfl rfl rfl rfl) hb12) (ArgOK.val (ArgOK.when (arg_op 17 0 rfl rfl rfl rfl) hb12) (hv6.up g61))) ?_
  · omega
  · omega
  refine chg (b := _) rfl rfl (arg_op 12 6 rfl rfl rfl rfl) (fun hb12 => ob_not (ArgOK.when (arg_op 18 0 rfl rfl rfl rfl) hb12)) ?_
  refine ch rfl (ob_or (arg_op 12 7 rfl rfl rfl rfl) (arg_op 19 0 rfl rfl rfl rfl)) ?_
  refine ch_nil ?_
  intro a73 w74 hf75 hg76 hk77 hn78
  have h79 : Holds _ (a73.eval (.tmp 38)) w74 := hn78.at 20 0 rfl rfl rfl
  have h80 : Holds _ (a73.eval (.tmp 3)) w0 := hk77.holds rfl h53
  have h81 : Holds _ (a73.eval (.tmp 4)) w0 := hk77.holds rfl h54
  have h82 : Holds _ (a73.eval (.tmp 5)) w0 := hk77.holds rfl h55
  have h83 : Holds _ (a73.eval (.tmp 6)) w0 := hk77.holds rfl h56
  have hv84 : Holds (Is (PtrV bk38)) (a73.eval (.tmp 8)) w74 := is_any (hk77.holds rfl hv59)
  have hb85 : Blk bk38 _ w74 := hb60.up hg76
  have hv86 : Holds (Is (PtrV bk64)) (a73.eval (.tmp 9)) w74 := is_any (hk77.holds rfl hv66)
  have hb87 : Blk bk64 _ w74 := hb67.up hg76
  have g88 : Grow w0 w74 := g61.trans hg76
  have g89 : Grow w2 w74 := g62.trans hg76
  have g90 : Grow w23 w74 := g63.trans hg76
  have g91 : Grow w47 w74 := g68.trans hg76
  clear h53 h54 h55 h56 hv59 hb60 hv66 hb67 g61 g62 g63 g68 hf48 hk77 hn78
  refine then_ ?_
  refine wp_if h79 ?_ ?_
  · intro hc92
    try simp only [cond_norm] at hc92
    refine wp_seq ?_
    have g93 : Grow w74 w74 := Grow.refl _
    have hl94 : bk38 < w74.heap.size := hb85.lt
    have hl95 : bk64 < w74.heap.size := hb87.lt
    have hz96 : w47.heap.size ≤ w74.heap.size := g91.size
    refine wp_region_lit ?_
    refine wp_all [([], []), ([], [0])] [] w74.heap.size hf75 g93.size (by kernel_rfl) bund_nil ?_
    refine ch rfl (ob_call0 (by kernel_rfl) (c_awake3) ) ?_
    refine ch rfl (ob_assign (arg_op 0 0 rfl rfl rfl rfl)) ?_
    refine ch_nil ?_
    intro a97 w98 hf99 hg100 hk101 hn102
    have h103 : Holds _ (a97.eval (.tmp 14)) w98 := hn102.at 1 0 rfl rfl rfl
    have g104 : Grow w0 w98 := g88.trans hg100
    have g105 : Grow w2 w98 := g89.trans hg100
    have g106 : Grow w23 w98 := g90.trans hg100
    have g107 : Grow w47 w98 := g91.trans hg100
    have g108 : Grow w74 w98 := g93.trans hg100
    clear g88 g89 g90 g91 g93 hf75 hk101 hn102
    refine then_ ?_
    refine wp_ret ?_
    refine thenR ?_
    exact ret_tmp rfl hf99 g104 (is_cast h103 (by rfl))
  · intro hc92
    try simp only [cond_norm] at hc92
    have hab := hc92.1.1; have hbf := bind_facts hc92.1.2 hc92.2 (by omega)
    refine wp_skip ?_
    refine then_ ?_
    refine wp_seq ?_
    refine wp_seq ?_
    refine wp_region_lit ?_
    refine wp_all [([5], []), ([], [0]), ([], [1]), ([], [2]), ([6], [3]), ([], [4, 3]), ([5], [3]), ([], [6, 3]), ([], [5, 7, 3]), ([], [3, 8])] [3, 4, 5, 6, 8, 9] w47.heap.size hf75 g91.size (by kernel_rfl) (bund_cons (is_any h82) (bund_cons (is_any h83) bund_nil)) ?_
    refine ch rfl (ob_move (arg_free 0 rfl rfl)) ?_
    refine ch rfl (ob_len (ArgOK.val (arg_op 0 0 rfl rfl rfl rfl) (hv5.up g88)) Try.underlying39) ?_
    refine ch rfl (ob_gtr (arg_op 1 0 rfl rfl rfl rfl) arg_c) ?_
    refine ch rfl (ob_move (arg_op 2 0 rfl rfl rfl rfl)) ?_
    refine chg (b := _) rfl rfl (arg_op 3 0 rfl rfl rfl rfl) (fun hb3 => ob_move (arg_free 1 rfl rfl)) ?_
    refine chg (b := _) rfl rfl (arg_op 3 1 rfl rfl rfl rfl) (fun hb3 => ob_len (ArgOK.val (ArgOK.when (arg_op 4 0 rfl rfl rfl rfl) hb3) (hv6.up g88)) Try.underlying39) ?_
    refine chg (b := _) rfl rfl (arg_op 3 2 rfl rfl rfl rfl) (fun hb3 => ob_move (arg_free 0 rfl rfl)) ?_
    refine chg (b := _) rfl rfl (arg_op 3 3 rfl rfl rfl rfl) (fun hb3 => ob_len (ArgOK.val (ArgOK.when (arg_op 6 0 rfl rfl rfl rfl) hb3) (hv5.up g88)) Try.underlying39) ?_
    refine chg (b := _) rfl rfl (arg_op 3 4 rfl rfl rfl rfl) (fun hb3 => ob_neq (ArgOK.when (arg_op 5 2 rfl rfl rfl rfl) hb3) (ArgOK.when (arg_op 7 0 rfl rfl rfl rfl) hb3)) ?_
    refine ch rfl (ob_or (arg_op 3 5 rfl rfl rfl rfl) (arg_op 8 0 rfl rfl rfl rfl)) ?_
    refine ch_nil ?_
    intro a109 w110 hf111 hg112 hk113 hn114
    have h115 : Holds _ (a109.eval (.tmp 49)) w110 := hn114.at 9 0 rfl rfl rfl
    have h116 : Holds _ (a109.eval (.tmp 3)) w0 := hk113.holds rfl h80
    have h117 : Holds _ (a109.eval (.tmp 4)) w0 := hk113.holds rfl h81
    have h118 : Holds _ (a109.eval (.tmp 5)) w0 := hk113.holds rfl h82
    have h119 : Holds _ (a109.eval (.tmp 6)) w0 := hk113.holds rfl h83
    have hv120 : Holds (Is (PtrV bk38)) (a109.eval (.tmp 8)) w110 := is_any (hk113.holds rfl hv84)
    have hb121 : Blk bk38 _ w110 := hb85.up hg112
    have hv122 : Holds (Is (PtrV bk64)) (a109.eval (.tmp 9)) w110 := is_any (hk113.holds rfl hv86)
    have hb123 : Blk bk64 _ w110 := hb87.up hg112
    have g124 : Grow w0 w110 := g88.trans hg112
    have g125 : Grow w2 w110 := g89.trans hg112
    have g126 : Grow w23 w110 := g90.trans hg112
    have g127 : Grow w47 w110 := g91.trans hg112
    clear h80 h81 h82 h83 hv84 hb85 hv86 hb87 g88 g89 g90 g91 hf75 hk113 hn114 hg112
    refine then_ ?_
    refine wp_if h115 ?_ ?_
    · intro hc128
      try simp only [cond_norm] at hc128
      omega
    · intro hc128
      try simp only [cond_norm] at hc128
      refine wp_skip ?_
      refine then_ ?_
      refine wp_seq ?_
      have hla := climb_len n.toInt.toNat a i.toInt.toNat n.toInt.toNat p (Nat.le_refl _)
      have hlb := climb_len n.toInt.toNat b i.toInt.toNat n.toInt.toNat q (Nat.le_refl _)
      have hno : ∀ k : Nat, (∀ j, j < k → ¬ (((climb a i.toInt.toNat n.toInt.toNat p).getD j default).1 ≠ ((climb b i.toInt.toNat n.toInt.toNat q).getD j default).1 ∧ ((climb a i.toInt.toNat n.toInt.toNat p).getD j default).2 = ((climb b i.toInt.toNat n.toInt.toNat q).getD j default).2)) → dep i.toInt.toNat n.toInt.toNat + 1 ≤ k → False := fun k hk hle => (let ⟨j, h1, h2, h3⟩ := binds n.toInt.toNat a b i.toInt.toNat n.toInt.toNat p q (Nat.le_refl _) hab hbf.2.2.2.2.2; hk j (by omega) ⟨h2, h3⟩)
      have g129 : Grow w110 w110 := Grow.refl _
      have hl130 : bk38 < w110.heap.size := hb121.lt
      have hl131 : bk64 < w110.heap.size := hb123.lt
      have hz132 : w47.heap.size ≤ w110.heap.size := g127.size
      refine wp_calm [0, 0, 0, 0, 15, 0, 0, 0, 0, 511, 1023, 2047] [([8], []), ([3], []), ([4], []), ([5], []), ([], [0, 1, 2, 3]), ([9], []), ([3], []), ([4], []), ([6], []), ([], [5, 6, 7, 8]), ([], [4]), ([], [9])] [] w110.heap.size hf111 g129.size (by kernel_rfl) (bund_cons (hb121.ownp hv120) (bund_cons (is_any h116) (bund_cons (is_any h117) (bund_cons (is_any h118) (bund_cons (hb123.ownp hv122) (bund_cons (is_any h119) bund_nil)))))) ?_
      intro ws133 hs134
      refine ch rfl (ob_load_nm (ArgOK.ownp (arg_free 0 rfl rfl))) ?_
      refine ch rfl (ob_move (arg_free 1 rfl rfl)) ?_
      refine ch rfl (ob_move (arg_free 2 rfl rfl)) ?_
      refine ch rfl (ob_move (arg_free 3 rfl rfl)) ?_
      refine ch rfl (ob_call4 (by kernel_rfl) (c_climb3 (i := i.toInt.toNat) (n := n.toInt.toNat) ?_ ?_ ?_ ?_ ?_ ?_ ?_) (arg_op 0 3 rfl rfl rfl rfl) (arg_op 1 2 rfl rfl rfl rfl) (arg_op 2 1 rfl rfl rfl rfl) (ArgOK.val (arg_op 3 0 rfl rfl rfl rfl) ((hv5.up g124).up hs134))) ?_
      · omega
      · omega
      · omega
      · omega
      · omega
      · omega
      · omega
      refine ch rfl (ob_load_nm (ArgOK.ownp (arg_free 4 rfl rfl))) ?_
      refine ch rfl (ob_move (arg_free 1 rfl rfl)) ?_
      refine ch rfl (ob_move (arg_free 2 rfl rfl)) ?_
      refine ch rfl (ob_move (arg_free 5 rfl rfl)) ?_
      refine ch rfl (ob_call4 (by kernel_rfl) (c_climb3 (i := i.toInt.toNat) (n := n.toInt.toNat) ?_ ?_ ?_ ?_ ?_ ?_ ?_) (arg_op 5 3 rfl rfl rfl rfl) (arg_op 6 2 rfl rfl rfl rfl) (arg_op 7 1 rfl rfl rfl rfl) (ArgOK.val (arg_op 8 0 rfl rfl rfl rfl) ((hv6.up g124).up hs134))) ?_
      · omega
      · omega
      · omega
      · omega
      · omega
      · omega
      · omega
      refine ch rfl (ob_assign (arg_op 4 5 rfl rfl rfl rfl)) ?_
      refine ch rfl (ob_assign (arg_op 9 1 rfl rfl rfl rfl)) ?_
      refine ch_nil ?_
      intro a135 w136 hf137 hg138 hk139 hn140
      have h141 : Holds (OwnS w110.heap.size _ _) (a135.eval (.tmp 15)) w136 := hn140.at 10 1 rfl rfl rfl
      have h142 : Holds (OwnS w110.heap.size _ _) (a135.eval (.tmp 16)) w136 := hn140.at 11 0 rfl rfl rfl
      have g143 : Grow w0 w136 := g124.trans hg138
      have g144 : Grow w2 w136 := g125.trans hg138
      have g145 : Grow w23 w136 := g126.trans hg138
      have g146 : Grow w47 w136 := g127.trans hg138
      have g147 : Grow w110 w136 := g129.trans hg138
      clear g124 g125 g126 g127 g129 hf111 hk139 hn140
      obtain ⟨V148, h149, hV150⟩ := nameV h141
      clear h141
      obtain ⟨V151, h152, hV153⟩ := nameV h142
      clear h142
      refine then_ ?_
      refine wp_seq ?_
      refine wp_seq ?_
      refine wp_region_lit ?_
      refine wp_all [([], [])] [15, 16] w110.heap.size hf137 g147.size (by kernel_rfl) bund_nil ?_
      refine ch rfl (ob_assign arg_c) ?_
      refine ch_nil ?_
      intro a154 w155 hf156 hg157 hk158 hn159
      have h160 : Holds _ (a154.eval (.tmp 17)) w155 := hn159.at 0 0 rfl rfl rfl
      have h161 : Holds _ (a154.eval (.tmp 15)) w155 := hk158.holds rfl (h149.up hg157)
      have h162 : Holds _ (a154.eval (.tmp 16)) w155 := hk158.holds rfl (h152.up hg157)
      have g163 : Grow w0 w155 := g143.trans hg157
      have g164 : Grow w2 w155 := g144.trans hg157
      have g165 : Grow w23 w155 := g145.trans hg157
      have g166 : Grow w47 w155 := g146.trans hg157
      have g167 : Grow w110 w155 := g147.trans hg157
      have hV168 : Holds _ V148 w155 := hV150.up hg157
      have hV169 : Holds _ V151 w155 := hV153.up hg157
      clear h149 h152 g143 g144 g145 g146 g147 hf137 hk158 hn159 hg157 hV150 hV153
      refine then_ ?_
      refine wp_block ?_
      have g170 : Grow w155 w155 := Grow.refl _
      have hz171 : w110.heap.size ≤ w155.heap.size := g167.size
      refine wp_loopL (α := Nat) (fun k a' w' => Fr 97 a' ∧ (k ≤ dep i.toInt.toNat n.toInt.toNat + 1) ∧ (∀ j, j < k → ¬ (((climb a i.toInt.toNat n.toInt.toNat p).getD j default).1 ≠ ((climb b i.toInt.toNat n.toInt.toNat q).getD j default).1 ∧ ((climb a i.toInt.toNat n.toInt.toNat p).getD j default).2 = ((climb b i.toInt.toNat n.toInt.toNat q).getD j default).2)) ∧ Grow w0 w' ∧ Grow w2 w' ∧ Grow w23 w' ∧ Grow w47 w' ∧ Grow w110 w' ∧ Grow w155 w' ∧ Keep [15, 16] a154 a' ∧ Holds (Is (intV (k : Int))) (a'.eval (.tmp 17)) w') (fun k => dep i.toInt.toNat n.toInt.toNat + 1 - k) (0) ⟨hf156, (by omega), (by (intro j hj; omega)), g163, g164, g165, g166, g167, g170, Keep.refl _ _, (is_cast h160 (by first | rfl | (refine congrArg intV ?_; (try dsimp only); omega)))⟩ ?_
      intro k a172 w173 ⟨hf174, hi176, hi177, g178, g179, g180, g181, g182, g183, kk175, h184⟩
      have h185 : Holds _ (a172.eval (.tmp 15)) w155 := kk175.holds rfl h161
      have h186 : Holds _ (a172.eval (.tmp 16)) w155 := kk175.holds rfl h162
      refine wp_seq ?_
      refine wp_seq ?_
      refine wp_region_lit ?_
      refine wp_all [([17], []), ([15], []), ([], [1]), ([], [0, 2]), ([], [3]), ([17], [4]), ([16], [4]), ([], [6, 4]), ([], [5, 7, 4]), ([], [4, 8])] [15, 16, 17] w155.heap.size hf174 g183.size (by kernel_rfl) (bund_cons h184 (bund_cons (is_any h185) (bund_cons (is_any h186) bund_nil))) ?_
      refine ch rfl (ob_move (arg_free 0 rfl rfl)) ?_
      refine ch rfl (ob_move (arg_free 1 rfl rfl)) ?_
      refine ch rfl (ob_len (ArgOK.sl (ArgOK.val (arg_op 1 0 rfl rfl rfl rfl) (hV168.up g183))) Try.underlying66) ?_
      refine ch rfl (ob_lss (arg_op 0 2 rfl rfl rfl rfl) (arg_op 2 0 rfl rfl rfl rfl)) ?_
      refine ch rfl (ob_move (arg_op 3 0 rfl rfl rfl rfl)) ?_
      refine chg (b := _) rfl rfl (arg_op 4 0 rfl rfl rfl rfl) (fun hb4 => ob_move (arg_free 0 rfl rfl)) ?_
      refine chg (b := _) rfl rfl (arg_op 4 1 rfl rfl rfl rfl) (fun hb4 => ob_move (arg_free 2 rfl rfl)) ?_
      refine chg (b := _) rfl rfl (arg_op 4 2 rfl rfl rfl rfl) (fun hb4 => ob_len (ArgOK.sl (ArgOK.val (ArgOK.when (arg_op 6 0 rfl rfl rfl rfl) hb4) (hV169.up g183))) Try.underlying66) ?_
      refine chg (b := _) rfl rfl (arg_op 4 3 rfl rfl rfl rfl) (fun hb4 => ob_lss (ArgOK.when (arg_op 5 2 rfl rfl rfl rfl) hb4) (ArgOK.when (arg_op 7 0 rfl rfl rfl rfl) hb4)) ?_
      refine ch rfl (ob_and (arg_op 4 4 rfl rfl rfl rfl) (arg_op 8 0 rfl rfl rfl rfl)) ?_
      refine ch_nil ?_
      intro a187 w188 hf189 hg190 hk191 hn192
      have h193 : Holds _ (a187.eval (.tmp 69)) w188 := hn192.at 9 0 rfl rfl rfl
      have h194 : Holds _ (a187.eval (.tmp 17)) w188 := hk191.holds rfl (h184.up hg190)
      have h195 : Holds _ (a187.eval (.tmp 15)) w155 := hk191.holds rfl h185
      have h196 : Holds _ (a187.eval (.tmp 16)) w155 := hk191.holds rfl h186
      have g197 : Grow w0 w188 := g178.trans hg190
      have g198 : Grow w2 w188 := g179.trans hg190
      have g199 : Grow w23 w188 := g180.trans hg190
      have g200 : Grow w47 w188 := g181.trans hg190
      have g201 : Grow w110 w188 := g182.trans hg190
      have g202 : Grow w155 w188 := g183.trans hg190
      have kk203 : Keep _ a154 a187 := kk175.trans hk191 rfl
      clear h184 h185 h186 g178 g179 g180 g181 g182 g183 kk175 hf174 hk191 hn192 hg190
      refine then_ ?_
      refine wp_if h193 ?_ ?_
      · intro hc204
        try simp only [cond_norm] at hc204
        refine wp_skip ?_
        refine then_ ?_
        refine wp_seq ?_
        refine wp_block ?_
        refine wp_seq ?_
        refine wp_calm [0, 0, 3, 7, 15, 0, 0, 96, 224, 480, 1023, 2047, 4095, 4095, 16383, 32767, 65535, 4095, 4095, 397311, 921599, 1970175, 4194303, 8388607] [([15], []), ([17], []), ([], [0, 1]), ([], [2]), ([], [3]), ([16], []), ([17], []), ([], [5, 6]), ([], [7]), ([], [8]), ([], [4, 9]), ([], [10]), ([15], [11]), ([17], [11]), ([], [12, 13, 11]), ([], [14, 11]), ([], [15, 11]), ([16], [11]), ([17], [11]), ([], [17, 18, 11]), ([], [19, 11]), ([], [20, 11]), ([], [16, 21, 11]), ([], [11, 22])] [15, 16, 17] w155.heap.size hf189 g202.size (by kernel_rfl) (bund_cons (is_any h195) (bund_cons h194 (bund_cons (is_any h196) bund_nil))) ?_
        intro ws205 hs206
        refine ch rfl (ob_move (arg_free 0 rfl rfl)) ?_
        refine ch rfl (ob_move (arg_free 1 rfl rfl)) ?_
        refine ch rfl (ob_ix (ArgOK.sl (ArgOK.val (arg_op 0 1 rfl rfl rfl rfl) ((hV168.up g202).up hs206))) (arg_op 1 0 rfl rfl rfl rfl) (rfl) ?_ Try.underlying66 szStep) ?_
        · omega
        refine ch rfl (ob_fa_step0 (arg_op 2 0 rfl rfl rfl rfl)) ?_
        refine ch rfl (ob_load1 (arg_op 3 0 rfl rfl rfl rfl) Try.underlying9 rfl) ?_
        refine ch rfl (ob_move (arg_free 2 rfl rfl)) ?_
        refine ch rfl (ob_move (arg_free 1 rfl rfl)) ?_
        refine ch rfl (ob_ix (ArgOK.sl (ArgOK.val (arg_op 5 1 rfl rfl rfl rfl) ((hV169.up g202).up hs206))) (arg_op 6 0 rfl rfl rfl rfl) (rfl) ?_ Try.underlying66 szStep) ?_
        · omega
        refine ch rfl (ob_fa_step0 (arg_op 7 0 rfl rfl rfl rfl)) ?_
        refine ch rfl (ob_load1 (arg_op 8 0 rfl rfl rfl rfl) Try.underlying9 rfl) ?_
        refine ch rfl (ob_neq_str (arg_op 4 5 rfl rfl rfl rfl) (arg_op 9 0 rfl rfl rfl rfl)) ?_
        refine ch rfl (ob_move (arg_op 10 0 rfl rfl rfl rfl)) ?_
        refine chg (b := _) rfl rfl (arg_op 11 0 rfl rfl rfl rfl) (fun hb11 => ob_move (arg_free 0 rfl rfl)) ?_
        refine chg (b := _) rfl rfl (arg_op 11 1 rfl rfl rfl rfl) (fun hb11 => ob_move (arg_free 1 rfl rfl)) ?_
        refine chg (b := _) rfl rfl (arg_op 11 2 rfl rfl rfl rfl) (fun hb11 => ob_ix (ArgOK.sl (ArgOK.val (ArgOK.when (arg_op 12 1 rfl rfl rfl rfl) hb11) ((hV168.up g202).up hs206))) (ArgOK.when (arg_op 13 0 rfl rfl rfl rfl) hb11) (rfl) ?_ Try.underlying66 szStep) ?_
        · omega
        refine chg (b := _) rfl rfl (arg_op 11 3 rfl rfl rfl rfl) (fun hb11 => ob_fa_step1 (ArgOK.when (arg_op 14 0 rfl rfl rfl rfl) hb11)) ?_
        refine chg (b := _) rfl rfl (arg_op 11 4 rfl rfl rfl rfl) (fun hb11 => ob_load_nm (ArgOK.when (arg_op 15 0 rfl rfl rfl rfl) hb11)) ?_
        refine chg (b := _) rfl rfl (arg_op 11 5 rfl rfl rfl rfl) (fun hb11 => ob_move (arg_free 2 rfl rfl)) ?_
        refine chg (b := _) rfl rfl (arg_op 11 6 rfl rfl rfl rfl) (fun hb11 => ob_move (arg_free 1 rfl rfl)) ?_
        refine chg (b := _) rfl rfl (arg_op 11 7 rfl rfl rfl rfl) (fun hb11 => ob_ix (ArgOK.sl (ArgOK.val (ArgOK.when (arg_op 17 1 rfl rfl rfl rfl) hb11) ((hV169.up g202).up hs206))) (ArgOK.when (arg_op 18 0 rfl rfl rfl rfl) hb11) (rfl) ?_ Try.underlying66 szStep) ?_
        · omega
        refine chg (b := _) rfl rfl (arg_op 11 8 rfl rfl rfl rfl) (fun hb11 => ob_fa_step1 (ArgOK.when (arg_op 19 0 rfl rfl rfl rfl) hb11)) ?_
        refine chg (b := _) rfl rfl (arg_op 11 9 rfl rfl rfl rfl) (fun hb11 => ob_load_nm (ArgOK.when (arg_op 20 0 rfl rfl rfl rfl) hb11)) ?_
        refine chg (b := _) rfl rfl (arg_op 11 10 rfl rfl rfl rfl) (fun hb11 => ob_eqnm (ArgOK.when (arg_op 16 5 rfl rfl rfl rfl) hb11) (ArgOK.when (arg_op 21 0 rfl rfl rfl rfl) hb11)) ?_
        refine ch rfl (ob_and (arg_op 11 11 rfl rfl rfl rfl) (arg_op 22 0 rfl rfl rfl rfl)) ?_
        refine ch_nil ?_
        intro a207 w208 hf209 hg210 hk211 hn212
        have h213 : Holds _ (a207.eval (.tmp 95)) w208 := hn212.at 23 0 rfl rfl rfl
        have h214 : Holds _ (a207.eval (.tmp 17)) w208 := hk211.holds rfl (h194.up hg210)
        have h215 : Holds _ (a207.eval (.tmp 15)) w155 := hk211.holds rfl h195
        have h216 : Holds _ (a207.eval (.tmp 16)) w155 := hk211.holds rfl h196
        have g217 : Grow w0 w208 := g197.trans hg210
        have g218 : Grow w2 w208 := g198.trans hg210
        have g219 : Grow w23 w208 := g199.trans hg210
        have g220 : Grow w47 w208 := g200.trans hg210
        have g221 : Grow w110 w208 := g201.trans hg210
        have g222 : Grow w155 w208 := g202.trans hg210
        have kk223 : Keep _ a154 a207 := kk203.trans hk211 rfl
        clear h194 h195 h196 g197 g198 g199 g200 g201 g202 kk203 hf189 hk211 hn212 hg210
        refine then_ ?_
        refine wp_if h213 ?_ ?_
        · intro hc224
          try simp only [cond_norm] at hc224
          refine wp_seq ?_
          have g225 : Grow w208 w208 := Grow.refl _
          have hz226 : w155.heap.size ≤ w208.heap.size := g222.size
          refine wp_region_lit ?_
          refine wp_all [([], []), ([], [0])] [15, 16] w208.heap.size hf209 g225.size (by kernel_rfl) bund_nil ?_
          refine ch rfl (ob_call0 (by kernel_rfl) (c_awake3) ) ?_
          refine ch rfl (ob_assign (arg_op 0 0 rfl rfl rfl rfl)) ?_
          refine ch_nil ?_
          intro a227 w228 hf229 hg230 hk231 hn232
          have h233 : Holds _ (a227.eval (.tmp 14)) w228 := hn232.at 1 0 rfl rfl rfl
          have h234 : Holds _ (a227.eval (.tmp 15)) w155 := hk231.holds rfl h215
          have h235 : Holds _ (a227.eval (.tmp 16)) w155 := hk231.holds rfl h216
          have g236 : Grow w0 w228 := g217.trans hg230
          have g237 : Grow w2 w228 := g218.trans hg230
          have g238 : Grow w23 w228 := g219.trans hg230
          have g239 : Grow w47 w228 := g220.trans hg230
          have g240 : Grow w110 w228 := g221.trans hg230
          have g241 : Grow w155 w228 := g222.trans hg230
          have g242 : Grow w208 w228 := g225.trans hg230
          have kk243 : Keep _ a154 a227 := kk223.trans hk231 rfl
          clear h215 h216 g217 g218 g219 g220 g221 g222 g225 kk223 hf209 hk231 hn232
          refine then_ ?_
          refine wp_ret ?_
          refine blockR ?_
          refine thenR ?_
          refine thenR ?_
          refine blockR ?_
          refine thenR ?_
          exact ret_tmp rfl hf229 g236 (is_cast h233 (by rfl))
        · intro hc224
          try simp only [cond_norm] at hc224
          have hne := hc224
          refine wp_skip ?_
          refine blockN ?_
          refine then_ ?_
          refine wp_region_lit ?_
          refine wp_all [([17], []), ([], [0]), ([], [1])] [15, 16] w155.heap.size hf209 g222.size (by kernel_rfl) (bund_cons h214 bund_nil) ?_
          refine ch rfl (ob_move (arg_free 0 rfl rfl)) ?_
          first
            | (refine ch rfl (ob_add' (arg_op 0 0 rfl rfl rfl rfl) arg_c ?_) ?_; · omega)
            | refine ch rfl (ob_add (arg_op 0 0 rfl rfl rfl rfl) arg_c) ?_
          refine ch rfl (ob_assign (arg_op 1 0 rfl rfl rfl rfl)) ?_
          refine ch_nil ?_
          intro a244 w245 hf246 hg247 hk248 hn249
          have h250 : Holds _ (a244.eval (.tmp 17)) w245 := hn249.at 2 0 rfl rfl rfl
          have h251 : Holds _ (a244.eval (.tmp 15)) w155 := hk248.holds rfl h215
          have h252 : Holds _ (a244.eval (.tmp 16)) w155 := hk248.holds rfl h216
          have g253 : Grow w0 w245 := g217.trans hg247
          have g254 : Grow w2 w245 := g218.trans hg247
          have g255 : Grow w23 w245 := g219.trans hg247
          have g256 : Grow w47 w245 := g220.trans hg247
          have g257 : Grow w110 w245 := g221.trans hg247
          have g258 : Grow w155 w245 := g222.trans hg247
          have kk259 : Keep _ a154 a244 := kk223.trans hk248 rfl
          clear h215 h216 g217 g218 g219 g220 g221 g222 kk223 hf209 hk248 hn249 hg247
          refine then_ ?_
          exact ⟨(k + 1), (by ((try dsimp only); omega)), hf246, (by omega), (by exact all_step (by assumption) (by rintro ⟨g1, g2⟩; rcases hne with g3 | g3; exact g1 g3; exact g3 g2)), g253, g254, g255, g256, g257, g258, kk259, (is_cast h250 (by first | rfl | (refine congrArg intV ?_; (try dsimp only); omega)))⟩
      · intro hc204
        try simp only [cond_norm] at hc204
        exact (hno _ (by assumption) (by omega)).elim


end Ex
end Go.Proofs.Ytnmfiiejhoafnaa
