/- The hash: turns, rounds, words, sums; of the program and of the reference. -/
import Derived.Test.YtnmfiiejhoafnaaGreatPvHash1
set_option linter.unusedSimpArgs false
set_option linter.unusedVariables false
namespace Go.Proofs.YtnmfiiejhoafnaaGreat
namespace Ex
open Go Calm Go.RowKit
def rotl (v s : UInt64) : UInt64 := (v <<< UInt64.ofNat s.toNat) ||| (v >>> UInt64.ofNat (64 - s).toNat)
theorem sub64 {s : UInt64} (h : 0 < s.toNat ∧ s.toNat < 64) : (64 - s).toNat < 64 := by
  rw [UInt64.toNat_sub_of_le _ _ (by rw [UInt64.le_iff_toNat_le]; show s.toNat ≤ 64; omega)]
  show 64 - s.toNat < 64
  omega
def mix1 (p : UInt64 × UInt64) : UInt64 × UInt64 := (rotl (p.1 + p.2) 32 * 11400714819323198485, rotl p.2 13 ^^^ (p.1 + p.2))
def mixN : Nat → UInt64 × UInt64 → UInt64 × UInt64
  | 0, p => p
  | k + 1, p => mix1 (mixN k p)
def mixC (k : Nat) (p : UInt64 × UInt64) : List Value := [u64V (mixN k p).1, u64V (mixN k p).2]
def wordUp (l : List UInt8) : Nat → UInt64
  | 0 => 0
  | k + 1 => wordUp l k ||| ((l.getD k 0).toUInt64 <<< UInt64.ofNat (56 - 8 * k))
def word (l : List UInt8) : UInt64 := wordUp l 8
theorem or_add (acc : UInt64) (b : UInt8) (s : Nat) (hs : s ≤ 56) (h : acc.toNat % 2 ^ (s + 8) = 0) : (acc ||| (b.toUInt64 <<< UInt64.ofNat s)).toNat = acc.toNat + b.toNat * 2 ^ s := by
  have hb := b.toNat_lt
  have ha := acc.toNat_lt
  rw [UInt64.toNat_or, UInt64.toNat_shiftLeft, UInt8.toNat_toUInt64, UInt64.toNat_ofNat', Nat.mod_eq_of_lt (show s < 2 ^ 64 by omega), Nat.mod_eq_of_lt (show s < 64 by omega)]
  have h1 : b.toNat * 2 ^ s < 2 ^ (s + 8) := by
    rw [Nat.pow_add, Nat.mul_comm]
    exact Nat.mul_lt_mul_of_pos_left hb (Nat.two_pow_pos s)
  have h2 : 2 ^ (s + 8) ≤ 2 ^ 64 := Nat.pow_le_pow_right (by decide) (by omega)
  rw [Nat.shiftLeft_eq, Nat.mod_eq_of_lt (show b.toNat * 2 ^ s < 2 ^ 64 by omega)]
  obtain ⟨q, hq⟩ := Nat.dvd_of_mod_eq_zero h
  rw [hq, Nat.mul_comm (2 ^ (s + 8)) q, ← Nat.shiftLeft_eq, ← Nat.shiftLeft_add_eq_or_of_lt h1]
theorem wordUp_mod (l : List UInt8) : ∀ k, k ≤ 8 → (wordUp l k).toNat % 2 ^ (64 - 8 * k) = 0
  | 0, _ => by simp [wordUp]
  | k + 1, h => by
    have h1 := wordUp_mod l k (by omega)
    have h3 : 56 - 8 * k + 8 = 64 - 8 * k := by omega
    have h5 : (wordUp l (k + 1)).toNat = (wordUp l k).toNat + (l.getD k 0).toNat * 2 ^ (56 - 8 * k) := or_add (wordUp l k) (l.getD k 0) (56 - 8 * k) (by omega) (by rw [h3]; exact h1)
    rw [h5]
    have e : 64 - 8 * (k + 1) = 56 - 8 * k := by omega
    rw [e]
    have h6 : 2 ^ (56 - 8 * k) ∣ (wordUp l k).toNat := by
      refine Nat.dvd_trans ?_ (Nat.dvd_of_mod_eq_zero h1)
      exact Nat.pow_dvd_pow 2 (by omega)
    exact Nat.mod_eq_zero_of_dvd (Nat.dvd_add h6 (Nat.dvd_mul_left _ _))
theorem wordUp_step (l : List UInt8) (k s : Nat) (hk : k < 8) (hs : s + 8 * k = 56) : (wordUp l (k + 1)).toNat = (wordUp l k).toNat + (l.getD k 0).toNat * 2 ^ s := by
  have e : s = 56 - 8 * k := by omega
  subst e
  have h3 : 56 - 8 * k + 8 = 64 - 8 * k := by omega
  exact or_add (wordUp l k) (l.getD k 0) (56 - 8 * k) (by omega) (by rw [h3]; exact wordUp_mod l k (by omega))
theorem word_ofB (l : List UInt8) : word l = ofB (l.getD 0 0) (l.getD 1 0) (l.getD 2 0) (l.getD 3 0) (l.getD 4 0) (l.getD 5 0) (l.getD 6 0) (l.getD 7 0) := by
  apply UInt64.toNat_inj.1
  have s0 := wordUp_step l 0 56 (by decide) rfl
  have s1 := wordUp_step l 1 48 (by decide) rfl
  have s2 := wordUp_step l 2 40 (by decide) rfl
  have s3 := wordUp_step l 3 32 (by decide) rfl
  have s4 := wordUp_step l 4 24 (by decide) rfl
  have s5 := wordUp_step l 5 16 (by decide) rfl
  have s6 := wordUp_step l 6 8 (by decide) rfl
  have s7 := wordUp_step l 7 0 (by decide) rfl
  have z : (wordUp l 0).toNat = 0 := rfl
  have h0 := (l.getD 0 0).toNat_lt
  have h1 := (l.getD 1 0).toNat_lt
  have h2 := (l.getD 2 0).toNat_lt
  have h3 := (l.getD 3 0).toNat_lt
  have h4 := (l.getD 4 0).toNat_lt
  have h5 := (l.getD 5 0).toNat_lt
  have h6 := (l.getD 6 0).toNat_lt
  have h7 := (l.getD 7 0).toNat_lt
  unfold word ofB
  rw [UInt64.toNat_ofNat']
  simp only [Nat.zero_add, Nat.reduceAdd] at s0 s1 s2 s3 s4 s5 s6 s7
  generalize (l.getD 0 0).toNat = x0 at *
  generalize (l.getD 1 0).toNat = x1 at *
  generalize (l.getD 2 0).toNat = x2 at *
  generalize (l.getD 3 0).toNat = x3 at *
  generalize (l.getD 4 0).toNat = x4 at *
  generalize (l.getD 5 0).toNat = x5 at *
  generalize (l.getD 6 0).toNat = x6 at *
  generalize (l.getD 7 0).toNat = x7 at *
  generalize (wordUp l 0).toNat = y0 at *
  generalize (wordUp l 1).toNat = y1 at *
  generalize (wordUp l 2).toNat = y2 at *
  generalize (wordUp l 3).toNat = y3 at *
  generalize (wordUp l 4).toNat = y4 at *
  generalize (wordUp l 5).toNat = y5 at *
  generalize (wordUp l 6).toNat = y6 at *
  generalize (wordUp l 7).toNat = y7 at *
  generalize (wordUp l 8).toNat = y8 at *
  omega
theorem wordUp_past (l : List UInt8) : ∀ j, wordUp l (l.length + j) = wordUp l l.length
  | 0 => rfl
  | j + 1 => by
    show wordUp l (l.length + j) ||| ((l.getD (l.length + j) 0).toUInt64 <<< UInt64.ofNat (56 - 8 * (l.length + j))) = _
    rw [wordUp_past l j]
    have : l.getD (l.length + j) 0 = 0 := by simp [List.getD_eq_getElem?_getD]
    rw [this]
    simp
theorem word_short {l : List UInt8} (h : l.length ≤ 8) : wordUp l l.length = word l := by
  have := wordUp_past l (8 - l.length)
  rw [show l.length + (8 - l.length) = 8 by omega] at this
  exact this.symm
theorem word_cells {l : List UInt8} (h : l.length < 8) : ([] : List Value) ++ ((l.take 8).map byteV ++ (nmCells 0).drop (0 + min l.length 8)) = nmCells (word l) := by
  rw [word_ofB, nmCells_ofB]
  match l, h with
  | [], _ => rfl
  | [_], _ => rfl
  | [_, _], _ => rfl
  | [_, _, _], _ => rfl
  | [_, _, _, _], _ => rfl
  | [_, _, _, _, _], _ => rfl
  | [_, _, _, _, _, _], _ => rfl
  | [_, _, _, _, _, _, _], _ => rfl
def sumUp (l : List UInt8) : Nat → UInt64 × UInt64
  | 0 => (2611923443488327891, 1376283091369227076)
  | j + 1 => mixN 2 ((sumUp l j).1 ^^^ word (l.drop (8 * j)), (sumUp l j).2)
def sumEnd (l : List UInt8) : UInt64 × UInt64 := mixN 4 ((sumUp l ((l.length + 7) / 8)).1, (sumUp l ((l.length + 7) / 8)).2 ^^^ UInt64.ofNat l.length)
def sum (l : List UInt8) : UInt64 := (sumEnd l).1 ^^^ (sumEnd l).2
theorem len64 {l : List UInt8} (h : l.length ≤ 140737488355328) : ((l.length : Nat) : Int) % 18446744073709551616 = ((UInt64.ofNat l.length).toNat : Int) := by
  rw [UInt64.toNat_ofNat']
  omega
set_option maxRecDepth 100000 in
theorem c_rrotl {v s : UInt64} (h : 0 < s.toNat ∧ s.toNat < 64) : Con2 128 (Is (u64V v)) (Is (u64V s)) (fun _ => Is (u64V (rotl v s))) := by
  intro lo v0 v1 w0 hlo hv0 hv1
  refine enter Tryz.func128 rfl Tryz.ntmps128 (by simp) ?_
  intro a0 hf0 ha
  have h00 : Holds _ (a0.eval (.tmp 0)) w0 := arg_holds ha rfl hv0
  have h01 : Holds _ (a0.eval (.tmp 1)) w0 := arg_holds ha rfl hv1
  clear ha
  have g0 : Grow w0 w0 := Grow.refl _
  refine wp_seq ?_
  refine wp_region_lit ?_
  refine wp_all [([], [])] [0, 1] w0.heap.size hf0 g0.size (by kernel_rfl) bund_nil ?_
  refine ch rfl (ob_assign (arg_cu 0 rfl)) ?_
  refine ch_nil ?_
  intro a1 w2 hf3 hg4 hk5 hn6
  have h7 := hk5.holds rfl h00
  have h8 := hk5.holds rfl h01
  have g9 := g0.trans hg4
  clear h00 h01 g0 hf0 hk5 hn6
  refine then_ ?_
  refine wp_seq ?_
  refine wp_region_lit ?_
  refine wp_all [([0], []), ([1], []), ([], [0, 1]), ([0], []), ([1], []), ([], [4]), ([], [3, 5]), ([], [2, 6]), ([], [7])] [] w0.heap.size hf3 g9.size (by kernel_rfl) (bund_cons (is_any h7) (bund_cons (is_any h8) bund_nil)) ?_
  refine ch rfl (ob_move (arg_free 0 rfl rfl)) ?_
  refine ch rfl (ob_move (arg_free 1 rfl rfl)) ?_
  refine ch rfl (ob_shluv (arg_op 0 1 rfl rfl rfl rfl) (arg_op 1 0 rfl rfl rfl rfl) ?_) ?_
  · exact h.2
  refine ch rfl (ob_move (arg_free 0 rfl rfl)) ?_
  refine ch rfl (ob_move (arg_free 1 rfl rfl)) ?_
  refine ch rfl (ob_subu (arg_cu 64 rfl) (arg_op 4 0 rfl rfl rfl rfl)) ?_
  refine ch rfl (ob_shruv (arg_op 3 2 rfl rfl rfl rfl) (arg_op 5 0 rfl rfl rfl rfl) ?_) ?_
  · exact sub64 h
  refine ch rfl (ob_oru (arg_op 2 4 rfl rfl rfl rfl) (arg_op 6 0 rfl rfl rfl rfl)) ?_
  refine ch rfl (ob_assign (arg_op 7 0 rfl rfl rfl rfl)) ?_
  refine ch_nil ?_
  intro a10 w11 hf12 hg13 hk14 hn15
  have h16 : Holds _ (a10.eval (.tmp 4)) w11 := hn15.at 8 0 rfl rfl rfl
  have g17 := g9.trans hg13
  clear g9 hf3 hk14 hn15 hg13
  refine then_ ?_
  refine wp_ret ?_
  exact ret_tmp rfl hf12 g17 h16
set_option maxRecDepth 100000 in
theorem c_rot {v s : UInt64} (h : 0 < s.toNat ∧ s.toNat < 64) : Con2 127 (Is (u64V v)) (Is (intV (s.toNat : Int))) (fun _ => Is (u64V (rotl v s))) := by
  intro lo v0 v1 w0 hlo hv0 hv1
  refine enter Tryz.func127 rfl Tryz.ntmps127 (by simp) ?_
  intro a0 hf0 ha
  have h00 : Holds _ (a0.eval (.tmp 0)) w0 := arg_holds ha rfl hv0
  have h01 : Holds _ (a0.eval (.tmp 1)) w0 := arg_holds ha rfl hv1
  clear ha
  have g0 : Grow w0 w0 := Grow.refl _
  refine wp_seq ?_
  refine wp_region_lit ?_
  refine wp_all [([], [])] [0, 1] w0.heap.size hf0 g0.size (by kernel_rfl) bund_nil ?_
  refine ch rfl (ob_assign (arg_cu 0 rfl)) ?_
  refine ch_nil ?_
  intro a1 w2 hf3 hg4 hk5 hn6
  have h7 := hk5.holds rfl h00
  have h8 := hk5.holds rfl h01
  have g9 := g0.trans hg4
  clear h00 h01 g0 hf0 hk5 hn6
  refine then_ ?_
  refine wp_seq ?_
  refine wp_region_lit ?_
  refine wp_all [([1], []), ([], [0]), ([], [1]), ([], [2])] [0] w0.heap.size hf3 g9.size (by kernel_rfl) (bund_cons (is_any h8) bund_nil) ?_
  refine ch rfl (ob_move (arg_free 0 rfl rfl)) ?_
  refine ch rfl (ob_intu64 (m := s) (arg_op 0 0 rfl rfl rfl rfl) Tryz.underlying3 Tryz.underlying129 ?_) ?_
  · exact Int.emod_eq_of_lt (by omega) (by omega)
  refine ch rfl (ob_and63 (arg_op 1 0 rfl rfl rfl rfl) (arg_cu 63 rfl) h.2) ?_
  refine ch rfl (ob_assign (arg_op 2 0 rfl rfl rfl rfl)) ?_
  refine ch_nil ?_
  intro a10 w11 hf12 hg13 hk14 hn15
  have h16 : Holds _ (a10.eval (.tmp 5)) w11 := hn15.at 3 0 rfl rfl rfl
  have h17 := hk14.holds rfl h7
  have g18 := g9.trans hg13
  clear h7 g9 hf3 hk14 hn15 hg13
  refine then_ ?_
  refine wp_seq ?_
  refine wp_region_lit ?_
  refine wp_all [([0], []), ([5], []), ([], [0, 1]), ([0], []), ([5], []), ([], [4]), ([], [3, 5]), ([], [2, 6]), ([], [7])] [] w0.heap.size hf12 g18.size (by kernel_rfl) (bund_cons (is_any h17) (bund_cons h16 bund_nil)) ?_
  refine ch rfl (ob_move (arg_free 0 rfl rfl)) ?_
  refine ch rfl (ob_move (arg_free 1 rfl rfl)) ?_
  refine ch rfl (ob_shluv (arg_op 0 1 rfl rfl rfl rfl) (arg_op 1 0 rfl rfl rfl rfl) ?_) ?_
  · exact h.2
  refine ch rfl (ob_move (arg_free 0 rfl rfl)) ?_
  refine ch rfl (ob_move (arg_free 1 rfl rfl)) ?_
  refine ch rfl (ob_subu (arg_cu 64 rfl) (arg_op 4 0 rfl rfl rfl rfl)) ?_
  refine ch rfl (ob_shruv (arg_op 3 2 rfl rfl rfl rfl) (arg_op 5 0 rfl rfl rfl rfl) ?_) ?_
  · exact sub64 h
  refine ch rfl (ob_oru (arg_op 2 4 rfl rfl rfl rfl) (arg_op 6 0 rfl rfl rfl rfl)) ?_
  refine ch rfl (ob_assign (arg_op 7 0 rfl rfl rfl rfl)) ?_
  refine ch_nil ?_
  intro a19 w20 hf21 hg22 hk23 hn24
  have h25 : Holds _ (a19.eval (.tmp 4)) w20 := hn24.at 8 0 rfl rfl rfl
  have g26 := g18.trans hg22
  clear g18 hf12 hk23 hn24 hg22
  refine then_ ?_
  refine wp_ret ?_
  exact ret_tmp rfl hf21 g26 h25
set_option maxRecDepth 100000 in
theorem c_rmix {x y : UInt64} : Con2 124 (Is (u64V x)) (Is (u64V y)) (fun _ => Two (Is (u64V (mix1 (x, y)).1)) (Is (u64V (mix1 (x, y)).2))) := by
  intro lo v0 v1 w0 hlo hv0 hv1
  refine enter Tryz.func124 rfl Tryz.ntmps124 (by simp) ?_
  intro a0 hf0 ha
  have h00 : Holds _ (a0.eval (.tmp 0)) w0 := arg_holds ha rfl hv0
  have h01 : Holds _ (a0.eval (.tmp 1)) w0 := arg_holds ha rfl hv1
  clear ha
  have g0 : Grow w0 w0 := Grow.refl _
  refine wp_seq ?_
  refine wp_region_lit ?_
  refine wp_all [([], []), ([], [])] [0, 1] w0.heap.size hf0 g0.size (by kernel_rfl) bund_nil ?_
  refine ch rfl (ob_assign (arg_cu 0 rfl)) ?_
  refine ch rfl (ob_assign (arg_cu 0 rfl)) ?_
  refine ch_nil ?_
  intro a1 w2 hf3 hg4 hk5 hn6
  have h7 := hk5.holds rfl h00
  have h8 := hk5.holds rfl h01
  have g9 := g0.trans hg4
  clear h00 h01 g0 hf0 hk5 hn6
  refine then_ ?_
  refine wp_seq ?_
  refine wp_region_lit ?_
  refine wp_all [([0], []), ([1], []), ([], [0, 1]), ([], [2])] [1] w0.heap.size hf3 g9.size (by kernel_rfl) (bund_cons (is_any h7) (bund_cons (is_any h8) bund_nil)) ?_
  refine ch rfl (ob_move (arg_free 0 rfl rfl)) ?_
  refine ch rfl (ob_move (arg_free 1 rfl rfl)) ?_
  refine ch rfl (ob_addu (arg_op 0 1 rfl rfl rfl rfl) (arg_op 1 0 rfl rfl rfl rfl)) ?_
  refine ch rfl (ob_assign (arg_op 2 0 rfl rfl rfl rfl)) ?_
  refine ch_nil ?_
  intro a10 w11 hf12 hg13 hk14 hn15
  have h16 : Holds _ (a10.eval (.tmp 0)) w11 := hn15.at 3 0 rfl rfl rfl
  have h17 := hk14.holds rfl h8
  have g18 := g9.trans hg13
  clear h8 g9 hf3 hk14 hn15 hg13
  refine then_ ?_
  refine wp_seq ?_
  refine wp_region_lit ?_
  refine wp_all [([1], []), ([], [0]), ([0], []), ([], [1, 2]), ([], [3])] [0] w0.heap.size hf12 g18.size (by kernel_rfl) (bund_cons (is_any h17) (bund_cons h16 bund_nil)) ?_
  refine ch rfl (ob_move (arg_free 0 rfl rfl)) ?_
  refine ch rfl (ob_call2 (by kernel_rfl) (c_rrotl ?_) (arg_op 0 0 rfl rfl rfl rfl) (arg_cu 13 rfl)) ?_
  · decide
  refine ch rfl (ob_move (arg_free 1 rfl rfl)) ?_
  refine ch rfl (ob_xoru (arg_op 1 1 rfl rfl rfl rfl) (arg_op 2 0 rfl rfl rfl rfl)) ?_
  refine ch rfl (ob_assign (arg_op 3 0 rfl rfl rfl rfl)) ?_
  refine ch_nil ?_
  intro a19 w20 hf21 hg22 hk23 hn24
  have h25 : Holds _ (a19.eval (.tmp 1)) w20 := hn24.at 4 0 rfl rfl rfl
  have h26 := hk23.holds rfl (h16.up hg22)
  have g27 := g18.trans hg22
  clear h16 g18 hf12 hk23 hn24 hg22
  refine then_ ?_
  refine wp_seq ?_
  refine wp_region_lit ?_
  refine wp_all [([0], []), ([], [0]), ([], [1]), ([], [2])] [1] w0.heap.size hf21 g27.size (by kernel_rfl) (bund_cons h26 bund_nil) ?_
  refine ch rfl (ob_move (arg_free 0 rfl rfl)) ?_
  refine ch rfl (ob_call2 (by kernel_rfl) (c_rrotl ?_) (arg_op 0 0 rfl rfl rfl rfl) (arg_cu 32 rfl)) ?_
  · decide
  refine ch rfl (ob_mulu (arg_op 1 0 rfl rfl rfl rfl) (arg_cu 11400714819323198485 rfl)) ?_
  refine ch rfl (ob_assign (arg_op 2 0 rfl rfl rfl rfl)) ?_
  refine ch_nil ?_
  intro a28 w29 hf30 hg31 hk32 hn33
  have h34 : Holds _ (a28.eval (.tmp 0)) w29 := hn33.at 3 0 rfl rfl rfl
  have h35 := hk32.holds rfl (h25.up hg31)
  have g36 := g27.trans hg31
  clear h25 g27 hf21 hk32 hn33 hg31
  refine then_ ?_
  refine wp_seq ?_
  refine wp_region_lit ?_
  refine wp_all [([0], []), ([1], []), ([], [0]), ([], [1])] [] w0.heap.size hf30 g36.size (by kernel_rfl) (bund_cons h34 (bund_cons h35 bund_nil)) ?_
  refine ch rfl (ob_move (arg_free 0 rfl rfl)) ?_
  refine ch rfl (ob_move (arg_free 1 rfl rfl)) ?_
  refine ch rfl (ob_assign (arg_op 0 1 rfl rfl rfl rfl)) ?_
  refine ch rfl (ob_assign (arg_op 1 1 rfl rfl rfl rfl)) ?_
  refine ch_nil ?_
  intro a37 w38 hf39 hg40 hk41 hn42
  have h43 : Holds _ (a37.eval (.tmp 4)) w38 := hn42.at 2 1 rfl rfl rfl
  have h44 : Holds _ (a37.eval (.tmp 5)) w38 := hn42.at 3 0 rfl rfl rfl
  have g45 := g36.trans hg40
  clear g36 hf30 hk41 hn42 hg40
  refine then_ ?_
  refine wp_ret ?_
  exact ret_tmp2 rfl hf39 g45 h43 h44
set_option maxRecDepth 100000 in
theorem c_mix {p : UInt64 × UInt64} {k : Nat} (hk : k ≤ 100) : ConM 120 [u64V p.1, u64V p.2] (mixC k p) (intV (k : Int)) := by
  intro bg w0 hb0
  refine enter Tryz.func120 rfl Tryz.ntmps120 (by simp) ?_
  intro a0 hf0 ha
  have hv0 : Holds (Is (PtrV bg)) (a0.eval (.tmp 0)) w0 := arg_holds ha rfl rfl
  have h01 : Holds (Is _) (a0.eval (.tmp 1)) w0 := arg_holds ha rfl rfl
  clear ha
  have g0 : Bel bg w0 w0 := Bel.refl hb0.lt
  refine wp_seq ?_
  refine wp_region_lit ?_
  refine wp_all [([1], []), ([], [])] [0] w0.heap.size hf0 g0.size (by kernel_rfl) (bund_cons h01 bund_nil) ?_
  refine ch rfl (ob_move (arg_free 0 rfl rfl)) ?_
  refine ch rfl (ob_move arg_c) ?_
  refine ch_nil ?_
  intro a1 w2 hf3 hg4 hk5 hn6
  have h7 : Holds _ (a1.eval (.tmp 4)) w2 := hn6.at 0 1 rfl rfl rfl
  have h8 : Holds _ (a1.eval (.tmp 5)) w2 := hn6.at 1 0 rfl rfl rfl
  have hv9 : Holds (Is (PtrV bg)) (a1.eval (.tmp 0)) w2 := is_any (hk5.holds rfl hv0)
  have hb10 := hb0.up hg4
  have g11 : Bel bg w0 w2 := g0.trans hg4
  clear hv0 hb0 g0 hf0 hk5 hn6
  refine then_ ?_
  refine wp_block ?_
  refine wp_loopL (α := Nat) (fun j a' w' => Fr 41 a' ∧ (j ≤ k) ∧ Bel bg w0 w' ∧ Keep [0] a1 a' ∧ Holds (Is (intV (k : Int))) (a'.eval (.tmp 4)) w' ∧ Holds (Is (intV (j : Int))) (a'.eval (.tmp 5)) w' ∧ Blk bg (mixC j p) w') (fun j => k - j) (0) ⟨hf3, (by omega), g11, Keep.refl _ _, (is_cast h7 (by first | rfl | (refine congrArg intV ?_; omega))), (is_cast h8 (by first | rfl | (refine congrArg intV ?_; omega))), hb10⟩ ?_
  intro j a12 w13 ⟨hf14, hi16, g17, kk15, h18, h19, hb20⟩
  have hv21 : Holds (Is (PtrV bg)) (a12.eval (.tmp 0)) w13 := is_any (kk15.holds rfl hv9)
  refine wp_seq ?_
  refine wp_region_lit ?_
  refine wp_all [([5, 4], [])] [0, 4, 5] w0.heap.size hf14 g17.size (by kernel_rfl) (bund_cons h19 (bund_cons h18 bund_nil)) ?_
  refine ch rfl (ob_lss (arg_free 0 rfl rfl) (arg_free 1 rfl rfl)) ?_
  refine ch_nil ?_
  intro a22 w23 hf24 hg25 hk26 hn27
  have h28 : Holds _ (a22.eval (.tmp 6)) w23 := hn27.at 0 0 rfl rfl rfl
  have h29 := hk26.holds rfl (h18.up hg25)
  have h30 := hk26.holds rfl (h19.up hg25)
  have hv31 : Holds (Is (PtrV bg)) (a22.eval (.tmp 0)) w23 := is_any (hk26.holds rfl hv21)
  have hb32 := hb20.up hg25
  have g33 : Bel bg w0 w23 := g17.trans hg25
  have kk34 : Keep _ a1 a22 := kk15.trans hk26 rfl
  clear h18 h19 hv21 hb20 g17 kk15 hf14 hk26 hn27 hg25
  refine then_ ?_
  refine wp_seq ?_
  refine wp_if h28 ?_ ?_
  · intro hc35
    try simp only [cond_norm] at hc35
    refine wp_skip ?_
    refine then_ ?_
    refine wp_seq ?_
    refine wp_block ?_
    refine wp_seq ?_
    refine wp_calm_tail (l1 := [_, _, _, _, _, _, _, _, _, _, _]) [0, 1, 3, 7, 0, 16, 48, 112, 255, 511, 1023, 2047] [([0], []), ([], [0]), ([], [1]), ([], [2]), ([0], []), ([], [4]), ([], [5]), ([], [6]), ([], [3, 7]), ([], [0]), ([], [9])] [0, 4, 5] w0.heap.size hf24 g33.size (by kernel_rfl) (bund_cons (hb32.ownp hv31) bund_nil) ?_
    intro ws36 hs37
    refine ch rfl (ob_move (arg_free 0 rfl rfl)) ?_
    refine ch rfl (ob_nilCheck (arg_op 0 0 rfl rfl rfl rfl)) ?_
    refine ch rfl (ob_faP (n := 0) (arg_op 1 0 rfl rfl rfl rfl) Tryz.underlying136 rfl (by kernel_rfl)) ?_
    refine ch rfl (ob_loadP (arg_op 2 0 rfl rfl rfl rfl) Tryz.underlying102 rfl rfl) ?_
    refine ch rfl (ob_move (arg_free 0 rfl rfl)) ?_
    refine ch rfl (ob_nilCheck (arg_op 4 0 rfl rfl rfl rfl)) ?_
    refine ch rfl (ob_faP (n := 0) (arg_op 5 0 rfl rfl rfl rfl) Tryz.underlying136 rfl (by kernel_rfl)) ?_
    refine ch rfl (ob_loadP (arg_op 6 0 rfl rfl rfl rfl) Tryz.underlying102 rfl rfl) ?_
    refine ch rfl (ob_addu (arg_op 3 4 rfl rfl rfl rfl) (arg_op 7 0 rfl rfl rfl rfl)) ?_
    refine ch rfl (ob_nilCheck (arg_op 0 8 rfl rfl rfl rfl)) ?_
    refine ch rfl (ob_faP (n := 0) (arg_op 9 0 rfl rfl rfl rfl) Tryz.underlying136 rfl (by kernel_rfl)) ?_
    refine ch_nil ?_
    intro a38 w39 hf40 hg41 hk42 hn43
    have h44 : Holds _ (a38.eval (.tmp 15)) w39 := hn43.at 8 2 rfl rfl rfl
    have h45 : Holds _ (a38.eval (.tmp 17)) w39 := hn43.at 10 0 rfl rfl rfl
    have h46 := hk42.holds rfl (h29.up hg41)
    have h47 := hk42.holds rfl (h30.up hg41)
    have hv48 : Holds (Is (PtrV bg)) (a38.eval (.tmp 0)) w39 := is_any (hk42.holds rfl hv31)
    have hb49 := hb32.up hg41
    have g50 : Bel bg w0 w39 := g33.trans hg41
    have kk51 : Keep _ a1 a38 := kk34.trans hk42 rfl
    clear h29 h30 hv31 hb32 g33 kk34 hf24 hk42 hn43 hg41
    refine wl_store_u64 h45 h44 (by simp [mixC]) ?_
    intro w52 ho53 hb54
    have g55 : Bel bg w0 w52 := g50.only ho53 (by omega)
    have h56 : Holds _ (a38.eval (.tmp 4)) w52 := is_any h46
    have h57 : Holds _ (a38.eval (.tmp 5)) w52 := is_any h47
    have hv58 : Holds (Is (PtrV bg)) (a38.eval (.tmp 0)) w52 := is_any hv48
    refine wpList_nil ?_
    refine then_ ?_
    refine wp_seq ?_
    refine wp_calm_tail (l1 := [_, _, _, _, _, _, _, _, _, _, _, _, _]) [0, 0, 2, 6, 14, 30, 0, 64, 192, 448, 1022, 2047, 4095, 8191] [([0], []), ([0], []), ([], [1]), ([], [2]), ([], [3]), ([], [4]), ([0], []), ([], [6]), ([], [7]), ([], [8]), ([], [5, 9]), ([], [0]), ([], [11])] [0, 4, 5] w0.heap.size hf40 g55.size (by kernel_rfl) (bund_cons (hb54.ownp hv58) bund_nil) ?_
    intro ws59 hs60
    refine ch rfl (ob_move (arg_free 0 rfl rfl)) ?_
    refine ch rfl (ob_move (arg_free 0 rfl rfl)) ?_
    refine ch rfl (ob_nilCheck (arg_op 1 0 rfl rfl rfl rfl)) ?_
    refine ch rfl (ob_faP (n := 0) (arg_op 2 0 rfl rfl rfl rfl) Tryz.underlying136 rfl (by kernel_rfl)) ?_
    refine ch rfl (ob_loadP (arg_op 3 0 rfl rfl rfl rfl) Tryz.underlying102 rfl rfl) ?_
    refine ch rfl (ob_call2 (by kernel_rfl) (c_rot (s := 13) (by decide)) (arg_op 4 0 rfl rfl rfl rfl) arg_c) ?_
    refine ch rfl (ob_move (arg_free 0 rfl rfl)) ?_
    refine ch rfl (ob_nilCheck (arg_op 6 0 rfl rfl rfl rfl)) ?_
    refine ch rfl (ob_faP (n := 0) (arg_op 7 0 rfl rfl rfl rfl) Tryz.underlying136 rfl (by kernel_rfl)) ?_
    refine ch rfl (ob_loadP (arg_op 8 0 rfl rfl rfl rfl) Tryz.underlying102 rfl rfl) ?_
    refine ch rfl (ob_xoru (arg_op 5 4 rfl rfl rfl rfl) (arg_op 9 0 rfl rfl rfl rfl)) ?_
    refine ch rfl (ob_nilCheck (arg_op 0 10 rfl rfl rfl rfl)) ?_
    refine ch rfl (ob_faP (n := 0) (arg_op 11 0 rfl rfl rfl rfl) Tryz.underlying136 rfl (by kernel_rfl)) ?_
    refine ch_nil ?_
    intro a61 w62 hf63 hg64 hk65 hn66
    have h67 : Holds _ (a61.eval (.tmp 28)) w62 := hn66.at 10 2 rfl rfl rfl
    have h68 : Holds _ (a61.eval (.tmp 30)) w62 := hn66.at 12 0 rfl rfl rfl
    have h69 := hk65.holds rfl (h56.up hg64)
    have h70 := hk65.holds rfl (h57.up hg64)
    have hv71 : Holds (Is (PtrV bg)) (a61.eval (.tmp 0)) w62 := is_any (hk65.holds rfl hv58)
    have hb72 := hb54.up hg64
    have g73 : Bel bg w0 w62 := g55.trans hg64
    have kk74 : Keep _ a1 a61 := kk51.trans hk65 rfl
    clear h56 h57 hv58 hb54 g55 kk51 hf40 hk65 hn66 hg64
    refine wl_store_u64 h68 h67 (by simp [mixC]) ?_
    intro w75 ho76 hb77
    have g78 : Bel bg w0 w75 := g73.only ho76 (by omega)
    have h79 : Holds _ (a61.eval (.tmp 4)) w75 := is_any h69
    have h80 : Holds _ (a61.eval (.tmp 5)) w75 := is_any h70
    have hv81 : Holds (Is (PtrV bg)) (a61.eval (.tmp 0)) w75 := is_any hv71
    refine wpList_nil ?_
    refine then_ ?_
    refine wp_region_lit ?_
    refine wp_seg (l1 := [_, _, _, _, _, _, _, _, _]) [([0], []), ([0], []), ([], [1]), ([], [2]), ([], [3]), ([], [4]), ([], [5]), ([], [0]), ([], [7])] [0, 4, 5] w0.heap.size hf63 g78.size (by kernel_rfl) (bund_cons (hb77.ownp hv81) bund_nil) ?_
    refine ch rfl (ob_move (arg_free 0 rfl rfl)) ?_
    refine ch rfl (ob_move (arg_free 0 rfl rfl)) ?_
    refine ch rfl (ob_nilCheck (arg_op 1 0 rfl rfl rfl rfl)) ?_
    refine ch rfl (ob_faP (n := 0) (arg_op 2 0 rfl rfl rfl rfl) Tryz.underlying136 rfl (by kernel_rfl)) ?_
    refine ch rfl (ob_loadP (arg_op 3 0 rfl rfl rfl rfl) Tryz.underlying102 rfl rfl) ?_
    refine ch rfl (ob_call2 (by kernel_rfl) (c_rot (s := 32) (by decide)) (arg_op 4 0 rfl rfl rfl rfl) arg_c) ?_
    refine ch rfl (ob_mulu (arg_op 5 0 rfl rfl rfl rfl) (arg_cu 11400714819323198485 rfl)) ?_
    refine ch rfl (ob_nilCheck (arg_op 0 6 rfl rfl rfl rfl)) ?_
    refine ch rfl (ob_faP (n := 0) (arg_op 7 0 rfl rfl rfl rfl) Tryz.underlying136 rfl (by kernel_rfl)) ?_
    refine ch_nil ?_
    intro a82 w83 hf84 hg85 hk86 hn87
    have h88 : Holds _ (a82.eval (.tmp 37)) w83 := hn87.at 6 2 rfl rfl rfl
    have h89 : Holds _ (a82.eval (.tmp 39)) w83 := hn87.at 8 0 rfl rfl rfl
    have h90 := hk86.holds rfl (h79.up hg85)
    have h91 := hk86.holds rfl (h80.up hg85)
    have hv92 : Holds (Is (PtrV bg)) (a82.eval (.tmp 0)) w83 := is_any (hk86.holds rfl hv81)
    have hb93 := hb77.up hg85
    have g94 : Bel bg w0 w83 := g78.trans hg85
    have kk95 : Keep _ a1 a82 := kk74.trans hk86 rfl
    clear h79 h80 hv81 hb77 g78 kk74 hf63 hk86 hn87 hg85
    refine wl_store_u64 h89 h88 (by simp [mixC]) ?_
    intro w96 ho97 hb98
    have g99 : Bel bg w0 w96 := g94.only ho97 (by omega)
    have h100 : Holds _ (a82.eval (.tmp 4)) w96 := is_any h90
    have h101 : Holds _ (a82.eval (.tmp 5)) w96 := is_any h91
    have hv102 : Holds (Is (PtrV bg)) (a82.eval (.tmp 0)) w96 := is_any hv92
    refine wpList_nil ?_
    refine blockN ?_
    refine then_ ?_
    refine wp_region_lit ?_
    refine wp_all [([5], []), ([], [0])] [0, 4] w0.heap.size hf84 g99.size (by kernel_rfl) (bund_cons h101 bund_nil) ?_
    first
      | (refine ch rfl (ob_add' (arg_free 0 rfl rfl) arg_c ?_) ?_; · omega)
      | refine ch rfl (ob_add (arg_free 0 rfl rfl) arg_c) ?_
    refine ch rfl (ob_move (arg_op 0 0 rfl rfl rfl rfl)) ?_
    refine ch_nil ?_
    intro a103 w104 hf105 hg106 hk107 hn108
    have h109 : Holds _ (a103.eval (.tmp 5)) w104 := hn108.at 1 0 rfl rfl rfl
    have h110 := hk107.holds rfl (h100.up hg106)
    have hv111 : Holds (Is (PtrV bg)) (a103.eval (.tmp 0)) w104 := is_any (hk107.holds rfl hv102)
    have hb112 := hb98.up hg106
    have g113 : Bel bg w0 w104 := g99.trans hg106
    have kk114 : Keep _ a1 a103 := kk95.trans hk107 rfl
    clear h100 hv102 hb98 g99 kk95 hf84 hk107 hn108 hg106
    refine then_ ?_
    exact ⟨(j + 1), (by omega), hf105, (by omega), g113, kk114, (is_cast h110 (by first | rfl | (refine congrArg intV ?_; omega))), (is_cast h109 (by first | rfl | (refine congrArg intV ?_; omega))), hb112⟩
  · intro hc35
    try simp only [cond_norm] at hc35
    obtain rfl : j = k := by omega
    refine wp_exit ?_
    refine thenX ?_
    refine thenX ?_
    refine blockX ?_
    exact ret_mutn rfl hf24 g33 hb32
theorem word_expr (l : List UInt8) : ((((((((l.getD 0 default).toUInt64 <<< UInt64.ofNat 56) ||| ((l.getD 1 default).toUInt64 <<< UInt64.ofNat 48)) ||| ((l.getD 2 default).toUInt64 <<< UInt64.ofNat 40)) ||| ((l.getD 3 default).toUInt64 <<< UInt64.ofNat 32)) ||| ((l.getD 4 default).toUInt64 <<< UInt64.ofNat 24)) |||
    ((l.getD 5 default).toUInt64 <<< UInt64.ofNat 16)) ||| ((l.getD 6 default).toUInt64 <<< UInt64.ofNat 8)) ||| (l.getD 7 default).toUInt64 = word l := by
  have z : ∀ x : UInt64, 0 ||| x = x := fun x => by simp
  have s : ∀ x : UInt64, x <<< UInt64.ofNat 0 = x := fun x => by simp
  unfold word
  simp only [wordUp, z, Nat.mul_zero, Nat.sub_zero, Nat.reduceMul, Nat.reduceSub, s]
  rfl
theorem word_step (l : List UInt8) (k : Nat) : wordUp l k ||| ((l.getD k default).toUInt64 <<< UInt64.ofNat (UInt64.ofNat (56 - 8 * k)).toNat) = wordUp l (k + 1) := by
  rw [UInt64.ofNat_toNat]
  rfl
theorem shift_nat {k : Nat} (h : k < 8) : (UInt64.ofNat (56 - 8 * k)).toNat < 64 := by
  rw [UInt64.toNat_ofNat']
  omega
theorem shift_int {k : Nat} (h : k < 8) : (56 - 8 * (k : Int)) % 18446744073709551616 = ((UInt64.ofNat (56 - 8 * k)).toNat : Int) := by
  rw [UInt64.toNat_ofNat']
  omega
set_option maxRecDepth 100000 in
theorem c_word {l : List UInt8} : Con1 119 (Sl elByte l) (fun _ => Is (u64V (word l))) := by
  intro lo v0 w0 hlo hv0
  refine enter Tryz.func119 rfl Tryz.ntmps119 (by simp) ?_
  intro a0 hf0 ha
  have h00 : Holds _ (a0.eval (.tmp 0)) w0 := arg_holds ha rfl hv0
  clear ha
  have g0 : Grow w0 w0 := Grow.refl _
  refine wp_seq ?_
  refine wp_region_lit ?_
  refine wp_all [([], [])] [0] w0.heap.size hf0 g0.size (by kernel_rfl) bund_nil ?_
  refine ch rfl (ob_assign (arg_cu 0 rfl)) ?_
  refine ch_nil ?_
  intro a1 w2 hf3 hg4 hk5 hn6
  have h7 := hk5.holds rfl h00
  have g8 := g0.trans hg4
  clear h00 g0 hf0 hk5 hn6
  refine then_ ?_
  refine wp_seq ?_
  refine wp_seq ?_
  refine wp_region_lit ?_
  refine wp_all [([0], []), ([], [0]), ([], [1])] [0] w0.heap.size hf3 g8.size (by kernel_rfl) (bund_cons (h7.up g8) bund_nil) ?_
  refine ch rfl (ob_move (arg_free 0 rfl rfl)) ?_
  refine ch rfl (ob_len (arg_op 0 0 rfl rfl rfl rfl) Tryz.underlying99) ?_
  refine ch rfl (ob_geq (arg_op 1 0 rfl rfl rfl rfl) arg_c) ?_
  refine ch_nil ?_
  intro a9 w10 hf11 hg12 hk13 hn14
  have h15 : Holds _ (a9.eval (.tmp 6)) w10 := hn14.at 2 0 rfl rfl rfl
  have h16 := hk13.holds rfl h7
  have g17 := g8.trans hg12
  clear h7 g8 hf3 hk13 hn14 hg12
  refine then_ ?_
  refine wp_if h15 ?_ ?_
  · intro hc18
    try simp only [cond_norm] at hc18
    refine wp_seq ?_
    refine wp_calm [0, 1, 3, 7, 15, 0, 32, 96, 224, 480, 1023, 0, 2048, 6144, 14336, 30720, 65535, 0, 131072, 393216, 917504, 1966080, 4194303, 0, 8388608, 25165824, 58720256, 125829120, 268435455, 0, 536870912, 1610612736, 3758096384, 8053063680, 17179869183, 0, 34359738368, 103079215104, 240518168576, 515396075520, 1099511627775, 0, 2199023255552, 6597069766656, 15393162788864, 35184372088831, 70368744177663] [([0], []), ([], [0]), ([], [1]), ([], [2]), ([], [3]), ([0], []), ([], [5]), ([], [6]), ([], [7]), ([], [8]), ([], [4, 9]), ([0], []), ([], [11]), ([], [12]), ([], [13]), ([], [14]), ([], [10, 15]), ([0], []), ([], [17]), ([], [18]), ([], [19]), ([], [20]), ([], [16, 21]), ([0], []), ([], [23]), ([], [24]), ([], [25]), ([], [26]), ([], [22, 27]), ([0], []), ([], [29]), ([], [30]), ([], [31]), ([], [32]), ([], [28, 33]), ([0], []), ([], [35]), ([], [36]), ([], [37]), ([], [38]), ([], [34, 39]), ([0], []), ([], [41]), ([], [42]), ([], [43]), ([], [40, 44]), ([], [45])] [] w0.heap.size hf11 g17.size (by kernel_rfl) (bund_cons (h16.up g17) bund_nil) ?_
    intro ws19 hs20
    refine ch rfl (ob_move (arg_free 0 rfl rfl)) ?_
    refine ch rfl (ob_ix (arg_op 0 0 rfl rfl rfl rfl) arg_c (show (0 : Int) = ((0 : Nat) : Int) from rfl) ?_ Tryz.underlying99 szByte) ?_
    · exact (show 0 < l.length by omega)
    refine ch rfl (ob_load1 (arg_op 1 0 rfl rfl rfl rfl) Tryz.underlying5 rfl) ?_
    refine ch rfl (ob_byteu64 (arg_op 2 0 rfl rfl rfl rfl) Tryz.underlying5 Tryz.underlying102) ?_
    refine ch rfl (ob_shlu (s := 56) (arg_op 3 0 rfl rfl rfl rfl) arg_c rfl (by decide)) ?_
    refine ch rfl (ob_move (arg_free 0 rfl rfl)) ?_
    refine ch rfl (ob_ix (arg_op 5 0 rfl rfl rfl rfl) arg_c (show (1 : Int) = ((1 : Nat) : Int) from rfl) ?_ Tryz.underlying99 szByte) ?_
    · exact (show 1 < l.length by omega)
    refine ch rfl (ob_load1 (arg_op 6 0 rfl rfl rfl rfl) Tryz.underlying5 rfl) ?_
    refine ch rfl (ob_byteu64 (arg_op 7 0 rfl rfl rfl rfl) Tryz.underlying5 Tryz.underlying102) ?_
    refine ch rfl (ob_shlu (s := 48) (arg_op 8 0 rfl rfl rfl rfl) arg_c rfl (by decide)) ?_
    refine ch rfl (ob_oru (arg_op 4 5 rfl rfl rfl rfl) (arg_op 9 0 rfl rfl rfl rfl)) ?_
    refine ch rfl (ob_move (arg_free 0 rfl rfl)) ?_
    refine ch rfl (ob_ix (arg_op 11 0 rfl rfl rfl rfl) arg_c (show (2 : Int) = ((2 : Nat) : Int) from rfl) ?_ Tryz.underlying99 szByte) ?_
    · exact (show 2 < l.length by omega)
    refine ch rfl (ob_load1 (arg_op 12 0 rfl rfl rfl rfl) Tryz.underlying5 rfl) ?_
    refine ch rfl (ob_byteu64 (arg_op 13 0 rfl rfl rfl rfl) Tryz.underlying5 Tryz.underlying102) ?_
    refine ch rfl (ob_shlu (s := 40) (arg_op 14 0 rfl rfl rfl rfl) arg_c rfl (by decide)) ?_
    refine ch rfl (ob_oru (arg_op 10 5 rfl rfl rfl rfl) (arg_op 15 0 rfl rfl rfl rfl)) ?_
    refine ch rfl (ob_move (arg_free 0 rfl rfl)) ?_
    refine ch rfl (ob_ix (arg_op 17 0 rfl rfl rfl rfl) arg_c (show (3 : Int) = ((3 : Nat) : Int) from rfl) ?_ Tryz.underlying99 szByte) ?_
    · exact (show 3 < l.length by omega)
    refine ch rfl (ob_load1 (arg_op 18 0 rfl rfl rfl rfl) Tryz.underlying5 rfl) ?_
    refine ch rfl (ob_byteu64 (arg_op 19 0 rfl rfl rfl rfl) Tryz.underlying5 Tryz.underlying102) ?_
    refine ch rfl (ob_shlu (s := 32) (arg_op 20 0 rfl rfl rfl rfl) arg_c rfl (by decide)) ?_
    refine ch rfl (ob_oru (arg_op 16 5 rfl rfl rfl rfl) (arg_op 21 0 rfl rfl rfl rfl)) ?_
    refine ch rfl (ob_move (arg_free 0 rfl rfl)) ?_
    refine ch rfl (ob_ix (arg_op 23 0 rfl rfl rfl rfl) arg_c (show (4 : Int) = ((4 : Nat) : Int) from rfl) ?_ Tryz.underlying99 szByte) ?_
    · exact (show 4 < l.length by omega)
    refine ch rfl (ob_load1 (arg_op 24 0 rfl rfl rfl rfl) Tryz.underlying5 rfl) ?_
    refine ch rfl (ob_byteu64 (arg_op 25 0 rfl rfl rfl rfl) Tryz.underlying5 Tryz.underlying102) ?_
    refine ch rfl (ob_shlu (s := 24) (arg_op 26 0 rfl rfl rfl rfl) arg_c rfl (by decide)) ?_
    refine ch rfl (ob_oru (arg_op 22 5 rfl rfl rfl rfl) (arg_op 27 0 rfl rfl rfl rfl)) ?_
    refine ch rfl (ob_move (arg_free 0 rfl rfl)) ?_
    refine ch rfl (ob_ix (arg_op 29 0 rfl rfl rfl rfl) arg_c (show (5 : Int) = ((5 : Nat) : Int) from rfl) ?_ Tryz.underlying99 szByte) ?_
    · exact (show 5 < l.length by omega)
    refine ch rfl (ob_load1 (arg_op 30 0 rfl rfl rfl rfl) Tryz.underlying5 rfl) ?_
    refine ch rfl (ob_byteu64 (arg_op 31 0 rfl rfl rfl rfl) Tryz.underlying5 Tryz.underlying102) ?_
    refine ch rfl (ob_shlu (s := 16) (arg_op 32 0 rfl rfl rfl rfl) arg_c rfl (by decide)) ?_
    refine ch rfl (ob_oru (arg_op 28 5 rfl rfl rfl rfl) (arg_op 33 0 rfl rfl rfl rfl)) ?_
    refine ch rfl (ob_move (arg_free 0 rfl rfl)) ?_
    refine ch rfl (ob_ix (arg_op 35 0 rfl rfl rfl rfl) arg_c (show (6 : Int) = ((6 : Nat) : Int) from rfl) ?_ Tryz.underlying99 szByte) ?_
    · exact (show 6 < l.length by omega)
    refine ch rfl (ob_load1 (arg_op 36 0 rfl rfl rfl rfl) Tryz.underlying5 rfl) ?_
    refine ch rfl (ob_byteu64 (arg_op 37 0 rfl rfl rfl rfl) Tryz.underlying5 Tryz.underlying102) ?_
    refine ch rfl (ob_shlu (s := 8) (arg_op 38 0 rfl rfl rfl rfl) arg_c rfl (by decide)) ?_
    refine ch rfl (ob_oru (arg_op 34 5 rfl rfl rfl rfl) (arg_op 39 0 rfl rfl rfl rfl)) ?_
    refine ch rfl (ob_move (arg_free 0 rfl rfl)) ?_
    refine ch rfl (ob_ix (arg_op 41 0 rfl rfl rfl rfl) arg_c (show (7 : Int) = ((7 : Nat) : Int) from rfl) ?_ Tryz.underlying99 szByte) ?_
    · exact (show 7 < l.length by omega)
    refine ch rfl (ob_load1 (arg_op 42 0 rfl rfl rfl rfl) Tryz.underlying5 rfl) ?_
    refine ch rfl (ob_byteu64 (arg_op 43 0 rfl rfl rfl rfl) Tryz.underlying5 Tryz.underlying102) ?_
    refine ch rfl (ob_oru (arg_op 40 4 rfl rfl rfl rfl) (arg_op 44 0 rfl rfl rfl rfl)) ?_
    refine ch rfl (ob_assign (arg_op 45 0 rfl rfl rfl rfl)) ?_
    refine ch_nil ?_
    intro a21 w22 hf23 hg24 hk25 hn26
    have h27 : Holds _ (a21.eval (.tmp 2)) w22 := hn26.at 46 0 rfl rfl rfl
    have g28 := g17.trans hg24
    clear g17 hf11 hk25 hn26 hg24
    refine then_ ?_
    refine wp_ret ?_
    refine thenR ?_
    exact ret_tmp rfl hf23 g28 (is_cast h27 (by first | with_reducible rfl | exact congrArg u64V (word_expr l)))
  · intro hc18
    try simp only [cond_norm] at hc18
    refine wp_skip ?_
    refine then_ ?_
    refine wp_seq ?_
    refine wp_region_lit ?_
    have g29 : Grow w10 w10 := Grow.refl _
    have hz30 : w0.heap.size ≤ w10.heap.size := g17.size
    refine wp_all [([], [])] [0] w10.heap.size hf11 g29.size (by kernel_rfl) bund_nil ?_
    refine ch rfl (ob_alloc_nm) ?_
    refine ch_nil ?_
    intro a31 w32 hf33 hg34 hk35 hn36
    have h37 : Holds _ (a31.eval (.tmp 3)) w32 := hn36.at 0 0 rfl rfl rfl
    have h38 := hk35.holds rfl h16
    have g39 := g17.trans hg34
    have g40 := g29.trans hg34
    obtain ⟨bk41, hl42, hv43, hb44⟩ := OwnB.blk (lo := w10.heap.size) h37
    clear h16 g17 g29 hf11 hk35 hn36
    refine then_ ?_
    refine wp_seq ?_
    refine wp_region_lit ?_
    refine wp_seg (l1 := [_, _]) [([3], []), ([0], [])] [3] w10.heap.size hf33 g40.size (by kernel_rfl) (bund_cons (hb44.ownp hv43) (bund_cons (h38.up g39) bund_nil)) ?_
    refine ch rfl (ob_slice_own (arg_free 0 rfl rfl)) ?_
    refine ch rfl (ob_move (arg_free 1 rfl rfl)) ?_
    refine ch_nil ?_
    intro a45 w46 hf47 hg48 hk49 hn50
    have h51 : Holds _ (a45.eval (.tmp 53)) w46 := hn50.at 0 1 rfl rfl rfl
    have h52 : Holds _ (a45.eval (.tmp 54)) w46 := hn50.at 1 0 rfl rfl rfl
    have hv53 : Holds (Is (PtrV bk41)) (a45.eval (.tmp 3)) w46 := is_any (hk49.holds rfl hv43)
    have hb54 := hb44.up hg48
    have g55 := g39.trans hg48
    have g56 := g40.trans hg48
    clear hv43 hb44 g39 g40 hf33 hk49 hn50 hg48
    refine wl_copy [3] hf47 (by kernel_rfl) rfl Tryz.underlying99 h51 hb54 h52 ?_ ?_
    · (simp only [nmCells, List.length_cons, List.length_nil]; omega)
    intro a57 w58 hf59 ho60 hk61 hb62 h63
    have g64 : Grow w0 w58 := g55.only ho60 (by omega)
    have g65 : Grow w10 w58 := g56.only ho60 (by omega)
    have hv66 : Holds (Is (PtrV bk41)) (a57.eval (.tmp 3)) w58 := is_any (hk61.holds rfl hv53)
    refine wpList_nil ?_
    refine then_ ?_
    refine wp_seq ?_
    have hb67 : Blk bk41 (nmCells (word l)) w58 := (congrArg (fun c => Blk bk41 c w58) (word_cells (l := l) (by omega))).mp hb62
    refine wp_region_lit ?_
    refine wp_all [([3], []), ([], [0]), ([], [1])] [] w10.heap.size hf59 g65.size (by kernel_rfl) (bund_cons (hb67.ownp hv66) bund_nil) ?_
    refine ch rfl (ob_load_nm (ArgOK.ownp (arg_free 0 rfl rfl))) ?_
    refine ch rfl (ob_call1 (by kernel_rfl) (c_Number) (arg_op 0 0 rfl rfl rfl rfl)) ?_
    refine ch rfl (ob_assign (arg_op 1 0 rfl rfl rfl rfl)) ?_
    refine ch_nil ?_
    intro a68 w69 hf70 hg71 hk72 hn73
    have h74 : Holds _ (a68.eval (.tmp 2)) w69 := hn73.at 2 0 rfl rfl rfl
    have g75 := g64.trans hg71
    have g76 := g65.trans hg71
    clear g64 g65 hf59 hk72 hn73 hg71
    refine then_ ?_
    refine wp_ret ?_
    exact ret_tmp rfl hf70 g75 (is_cast h74 (by first | with_reducible rfl | exact congrArg u64V (word_expr l)))
set_option maxRecDepth 100000 in
theorem c_rword {l : List UInt8} : Con1 123 (Sl elByte l) (fun _ => Is (u64V (word l))) := by
  intro lo v0 w0 hlo hv0
  refine enter Tryz.func123 rfl Tryz.ntmps123 (by simp) ?_
  intro a0 hf0 ha
  have h00 : Holds _ (a0.eval (.tmp 0)) w0 := arg_holds ha rfl hv0
  clear ha
  have g0 : Grow w0 w0 := Grow.refl _
  refine wp_seq ?_
  refine wp_region_lit ?_
  refine wp_all [([], [])] [0] w0.heap.size hf0 g0.size (by kernel_rfl) bund_nil ?_
  refine ch rfl (ob_assign (arg_cu 0 rfl)) ?_
  refine ch_nil ?_
  intro a1 w2 hf3 hg4 hk5 hn6
  have h7 := hk5.holds rfl h00
  have g8 := g0.trans hg4
  clear h00 g0 hf0 hk5 hn6
  refine then_ ?_
  refine wp_seq ?_
  refine wp_seq ?_
  refine wp_region_lit ?_
  refine wp_all [([0], []), ([], [0]), ([], [1])] [0] w0.heap.size hf3 g8.size (by kernel_rfl) (bund_cons (h7.up g8) bund_nil) ?_
  refine ch rfl (ob_move (arg_free 0 rfl rfl)) ?_
  refine ch rfl (ob_len (arg_op 0 0 rfl rfl rfl rfl) Tryz.underlying99) ?_
  refine ch rfl (ob_geq (arg_op 1 0 rfl rfl rfl rfl) arg_c) ?_
  refine ch_nil ?_
  intro a9 w10 hf11 hg12 hk13 hn14
  have h15 : Holds _ (a9.eval (.tmp 7)) w10 := hn14.at 2 0 rfl rfl rfl
  have h16 := hk13.holds rfl h7
  have g17 := g8.trans hg12
  clear h7 g8 hf3 hk13 hn14 hg12
  refine then_ ?_
  refine wp_if h15 ?_ ?_
  · intro hc18
    try simp only [cond_norm] at hc18
    refine wp_seq ?_
    refine wp_calm [0, 1, 3, 7, 15, 0, 32, 96, 224, 480, 1023, 0, 2048, 6144, 14336, 30720, 65535, 0, 131072, 393216, 917504, 1966080, 4194303, 0, 8388608, 25165824, 58720256, 125829120, 268435455, 0, 536870912, 1610612736, 3758096384, 8053063680, 17179869183, 0, 34359738368, 103079215104, 240518168576, 515396075520, 1099511627775, 0, 2199023255552, 6597069766656, 15393162788864, 35184372088831, 70368744177663] [([0], []), ([], [0]), ([], [1]), ([], [2]), ([], [3]), ([0], []), ([], [5]), ([], [6]), ([], [7]), ([], [8]), ([], [4, 9]), ([0], []), ([], [11]), ([], [12]), ([], [13]), ([], [14]), ([], [10, 15]), ([0], []), ([], [17]), ([], [18]), ([], [19]), ([], [20]), ([], [16, 21]), ([0], []), ([], [23]), ([], [24]), ([], [25]), ([], [26]), ([], [22, 27]), ([0], []), ([], [29]), ([], [30]), ([], [31]), ([], [32]), ([], [28, 33]), ([0], []), ([], [35]), ([], [36]), ([], [37]), ([], [38]), ([], [34, 39]), ([0], []), ([], [41]), ([], [42]), ([], [43]), ([], [40, 44]), ([], [45])] [] w0.heap.size hf11 g17.size (by kernel_rfl) (bund_cons (h16.up g17) bund_nil) ?_
    intro ws19 hs20
    refine ch rfl (ob_move (arg_free 0 rfl rfl)) ?_
    refine ch rfl (ob_ix (arg_op 0 0 rfl rfl rfl rfl) arg_c (show (0 : Int) = ((0 : Nat) : Int) from rfl) ?_ Tryz.underlying99 szByte) ?_
    · exact (show 0 < l.length by omega)
    refine ch rfl (ob_load1 (arg_op 1 0 rfl rfl rfl rfl) Tryz.underlying5 rfl) ?_
    refine ch rfl (ob_byteu64 (arg_op 2 0 rfl rfl rfl rfl) Tryz.underlying5 Tryz.underlying102) ?_
    refine ch rfl (ob_shlu (s := 56) (arg_op 3 0 rfl rfl rfl rfl) arg_c rfl (by decide)) ?_
    refine ch rfl (ob_move (arg_free 0 rfl rfl)) ?_
    refine ch rfl (ob_ix (arg_op 5 0 rfl rfl rfl rfl) arg_c (show (1 : Int) = ((1 : Nat) : Int) from rfl) ?_ Tryz.underlying99 szByte) ?_
    · exact (show 1 < l.length by omega)
    refine ch rfl (ob_load1 (arg_op 6 0 rfl rfl rfl rfl) Tryz.underlying5 rfl) ?_
    refine ch rfl (ob_byteu64 (arg_op 7 0 rfl rfl rfl rfl) Tryz.underlying5 Tryz.underlying102) ?_
    refine ch rfl (ob_shlu (s := 48) (arg_op 8 0 rfl rfl rfl rfl) arg_c rfl (by decide)) ?_
    refine ch rfl (ob_oru (arg_op 4 5 rfl rfl rfl rfl) (arg_op 9 0 rfl rfl rfl rfl)) ?_
    refine ch rfl (ob_move (arg_free 0 rfl rfl)) ?_
    refine ch rfl (ob_ix (arg_op 11 0 rfl rfl rfl rfl) arg_c (show (2 : Int) = ((2 : Nat) : Int) from rfl) ?_ Tryz.underlying99 szByte) ?_
    · exact (show 2 < l.length by omega)
    refine ch rfl (ob_load1 (arg_op 12 0 rfl rfl rfl rfl) Tryz.underlying5 rfl) ?_
    refine ch rfl (ob_byteu64 (arg_op 13 0 rfl rfl rfl rfl) Tryz.underlying5 Tryz.underlying102) ?_
    refine ch rfl (ob_shlu (s := 40) (arg_op 14 0 rfl rfl rfl rfl) arg_c rfl (by decide)) ?_
    refine ch rfl (ob_oru (arg_op 10 5 rfl rfl rfl rfl) (arg_op 15 0 rfl rfl rfl rfl)) ?_
    refine ch rfl (ob_move (arg_free 0 rfl rfl)) ?_
    refine ch rfl (ob_ix (arg_op 17 0 rfl rfl rfl rfl) arg_c (show (3 : Int) = ((3 : Nat) : Int) from rfl) ?_ Tryz.underlying99 szByte) ?_
    · exact (show 3 < l.length by omega)
    refine ch rfl (ob_load1 (arg_op 18 0 rfl rfl rfl rfl) Tryz.underlying5 rfl) ?_
    refine ch rfl (ob_byteu64 (arg_op 19 0 rfl rfl rfl rfl) Tryz.underlying5 Tryz.underlying102) ?_
    refine ch rfl (ob_shlu (s := 32) (arg_op 20 0 rfl rfl rfl rfl) arg_c rfl (by decide)) ?_
    refine ch rfl (ob_oru (arg_op 16 5 rfl rfl rfl rfl) (arg_op 21 0 rfl rfl rfl rfl)) ?_
    refine ch rfl (ob_move (arg_free 0 rfl rfl)) ?_
    refine ch rfl (ob_ix (arg_op 23 0 rfl rfl rfl rfl) arg_c (show (4 : Int) = ((4 : Nat) : Int) from rfl) ?_ Tryz.underlying99 szByte) ?_
    · exact (show 4 < l.length by omega)
    refine ch rfl (ob_load1 (arg_op 24 0 rfl rfl rfl rfl) Tryz.underlying5 rfl) ?_
    refine ch rfl (ob_byteu64 (arg_op 25 0 rfl rfl rfl rfl) Tryz.underlying5 Tryz.underlying102) ?_
    refine ch rfl (ob_shlu (s := 24) (arg_op 26 0 rfl rfl rfl rfl) arg_c rfl (by decide)) ?_
    refine ch rfl (ob_oru (arg_op 22 5 rfl rfl rfl rfl) (arg_op 27 0 rfl rfl rfl rfl)) ?_
    refine ch rfl (ob_move (arg_free 0 rfl rfl)) ?_
    refine ch rfl (ob_ix (arg_op 29 0 rfl rfl rfl rfl) arg_c (show (5 : Int) = ((5 : Nat) : Int) from rfl) ?_ Tryz.underlying99 szByte) ?_
    · exact (show 5 < l.length by omega)
    refine ch rfl (ob_load1 (arg_op 30 0 rfl rfl rfl rfl) Tryz.underlying5 rfl) ?_
    refine ch rfl (ob_byteu64 (arg_op 31 0 rfl rfl rfl rfl) Tryz.underlying5 Tryz.underlying102) ?_
    refine ch rfl (ob_shlu (s := 16) (arg_op 32 0 rfl rfl rfl rfl) arg_c rfl (by decide)) ?_
    refine ch rfl (ob_oru (arg_op 28 5 rfl rfl rfl rfl) (arg_op 33 0 rfl rfl rfl rfl)) ?_
    refine ch rfl (ob_move (arg_free 0 rfl rfl)) ?_
    refine ch rfl (ob_ix (arg_op 35 0 rfl rfl rfl rfl) arg_c (show (6 : Int) = ((6 : Nat) : Int) from rfl) ?_ Tryz.underlying99 szByte) ?_
    · exact (show 6 < l.length by omega)
    refine ch rfl (ob_load1 (arg_op 36 0 rfl rfl rfl rfl) Tryz.underlying5 rfl) ?_
    refine ch rfl (ob_byteu64 (arg_op 37 0 rfl rfl rfl rfl) Tryz.underlying5 Tryz.underlying102) ?_
    refine ch rfl (ob_shlu (s := 8) (arg_op 38 0 rfl rfl rfl rfl) arg_c rfl (by decide)) ?_
    refine ch rfl (ob_oru (arg_op 34 5 rfl rfl rfl rfl) (arg_op 39 0 rfl rfl rfl rfl)) ?_
    refine ch rfl (ob_move (arg_free 0 rfl rfl)) ?_
    refine ch rfl (ob_ix (arg_op 41 0 rfl rfl rfl rfl) arg_c (show (7 : Int) = ((7 : Nat) : Int) from rfl) ?_ Tryz.underlying99 szByte) ?_
    · exact (show 7 < l.length by omega)
    refine ch rfl (ob_load1 (arg_op 42 0 rfl rfl rfl rfl) Tryz.underlying5 rfl) ?_
    refine ch rfl (ob_byteu64 (arg_op 43 0 rfl rfl rfl rfl) Tryz.underlying5 Tryz.underlying102) ?_
    refine ch rfl (ob_oru (arg_op 40 4 rfl rfl rfl rfl) (arg_op 44 0 rfl rfl rfl rfl)) ?_
    refine ch rfl (ob_assign (arg_op 45 0 rfl rfl rfl rfl)) ?_
    refine ch_nil ?_
    intro a21 w22 hf23 hg24 hk25 hn26
    have h27 : Holds _ (a21.eval (.tmp 2)) w22 := hn26.at 46 0 rfl rfl rfl
    have g28 := g17.trans hg24
    clear g17 hf11 hk25 hn26 hg24
    refine then_ ?_
    refine wp_ret ?_
    refine thenR ?_
    exact ret_tmp rfl hf23 g28 (is_cast h27 (by first | exact congrArg u64V (word_expr l) | exact congrArg u64V (word_short (by omega))))
  · intro hc18
    try simp only [cond_norm] at hc18
    refine wp_skip ?_
    refine then_ ?_
    refine wp_seq ?_
    refine wp_region_lit ?_
    refine wp_all [([], [])] [0] w0.heap.size hf11 g17.size (by kernel_rfl) bund_nil ?_
    refine ch rfl (ob_assign (arg_cu 0 rfl)) ?_
    refine ch_nil ?_
    intro a29 w30 hf31 hg32 hk33 hn34
    have h35 : Holds _ (a29.eval (.tmp 3)) w30 := hn34.at 0 0 rfl rfl rfl
    have h36 := hk33.holds rfl h16
    have g37 := g17.trans hg32
    clear h16 g17 hf11 hk33 hn34 hg32
    refine then_ ?_
    refine wp_seq ?_
    refine wp_seq ?_
    refine wp_region_lit ?_
    refine wp_all [([], [])] [0, 3] w0.heap.size hf31 g37.size (by kernel_rfl) bund_nil ?_
    refine ch rfl (ob_assign arg_c) ?_
    refine ch_nil ?_
    intro a38 w39 hf40 hg41 hk42 hn43
    have h44 : Holds _ (a38.eval (.tmp 4)) w39 := hn43.at 0 0 rfl rfl rfl
    have h45 := hk42.holds rfl (h35.up hg41)
    have h46 := hk42.holds rfl h36
    have g47 := g37.trans hg41
    clear h35 h36 g37 hf31 hk42 hn43 hg41
    refine then_ ?_
    refine wp_block ?_
    have g48 : Grow w39 w39 := Grow.refl _
    have hz49 : w0.heap.size ≤ w39.heap.size := g47.size
    refine wp_loopL (α := Nat) (fun k a' w' => Fr 73 a' ∧ (k ≤ l.length) ∧ Grow w0 w' ∧ Grow w39 w' ∧ Keep [0] a38 a' ∧ Holds (Is (u64V (wordUp l k))) (a'.eval (.tmp 3)) w' ∧ Holds (Is (intV (k : Int))) (a'.eval (.tmp 4)) w') (fun k => l.length - k) (0) ⟨hf40, (by omega), g47, g48, Keep.refl _ _, (is_cast h45 (rfl)), (is_cast h44 (by first | rfl | (refine congrArg intV ?_; omega)))⟩ ?_
    intro k a50 w51 ⟨hf52, hi54, g55, g56, kk53, h57, h58⟩
    have h59 := kk53.holds rfl h46
    refine wp_seq ?_
    refine wp_seq ?_
    refine wp_region_lit ?_
    refine wp_all [([4], []), ([0], []), ([], [1]), ([], [0, 2])] [0, 3, 4] w39.heap.size hf52 g56.size (by kernel_rfl) (bund_cons h58 (bund_cons (h59.up g55) bund_nil)) ?_
    refine ch rfl (ob_move (arg_free 0 rfl rfl)) ?_
    refine ch rfl (ob_move (arg_free 1 rfl rfl)) ?_
    refine ch rfl (ob_len (arg_op 1 0 rfl rfl rfl rfl) Tryz.underlying99) ?_
    refine ch rfl (ob_lss (arg_op 0 2 rfl rfl rfl rfl) (arg_op 2 0 rfl rfl rfl rfl)) ?_
    refine ch_nil ?_
    intro a60 w61 hf62 hg63 hk64 hn65
    have h66 : Holds _ (a60.eval (.tmp 57)) w61 := hn65.at 3 0 rfl rfl rfl
    have h67 := hk64.holds rfl (h57.up hg63)
    have h68 := hk64.holds rfl (h58.up hg63)
    have h69 := hk64.holds rfl h59
    have g70 := g55.trans hg63
    have g71 := g56.trans hg63
    have kk72 : Keep _ a38 a60 := kk53.trans hk64 rfl
    clear h57 h58 h59 g55 g56 kk53 hf52 hk64 hn65 hg63
    refine then_ ?_
    refine wp_if h66 ?_ ?_
    · intro hc73
      try simp only [cond_norm] at hc73
      refine wp_skip ?_
      refine then_ ?_
      refine wp_seq ?_
      refine wp_block ?_
      refine wp_region_lit ?_
      refine wp_all [([3], []), ([0], []), ([4], []), ([], [1, 2]), ([], [3]), ([], [4]), ([4], []), ([], [6]), ([], [7]), ([], [8]), ([], [5, 9]), ([], [0, 10]), ([], [11])] [0, 4] w39.heap.size hf62 g71.size (by kernel_rfl) (bund_cons h67 (bund_cons (h69.up g70) (bund_cons h68 bund_nil))) ?_
      refine ch rfl (ob_move (arg_free 0 rfl rfl)) ?_
      refine ch rfl (ob_move (arg_free 1 rfl rfl)) ?_
      refine ch rfl (ob_move (arg_free 2 rfl rfl)) ?_
      refine ch rfl (ob_ix (arg_op 1 1 rfl rfl rfl rfl) (arg_op 2 0 rfl rfl rfl rfl) (rfl) ?_ Tryz.underlying99 szByte) ?_
      · omega
      refine ch rfl (ob_load1 (arg_op 3 0 rfl rfl rfl rfl) Tryz.underlying5 rfl) ?_
      refine ch rfl (ob_byteu64 (arg_op 4 0 rfl rfl rfl rfl) Tryz.underlying5 Tryz.underlying102) ?_
      refine ch rfl (ob_move (arg_free 2 rfl rfl)) ?_
      first
        | (refine ch rfl (ob_mul' arg_c (arg_op 6 0 rfl rfl rfl rfl) ?_) ?_; · omega)
        | refine ch rfl (ob_mul arg_c (arg_op 6 0 rfl rfl rfl rfl)) ?_
      first
        | (refine ch rfl (ob_sub' arg_c (arg_op 7 0 rfl rfl rfl rfl) ?_) ?_; · omega)
        | refine ch rfl (ob_sub arg_c (arg_op 7 0 rfl rfl rfl rfl)) ?_
      refine ch rfl (ob_intu64 (m := UInt64.ofNat (56 - 8 * k)) (arg_op 8 0 rfl rfl rfl rfl) Tryz.underlying3 Tryz.underlying129 ?_) ?_
      · exact shift_int (by omega)
      refine ch rfl (ob_shluv (arg_op 5 4 rfl rfl rfl rfl) (arg_op 9 0 rfl rfl rfl rfl) ?_) ?_
      · exact shift_nat (by omega)
      refine ch rfl (ob_oru (arg_op 0 10 rfl rfl rfl rfl) (arg_op 10 0 rfl rfl rfl rfl)) ?_
      refine ch rfl (ob_assign (arg_op 11 0 rfl rfl rfl rfl)) ?_
      refine ch_nil ?_
      intro a74 w75 hf76 hg77 hk78 hn79
      have h80 : Holds _ (a74.eval (.tmp 3)) w75 := hn79.at 12 0 rfl rfl rfl
      have h81 := hk78.holds rfl (h68.up hg77)
      have h82 := hk78.holds rfl h69
      have g83 := g70.trans hg77
      have g84 := g71.trans hg77
      have kk85 : Keep _ a38 a74 := kk72.trans hk78 rfl
      clear h68 h69 g70 g71 kk72 hf62 hk78 hn79 hg77
      refine blockN ?_
      refine then_ ?_
      refine wp_region_lit ?_
      refine wp_all [([4], []), ([], [0]), ([], [1])] [0, 3] w39.heap.size hf76 g84.size (by kernel_rfl) (bund_cons h81 bund_nil) ?_
      refine ch rfl (ob_move (arg_free 0 rfl rfl)) ?_
      first
        | (refine ch rfl (ob_add' (arg_op 0 0 rfl rfl rfl rfl) arg_c ?_) ?_; · omega)
        | refine ch rfl (ob_add (arg_op 0 0 rfl rfl rfl rfl) arg_c) ?_
      refine ch rfl (ob_assign (arg_op 1 0 rfl rfl rfl rfl)) ?_
      refine ch_nil ?_
      intro a86 w87 hf88 hg89 hk90 hn91
      have h92 : Holds _ (a86.eval (.tmp 4)) w87 := hn91.at 2 0 rfl rfl rfl
      have h93 := hk90.holds rfl (h80.up hg89)
      have h94 := hk90.holds rfl h82
      have g95 := g83.trans hg89
      have g96 := g84.trans hg89
      have kk97 : Keep _ a38 a86 := kk85.trans hk90 rfl
      clear h80 h82 g83 g84 kk85 hf76 hk90 hn91 hg89
      refine then_ ?_
      exact ⟨(k + 1), (by omega), hf88, (by omega), g95, g96, kk97, (is_cast h93 (congrArg u64V (word_step l k))), (is_cast h92 (by first | rfl | (refine congrArg intV ?_; omega)))⟩
    · intro hc73
      try simp only [cond_norm] at hc73
      obtain rfl : k = l.length := by omega
      refine wp_exit ?_
      refine thenX ?_
      refine thenX ?_
      refine blockX ?_
      refine then_ ?_
      refine wp_seq ?_
      refine wp_region_lit ?_
      refine wp_all [([3], []), ([], [0])] [] w39.heap.size hf62 g71.size (by kernel_rfl) (bund_cons h67 bund_nil) ?_
      refine ch rfl (ob_move (arg_free 0 rfl rfl)) ?_
      refine ch rfl (ob_assign (arg_op 0 0 rfl rfl rfl rfl)) ?_
      refine ch_nil ?_
      intro a98 w99 hf100 hg101 hk102 hn103
      have h104 : Holds _ (a98.eval (.tmp 2)) w99 := hn103.at 1 0 rfl rfl rfl
      have g105 := g70.trans hg101
      have g106 := g71.trans hg101
      clear g70 g71 hf62 hk102 hn103 hg101
      refine then_ ?_
      refine wp_ret ?_
      exact ret_tmp rfl hf100 g105 (is_cast h104 (by first | exact congrArg u64V (word_expr l) | exact congrArg u64V (word_short (by omega))))
set_option maxRecDepth 100000 in
theorem c_Sum {l : List UInt8} (hl : l.length ≤ 140737488355328) : Con1 106 (Sl elByte l) (fun _ => Is (nmV (sum l))) := by
  intro lo v0 w0 hlo hv0
  refine enter Tryz.func106 rfl Tryz.ntmps106 (by simp) ?_
  intro a0 hf0 ha
  have h00 : Holds _ (a0.eval (.tmp 0)) w0 := arg_holds ha rfl hv0
  clear ha
  have g0 : Grow w0 w0 := Grow.refl _
  refine wp_seq ?_
  refine wp_region_lit ?_
  refine wp_all [([], [])] [0] w0.heap.size hf0 g0.size (by kernel_rfl) bund_nil ?_
  refine ch rfl (ob_alloc_nm) ?_
  refine ch_nil ?_
  intro a1 w2 hf3 hg4 hk5 hn6
  have h7 : Holds _ (a1.eval (.tmp 2)) w2 := hn6.at 0 0 rfl rfl rfl
  have h8 := hk5.holds rfl h00
  have g9 := g0.trans hg4
  obtain ⟨bk10, hl11, hv12, hb13⟩ := OwnB.blk (lo := w0.heap.size) h7
  clear h00 g0 hf0 hk5 hn6
  refine then_ ?_
  refine wp_seq ?_
  refine wp_region_lit ?_
  have g14 : Grow w2 w2 := Grow.refl _
  have hl15 : bk10 < w2.heap.size := hb13.lt
  have hz16 : w0.heap.size ≤ w2.heap.size := g9.size
  refine wp_seg (l1 := [_, _]) [([], []), ([], [])] [0, 2] w2.heap.size hf3 g14.size (by kernel_rfl) bund_nil ?_
  refine ch rfl (ob_build_hs (arg_cu 2611923443488327891 rfl) (arg_cu 1376283091369227076 rfl)) ?_
  refine ch rfl (ob_alloc_hs) ?_
  refine ch_nil ?_
  intro a17 w18 hf19 hg20 hk21 hn22
  have h23 : Holds _ (a17.eval (.tmp 5)) w18 := hn22.at 0 1 rfl rfl rfl
  have h24 : Holds _ (a17.eval (.tmp 3)) w18 := hn22.at 1 0 rfl rfl rfl
  have h25 := hk21.holds rfl h8
  have hv26 : Holds (Is (PtrV bk10)) (a17.eval (.tmp 2)) w18 := is_any (hk21.holds rfl hv12)
  have hb27 := hb13.up hg20
  have g28 := g9.trans hg20
  have g29 := g14.trans hg20
  obtain ⟨bk30, hl31, hv32, hb33⟩ := OwnB.blk (lo := w2.heap.size) h24
  clear h8 hv12 hb13 g9 g14 hf3 hk21 hn22
  refine wl_store_hs hv32 hb33 rfl h23 ?_
  intro w34 ho35 hb36
  have g37 : Grow w0 w34 := g28.only ho35 (by omega)
  have g38 : Grow w2 w34 := g29.only ho35 (by omega)
  have hv39 : Holds (Is (PtrV bk10)) (a17.eval (.tmp 2)) w34 := is_any hv26
  have hb40 : Blk bk10 _ w34 := hb27.only ho35 (by omega)
  have hv41 : Holds (Is (PtrV bk30)) (a17.eval (.tmp 3)) w34 := is_any hv32
  refine wpList_nil ?_
  refine then_ ?_
  refine wp_seq ?_
  refine wp_seq ?_
  refine wp_region_lit ?_
  refine wp_all [([], [])] [0, 2, 3] w2.heap.size hf19 g38.size (by kernel_rfl) bund_nil ?_
  refine ch rfl (ob_assign arg_c) ?_
  refine ch_nil ?_
  intro a42 w43 hf44 hg45 hk46 hn47
  have h48 : Holds _ (a42.eval (.tmp 4)) w43 := hn47.at 0 0 rfl rfl rfl
  have h49 := hk46.holds rfl h25
  have hv50 : Holds (Is (PtrV bk10)) (a42.eval (.tmp 2)) w43 := is_any (hk46.holds rfl hv39)
  have hb51 := hb40.up hg45
  have hv52 : Holds (Is (PtrV bk30)) (a42.eval (.tmp 3)) w43 := is_any (hk46.holds rfl hv41)
  have hb53 := hb36.up hg45
  have g54 := g37.trans hg45
  have g55 := g38.trans hg45
  clear h25 hv39 hb40 hv41 hb36 g37 g38 hf19 hk46 hn47 hg45
  refine then_ ?_
  refine wp_block ?_
  refine wp_loopL (α := Nat) (fun j a' w' => Fr 35 a' ∧ (8 * j ≤ l.length + 7) ∧ Grow w0 w' ∧ Grow w2 w' ∧ Keep [0, 2, 3] a42 a' ∧ Holds (Is (intV (8 * (j : Int)))) (a'.eval (.tmp 4)) w' ∧ Blk bk10 (_) w' ∧ Blk bk30 ([u64V (sumUp l j).1, u64V (sumUp l j).2]) w') (fun j => l.length + 8 - 8 * j) (0) ⟨hf44, (by omega), g54, g55, Keep.refl _ _, (is_cast h48 (by first | rfl | (refine congrArg intV ?_; omega))), hb51, hb53⟩ ?_
  intro j a56 w57 ⟨hf58, hi60, g61, g62, kk59, h63, hb64, hb65⟩
  have h66 := kk59.holds rfl h49
  have hv67 : Holds (Is (PtrV bk10)) (a56.eval (.tmp 2)) w57 := is_any (kk59.holds rfl hv50)
  have hv68 : Holds (Is (PtrV bk30)) (a56.eval (.tmp 3)) w57 := is_any (kk59.holds rfl hv52)
  refine wp_seq ?_
  refine wp_seq ?_
  refine wp_region_lit ?_
  refine wp_all [([4], []), ([0], []), ([], [1]), ([], [0, 2])] [0, 2, 3, 4] w2.heap.size hf58 g62.size (by kernel_rfl) (bund_cons h63 (bund_cons (h66.up g61) bund_nil)) ?_
  refine ch rfl (ob_move (arg_free 0 rfl rfl)) ?_
  refine ch rfl (ob_move (arg_free 1 rfl rfl)) ?_
  refine ch rfl (ob_len (arg_op 1 0 rfl rfl rfl rfl) Tryz.underlying99) ?_
  refine ch rfl (ob_lss (arg_op 0 2 rfl rfl rfl rfl) (arg_op 2 0 rfl rfl rfl rfl)) ?_
  refine ch_nil ?_
  intro a69 w70 hf71 hg72 hk73 hn74
  have h75 : Holds _ (a69.eval (.tmp 9)) w70 := hn74.at 3 0 rfl rfl rfl
  have h76 := hk73.holds rfl (h63.up hg72)
  have h77 := hk73.holds rfl h66
  have hv78 : Holds (Is (PtrV bk10)) (a69.eval (.tmp 2)) w70 := is_any (hk73.holds rfl hv67)
  have hb79 := hb64.up hg72
  have hv80 : Holds (Is (PtrV bk30)) (a69.eval (.tmp 3)) w70 := is_any (hk73.holds rfl hv68)
  have hb81 := hb65.up hg72
  have g82 := g61.trans hg72
  have g83 := g62.trans hg72
  have kk84 : Keep _ a42 a69 := kk59.trans hk73 rfl
  clear h63 h66 hv67 hb64 hv68 hb65 g61 g62 kk59 hf58 hk73 hn74 hg72
  refine then_ ?_
  refine wp_if h75 ?_ ?_
  · intro hc85
    try simp only [cond_norm] at hc85
    refine wp_skip ?_
    refine then_ ?_
    refine wp_seq ?_
    refine wp_block ?_
    refine wp_seq ?_
    refine wp_calm_tail (l1 := [_, _, _, _, _, _, _, _]) [0, 1, 0, 0, 12, 28, 63, 127, 255] [([3], []), ([], [0]), ([0], []), ([4], []), ([], [2, 3]), ([], [4]), ([], [1, 5]), ([3], [])] [0, 2, 3, 4] w2.heap.size hf71 g83.size (by kernel_rfl) (bund_cons (hb81.ownp hv80) (bund_cons (h77.up g82) (bund_cons h76 bund_nil))) ?_
    intro ws86 hs87
    refine ch rfl (ob_faP (n := 0) (arg_free 0 rfl rfl) Tryz.underlying136 rfl (by kernel_rfl)) ?_
    refine ch rfl (ob_loadP (arg_op 0 0 rfl rfl rfl rfl) Tryz.underlying102 rfl rfl) ?_
    refine ch rfl (ob_move (arg_free 1 rfl rfl)) ?_
    refine ch rfl (ob_move (arg_free 2 rfl rfl)) ?_
    refine ch rfl (ob_slice_from (arg_op 2 1 rfl rfl rfl rfl) (arg_op 3 0 rfl rfl rfl rfl) (show (8 * (j : Int)) = ((8 * j : Nat) : Int) by omega) ?_ Tryz.underlying99 szByte) ?_
    · omega
    refine ch rfl (ob_call1 (by kernel_rfl) (c_word) (arg_op 4 0 rfl rfl rfl rfl)) ?_
    refine ch rfl (ob_xoru (arg_op 1 4 rfl rfl rfl rfl) (arg_op 5 0 rfl rfl rfl rfl)) ?_
    refine ch rfl (ob_faP (n := 0) (arg_free 0 rfl rfl) Tryz.underlying136 rfl (by kernel_rfl)) ?_
    refine ch_nil ?_
    intro a88 w89 hf90 hg91 hk92 hn93
    have h94 : Holds _ (a88.eval (.tmp 18)) w89 := hn93.at 6 1 rfl rfl rfl
    have h95 : Holds _ (a88.eval (.tmp 19)) w89 := hn93.at 7 0 rfl rfl rfl
    have h96 := hk92.holds rfl (h76.up hg91)
    have h97 := hk92.holds rfl h77
    have hv98 : Holds (Is (PtrV bk10)) (a88.eval (.tmp 2)) w89 := is_any (hk92.holds rfl hv78)
    have hb99 := hb79.up hg91
    have hv100 : Holds (Is (PtrV bk30)) (a88.eval (.tmp 3)) w89 := is_any (hk92.holds rfl hv80)
    have hb101 := hb81.up hg91
    have g102 := g82.trans hg91
    have g103 := g83.trans hg91
    have kk104 : Keep _ a42 a88 := kk84.trans hk92 rfl
    clear h76 h77 hv78 hb79 hv80 hb81 g82 g83 kk84 hf71 hk92 hn93 hg91
    refine wl_store_u64 h95 h94 (by simp) ?_
    intro w105 ho106 hb107
    have g108 : Grow w0 w105 := g102.only ho106 (by omega)
    have g109 : Grow w2 w105 := g103.only ho106 (by omega)
    have h110 : Holds _ (a88.eval (.tmp 4)) w105 := is_any h96
    have hv111 : Holds (Is (PtrV bk10)) (a88.eval (.tmp 2)) w105 := is_any hv98
    have hb112 : Blk bk10 _ w105 := hb99.only ho106 (by omega)
    have hv113 : Holds (Is (PtrV bk30)) (a88.eval (.tmp 3)) w105 := is_any hv100
    refine wpList_nil ?_
    refine then_ ?_
    refine wp_region_lit ?_
    refine wl_callm [0, 2, 3, 4] hf90 (by kernel_rfl) rfl (by kernel_rfl) (c_mix (p := ((sumUp l j).1 ^^^ word (l.drop (8 * j)), (sumUp l j).2)) (k := 2) (by decide)) hv113 hb107 rfl ?_
    intro a114 w115 hf116 ho117 hk118 hb119
    have g120 : Grow w0 w115 := g108.below ho117.below (by omega)
    have g121 : Grow w2 w115 := g109.below ho117.below (by omega)
    have h122 : Holds _ (a114.eval (.tmp 4)) w115 := is_any (hk118.holds rfl h110)
    have h123 : Holds _ (a114.eval (.tmp 0)) w0 := (hk118.holds rfl h97)
    have hv124 : Holds (Is (PtrV bk10)) (a114.eval (.tmp 2)) w115 := is_any (hk118.holds rfl hv111)
    have hb125 : Blk bk10 _ w115 := hb112.below ho117.below (by omega)
    have hv126 : Holds (Is (PtrV bk30)) (a114.eval (.tmp 3)) w115 := is_any (hk118.holds rfl hv113)
    have kk127 : Keep _ a42 a114 := kk104.trans hk118 rfl
    refine wpList_nil ?_
    refine blockN ?_
    refine then_ ?_
    refine wp_region_lit ?_
    refine wp_all [([4], []), ([], [0]), ([], [1])] [0, 2, 3] w2.heap.size hf116 g121.size (by kernel_rfl) (bund_cons h122 bund_nil) ?_
    refine ch rfl (ob_move (arg_free 0 rfl rfl)) ?_
    first
      | (refine ch rfl (ob_add' (arg_op 0 0 rfl rfl rfl rfl) arg_c ?_) ?_; · omega)
      | refine ch rfl (ob_add (arg_op 0 0 rfl rfl rfl rfl) arg_c) ?_
    refine ch rfl (ob_assign (arg_op 1 0 rfl rfl rfl rfl)) ?_
    refine ch_nil ?_
    intro a128 w129 hf130 hg131 hk132 hn133
    have h134 : Holds _ (a128.eval (.tmp 4)) w129 := hn133.at 2 0 rfl rfl rfl
    have h135 := hk132.holds rfl h123
    have hv136 : Holds (Is (PtrV bk10)) (a128.eval (.tmp 2)) w129 := is_any (hk132.holds rfl hv124)
    have hb137 := hb125.up hg131
    have hv138 : Holds (Is (PtrV bk30)) (a128.eval (.tmp 3)) w129 := is_any (hk132.holds rfl hv126)
    have hb139 := hb119.up hg131
    have g140 := g120.trans hg131
    have g141 := g121.trans hg131
    have kk142 : Keep _ a42 a128 := kk127.trans hk132 rfl
    clear h123 hv124 hb125 hv126 hb119 g120 g121 kk127 hf116 hk132 hn133 hg131
    refine then_ ?_
    exact ⟨(j + 1), (by omega), hf130, (by omega), g140, g141, kk142, (is_cast h134 (by first | rfl | (refine congrArg intV ?_; omega))), hb137, hb139⟩
  · intro hc85
    try simp only [cond_norm] at hc85
    obtain rfl : j = ((l.length + 7) / 8) := by omega
    refine wp_exit ?_
    refine thenX ?_
    refine thenX ?_
    refine blockX ?_
    refine then_ ?_
    refine wp_seq ?_
    refine wp_region_lit ?_
    refine wp_seg (l1 := [_, _, _, _, _, _, _]) [([3], []), ([], [0]), ([0], []), ([], [2]), ([], [3]), ([], [1, 4]), ([3], [])] [2, 3] w2.heap.size hf71 g83.size (by kernel_rfl) (bund_cons (hb81.ownp hv80) (bund_cons (h77.up g82) bund_nil)) ?_
    refine ch rfl (ob_faP (n := 0) (arg_free 0 rfl rfl) Tryz.underlying136 rfl (by kernel_rfl)) ?_
    refine ch rfl (ob_loadP (arg_op 0 0 rfl rfl rfl rfl) Tryz.underlying102 rfl rfl) ?_
    refine ch rfl (ob_move (arg_free 1 rfl rfl)) ?_
    refine ch rfl (ob_len (arg_op 2 0 rfl rfl rfl rfl) Tryz.underlying99) ?_
    refine ch rfl (ob_intu64 (m := UInt64.ofNat l.length) (arg_op 3 0 rfl rfl rfl rfl) Tryz.underlying3 Tryz.underlying102 ?_) ?_
    · exact len64 hl
    refine ch rfl (ob_xoru (arg_op 1 3 rfl rfl rfl rfl) (arg_op 4 0 rfl rfl rfl rfl)) ?_
    refine ch rfl (ob_faP (n := 0) (arg_free 0 rfl rfl) Tryz.underlying136 rfl (by kernel_rfl)) ?_
    refine ch_nil ?_
    intro a143 w144 hf145 hg146 hk147 hn148
    have h149 : Holds _ (a143.eval (.tmp 26)) w144 := hn148.at 5 1 rfl rfl rfl
    have h150 : Holds _ (a143.eval (.tmp 27)) w144 := hn148.at 6 0 rfl rfl rfl
    have hv151 : Holds (Is (PtrV bk10)) (a143.eval (.tmp 2)) w144 := is_any (hk147.holds rfl hv78)
    have hb152 := hb79.up hg146
    have hv153 : Holds (Is (PtrV bk30)) (a143.eval (.tmp 3)) w144 := is_any (hk147.holds rfl hv80)
    have hb154 := hb81.up hg146
    have g155 := g82.trans hg146
    have g156 := g83.trans hg146
    clear hv78 hb79 hv80 hb81 g82 g83 hf71 hk147 hn148 hg146
    refine wl_store_u64 h150 h149 (by simp) ?_
    intro w157 ho158 hb159
    have g160 : Grow w0 w157 := g155.only ho158 (by omega)
    have g161 : Grow w2 w157 := g156.only ho158 (by omega)
    have hv162 : Holds (Is (PtrV bk10)) (a143.eval (.tmp 2)) w157 := is_any hv151
    have hb163 : Blk bk10 _ w157 := hb152.only ho158 (by omega)
    have hv164 : Holds (Is (PtrV bk30)) (a143.eval (.tmp 3)) w157 := is_any hv153
    refine wpList_nil ?_
    refine then_ ?_
    refine wp_seq ?_
    refine wp_region_lit ?_
    refine wl_callm [2, 3] hf145 (by kernel_rfl) rfl (by kernel_rfl) (c_mix (p := ((sumUp l ((l.length + 7) / 8)).1, (sumUp l ((l.length + 7) / 8)).2 ^^^ UInt64.ofNat l.length)) (k := 4) (by decide)) hv164 hb159 rfl ?_
    intro a165 w166 hf167 ho168 hk169 hb170
    have g171 : Grow w0 w166 := g160.below ho168.below (by omega)
    have g172 : Grow w2 w166 := g161.below ho168.below (by omega)
    have hv173 : Holds (Is (PtrV bk10)) (a165.eval (.tmp 2)) w166 := is_any (hk169.holds rfl hv162)
    have hb174 : Blk bk10 _ w166 := hb163.below ho168.below (by omega)
    have hv175 : Holds (Is (PtrV bk30)) (a165.eval (.tmp 3)) w166 := is_any (hk169.holds rfl hv164)
    refine wpList_nil ?_
    refine then_ ?_
    refine wp_seq ?_
    refine wp_region_lit ?_
    refine wp_seg (l1 := [_, _, _, _, _, _]) [([3], []), ([], [0]), ([3], []), ([], [2]), ([], [1, 3]), ([], [4])] [2] w2.heap.size hf167 g172.size (by kernel_rfl) (bund_cons (hb170.ownp hv175) bund_nil) ?_
    refine ch rfl (ob_faP (n := 0) (arg_free 0 rfl rfl) Tryz.underlying136 rfl (by kernel_rfl)) ?_
    refine ch rfl (ob_loadP (arg_op 0 0 rfl rfl rfl rfl) Tryz.underlying102 rfl rfl) ?_
    refine ch rfl (ob_faP (n := 0) (arg_free 0 rfl rfl) Tryz.underlying136 rfl (by kernel_rfl)) ?_
    refine ch rfl (ob_loadP (arg_op 2 0 rfl rfl rfl rfl) Tryz.underlying102 rfl rfl) ?_
    refine ch rfl (ob_xoru (arg_op 1 2 rfl rfl rfl rfl) (arg_op 3 0 rfl rfl rfl rfl)) ?_
    refine ch rfl (ob_call1 (by kernel_rfl) (c_Of) (arg_op 4 0 rfl rfl rfl rfl)) ?_
    refine ch_nil ?_
    intro a176 w177 hf178 hg179 hk180 hn181
    have h182 : Holds _ (a176.eval (.tmp 34)) w177 := hn181.at 5 0 rfl rfl rfl
    have hv183 : Holds (Is (PtrV bk10)) (a176.eval (.tmp 2)) w177 := is_any (hk180.holds rfl hv173)
    have hb184 := hb174.up hg179
    have g185 := g171.trans hg179
    have g186 := g172.trans hg179
    clear hv173 hb174 g171 g172 hf167 hk180 hn181 hg179
    refine wl_store_nm hv183 hb184 rfl h182 ?_
    intro w187 ho188 hb189
    have g190 : Grow w0 w187 := g185.only ho188 (by omega)
    have hv191 : Holds (Is (PtrV bk10)) (a176.eval (.tmp 2)) w187 := is_any hv183
    refine wpList_nil ?_
    refine then_ ?_
    refine wp_ret ?_
    refine ret_cell rfl Tryz.underlying30 rfl (by kernel_rfl) hf178 g190 (hb189.ptr hv191) ?_
    exact rfl
set_option maxRecDepth 100000 in
theorem c_rSum {l : List UInt8} (hl : l.length ≤ 140737488355328) : Con1 112 (Sl elByte l) (fun _ => Is (nmV (sum l))) := by
  intro lo v0 w0 hlo hv0
  refine enter Tryz.func112 rfl Tryz.ntmps112 (by simp) ?_
  intro a0 hf0 ha
  have h00 : Holds _ (a0.eval (.tmp 0)) w0 := arg_holds ha rfl hv0
  clear ha
  have g0 : Grow w0 w0 := Grow.refl _
  refine wp_seq ?_
  refine wp_region_lit ?_
  refine wp_all [([], [])] [0] w0.heap.size hf0 g0.size (by kernel_rfl) bund_nil ?_
  refine ch rfl (ob_alloc_nm) ?_
  refine ch_nil ?_
  intro a1 w2 hf3 hg4 hk5 hn6
  have h7 : Holds _ (a1.eval (.tmp 2)) w2 := hn6.at 0 0 rfl rfl rfl
  have h8 := hk5.holds rfl h00
  have g9 := g0.trans hg4
  obtain ⟨bk10, hl11, hv12, hb13⟩ := OwnB.blk (lo := w0.heap.size) h7
  clear h00 g0 hf0 hk5 hn6
  refine then_ ?_
  refine wp_seq ?_
  refine wp_region_lit ?_
  refine wp_all [([], []), ([], [])] [0, 2] w0.heap.size hf3 g9.size (by kernel_rfl) bund_nil ?_
  refine ch rfl (ob_assign (arg_cu 2611923443488327891 rfl)) ?_
  refine ch rfl (ob_assign (arg_cu 1376283091369227076 rfl)) ?_
  refine ch_nil ?_
  intro a14 w15 hf16 hg17 hk18 hn19
  have h20 : Holds _ (a14.eval (.tmp 3)) w15 := hn19.at 0 1 rfl rfl rfl
  have h21 : Holds _ (a14.eval (.tmp 4)) w15 := hn19.at 1 0 rfl rfl rfl
  have h22 := hk18.holds rfl h8
  have hv23 : Holds (Is (PtrV bk10)) (a14.eval (.tmp 2)) w15 := is_any (hk18.holds rfl hv12)
  have hb24 := hb13.up hg17
  have g25 := g9.trans hg17
  clear h8 hv12 hb13 g9 hf3 hk18 hn19 hg17
  refine then_ ?_
  refine wp_seq ?_
  refine wp_seq ?_
  refine wp_region_lit ?_
  refine wp_all [([], [])] [0, 2, 3, 4] w0.heap.size hf16 g25.size (by kernel_rfl) bund_nil ?_
  refine ch rfl (ob_assign arg_c) ?_
  refine ch_nil ?_
  intro a26 w27 hf28 hg29 hk30 hn31
  have h32 : Holds _ (a26.eval (.tmp 5)) w27 := hn31.at 0 0 rfl rfl rfl
  have h33 := hk30.holds rfl (h20.up hg29)
  have h34 := hk30.holds rfl (h21.up hg29)
  have h35 := hk30.holds rfl h22
  have hv36 : Holds (Is (PtrV bk10)) (a26.eval (.tmp 2)) w27 := is_any (hk30.holds rfl hv23)
  have hb37 := hb24.up hg29
  have g38 := g25.trans hg29
  clear h20 h21 h22 hv23 hb24 g25 hf16 hk30 hn31 hg29
  refine then_ ?_
  refine wp_block ?_
  have g39 : Grow w27 w27 := Grow.refl _
  have hl40 : bk10 < w27.heap.size := hb37.lt
  have hz41 : w0.heap.size ≤ w27.heap.size := g38.size
  refine wp_loopL (α := Nat) (fun j a' w' => Fr 50 a' ∧ (8 * j ≤ l.length + 7) ∧ Grow w0 w' ∧ Grow w27 w' ∧ Keep [0, 2] a26 a' ∧ Holds (Is (u64V (sumUp l j).1)) (a'.eval (.tmp 3)) w' ∧ Holds (Is (u64V (sumUp l j).2)) (a'.eval (.tmp 4)) w' ∧ Holds (Is (intV (8 * (j : Int)))) (a'.eval (.tmp 5)) w' ∧ Blk bk10 (_) w') (fun j => l.length + 8 - 8 * j) (0) ⟨hf28, (by omega), g38, g39, Keep.refl _ _, (is_cast h33 (rfl)), (is_cast h34 (rfl)), (is_cast h32 (by first | rfl | (refine congrArg intV ?_; omega))), hb37⟩ ?_
  intro j a42 w43 ⟨hf44, hi46, g47, g48, kk45, h49, h50, h51, hb52⟩
  have h53 := kk45.holds rfl h35
  have hv54 : Holds (Is (PtrV bk10)) (a42.eval (.tmp 2)) w43 := is_any (kk45.holds rfl hv36)
  refine wp_seq ?_
  refine wp_seq ?_
  refine wp_region_lit ?_
  refine wp_all [([5], []), ([0], []), ([], [1]), ([], [0, 2])] [0, 2, 3, 4, 5] w27.heap.size hf44 g48.size (by kernel_rfl) (bund_cons h51 (bund_cons (h53.up g47) bund_nil)) ?_
  refine ch rfl (ob_move (arg_free 0 rfl rfl)) ?_
  refine ch rfl (ob_move (arg_free 1 rfl rfl)) ?_
  refine ch rfl (ob_len (arg_op 1 0 rfl rfl rfl rfl) Tryz.underlying99) ?_
  refine ch rfl (ob_lss (arg_op 0 2 rfl rfl rfl rfl) (arg_op 2 0 rfl rfl rfl rfl)) ?_
  refine ch_nil ?_
  intro a55 w56 hf57 hg58 hk59 hn60
  have h61 : Holds _ (a55.eval (.tmp 10)) w56 := hn60.at 3 0 rfl rfl rfl
  have h62 := hk59.holds rfl (h49.up hg58)
  have h63 := hk59.holds rfl (h50.up hg58)
  have h64 := hk59.holds rfl (h51.up hg58)
  have h65 := hk59.holds rfl h53
  have hv66 : Holds (Is (PtrV bk10)) (a55.eval (.tmp 2)) w56 := is_any (hk59.holds rfl hv54)
  have hb67 := hb52.up hg58
  have g68 := g47.trans hg58
  have g69 := g48.trans hg58
  have kk70 : Keep _ a26 a55 := kk45.trans hk59 rfl
  clear h49 h50 h51 h53 hv54 hb52 g47 g48 kk45 hf44 hk59 hn60 hg58
  refine then_ ?_
  refine wp_if h61 ?_ ?_
  · intro hc71
    try simp only [cond_norm] at hc71
    refine wp_skip ?_
    refine then_ ?_
    refine wp_seq ?_
    refine wp_block ?_
    refine wp_seq ?_
    refine wp_region_lit ?_
    refine wp_all [([3], []), ([0], []), ([5], []), ([], [1, 2]), ([], [3]), ([], [0, 4]), ([], [5])] [0, 2, 4, 5] w27.heap.size hf57 g69.size (by kernel_rfl) (bund_cons h62 (bund_cons (h65.up g68) (bund_cons h64 bund_nil))) ?_
    refine ch rfl (ob_move (arg_free 0 rfl rfl)) ?_
    refine ch rfl (ob_move (arg_free 1 rfl rfl)) ?_
    refine ch rfl (ob_move (arg_free 2 rfl rfl)) ?_
    refine ch rfl (ob_slice_from (arg_op 1 1 rfl rfl rfl rfl) (arg_op 2 0 rfl rfl rfl rfl) (show (8 * (j : Int)) = ((8 * j : Nat) : Int) by omega) ?_ Tryz.underlying99 szByte) ?_
    · omega
    refine ch rfl (ob_call1 (by kernel_rfl) (c_rword) (arg_op 3 0 rfl rfl rfl rfl)) ?_
    refine ch rfl (ob_xoru (arg_op 0 4 rfl rfl rfl rfl) (arg_op 4 0 rfl rfl rfl rfl)) ?_
    refine ch rfl (ob_assign (arg_op 5 0 rfl rfl rfl rfl)) ?_
    refine ch_nil ?_
    intro a72 w73 hf74 hg75 hk76 hn77
    have h78 : Holds _ (a72.eval (.tmp 3)) w73 := hn77.at 6 0 rfl rfl rfl
    have h79 := hk76.holds rfl (h63.up hg75)
    have h80 := hk76.holds rfl (h64.up hg75)
    have h81 := hk76.holds rfl h65
    have hv82 : Holds (Is (PtrV bk10)) (a72.eval (.tmp 2)) w73 := is_any (hk76.holds rfl hv66)
    have hb83 := hb67.up hg75
    have g84 := g68.trans hg75
    have g85 := g69.trans hg75
    have kk86 : Keep _ a26 a72 := kk70.trans hk76 rfl
    clear h63 h64 h65 hv66 hb67 g68 g69 kk70 hf57 hk76 hn77 hg75
    refine then_ ?_
    refine wp_seq ?_
    refine wp_region_lit ?_
    refine wp_all [([3], []), ([4], []), ([], [0, 1]), ([], [2]), ([], [3]), ([], [3]), ([], [4]), ([], [5])] [0, 2, 5] w27.heap.size hf74 g85.size (by kernel_rfl) (bund_cons h78 (bund_cons h79 bund_nil)) ?_
    refine ch rfl (ob_move (arg_free 0 rfl rfl)) ?_
    refine ch rfl (ob_move (arg_free 1 rfl rfl)) ?_
    refine ch rfl (ob_call2 (by kernel_rfl) (c_rmix) (arg_op 0 1 rfl rfl rfl rfl) (arg_op 1 0 rfl rfl rfl rfl)) ?_
    refine ch rfl (ob_move (arg_op 2 0 rfl rfl rfl rfl)) ?_
    refine ch rfl (ob_extract0 (arg_op 3 0 rfl rfl rfl rfl)) ?_
    refine ch rfl (ob_extract1 (arg_op 3 1 rfl rfl rfl rfl)) ?_
    refine ch rfl (ob_assign (arg_op 4 1 rfl rfl rfl rfl)) ?_
    refine ch rfl (ob_assign (arg_op 5 1 rfl rfl rfl rfl)) ?_
    refine ch_nil ?_
    intro a87 w88 hf89 hg90 hk91 hn92
    have h93 : Holds _ (a87.eval (.tmp 3)) w88 := hn92.at 6 1 rfl rfl rfl
    have h94 : Holds _ (a87.eval (.tmp 4)) w88 := hn92.at 7 0 rfl rfl rfl
    have h95 := hk91.holds rfl (h80.up hg90)
    have h96 := hk91.holds rfl h81
    have hv97 : Holds (Is (PtrV bk10)) (a87.eval (.tmp 2)) w88 := is_any (hk91.holds rfl hv82)
    have hb98 := hb83.up hg90
    have g99 := g84.trans hg90
    have g100 := g85.trans hg90
    have kk101 : Keep _ a26 a87 := kk86.trans hk91 rfl
    clear h80 h81 hv82 hb83 g84 g85 kk86 hf74 hk91 hn92 hg90
    refine then_ ?_
    refine wp_region_lit ?_
    refine wp_all [([3], []), ([4], []), ([], [0, 1]), ([], [2]), ([], [3]), ([], [3]), ([], [4]), ([], [5])] [0, 2, 5] w27.heap.size hf89 g100.size (by kernel_rfl) (bund_cons h93 (bund_cons h94 bund_nil)) ?_
    refine ch rfl (ob_move (arg_free 0 rfl rfl)) ?_
    refine ch rfl (ob_move (arg_free 1 rfl rfl)) ?_
    refine ch rfl (ob_call2 (by kernel_rfl) (c_rmix) (arg_op 0 1 rfl rfl rfl rfl) (arg_op 1 0 rfl rfl rfl rfl)) ?_
    refine ch rfl (ob_move (arg_op 2 0 rfl rfl rfl rfl)) ?_
    refine ch rfl (ob_extract0 (arg_op 3 0 rfl rfl rfl rfl)) ?_
    refine ch rfl (ob_extract1 (arg_op 3 1 rfl rfl rfl rfl)) ?_
    refine ch rfl (ob_assign (arg_op 4 1 rfl rfl rfl rfl)) ?_
    refine ch rfl (ob_assign (arg_op 5 1 rfl rfl rfl rfl)) ?_
    refine ch_nil ?_
    intro a102 w103 hf104 hg105 hk106 hn107
    have h108 : Holds _ (a102.eval (.tmp 3)) w103 := hn107.at 6 1 rfl rfl rfl
    have h109 : Holds _ (a102.eval (.tmp 4)) w103 := hn107.at 7 0 rfl rfl rfl
    have h110 := hk106.holds rfl (h95.up hg105)
    have h111 := hk106.holds rfl h96
    have hv112 : Holds (Is (PtrV bk10)) (a102.eval (.tmp 2)) w103 := is_any (hk106.holds rfl hv97)
    have hb113 := hb98.up hg105
    have g114 := g99.trans hg105
    have g115 := g100.trans hg105
    have kk116 : Keep _ a26 a102 := kk101.trans hk106 rfl
    clear h95 h96 hv97 hb98 g99 g100 kk101 hf89 hk106 hn107 hg105
    refine blockN ?_
    refine then_ ?_
    refine wp_region_lit ?_
    refine wp_all [([5], []), ([], [0]), ([], [1])] [0, 2, 3, 4] w27.heap.size hf104 g115.size (by kernel_rfl) (bund_cons h110 bund_nil) ?_
    refine ch rfl (ob_move (arg_free 0 rfl rfl)) ?_
    first
      | (refine ch rfl (ob_add' (arg_op 0 0 rfl rfl rfl rfl) arg_c ?_) ?_; · omega)
      | refine ch rfl (ob_add (arg_op 0 0 rfl rfl rfl rfl) arg_c) ?_
    refine ch rfl (ob_assign (arg_op 1 0 rfl rfl rfl rfl)) ?_
    refine ch_nil ?_
    intro a117 w118 hf119 hg120 hk121 hn122
    have h123 : Holds _ (a117.eval (.tmp 5)) w118 := hn122.at 2 0 rfl rfl rfl
    have h124 := hk121.holds rfl (h108.up hg120)
    have h125 := hk121.holds rfl (h109.up hg120)
    have h126 := hk121.holds rfl h111
    have hv127 : Holds (Is (PtrV bk10)) (a117.eval (.tmp 2)) w118 := is_any (hk121.holds rfl hv112)
    have hb128 := hb113.up hg120
    have g129 := g114.trans hg120
    have g130 := g115.trans hg120
    have kk131 : Keep _ a26 a117 := kk116.trans hk121 rfl
    clear h108 h109 h111 hv112 hb113 g114 g115 kk116 hf104 hk121 hn122 hg120
    refine then_ ?_
    exact ⟨(j + 1), (by omega), hf119, (by omega), g129, g130, kk131, (is_cast h124 (rfl)), (is_cast h125 (rfl)), (is_cast h123 (by first | rfl | (refine congrArg intV ?_; omega))), hb128⟩
  · intro hc71
    try simp only [cond_norm] at hc71
    obtain rfl : j = ((l.length + 7) / 8) := by omega
    refine wp_exit ?_
    refine thenX ?_
    refine thenX ?_
    refine blockX ?_
    refine then_ ?_
    refine wp_seq ?_
    refine wp_region_lit ?_
    refine wp_all [([4], []), ([0], []), ([], [1]), ([], [2]), ([], [0, 3]), ([], [4])] [2, 3] w27.heap.size hf57 g69.size (by kernel_rfl) (bund_cons h63 (bund_cons (h65.up g68) bund_nil)) ?_
    refine ch rfl (ob_move (arg_free 0 rfl rfl)) ?_
    refine ch rfl (ob_move (arg_free 1 rfl rfl)) ?_
    refine ch rfl (ob_len (arg_op 1 0 rfl rfl rfl rfl) Tryz.underlying99) ?_
    refine ch rfl (ob_intu64 (m := UInt64.ofNat l.length) (arg_op 2 0 rfl rfl rfl rfl) Tryz.underlying3 Tryz.underlying102 ?_) ?_
    · exact len64 hl
    refine ch rfl (ob_xoru (arg_op 0 3 rfl rfl rfl rfl) (arg_op 3 0 rfl rfl rfl rfl)) ?_
    refine ch rfl (ob_assign (arg_op 4 0 rfl rfl rfl rfl)) ?_
    refine ch_nil ?_
    intro a132 w133 hf134 hg135 hk136 hn137
    have h138 : Holds _ (a132.eval (.tmp 4)) w133 := hn137.at 5 0 rfl rfl rfl
    have h139 := hk136.holds rfl (h62.up hg135)
    have hv140 : Holds (Is (PtrV bk10)) (a132.eval (.tmp 2)) w133 := is_any (hk136.holds rfl hv66)
    have hb141 := hb67.up hg135
    have g142 := g68.trans hg135
    have g143 := g69.trans hg135
    clear h62 hv66 hb67 g68 g69 hf57 hk136 hn137 hg135
    refine then_ ?_
    refine wp_seq ?_
    refine wp_seq ?_
    refine wp_region_lit ?_
    refine wp_all [([], [])] [2, 3, 4] w27.heap.size hf134 g143.size (by kernel_rfl) bund_nil ?_
    refine ch rfl (ob_assign arg_c) ?_
    refine ch_nil ?_
    intro a144 w145 hf146 hg147 hk148 hn149
    have h150 : Holds _ (a144.eval (.tmp 6)) w145 := hn149.at 0 0 rfl rfl rfl
    have h151 := hk148.holds rfl (h138.up hg147)
    have h152 := hk148.holds rfl (h139.up hg147)
    have hv153 : Holds (Is (PtrV bk10)) (a144.eval (.tmp 2)) w145 := is_any (hk148.holds rfl hv140)
    have hb154 := hb141.up hg147
    have g155 := g142.trans hg147
    have g156 := g143.trans hg147
    clear h138 h139 hv140 hb141 g142 g143 hf134 hk148 hn149 hg147
    refine then_ ?_
    refine wp_block ?_
    have g157 : Grow w145 w145 := Grow.refl _
    have hl158 : bk10 < w145.heap.size := hb154.lt
    have hz159 : w27.heap.size ≤ w145.heap.size := g156.size
    refine wp_loopL (α := Nat) (fun k a' w' => Fr 50 a' ∧ (k ≤ 4) ∧ Grow w0 w' ∧ Grow w27 w' ∧ Grow w145 w' ∧ Keep [2] a144 a' ∧ Holds (Is (u64V (mixN k ((sumUp l ((l.length + 7) / 8)).1, (sumUp l ((l.length + 7) / 8)).2 ^^^ UInt64.ofNat l.length)).1)) (a'.eval (.tmp 3)) w' ∧ Holds (Is (u64V (mixN k ((sumUp l ((l.length + 7) / 8)).1, (sumUp l ((l.length + 7) / 8)).2 ^^^ UInt64.ofNat l.length)).2)) (a'.eval (.tmp 4)) w' ∧ Holds (Is (intV (k : Int))) (a'.eval (.tmp 6)) w' ∧ Blk bk10 (_) w') (fun k => 4 - k) (0) ⟨hf146, (by omega), g155, g156, g157, Keep.refl _ _, (is_cast h152 (rfl)), (is_cast h151 (rfl)), (is_cast h150 (by first | rfl | (refine congrArg intV ?_; omega))), hb154⟩ ?_
    intro k a160 w161 ⟨hf162, hi164, g165, g166, g167, kk163, h168, h169, h170, hb171⟩
    have hv172 : Holds (Is (PtrV bk10)) (a160.eval (.tmp 2)) w161 := is_any (kk163.holds rfl hv153)
    refine wp_seq ?_
    refine wp_seq ?_
    refine wp_region_lit ?_
    refine wp_all [([6], []), ([], [0])] [2, 3, 4, 6] w145.heap.size hf162 g167.size (by kernel_rfl) (bund_cons h170 bund_nil) ?_
    refine ch rfl (ob_move (arg_free 0 rfl rfl)) ?_
    refine ch rfl (ob_lss (arg_op 0 0 rfl rfl rfl rfl) arg_c) ?_
    refine ch_nil ?_
    intro a173 w174 hf175 hg176 hk177 hn178
    have h179 : Holds _ (a173.eval (.tmp 37)) w174 := hn178.at 1 0 rfl rfl rfl
    have h180 := hk177.holds rfl (h168.up hg176)
    have h181 := hk177.holds rfl (h169.up hg176)
    have h182 := hk177.holds rfl (h170.up hg176)
    have hv183 : Holds (Is (PtrV bk10)) (a173.eval (.tmp 2)) w174 := is_any (hk177.holds rfl hv172)
    have hb184 := hb171.up hg176
    have g185 := g165.trans hg176
    have g186 := g166.trans hg176
    have g187 := g167.trans hg176
    have kk188 : Keep _ a144 a173 := kk163.trans hk177 rfl
    clear h168 h169 h170 hv172 hb171 g165 g166 g167 kk163 hf162 hk177 hn178 hg176
    refine then_ ?_
    refine wp_if h179 ?_ ?_
    · intro hc189
      try simp only [cond_norm] at hc189
      refine wp_skip ?_
      refine then_ ?_
      refine wp_seq ?_
      refine wp_block ?_
      refine wp_region_lit ?_
      refine wp_all [([3], []), ([4], []), ([], [0, 1]), ([], [2]), ([], [3]), ([], [3]), ([], [4]), ([], [5])] [2, 6] w145.heap.size hf175 g187.size (by kernel_rfl) (bund_cons h180 (bund_cons h181 bund_nil)) ?_
      refine ch rfl (ob_move (arg_free 0 rfl rfl)) ?_
      refine ch rfl (ob_move (arg_free 1 rfl rfl)) ?_
      refine ch rfl (ob_call2 (by kernel_rfl) (c_rmix) (arg_op 0 1 rfl rfl rfl rfl) (arg_op 1 0 rfl rfl rfl rfl)) ?_
      refine ch rfl (ob_move (arg_op 2 0 rfl rfl rfl rfl)) ?_
      refine ch rfl (ob_extract0 (arg_op 3 0 rfl rfl rfl rfl)) ?_
      refine ch rfl (ob_extract1 (arg_op 3 1 rfl rfl rfl rfl)) ?_
      refine ch rfl (ob_assign (arg_op 4 1 rfl rfl rfl rfl)) ?_
      refine ch rfl (ob_assign (arg_op 5 1 rfl rfl rfl rfl)) ?_
      refine ch_nil ?_
      intro a190 w191 hf192 hg193 hk194 hn195
      have h196 : Holds _ (a190.eval (.tmp 3)) w191 := hn195.at 6 1 rfl rfl rfl
      have h197 : Holds _ (a190.eval (.tmp 4)) w191 := hn195.at 7 0 rfl rfl rfl
      have h198 := hk194.holds rfl (h182.up hg193)
      have hv199 : Holds (Is (PtrV bk10)) (a190.eval (.tmp 2)) w191 := is_any (hk194.holds rfl hv183)
      have hb200 := hb184.up hg193
      have g201 := g185.trans hg193
      have g202 := g186.trans hg193
      have g203 := g187.trans hg193
      have kk204 : Keep _ a144 a190 := kk188.trans hk194 rfl
      clear h182 hv183 hb184 g185 g186 g187 kk188 hf175 hk194 hn195 hg193
      refine blockN ?_
      refine then_ ?_
      refine wp_region_lit ?_
      refine wp_all [([6], []), ([], [0]), ([], [1])] [2, 3, 4] w145.heap.size hf192 g203.size (by kernel_rfl) (bund_cons h198 bund_nil) ?_
      refine ch rfl (ob_move (arg_free 0 rfl rfl)) ?_
      first
        | (refine ch rfl (ob_add' (arg_op 0 0 rfl rfl rfl rfl) arg_c ?_) ?_; · omega)
        | refine ch rfl (ob_add (arg_op 0 0 rfl rfl rfl rfl) arg_c) ?_
      refine ch rfl (ob_assign (arg_op 1 0 rfl rfl rfl rfl)) ?_
      refine ch_nil ?_
      intro a205 w206 hf207 hg208 hk209 hn210
      have h211 : Holds _ (a205.eval (.tmp 6)) w206 := hn210.at 2 0 rfl rfl rfl
      have h212 := hk209.holds rfl (h196.up hg208)
      have h213 := hk209.holds rfl (h197.up hg208)
      have hv214 : Holds (Is (PtrV bk10)) (a205.eval (.tmp 2)) w206 := is_any (hk209.holds rfl hv199)
      have hb215 := hb200.up hg208
      have g216 := g201.trans hg208
      have g217 := g202.trans hg208
      have g218 := g203.trans hg208
      have kk219 : Keep _ a144 a205 := kk204.trans hk209 rfl
      clear h196 h197 hv199 hb200 g201 g202 g203 kk204 hf192 hk209 hn210 hg208
      refine then_ ?_
      exact ⟨(k + 1), (by omega), hf207, (by omega), g216, g217, g218, kk219, (is_cast h212 (rfl)), (is_cast h213 (rfl)), (is_cast h211 (by first | rfl | (refine congrArg intV ?_; omega))), hb215⟩
    · intro hc189
      try simp only [cond_norm] at hc189
      obtain rfl : k = 4 := by omega
      refine wp_exit ?_
      refine thenX ?_
      refine thenX ?_
      refine blockX ?_
      refine then_ ?_
      refine wp_seq ?_
      refine wp_region_lit ?_
      refine wp_seg (l1 := [_, _, _, _]) [([3], []), ([4], []), ([], [0, 1]), ([], [2])] [2] w145.heap.size hf175 g187.size (by kernel_rfl) (bund_cons h180 (bund_cons h181 bund_nil)) ?_
      refine ch rfl (ob_move (arg_free 0 rfl rfl)) ?_
      refine ch rfl (ob_move (arg_free 1 rfl rfl)) ?_
      refine ch rfl (ob_xoru (arg_op 0 1 rfl rfl rfl rfl) (arg_op 1 0 rfl rfl rfl rfl)) ?_
      refine ch rfl (ob_call1 (by kernel_rfl) (c_rOf) (arg_op 2 0 rfl rfl rfl rfl)) ?_
      refine ch_nil ?_
      intro a220 w221 hf222 hg223 hk224 hn225
      have h226 : Holds _ (a220.eval (.tmp 49)) w221 := hn225.at 3 0 rfl rfl rfl
      have hv227 : Holds (Is (PtrV bk10)) (a220.eval (.tmp 2)) w221 := is_any (hk224.holds rfl hv183)
      have hb228 := hb184.up hg223
      have g229 := g185.trans hg223
      have g230 := g186.trans hg223
      have g231 := g187.trans hg223
      clear hv183 hb184 g185 g186 g187 hf175 hk224 hn225 hg223
      refine wl_store_nm hv227 hb228 rfl h226 ?_
      intro w232 ho233 hb234
      have g235 : Grow w0 w232 := g229.only ho233 (by omega)
      have hv236 : Holds (Is (PtrV bk10)) (a220.eval (.tmp 2)) w232 := is_any hv227
      refine wpList_nil ?_
      refine then_ ?_
      refine wp_ret ?_
      refine ret_cell rfl Tryz.underlying30 rfl (by kernel_rfl) hf222 g235 (hb234.ptr hv236) ?_
      exact rfl
end Ex
end Go.Proofs.YtnmfiiejhoafnaaGreat
