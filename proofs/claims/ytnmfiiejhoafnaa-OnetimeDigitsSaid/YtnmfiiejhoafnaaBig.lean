/- More operations: arithmetic, slices made, sliced, appended to, copied to; strings; the hash's state. -/
import Derived.Test.YtnmfiiejhoafnaaMore
import Derived.WalkKit
namespace Go.Proofs.Ytnmfiiejhoafnaa
namespace Ex
open Go Calm Go.RowKit

section
variable {X : Reg} {pl : List Tmp × List Nat} {Fs : List Fct} {i : Nat} {d : Tmp} {ty : TypeId} {pos : String} {af : Array Edge} {g : Option (Nat × Bool)}

theorem ob_shr {t yt : TypeId} {x y : Operand} {n : Int} {k : IntKind} (hx : ArgOK X pl Fs i x (Is (intV n))) (hy : ArgOK X pl Fs i y (Is (.int k 4))) (hn : 0 ≤ n) :
    Ob X pl Fs i ⟨some d, .binOp .shr t x y yt, ty, pos, af, g⟩ (Is (intV (n / 16))) := by
  refine ob_same ?_
  intro ρ w hs
  have h1 : ρ x = .int .i64 n := hx ρ w hs
  have h2 : ρ y = .int k 4 := hy ρ w hs
  refine ⟨_, ?_, rfl⟩
  unfold execOp
  refine exec_v _ _ _ _ _ ?_
  rw [h1, h2, Sem.run_bind, eqGuard_int, Result.andThen_ok]
  have : n.fdiv (2 ^ 4) = n / 16 := Int.fdiv_eq_ediv_of_nonneg _ (by decide)
  show Result.ok (Value.int .i64 (n.fdiv (2 ^ 4))) w = _
  rw [this]
theorem ob_and_i {t yt : TypeId} {x y : Operand} {n : Int} (hx : ArgOK X pl Fs i x (Is (intV n))) (hy : ArgOK X pl Fs i y (Is (intV 15))) (hn : 0 ≤ n ∧ n < 9223372036854775808) :
    Ob X pl Fs i ⟨some d, .binOp .and t x y yt, ty, pos, af, g⟩ (Is (intV (n % 16))) := ob_int hx hy fun w => by
  obtain ⟨m, rfl⟩ := Int.eq_ofNat_of_zero_le hn.1
  have hm : m < 9223372036854775808 := by omega
  simp only [binOp, Op.intBits, IntKind.bits, ne_eq, not_true_eq_false, if_false]
  have e1 : (BitVec.ofInt 64 (m : Int) &&& BitVec.ofInt 64 15).toNat = m % 16 := by
    rw [BitVec.toNat_and]
    have a1 : (BitVec.ofInt 64 (m : Int)).toNat = m := by
      simp
      omega
    have a2 : (BitVec.ofInt 64 15).toNat = 15 := by decide
    rw [a1, a2]
    exact Nat.and_two_pow_sub_one_eq_mod m 4
  have e2 : IntKind.i64.wrap (((BitVec.ofInt 64 (m : Int) &&& BitVec.ofInt 64 15).toNat : Nat) : Int) = (m : Int) % 16 := by
    rw [e1, IntKind.wrap_i64]
    omega
  show Result.ok (Value.int .i64 (IntKind.i64.wrap (((BitVec.ofInt 64 (m : Int) &&& BitVec.ofInt 64 15).toNat : Nat) : Int))) w = _
  rw [e2]
theorem ob_quo {t yt : TypeId} {x y : Operand} {n m : Int} (hx : ArgOK X pl Fs i x (Is (intV n))) (hy : ArgOK X pl Fs i y (Is (intV m))) (hn : 0 ≤ n ∧ 1 < m ∧ n < 9223372036854775808) :
    Ob X pl Fs i ⟨some d, .binOp .quo t x y yt, ty, pos, af, g⟩ (Is (intV (n / m))) := ob_int hx hy fun w => by
  have h1 : m ≠ 0 := by omega
  have h2 : n.tdiv m = n / m := Int.tdiv_eq_ediv_of_nonneg hn.1
  have h4 : 0 ≤ n / m := Int.ediv_nonneg hn.1 (by omega)
  have h5 : n / m ≤ n := Int.ediv_le_self m hn.1
  have h3 : IntKind.i64.wrap (n / m) = n / m := by
    rw [IntKind.wrap_i64]
    generalize n / m = q at *
    omega
  simp [binOp, Op.intDiv, h1, h2, h3]
theorem ob_rem {t yt : TypeId} {x y : Operand} {n m : Int} (hx : ArgOK X pl Fs i x (Is (intV n))) (hy : ArgOK X pl Fs i y (Is (intV m))) (hn : 0 ≤ n ∧ 1 < m ∧ n < 9223372036854775808) :
    Ob X pl Fs i ⟨some d, .binOp .rem t x y yt, ty, pos, af, g⟩ (Is (intV (n % m))) := ob_int hx hy fun w => by
  have h1 : m ≠ 0 := by omega
  have h2 : n.tmod m = n % m := Int.tmod_eq_emod_of_nonneg hn.1
  have h4 : 0 ≤ n % m := Int.emod_nonneg n h1
  have h5 : n % m < m := Int.emod_lt_of_pos n (by omega)
  have h6 : n % m ≤ n := by
    have := Int.mul_ediv_add_emod n m
    have h7 : 0 ≤ m * (n / m) := Int.mul_nonneg (by omega) (Int.ediv_nonneg hn.1 (by omega))
    omega
  have h3 : IntKind.i64.wrap (n % m) = n % m := by
    rw [IntKind.wrap_i64]
    generalize n % m = q at *
    omega
  simp [binOp, Op.intDiv, h1, h2, h3]

/-! ### slices that are made -/
theorem OwnS.mono {α : Type} {T : El α} {lo lo' : Nat} {l : List α} {v : Value} {w : World} (h : Holds (OwnS lo T l) v w) (hl : lo' ≤ lo) : Holds (OwnS lo' T l) v w := by
  have h0 : w.ownsRow lo T.tid T.size v l.length (l.flatMap T.cells) := h
  refine ⟨h0.1, ?_⟩
  rcases h0.2 with h1 | ⟨g, cap, cur, h1, h2, h3⟩
  · exact .inl h1
  · exact .inr ⟨g, cap, cur, h1, Nat.le_trans hl h2, h3⟩
theorem own_lit {α : Type} {T : El α} {lo : Nat} {w : World} (l : List α) (hl : l.length ≤ maxLen) (h : lo ≤ w.heap.size) :
    Holds (OwnS lo T l) (.slice (some ⟨w.heap.size, 0, none⟩) l.length l.length) (w.alloc (.cells (l.flatMap T.cells).toArray T.tid)) := by
  have := World.ownsRow_lit (base := lo) (e := T.tid) (size := T.size) w (l.flatMap T.cells).toArray l.length h hl (by rw [List.size_toArray, flatMap_len])
  exact this
theorem ob_lit {α : Type} {T : El α} {o : Op} (l : List α) (hl : l.length ≤ maxLen)
    (h : ∀ ρ w, Sit X pl Fs i ρ w → (execOp ρ ⟨some d, o, ty, pos, af, g⟩).run Try.prog w = .ok (.value (.slice (some ⟨w.heap.size, 0, none⟩) l.length l.length)) (w.alloc (.cells (l.flatMap T.cells).toArray T.tid))) :
    Ob X pl Fs i ⟨some d, o, ty, pos, af, g⟩ (OwnS X.lo T l) := by
  refine ob_val ?_
  intro ρ w hs
  exact ⟨_, _, h ρ w hs, Grow.alloc w _, own_lit l hl (lo_le hs)⟩

theorem run_bs_int2 (a b : Int) (w : World) : (Instr.buildSlice 24 2 #[(0, intV a), (1, intV b)]).run Try.prog w = .ok (.slice (some ⟨w.heap.size, 0, none⟩) 2 2) (w.alloc (.cells #[intV a, intV b] 3)) := by kernel_rfl
theorem ob_bs2_int {x y : Operand} {a b : Int} (hx : ArgOK X pl Fs i x (Is (intV a))) (hy : ArgOK X pl Fs i y (Is (intV b))) :
    Ob X pl Fs i ⟨some d, .buildSlice 24 2 #[(0, x), (1, y)], ty, pos, af, g⟩ (OwnS X.lo elInt [a, b]) := by
  refine ob_lit [a, b] (by show 2 ≤ maxLen; decide) ?_
  intro ρ w hs
  have e0 : ρ x = intV a := hx ρ w hs
  have e1 : ρ y = intV b := hy ρ w hs
  unfold execOp
  refine exec_v _ _ _ _ _ ?_
  simp only [List.map_toArray, List.map_cons, List.map_nil, e0, e1]
  rw [run_bs_int2]
  rfl
end

/-! ### the program's element types -/
theorem elInfo (t : TypeId) (h : (Try.prog.info? t).isSome = true) : ∃ inf, Try.prog.info? t = some inf := Option.isSome_iff_exists.1 h

section
variable {X : Reg} {pl : List Tmp × List Nat} {Fs : List Fct} {i : Nat} {d : Tmp} {ty : TypeId} {pos : String} {af : Array Edge} {g : Option (Nat × Bool)}
theorem ob_make0 {α : Type} {T : El α} {inf : TypeInfo} {z : α} (E : ElP T inf z) {t : TypeId} {x y : Operand} {c : Nat} (ht : Try.prog.underlying t = some (.slice T.tid)) (hx : ArgOK X pl Fs i x (Is (intV 0))) (hy : ArgOK X pl Fs i y (Is (intV c)))
    (hc : T.bytes * c ≤ 281474976710656 ∧ c ≤ maxLen) : Ob X pl Fs i ⟨some d, .makeSlice t x y, ty, pos, af, g⟩ (OwnS X.lo T ([] : List α)) := by
  refine ob_val ?_
  intro ρ w hs
  have e0 : ρ x = intV 0 := hx ρ w hs
  have e1 : ρ y = intV c := hy ρ w hs
  obtain ⟨w', h1, h2, h3⟩ := run_make_own (P := Try.prog) w X.lo t T.tid inf (El.val T z) T.size ht E.hinfo E.hzero E.hsize .i64 .i64 c (by rw [E.hbytes]; exact hc.1) hc.2 (lo_le hs)
  refine ⟨_, w', ?_, grownBy_below h3 (fun k hk => by cases hk) (Nat.le_refl _), h2⟩
  unfold execOp
  refine exec_v _ _ _ _ _ ?_
  rw [e0, e1]
  exact h1
end
end Ex
end Go.Proofs.Ytnmfiiejhoafnaa
