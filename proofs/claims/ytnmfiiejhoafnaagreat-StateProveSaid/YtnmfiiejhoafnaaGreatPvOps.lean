/- What each kind of operation gives: one lemma a kind. -/
import Derived.Test.YtnmfiiejhoafnaaGreatPvTy
set_option linter.unusedSimpArgs false
set_option linter.unusedVariables false
namespace Go.Proofs.YtnmfiiejhoafnaaGreat
namespace Ex
open Go Calm Go.RowKit
section
variable {X : Reg} {pl : List Tmp × List Nat} {Fs : List Fct} {i : Nat} {d : Tmp} {ty : TypeId} {pos : String} {af : Array Edge} {g : Option (Nat × Bool)}
theorem ob_val {op : Op} {F : Fct} (h : ∀ ρ w, Sit X pl Fs i ρ w → ∃ v w', (execOp ρ ⟨some d, op, ty, pos, af, g⟩).run Tryz.prog w = .ok (.value v) w' ∧ Grow w w' ∧ Holds F v w') :
    Ob X pl Fs i ⟨some d, op, ty, pos, af, g⟩ F := by
  constructor
  intro ρ w hs
  obtain ⟨v, w', h1, h2, h3⟩ := h ρ w hs
  rw [h1]; exact ⟨h2, h3⟩
theorem ob_same {op : Op} {F : Fct} (h : ∀ ρ w, Sit X pl Fs i ρ w → ∃ v, (execOp ρ ⟨some d, op, ty, pos, af, g⟩).run Tryz.prog w = .ok (.value v) w ∧ Holds F v w) :
    Ob X pl Fs i ⟨some d, op, ty, pos, af, g⟩ F := ob_val fun ρ w hs => let ⟨v, h1, h2⟩ := h ρ w hs; ⟨v, w, h1, Grow.refl w, h2⟩
theorem ob_move {x : Operand} {G : Fct} (ha : ArgOK X pl Fs i x G) : Ob X pl Fs i ⟨some d, .move x, ty, pos, af, g⟩ G := ob_same fun ρ w hs => ⟨ρ x, rfl, ha ρ w hs⟩
theorem ob_assign {x : Operand} {G : Fct} (ha : ArgOK X pl Fs i x G) : Ob X pl Fs i ⟨some d, .assign x, ty, pos, af, g⟩ G := ob_same fun ρ w hs => ⟨ρ x, rfl, ha ρ w hs⟩
theorem ob_or {c x : Operand} {b y : Bool} (hc : ArgOK X pl Fs i c (Is (.bool b))) (hx : ArgOK X pl Fs i x (When (b = false) (Is (.bool y)))) :
    Ob X pl Fs i ⟨some d, .pick c (.const (.bool true)) x, ty, pos, af, g⟩ (Is (.bool (b || y))) := ob_same fun ρ w hs => by
  have h1 : ρ c = .bool b := hc ρ w hs
  have h2 : b = false → ρ x = .bool y := (hx ρ w hs).1
  cases b with
  | true => exact ⟨.bool true, by simp [execOp, h1, asBool, hs.base.const], rfl⟩
  | false => exact ⟨.bool y, by simp [execOp, h1, asBool, h2 rfl], rfl⟩
theorem ob_and {c x : Operand} {b y : Bool} (hc : ArgOK X pl Fs i c (Is (.bool b))) (hx : ArgOK X pl Fs i x (When (b = true) (Is (.bool y)))) :
    Ob X pl Fs i ⟨some d, .pick c x (.const (.bool false)), ty, pos, af, g⟩ (Is (.bool (b && y))) := ob_same fun ρ w hs => by
  have h1 : ρ c = .bool b := hc ρ w hs
  have h2 : b = true → ρ x = .bool y := (hx ρ w hs).1
  cases b with
  | false => exact ⟨.bool false, by simp [execOp, h1, asBool, hs.base.const], rfl⟩
  | true => exact ⟨.bool y, by simp [execOp, h1, asBool, h2 rfl], rfl⟩
theorem eqGuard_int (op : BinOp) (t : TypeId) (x y : Operand) (k k' : IntKind) (m n : Int) (w : World) : (eqGuard op t x y (.int k m) (.int k' n)).run Tryz.prog w = .ok () w := by
  cases op <;> simp [eqGuard]
theorem ob_int {op : BinOp} {t yt : TypeId} {x y : Operand} {k : IntKind} {m n : Int} {v : Value} (hx : ArgOK X pl Fs i x (Is (.int k m))) (hy : ArgOK X pl Fs i y (Is (.int k n)))
    (hv : ∀ w, (binOp op t (.int k m) (.int k n)).run Tryz.prog w = .ok v w) : Ob X pl Fs i ⟨some d, .binOp op t x y yt, ty, pos, af, g⟩ (Is v) := ob_same fun ρ w hs => by
  have h1 : ρ x = .int k m := hx ρ w hs
  have h2 : ρ y = .int k n := hy ρ w hs
  refine ⟨v, ?_, rfl⟩
  simp only [execOp, h1, h2, Sem.run_bind, eqGuard_int, Result.andThen_ok, hv]
  rfl
theorem ob_add {t yt : TypeId} {x y : Operand} {m n : Int} (hx : ArgOK X pl Fs i x (Is (intV m))) (hy : ArgOK X pl Fs i y (Is (intV n))) :
    Ob X pl Fs i ⟨some d, .binOp .add t x y yt, ty, pos, af, g⟩ (Is (intV (IntKind.i64.wrap (m + n)))) := ob_int hx hy fun w => by simp [binOp, Op.intArith]
theorem ob_sub {t yt : TypeId} {x y : Operand} {m n : Int} (hx : ArgOK X pl Fs i x (Is (intV m))) (hy : ArgOK X pl Fs i y (Is (intV n))) :
    Ob X pl Fs i ⟨some d, .binOp .sub t x y yt, ty, pos, af, g⟩ (Is (intV (IntKind.i64.wrap (m - n)))) := ob_int hx hy fun w => by simp [binOp, Op.intArith]
theorem ob_mul {t yt : TypeId} {x y : Operand} {m n : Int} (hx : ArgOK X pl Fs i x (Is (intV m))) (hy : ArgOK X pl Fs i y (Is (intV n))) :
    Ob X pl Fs i ⟨some d, .binOp .mul t x y yt, ty, pos, af, g⟩ (Is (intV (IntKind.i64.wrap (m * n)))) := ob_int hx hy fun w => by simp [binOp, Op.intArith]
theorem wrap_in {z : Int} (h : -9223372036854775808 ≤ z ∧ z ≤ 9223372036854775807) : IntKind.i64.wrap z = z := IntWalk.i64_in z h
theorem ob_add' {t yt : TypeId} {x y : Operand} {m n : Int} (hx : ArgOK X pl Fs i x (Is (intV m))) (hy : ArgOK X pl Fs i y (Is (intV n))) (h : -9223372036854775808 ≤ m + n ∧ m + n ≤ 9223372036854775807) :
    Ob X pl Fs i ⟨some d, .binOp .add t x y yt, ty, pos, af, g⟩ (Is (intV (m + n))) := by have := ob_add (t := t) (yt := yt) (d := d) (ty := ty) (pos := pos) (af := af) (g := g) hx hy; rwa [wrap_in h] at this
theorem ob_sub' {t yt : TypeId} {x y : Operand} {m n : Int} (hx : ArgOK X pl Fs i x (Is (intV m))) (hy : ArgOK X pl Fs i y (Is (intV n))) (h : -9223372036854775808 ≤ m - n ∧ m - n ≤ 9223372036854775807) :
    Ob X pl Fs i ⟨some d, .binOp .sub t x y yt, ty, pos, af, g⟩ (Is (intV (m - n))) := by have := ob_sub (t := t) (yt := yt) (d := d) (ty := ty) (pos := pos) (af := af) (g := g) hx hy; rwa [wrap_in h] at this
theorem ob_mul' {t yt : TypeId} {x y : Operand} {m n : Int} (hx : ArgOK X pl Fs i x (Is (intV m))) (hy : ArgOK X pl Fs i y (Is (intV n))) (h : -9223372036854775808 ≤ m * n ∧ m * n ≤ 9223372036854775807) :
    Ob X pl Fs i ⟨some d, .binOp .mul t x y yt, ty, pos, af, g⟩ (Is (intV (m * n))) := by have := ob_mul (t := t) (yt := yt) (d := d) (ty := ty) (pos := pos) (af := af) (g := g) hx hy; rwa [wrap_in h] at this
theorem ob_lss {t yt : TypeId} {x y : Operand} {k : IntKind} {m n : Int} (hx : ArgOK X pl Fs i x (Is (.int k m))) (hy : ArgOK X pl Fs i y (Is (.int k n))) :
    Ob X pl Fs i ⟨some d, .binOp .lss t x y yt, ty, pos, af, g⟩ (Is (.bool (decide (m < n)))) := ob_int hx hy fun w => by simp [binOp, Op.intCmp]
theorem ob_leq {t yt : TypeId} {x y : Operand} {k : IntKind} {m n : Int} (hx : ArgOK X pl Fs i x (Is (.int k m))) (hy : ArgOK X pl Fs i y (Is (.int k n))) :
    Ob X pl Fs i ⟨some d, .binOp .leq t x y yt, ty, pos, af, g⟩ (Is (.bool (decide (m ≤ n)))) := ob_int hx hy fun w => by simp [binOp, Op.intCmp]
theorem ob_gtr {t yt : TypeId} {x y : Operand} {k : IntKind} {m n : Int} (hx : ArgOK X pl Fs i x (Is (.int k m))) (hy : ArgOK X pl Fs i y (Is (.int k n))) :
    Ob X pl Fs i ⟨some d, .binOp .gtr t x y yt, ty, pos, af, g⟩ (Is (.bool (decide (n < m)))) := ob_int hx hy fun w => by simp [binOp, Op.intCmp]
theorem ob_geq {t yt : TypeId} {x y : Operand} {k : IntKind} {m n : Int} (hx : ArgOK X pl Fs i x (Is (.int k m))) (hy : ArgOK X pl Fs i y (Is (.int k n))) :
    Ob X pl Fs i ⟨some d, .binOp .geq t x y yt, ty, pos, af, g⟩ (Is (.bool (decide (n ≤ m)))) := ob_int hx hy fun w => by simp [binOp, Op.intCmp]
theorem ob_eql {t yt : TypeId} {x y : Operand} {k : IntKind} {m n : Int} (hx : ArgOK X pl Fs i x (Is (.int k m))) (hy : ArgOK X pl Fs i y (Is (.int k n))) :
    Ob X pl Fs i ⟨some d, .binOp .eql t x y yt, ty, pos, af, g⟩ (Is (.bool (decide (m = n)))) := ob_int hx hy fun w => by
  have : (m == n) = decide (m = n) := by by_cases h : m = n <;> simp [h]
  simp [binOp, Op.intCmp, this]
theorem ob_neq {t yt : TypeId} {x y : Operand} {k : IntKind} {m n : Int} (hx : ArgOK X pl Fs i x (Is (.int k m))) (hy : ArgOK X pl Fs i y (Is (.int k n))) :
    Ob X pl Fs i ⟨some d, .binOp .neq t x y yt, ty, pos, af, g⟩ (Is (.bool (decide (m ≠ n)))) := ob_int hx hy fun w => by
  have : (m != n) = decide (m ≠ n) := by by_cases h : m = n <;> simp [h]
  simp [binOp, Op.intCmp, this]
theorem u64_wrap (x : Int) : IntKind.u64.wrap x = x % 18446744073709551616 := by simp [IntKind.wrap, IntKind.bits, IntKind.signed]
theorem u8_wrap (x : Int) : IntKind.u8.wrap x = x % 256 := by simp [IntKind.wrap, IntKind.bits, IntKind.signed]
theorem ofInt_u64 (a : UInt64) : BitVec.ofInt 64 (a.toNat : Int) = a.toBitVec := by
  apply BitVec.eq_of_toNat_eq
  simp
theorem u64_back (b : BitVec 64) : IntKind.u64.wrap (b.toNat : Int) = ((UInt64.ofBitVec b).toNat : Int) := by
  rw [u64_wrap]
  have := b.isLt
  show _ = (b.toNat : Int)
  omega
theorem ob_addu {t yt : TypeId} {x y : Operand} {m n : UInt64} (hx : ArgOK X pl Fs i x (Is (u64V m))) (hy : ArgOK X pl Fs i y (Is (u64V n))) :
    Ob X pl Fs i ⟨some d, .binOp .add t x y yt, ty, pos, af, g⟩ (Is (u64V (m + n))) := ob_int hx hy fun w => by
  have : IntKind.u64.wrap ((m.toNat : Int) + n.toNat) = ((m + n).toNat : Int) := by rw [u64_wrap, UInt64.toNat_add]; omega
  simp [binOp, Op.intArith, this, u64V]
theorem ob_mulu {t yt : TypeId} {x y : Operand} {m n : UInt64} (hx : ArgOK X pl Fs i x (Is (u64V m))) (hy : ArgOK X pl Fs i y (Is (u64V n))) :
    Ob X pl Fs i ⟨some d, .binOp .mul t x y yt, ty, pos, af, g⟩ (Is (u64V (m * n))) := ob_int hx hy fun w => by
  have : IntKind.u64.wrap ((m.toNat : Int) * n.toNat) = ((m * n).toNat : Int) := by
    rw [u64_wrap, UInt64.toNat_mul, ← Int.natCast_mul]; omega
  simp [binOp, Op.intArith, this, u64V]
theorem ob_xoru {t yt : TypeId} {x y : Operand} {m n : UInt64} (hx : ArgOK X pl Fs i x (Is (u64V m))) (hy : ArgOK X pl Fs i y (Is (u64V n))) :
    Ob X pl Fs i ⟨some d, .binOp .xor t x y yt, ty, pos, af, g⟩ (Is (u64V (m ^^^ n))) := ob_int hx hy fun w => by
  simp only [binOp, Op.intBits, IntKind.bits, ofInt_u64, ne_eq, not_true_eq_false, if_false, u64_back]
  rfl
theorem ob_oru {t yt : TypeId} {x y : Operand} {m n : UInt64} (hx : ArgOK X pl Fs i x (Is (u64V m))) (hy : ArgOK X pl Fs i y (Is (u64V n))) :
    Ob X pl Fs i ⟨some d, .binOp .or t x y yt, ty, pos, af, g⟩ (Is (u64V (m ||| n))) := ob_int hx hy fun w => by
  simp only [binOp, Op.intBits, IntKind.bits, ofInt_u64, ne_eq, not_true_eq_false, if_false, u64_back]
  rfl
theorem ob_shlu {t yt : TypeId} {x y : Operand} {m : UInt64} {k : IntKind} {n : Int} {s : Nat} (hx : ArgOK X pl Fs i x (Is (u64V m))) (hy : ArgOK X pl Fs i y (Is (.int k n))) (hn : n = (s : Int)) (hs : s < 64) :
    Ob X pl Fs i ⟨some d, .binOp .shl t x y yt, ty, pos, af, g⟩ (Is (u64V (m <<< UInt64.ofNat s))) := ob_same fun ρ w hsit => by
  have h1 : ρ x = .int .u64 (m.toNat : Int) := hx ρ w hsit
  have h2 : ρ y = .int k n := hy ρ w hsit
  subst hn
  refine ⟨_, ?_, rfl⟩
  simp only [execOp, h1, h2, Sem.run_bind, eqGuard_int, Result.andThen_ok, binOp, Op.shift]
  have e1 : ¬ ((s : Int) < 0) := by omega
  have e2 : min (s : Int).toNat 64 = s := by simp; omega
  simp only [e1, if_false, IntKind.bits, e2]
  have : IntKind.u64.wrap ((m.toNat : Int) * 2 ^ s) = ((m <<< UInt64.ofNat s).toNat : Int) := by
    rw [u64_wrap]
    simp only [UInt64.toNat_shiftLeft, UInt64.toNat_ofNat']
    rw [show s % 2 ^ 64 % 64 = s by omega, Nat.shiftLeft_eq]
    have : ((m.toNat : Int) * 2 ^ s) = ((m.toNat * 2 ^ s : Nat) : Int) := by simp
    rw [this]
    omega
  simp [this, u64V]
theorem ob_shru {t yt : TypeId} {x y : Operand} {m : UInt64} {k : IntKind} {n : Int} {s : Nat} (hx : ArgOK X pl Fs i x (Is (u64V m))) (hy : ArgOK X pl Fs i y (Is (.int k n))) (hn : n = (s : Int)) (hs : s < 64) :
    Ob X pl Fs i ⟨some d, .binOp .shr t x y yt, ty, pos, af, g⟩ (Is (u64V (m >>> UInt64.ofNat s))) := ob_same fun ρ w hsit => by
  have h1 : ρ x = .int .u64 (m.toNat : Int) := hx ρ w hsit
  have h2 : ρ y = .int k n := hy ρ w hsit
  subst hn
  refine ⟨_, ?_, rfl⟩
  simp only [execOp, h1, h2, Sem.run_bind, eqGuard_int, Result.andThen_ok, binOp, Op.shift]
  have e1 : ¬ ((s : Int) < 0) := by omega
  have e2 : min (s : Int).toNat 64 = s := by simp; omega
  simp only [e1, if_false, IntKind.bits, e2]
  have : (m.toNat : Int).fdiv (2 ^ s) = ((m >>> UInt64.ofNat s).toNat : Int) := by
    simp only [UInt64.toNat_shiftRight, UInt64.toNat_ofNat']
    rw [show s % 2 ^ 64 % 64 = s by omega, Nat.shiftRight_eq_div_pow, Int.fdiv_eq_ediv_of_nonneg _ (Int.le_of_lt (Int.pow_pos (by decide))), Int.natCast_ediv, Int.natCast_pow]
    rfl
  rw [this]; rfl
theorem run_conv {src dst : TypeId} {k k' : IntKind} {n : Int} {dsc : TypeDesc} (h1 : Tryz.prog.underlying src = some dsc) (h2 : Tryz.prog.underlying dst = some (.int k')) (w : World) :
    (convert src dst (.int k n)).run Tryz.prog w = .ok (.int k' (k'.wrap n)) w := by
  unfold convert
  rw [Sem.run_bind, run_underlying h1, Result.andThen_ok, Sem.run_bind, run_underlying h2, Result.andThen_ok]
  cases dsc <;> rfl
theorem ob_conv {src dst : TypeId} {x : Operand} {k k' : IntKind} {n : Int} {dsc : TypeDesc} {v : Value} (hx : ArgOK X pl Fs i x (Is (.int k n))) (h1 : Tryz.prog.underlying src = some dsc) (h2 : Tryz.prog.underlying dst = some (.int k'))
    (hv : Value.int k' (k'.wrap n) = v) : Ob X pl Fs i ⟨some d, .convert src dst x, ty, pos, af, g⟩ (Is v) := by
  refine ob_same ?_
  intro ρ w hs
  have h3 : ρ x = .int k n := hx ρ w hs
  refine ⟨v, ?_, rfl⟩
  have h4 := run_conv (n := n) (k := k) h1 h2 w
  rw [← h3, hv] at h4
  have h5 : (execOp ρ { dst := some d, op := Op.convert src dst x, type := ty, pos := pos, after := af, guard := g }).run Tryz.prog w = ((convert src dst (ρ x)).run Tryz.prog w).andThen fun a w' => .ok (.value a) w' := by
    unfold execOp
    simp only [Sem.run_bind]
    rfl
  rw [h5, h4]; rfl
theorem ob_not {t : TypeId} {x : Operand} {b : Bool} (hx : ArgOK X pl Fs i x (Is (.bool b))) : Ob X pl Fs i ⟨some d, .unOp .not t x, ty, pos, af, g⟩ (Is (.bool (!b))) := ob_same fun ρ w hs => by
  have h1 : ρ x = .bool b := hx ρ w hs
  exact ⟨_, by simp [execOp, h1, Op.unary], rfl⟩
theorem ob_extract0 {x : Operand} {F G : Fct} (hx : ArgOK X pl Fs i x (Two F G)) : Ob X pl Fs i ⟨some d, .extract x 0, ty, pos, af, g⟩ F := ob_same fun ρ w hs => by
  obtain ⟨a, b, h1, h2, _⟩ := hx ρ w hs
  exact ⟨a, by simp [execOp, h1, Instr.extract], h2⟩
theorem ob_extract1 {x : Operand} {F G : Fct} (hx : ArgOK X pl Fs i x (Two F G)) : Ob X pl Fs i ⟨some d, .extract x 1, ty, pos, af, g⟩ G := ob_same fun ρ w hs => by
  obtain ⟨a, b, h1, _, h2⟩ := hx ρ w hs
  exact ⟨b, by simp [execOp, h1, Instr.extract], h2⟩
end
end Ex
end Go.Proofs.YtnmfiiejhoafnaaGreat
