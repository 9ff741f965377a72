/- Function values: handed on, kept in a cell, captured, called. -/
import Derived.Test.YtnmfiiejhoafnaaGreatPvStv
set_option linter.unusedSimpArgs false
set_option linter.unusedVariables false
namespace Go.Proofs.YtnmfiiejhoafnaaGreat
namespace Ex
open Go Calm Go.RowKit
def Fn1 {α : Type} (V : α → Value) (p : α → Bool) : Fct := fun v w => ∃ f caps, v = .func (.func f) #[] caps ∧ callable f = true ∧ ∀ x w', Grow w w' → Calls Tryz.prog f (#[V x] ++ caps) w' (Ret w' (Is (.bool (p x))))
instance {α : Type} {V : α → Value} {p : α → Bool} : StabG (Fn1 V p) := stabG (fun _ _ _ hg ⟨f, caps, e, hc, h⟩ => ⟨f, caps, e, hc, fun x w' h1 => h x w' (hg.trans h1)⟩)
def Fn2 {α : Type} (V : α → Value) (c : α → α → Int) : Fct := fun v _ => ∃ f, v = .func (.func f) #[] #[] ∧ callable f = true ∧ ∀ x y, Con2 f (Is (V x)) (Is (V y)) (fun _ => Is (intV (c x y)))
instance {α : Type} {V : α → Value} {c : α → α → Int} : StabG (Fn2 V c) := stabG (fun _ _ _ _ h => h)
def PtrFn2 {α : Type} (V : α → Value) (c : α → α → Int) : Fct := fun v w => ∃ b o u, v = .pointer (some ⟨b, o, none⟩) ∧ Cells b o [u] w ∧ Holds (Fn2 V c) u w
instance {α : Type} {V : α → Value} {c : α → α → Int} : StabG (PtrFn2 V c) := stabG (fun _ _ _ hg ⟨b, o, u, e, h1, h2⟩ => ⟨b, o, u, e, h1.up hg, h2.up hg⟩)
theorem Fn2.one {α : Type} {V : α → Value} {c : α → α → Int} {v : Value} {w : World} (h : Holds (Fn2 V c) v w) : v.cells = [v].toArray := by
  obtain ⟨f, rfl, _⟩ := h
  rfl
section
variable {X : Reg} {pl : List Tmp × List Nat} {Fs : List Fct} {i : Nat} {d : Tmp} {ty : TypeId} {pos : String} {af : Array Edge} {g : Option (Nat × Bool)} {ats : Array TypeId}
theorem run_callv {d : Option Tmp} {fo : Operand} {f : FuncId} {caps : Array Value} {args : Array Operand} {ρ : Operand → Value} {w : World} (e : ρ fo = .func (.func f) #[] caps) (hf : callable f = true) :
    (execOp ρ ⟨d, .call { callee := .value fo, args, argTypes := ats }, ty, pos, af, g⟩).run Tryz.prog w = .ok (.enter f (args.map ρ ++ caps)) w := by
  unfold execOp
  simp only [resolve, e, Deferred.ofValue, Sem.run_bind, Sem.run_pure, Result.andThen_ok, invoke, Array.empty_append]
  unfold callFunc
  unfold callable at hf
  cases h : Tryz.prog.funcs[f]? with
  | none => simp [h] at hf
  | some fn =>
    simp only [h, Bool.and_eq_true, bne_iff_ne] at hf
    have h2 : fn.body ≠ none := by intro e; rw [e] at hf; simp at hf
    simp [program, Sem.run, h, hf.1, h2]
theorem ob_callv1 {α : Type} {V : α → Value} {p : α → Bool} {fo x : Operand} {a : α} (hf : ArgOK X pl Fs i fo (Fn1 V p)) (hx : ArgOK X pl Fs i x (Is (V a))) :
    Ob X pl Fs i ⟨some d, .call { callee := .value fo, args := #[x], argTypes := ats }, ty, pos, af, g⟩ (Is (.bool (p a))) := by
  constructor
  intro ρ w hs
  obtain ⟨f, caps, e, hc, h⟩ := hf ρ w hs
  have e1 : ρ x = V a := hx ρ w hs
  rw [run_callv e hc, show (#[x] : Array Operand).map ρ = #[V a] by simp [e1]]
  exact (h a w (Grow.refl _)).mono fun e w' ⟨v, he, h1, h2⟩ => ⟨v, he, h1, h2⟩
theorem ob_callv2 {α : Type} {V : α → Value} {c : α → α → Int} {fo x y : Operand} {a b : α} (hf : ArgOK X pl Fs i fo (Fn2 V c)) (hx : ArgOK X pl Fs i x (Is (V a))) (hy : ArgOK X pl Fs i y (Is (V b))) :
    Ob X pl Fs i ⟨some d, .call { callee := .value fo, args := #[x, y], argTypes := ats }, ty, pos, af, g⟩ (Is (intV (c a b))) := by
  constructor
  intro ρ w hs
  obtain ⟨f, e, hc, h⟩ := hf ρ w hs
  have e1 : ρ x = V a := hx ρ w hs
  have e2 : ρ y = V b := hy ρ w hs
  rw [run_callv e hc, show (#[x, y] : Array Operand).map ρ ++ #[] = #[V a, V b] by simp [e1, e2]]
  exact (h a b w.heap.size _ _ w (Nat.le_refl _) rfl rfl).mono fun e w' ⟨v, he, h1, h2⟩ => ⟨v, he, h1, h2⟩
theorem arg_fn1 {α : Type} {V : α → Value} {p : α → Bool} {f : FuncId} (hf : callable f = true) (hc : ∀ x, Con1 f (Is (V x)) (fun _ => Is (.bool (p x)))) : ArgOK X pl Fs i (.func f) (Fn1 V p) := fun ρ w hs =>
  ⟨f, #[], hs.base.func f, hf, fun x w' _ => by
    rw [Array.append_empty]
    exact hc x w'.heap.size _ w' (Nat.le_refl _) rfl⟩
theorem arg_fn2 {α : Type} {V : α → Value} {c : α → α → Int} {f : FuncId} (hf : callable f = true) (hc : ∀ x y, Con2 f (Is (V x)) (Is (V y)) (fun _ => Is (intV (c x y)))) : ArgOK X pl Fs i (.func f) (Fn2 V c) := fun ρ w hs =>
  ⟨f, hs.base.func f, hf, hc⟩
theorem ob_mf1 {α : Type} {V : α → Value} {p : α → Bool} {f : FuncId} {x : Operand} {G : Fct} [hG : StabG G] (hf : callable f = true) (hc : ∀ y, Con2 f (Is (V y)) G (fun _ => Is (.bool (p y)))) (hx : ArgOK X pl Fs i x G) :
    Ob X pl Fs i ⟨some d, .makeFunc (.func f) #[] #[x], ty, pos, af, g⟩ (Fn1 V p) := by
  refine ob_same ?_
  intro ρ w hs
  have h1 := hx ρ w hs
  refine ⟨.func (.func f) #[] #[ρ x], ?_, f, #[ρ x], rfl, hf, fun y w' hg => ?_⟩
  · unfold execOp
    refine exec_v _ _ _ _ _ ?_
    simp [Instr.makeFunc]
  · exact hc y w'.heap.size _ _ w' (Nat.le_refl _) rfl (h1.up hg)
theorem ob_mf2 {α : Type} {V : α → Value} {p : α → Bool} {f : FuncId} {x y : Operand} {G H : Fct} [hG : StabG G] [hH : StabG H] (hf : callable f = true) (hc : ∀ z, Con3 f (Is (V z)) G H (fun _ => Is (.bool (p z)))) (hx : ArgOK X pl Fs i x G) (hy : ArgOK X pl Fs i y H) :
    Ob X pl Fs i ⟨some d, .makeFunc (.func f) #[] #[x, y], ty, pos, af, g⟩ (Fn1 V p) := by
  refine ob_same ?_
  intro ρ w hs
  have h1 := hx ρ w hs
  have h2 := hy ρ w hs
  refine ⟨.func (.func f) #[] #[ρ x, ρ y], ?_, f, #[ρ x, ρ y], rfl, hf, fun z w' hg => ?_⟩
  · unfold execOp
    refine exec_v _ _ _ _ _ ?_
    simp [Instr.makeFunc]
  · exact hc z w'.heap.size _ _ _ w' (Nat.le_refl _) rfl (h1.up hg) (h2.up hg)
theorem ob_box_fn {α : Type} {V : α → Value} {c : α → α → Int} {e : TypeId} {x : Operand} {v : Value} (hx : ArgOK X pl Fs i x (Is v)) (hv : Holds (Fn2 V c) v X.w0) : Ob X pl Fs i ⟨some d, .box e x, ty, pos, af, g⟩ (OwnB X.lo [v]) := ob_box hx (Fn2.one hv)
theorem ArgOK.ptrfn {α : Type} {V : α → Value} {c : α → α → Int} {x : Operand} {v : Value} {k : Nat} (hx : ArgOK X pl Fs i x (OwnP k 0 [v])) (hv : Holds (Fn2 V c) v X.w0) : ArgOK X pl Fs i x (PtrFn2 V c) := fun ρ w hs => by
  obtain ⟨b, o, e, h⟩ := OwnP.ptr (hx ρ w hs)
  exact ⟨b, o, v, e, h, hv.up hs.grow⟩
theorem ob_load_fn2 {α : Type} {V : α → Value} {c : α → α → Int} {t : TypeId} {dsc : TypeDesc} {x : Operand} (hx : ArgOK X pl Fs i x (PtrFn2 V c)) (hu : Tryz.prog.underlying t = some dsc) (hd : aggD dsc = false) :
    Ob X pl Fs i ⟨some d, .load t x, ty, pos, af, g⟩ (Fn2 V c) := by
  refine ob_same ?_
  intro ρ w hs
  obtain ⟨b, o, u, e, h1, h2⟩ := hx ρ w hs
  refine ⟨u, exec_load e (run_load_one hu hd ?_), h2⟩
  exact h1 0 u rfl
end
end Ex
end Go.Proofs.YtnmfiiejhoafnaaGreat
