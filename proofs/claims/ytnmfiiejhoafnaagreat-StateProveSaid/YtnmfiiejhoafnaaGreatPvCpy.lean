/- Lists made anew: nothing, one element; nil told. -/
import Derived.Test.YtnmfiiejhoafnaaGreatPvInc
import Derived.Lib.SliceRun
set_option linter.unusedSimpArgs false
set_option linter.unusedVariables false
namespace Go.Proofs.YtnmfiiejhoafnaaGreat
namespace Ex
open Go Calm Go.RowKit
def isNil : Value → Bool
  | .slice none _ _ => true
  | _ => false
theorem nil_of {α : Type} {T : El α} {l : List α} {v : Value} {w : World} (h : Holds (Sl T l) v w) (hn : isNil v = true) : l = [] := by
  obtain ⟨a, c, rfl, _, h2, _⟩ := h
  cases a with
  | none => exact (h2 rfl).1
  | some p => simp [isNil] at hn
section
variable {X : Reg} {pl : List Tmp × List Nat} {Fs : List Fct} {i : Nat} {d : Tmp} {ty : TypeId} {pos : String} {af : Array Edge} {g : Option (Nat × Bool)}
theorem ob_eqnil {α : Type} {T : El α} {t e yt : TypeId} {x : Operand} {l : List α} {v : Value} {w1 : World} (hx : ArgOK X pl Fs i x (Is v)) (hv : Holds (Sl T l) v w1) (hu : Tryz.prog.underlying t = some (.slice e)) :
    Ob X pl Fs i ⟨some d, .binOp .eql t x (.const (.slice none 0 0)) yt, ty, pos, af, g⟩ (Is (.bool (isNil v))) := by
  refine ob_same ?_
  intro ρ w hs
  have e1 : ρ x = v := hx ρ w hs
  have e2 : ρ (.const (.slice none 0 0)) = .slice none 0 0 := hs.base.const _
  obtain ⟨a, c, rfl, _⟩ := hv
  refine ⟨_, ?_, rfl⟩
  unfold execOp
  refine exec_v _ _ _ _ _ ?_
  rw [e1, e2]
  have h1 := Lib.run_eql_slice_nil (P := Tryz.prog) w t e (a.map fun p => ⟨p.1, p.2, none⟩) l.length c 0 0 hu
  have hg : (eqGuard .eql t x (.const (.slice none 0 0)) (.slice (a.map fun p => ⟨p.1, p.2, none⟩) l.length c) (.slice none 0 0)).run Tryz.prog w = .ok () w := rfl
  rw [Sem.run_bind, hg, Result.andThen_ok, h1]
  cases a <;> rfl
theorem run_bs0_delta (w : World) : (Instr.buildSlice 22 0 #[]).run Tryz.prog w = .ok (.slice (some ⟨w.heap.size, 0, none⟩) 0 0) (w.alloc (.cells #[] 54)) := by kernel_rfl
theorem run_bs0_lock (w : World) : (Instr.buildSlice 24 0 #[]).run Tryz.prog w = .ok (.slice (some ⟨w.heap.size, 0, none⟩) 0 0) (w.alloc (.cells #[] 32)) := by kernel_rfl
theorem run_bs0_int (w : World) : (Instr.buildSlice 23 0 #[]).run Tryz.prog w = .ok (.slice (some ⟨w.heap.size, 0, none⟩) 0 0) (w.alloc (.cells #[] 3)) := by kernel_rfl
theorem run_bs1_int (n : Int) (w : World) : (Instr.buildSlice 23 1 #[(0, intV n)]).run Tryz.prog w = .ok (.slice (some ⟨w.heap.size, 0, none⟩) 1 1) (w.alloc (.cells #[intV n] 3)) := by kernel_rfl
theorem run_bs1_delta (k n m : Int) (x : UInt64) (w : World) : (Instr.buildSlice 22 1 #[(0, .agg (intV k :: intV n :: (nmCells x ++ [intV m])).toArray)]).run Tryz.prog w = .ok (.slice (some ⟨w.heap.size, 0, none⟩) 1 1) (w.alloc (.cells (intV k :: intV n :: (nmCells x ++ [intV m])).toArray 54)) := by kernel_rfl
theorem ob_bs0_delta : Ob X pl Fs i ⟨some d, .buildSlice 22 0 #[], ty, pos, af, g⟩ (OwnF X.lo elDelta []) := by
  refine ob_litF (T := elDelta) [] (by decide) ?_
  intro ρ w hs
  unfold execOp
  refine exec_v _ _ _ _ _ ?_
  simp only [List.map_toArray, List.map_nil]
  rw [run_bs0_delta]
  rfl
theorem ob_bs0_lock : Ob X pl Fs i ⟨some d, .buildSlice 24 0 #[], ty, pos, af, g⟩ (OwnF X.lo elLock []) := by
  refine ob_litF (T := elLock) [] (by decide) ?_
  intro ρ w hs
  unfold execOp
  refine exec_v _ _ _ _ _ ?_
  simp only [List.map_toArray, List.map_nil]
  rw [run_bs0_lock]
  rfl
theorem ob_bs0_int : Ob X pl Fs i ⟨some d, .buildSlice 23 0 #[], ty, pos, af, g⟩ (OwnF X.lo elInt []) := by
  refine ob_litF (T := elInt) [] (by decide) ?_
  intro ρ w hs
  unfold execOp
  refine exec_v _ _ _ _ _ ?_
  simp only [List.map_toArray, List.map_nil]
  rw [run_bs0_int]
  rfl
theorem ob_bs1_int {x : Operand} {a : Int} (hx : ArgOK X pl Fs i x (Is (intV a))) : Ob X pl Fs i ⟨some d, .buildSlice 23 1 #[(0, x)], ty, pos, af, g⟩ (OwnF X.lo elInt [a]) := by
  refine ob_litF (T := elInt) [a] (by show 1 ≤ maxLen; decide) ?_
  intro ρ w hs
  have e0 : ρ x = intV a := hx ρ w hs
  unfold execOp
  refine exec_v _ _ _ _ _ ?_
  simp only [List.map_toArray, List.map_cons, List.map_nil, e0]
  rw [run_bs1_int]
  rfl
theorem ob_bs1_delta {x : Operand} {a : GDelta} (hx : ArgOK X pl Fs i x (Is (deltaV a))) : Ob X pl Fs i ⟨some d, .buildSlice 22 1 #[(0, x)], ty, pos, af, g⟩ (OwnF X.lo elDelta [a]) := by
  refine ob_litF (T := elDelta) [a] (by show 1 ≤ maxLen; decide) ?_
  intro ρ w hs
  have e0 : ρ x = deltaV a := hx ρ w hs
  unfold execOp
  refine exec_v _ _ _ _ _ ?_
  simp only [List.map_toArray, List.map_cons, List.map_nil, e0]
  exact run_bs1_delta _ _ _ _ w
theorem run_build_state1 (a2 : Option Addr) (n2 c2 : Nat) (w : World) : (Instr.build 28 #[(1, .slice a2 n2 c2)]).run Tryz.prog w = .ok (stV nilV (.slice a2 n2 c2) nilV nilV 0) w := by kernel_rfl
theorem ob_build_state1 {x : Operand} {lo : Nat} {l : List Int} (hx : ArgOK X pl Fs i x (OwnS lo elInt l)) : Ob X pl Fs i ⟨some d, .build 28 #[(1, x)], ty, pos, af, g⟩ (StO lo ⟨[], l, [], [], 0⟩) := by
  refine ob_same ?_
  intro ρ w hs
  have e3 := hx ρ w hs
  refine ⟨stV nilV (ρ x) nilV nilV 0, ?_, mkO own_nil e3 own_nil own_nil⟩
  obtain ⟨p, n, c, q⟩ := OwnS.isSl e3
  unfold execOp
  refine exec_v _ _ _ _ _ ?_
  simp only [List.map_toArray, List.map_cons, List.map_nil, q]
  exact run_build_state1 _ _ _ w
end
end Ex
end Go.Proofs.YtnmfiiejhoafnaaGreat
