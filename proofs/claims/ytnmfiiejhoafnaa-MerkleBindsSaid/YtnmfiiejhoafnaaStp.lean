/- Steps of the way to a root, as values. -/
import Derived.Test.YtnmfiiejhoafnaaTwo
namespace Go.Proofs.Ytnmfiiejhoafnaa
namespace Ex
open Go Calm Go.RowKit

def Con7 (f : FuncId) (G1 G2 G3 G4 G5 G6 G7 : Fct) (F : Nat → Fct) : Prop := ∀ lo v1 v2 v3 v4 v5 v6 v7 w, lo ≤ w.heap.size → Holds G1 v1 w → Holds G2 v2 w → Holds G3 v3 w → Holds G4 v4 w → Holds G5 v5 w → Holds G6 v6 w → Holds G7 v7 w → Calls Try.prog f #[v1, v2, v3, v4, v5, v6, v7] w (Ret w (F lo))
def strV (l : List UInt8) : Value := .string ⟨l.toArray⟩
def stepCells (p : List UInt8 × UInt64) : List Value := strV p.1 :: nmCells p.2
def stepV (p : List UInt8 × UInt64) : Value := .agg (stepCells p).toArray
theorem one_step (x : List UInt8 × UInt64) (v : Value) (hv : v ∈ stepCells x) : v.oneCell' = true := by
  simp [stepCells, nmCells, byteV, strV] at hv
  rcases hv with rfl | rfl | rfl | rfl | rfl | rfl | rfl | rfl | rfl <;> rfl
def elStep : El (List UInt8 × UInt64) := { tid := 69, size := 9, bytes := 24, cells := stepCells, agg := true, len := fun _ => rfl, one := one_step, pos := by decide }
theorem elStepP : ElP elStep ((Try.prog.info? 69).getD default) ([], 0) := ⟨by kernel_rfl, by kernel_rfl, by kernel_rfl, by kernel_rfl, rfl, by kernel_rfl, by kernel_rfl⟩
theorem szStep : (Try.prog.info? 69).map (·.size) = some 9 := by kernel_rfl
theorem szStr : (Try.prog.info? 9).map (·.size) = some 1 := by kernel_rfl
section
variable {X : Reg} {pl : List Tmp × List Nat} {Fs : List Fct} {i : Nat} {d : Tmp} {ty : TypeId} {pos : String} {af : Array Edge} {g : Option (Nat × Bool)}
theorem run_build_step (s : ByteArray) (n : UInt64) (w : World) : (Instr.build 69 #[(0, .string s), (1, nmV n)]).run Try.prog w = .ok (.agg (.string s :: nmCells n).toArray) w := by kernel_rfl
theorem ob_build_step {x y : Operand} {s : List UInt8} {n : UInt64} (hx : ArgOK X pl Fs i x (Is (.string ⟨s.toArray⟩))) (hy : ArgOK X pl Fs i y (Is (nmV n))) :
    Ob X pl Fs i ⟨some d, .build 69 #[(0, x), (1, y)], ty, pos, af, g⟩ (Is (stepV (s, n))) := by
  refine ob_same ?_
  intro ρ w hs
  have e0 : ρ x = .string ⟨s.toArray⟩ := hx ρ w hs
  have e1 : ρ y = nmV n := hy ρ w hs
  refine ⟨stepV (s, n), ?_, rfl⟩
  unfold execOp
  refine exec_v _ _ _ _ _ ?_
  simp only [List.map_toArray, List.map_cons, List.map_nil, e0, e1]
  exact run_build_step _ n w
theorem run_bs_step1 (s : ByteArray) (n : UInt64) (w : World) : (Instr.buildSlice 66 1 #[(0, .agg (.string s :: nmCells n).toArray)]).run Try.prog w = .ok (.slice (some ⟨w.heap.size, 0, none⟩) 1 1) (w.alloc (.cells (.string s :: nmCells n).toArray 69)) := by kernel_rfl
theorem ob_bs1_step {x : Operand} {p : List UInt8 × UInt64} (hx : ArgOK X pl Fs i x (Is (stepV p))) : Ob X pl Fs i ⟨some d, .buildSlice 66 1 #[(0, x)], ty, pos, af, g⟩ (OwnF X.lo elStep [p]) := by
  refine ob_litF (T := elStep) [p] (by show 1 ≤ maxLen; decide) ?_
  intro ρ w hs
  have e0 : ρ x = stepV p := hx ρ w hs
  unfold execOp
  refine exec_v _ _ _ _ _ ?_
  simp only [List.map_toArray, List.map_cons, List.map_nil, e0]
  have := run_bs_step1 ⟨p.1.toArray⟩ p.2 w
  unfold stepV stepCells strV
  rw [this]
  simp [elStep, stepCells, strV]
theorem ob_fa_step0 {x : Operand} {p : List UInt8 × UInt64} (hx : ArgOK X pl Fs i x (PtrC (stepCells p))) : Ob X pl Fs i ⟨some d, .fieldAddr 69 x 0, ty, pos, af, g⟩ (PtrC [.string ⟨p.1.toArray⟩]) :=
  ob_fa (n := 0) hx Try.underlying69 rfl szStr rfl
theorem ob_fa_step1 {x : Operand} {p : List UInt8 × UInt64} (hx : ArgOK X pl Fs i x (PtrC (stepCells p))) : Ob X pl Fs i ⟨some d, .fieldAddr 69 x 1, ty, pos, af, g⟩ (PtrC (nmCells p.2)) :=
  ob_fa (n := 7) hx Try.underlying69 rfl szNm rfl
end
end Ex
end Go.Proofs.Ytnmfiiejhoafnaa
