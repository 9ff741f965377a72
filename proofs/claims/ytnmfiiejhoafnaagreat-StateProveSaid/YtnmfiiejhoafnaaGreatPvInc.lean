/- Inclusions and geneses as values. -/
import Derived.Test.YtnmfiiejhoafnaaGreatPvRow2
set_option linter.unusedSimpArgs false
set_option linter.unusedVariables false
namespace Go.Proofs.YtnmfiiejhoafnaaGreat
namespace Ex
open Go Calm Go.RowKit
structure GInc where
  index : Int
  count : Int
  path : List UInt64
  deriving DecidableEq
def incVals (i n : Int) (v : Value) : List Value := [intV i, intV n, v]
abbrev incV (i n : Int) (v : Value) : Value := .agg (incVals i n v).toArray
def IncF (x : GInc) : Fct := fun v w => ∃ u, v = incV x.index x.count u ∧ Holds (Sl elNm x.path) u w
def IncO (lo : Nat) (x : GInc) : Fct := fun v w => ∃ u, v = incV x.index x.count u ∧ Holds (OwnS lo elNm x.path) u w
instance {x : GInc} : StabG (IncF x) := stabG (fun _ _ _ hg ⟨u, e, h⟩ => ⟨u, e, h.up hg⟩)
instance {lo : Nat} {x : GInc} : StabG (IncO lo x) := stabG (fun _ _ _ hg ⟨u, e, h⟩ => ⟨u, e, h.up hg⟩)
theorem openIF {x : GInc} {v : Value} {w : World} (h : Holds (IncF x) v w) : ∃ u, Holds (Is (incV x.index x.count u)) v w ∧ Holds (Sl elNm x.path) u w := h
theorem openIO {lo : Nat} {x : GInc} {v : Value} {w : World} (h : Holds (IncO lo x) v w) : ∃ u, Holds (Is (incV x.index x.count u)) v w ∧ Holds (OwnS lo elNm x.path) u w := h
theorem mkIF {i n : Int} {l : List UInt64} {u : Value} {w : World} (h : Holds (Sl elNm l) u w) : Holds (IncF ⟨i, n, l⟩) (incV i n u) w := ⟨u, rfl, h⟩
theorem mkIO {lo : Nat} {i n : Int} {l : List UInt64} {u : Value} {w : World} (h : Holds (OwnS lo elNm l) u w) : Holds (IncO lo ⟨i, n, l⟩) (incV i n u) w := ⟨u, rfl, h⟩
theorem inc_cast {lo : Nat} {x y : GInc} {v : Value} {w : World} (h : Holds (IncO lo x) v w) (e : x = y) : Holds (IncO lo y) v w := by subst e; exact h
theorem sto_cast {lo : Nat} {x y : GState} {v : Value} {w : World} (h : Holds (StO lo x) v w) (e : x = y) : Holds (StO lo y) v w := by subst e; exact h
theorem IncO.f {lo : Nat} {x : GInc} {v : Value} {w : World} (h : Holds (IncO lo x) v w) : Holds (IncF x) v w := by
  obtain ⟨u, e, h⟩ := h
  exact ⟨u, e, OwnS.sl h⟩
structure GGen where
  n : Int
  stake : Int
  vals : List UInt64
  accs : List UInt64
  bals : List Int
def genVals (n s : Int) (v1 v2 v3 : Value) : List Value := [intV n, intV s, v1, v2, v3]
abbrev genV (n s : Int) (v1 v2 v3 : Value) : Value := .agg (genVals n s v1 v2 v3).toArray
def GenF (x : GGen) : Fct := fun v w => ∃ v1 v2 v3, v = genV x.n x.stake v1 v2 v3 ∧ Holds (Sl elNm x.vals) v1 w ∧ Holds (Sl elNm x.accs) v2 w ∧ Holds (Sl elInt x.bals) v3 w
instance {x : GGen} : StabG (GenF x) := stabG (fun _ _ _ hg ⟨v1, v2, v3, e, h1, h2, h3⟩ => ⟨v1, v2, v3, e, h1.up hg, h2.up hg, h3.up hg⟩)
theorem openGF {x : GGen} {v : Value} {w : World} (h : Holds (GenF x) v w) : ∃ v1 v2 v3, Holds (Is (genV x.n x.stake v1 v2 v3)) v w ∧ Holds (Sl elNm x.vals) v1 w ∧ Holds (Sl elNm x.accs) v2 w ∧ Holds (Sl elInt x.bals) v3 w := h
theorem mkGFs {x : GGen} {v1 v2 v3 : Value} {w : World} (h1 : Holds (Sl elNm x.vals) v1 w) (h2 : Holds (Sl elNm x.accs) v2 w) (h3 : Holds (Sl elInt x.bals) v3 w) : Holds (GenF x) (genV x.n x.stake v1 v2 v3) w := ⟨v1, v2, v3, rfl, h1, h2, h3⟩
theorem szInc : (Tryz.prog.info? 44).map (·.size) = some 3 := by kernel_rfl
theorem szGen : (Tryz.prog.info? 60).map (·.size) = some 5 := by kernel_rfl
section
variable {X : Reg} {pl : List Tmp × List Nat} {Fs : List Fct} {i : Nat} {d : Tmp} {ty : TypeId} {pos : String} {af : Array Edge} {g : Option (Nat × Bool)}
theorem ob_box_inc {e : TypeId} {x : Operand} {a b : Int} {u : Value} (hx : ArgOK X pl Fs i x (Is (incV a b u))) : Ob X pl Fs i ⟨some d, .box e x, ty, pos, af, g⟩ (OwnB X.lo (incVals a b u)) := ob_box hx rfl
theorem ob_load_inc {x : Operand} {a b : Int} {u : Value} (hx : ArgOK X pl Fs i x (PtrC (incVals a b u))) : Ob X pl Fs i ⟨some d, .load 44 x, ty, pos, af, g⟩ (Is (incV a b u)) := by
  refine ob_load hx Tryz.underlying44 rfl ?_ rfl
  exact szInc
theorem ob_alloc_inc : Ob X pl Fs i ⟨some d, .alloc 44, ty, pos, af, g⟩ (OwnB X.lo (incVals 0 0 nilV)) := by
  refine ob_alloc (z := incV 0 0 nilV) ?_ ?_
  · kernel_rfl
  · rfl
theorem ob_box_gen {e : TypeId} {x : Operand} {a b : Int} {u1 u2 u3 : Value} (hx : ArgOK X pl Fs i x (Is (genV a b u1 u2 u3))) : Ob X pl Fs i ⟨some d, .box e x, ty, pos, af, g⟩ (OwnB X.lo (genVals a b u1 u2 u3)) := ob_box hx rfl
theorem ob_load_gen {x : Operand} {a b : Int} {u1 u2 u3 : Value} (hx : ArgOK X pl Fs i x (PtrC (genVals a b u1 u2 u3))) : Ob X pl Fs i ⟨some d, .load 60 x, ty, pos, af, g⟩ (Is (genV a b u1 u2 u3)) := by
  refine ob_load hx Tryz.underlying60 rfl ?_ rfl
  exact szGen
theorem ob_alloc_gen : Ob X pl Fs i ⟨some d, .alloc 60, ty, pos, af, g⟩ (OwnB X.lo (genVals 0 0 nilV nilV nilV)) := by
  refine ob_alloc (z := genV 0 0 nilV nilV nilV) ?_ ?_
  · kernel_rfl
  · rfl
theorem run_build_inc (a b : Int) (p : Option Addr) (n c : Nat) (w : World) : (Instr.build 44 #[(0, intV a), (1, intV b), (2, .slice p n c)]).run Tryz.prog w = .ok (.agg #[intV a, intV b, .slice p n c]) w := by kernel_rfl
theorem run_build_inc0 (w : World) : (Instr.build 44 #[]).run Tryz.prog w = .ok (incV 0 0 nilV) w := by kernel_rfl
theorem ob_build_inc {x y z : Operand} {a b : Int} {lo : Nat} {l : List UInt64} (hx : ArgOK X pl Fs i x (Is (intV a))) (hy : ArgOK X pl Fs i y (Is (intV b))) (hz : ArgOK X pl Fs i z (OwnS lo elNm l)) :
    Ob X pl Fs i ⟨some d, .build 44 #[(0, x), (1, y), (2, z)], ty, pos, af, g⟩ (IncO lo ⟨a, b, l⟩) := by
  refine ob_same ?_
  intro ρ w hs
  have e1 : ρ x = intV a := hx ρ w hs
  have e2 : ρ y = intV b := hy ρ w hs
  have e3 := hz ρ w hs
  refine ⟨incV a b (ρ z), ?_, mkIO e3⟩
  obtain ⟨p, n, c, q⟩ := OwnS.isSl e3
  unfold execOp
  refine exec_v _ _ _ _ _ ?_
  simp only [List.map_toArray, List.map_cons, List.map_nil, e1, e2, q]
  exact run_build_inc _ _ _ _ _ w
theorem ob_build_inc0 {lo : Nat} : Ob X pl Fs i ⟨some d, .build 44 #[], ty, pos, af, g⟩ (IncO lo ⟨0, 0, []⟩) := by
  refine ob_same ?_
  intro ρ w hs
  refine ⟨incV 0 0 nilV, ?_, mkIO own_nil⟩
  unfold execOp
  refine exec_v _ _ _ _ _ ?_
  simp only [List.map_toArray, List.map_nil]
  exact run_build_inc0 w
end
theorem inc_one {α : Type} {T : El α} {a b : Int} {l : List α} {u : Value} {w : World} (h : Holds (Sl T l) u w) : ∀ v ∈ incVals a b u, v.oneCell' = true := by
  intro v hv
  obtain ⟨p, n, c, rfl⟩ := Sl.isSl h
  simp [incVals] at hv
  rcases hv with rfl | rfl | rfl <;> rfl
theorem wl_store_inc {ops : Array Oper} {rest : List Oper} {Q : Exit → Act → World → Prop} {a : Act} {w : World} {p : Tmp} {x : Operand} {ty : TypeId} {pos : String} {af : Array Edge} {g : Nat} {cs : List Value} {m n : Int} {u : Value}
    (hp : Holds (Is (PtrV g)) (a.eval (.tmp p)) w) (hg : Blk g cs w) (hl : cs.length = 3) (hx : Holds (Is (incV m n u)) (a.eval x) w) (h1 : ∀ v ∈ incVals m n u, v.oneCell' = true) (h : ∀ w', Only g w w' → Blk g (incVals m n u) w' → wpList Tryz.prog ops Q rest a w') :
    wpList Tryz.prog ops Q (⟨none, .store 44 (.tmp p) x, ty, pos, af, none⟩ :: rest) a w := by
  refine wl_store' (ds := incVals m n u) hp hg hx rfl hl.symm ?_ h1 h
  rw [hl]; exact szInc
end Ex
end Go.Proofs.YtnmfiiejhoafnaaGreat
