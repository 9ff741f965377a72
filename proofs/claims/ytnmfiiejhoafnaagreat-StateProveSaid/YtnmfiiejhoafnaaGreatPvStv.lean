/- Cells, entries and locks: made, boxed, stored, listed. -/
import Derived.Test.YtnmfiiejhoafnaaGreatPvStt
set_option linter.unusedSimpArgs false
set_option linter.unusedVariables false
namespace Go.Proofs.YtnmfiiejhoafnaaGreat
namespace Ex
open Go Calm Go.RowKit
instance : Inhabited GCell := ⟨⟨0, 0, 0⟩⟩
instance : Inhabited GDelta := ⟨⟨⟨0, 0, 0⟩, 0⟩⟩
instance : Inhabited GLock := ⟨⟨0, 0, 0, 0, 0⟩⟩
def StB (g lo : Nat) (s : GState) (w : World) : Prop := ∃ v1 v2 v3 v4, Blk g (stVals v1 v2 v3 v4 s.guilty) w ∧ Holds (OwnS lo elDelta s.cells) v1 w ∧ Holds (OwnS lo elInt s.seqs) v2 w ∧ Holds (OwnS lo elLock s.locks) v3 w ∧ Holds (OwnS lo elNm s.applied) v4 w
theorem openB {g lo : Nat} {s : GState} {w : World} (h : StB g lo s w) : ∃ v1 v2 v3 v4, Blk g (stVals v1 v2 v3 v4 s.guilty) w ∧ Holds (OwnS lo elDelta s.cells) v1 w ∧ Holds (OwnS lo elInt s.seqs) v2 w ∧ Holds (OwnS lo elLock s.locks) v3 w ∧ Holds (OwnS lo elNm s.applied) v4 w := h
theorem mkB {g lo : Nat} {l1 : List GDelta} {l2 : List Int} {l3 : List GLock} {l4 : List UInt64} {gu : Int64} {v1 v2 v3 v4 : Value} {w : World} (hb : Blk g (stVals v1 v2 v3 v4 gu) w) (h1 : Holds (OwnS lo elDelta l1) v1 w) (h2 : Holds (OwnS lo elInt l2) v2 w) (h3 : Holds (OwnS lo elLock l3) v3 w) (h4 : Holds (OwnS lo elNm l4) v4 w) :
    StB g lo ⟨l1, l2, l3, l4, gu⟩ w := ⟨v1, v2, v3, v4, hb, h1, h2, h3, h4⟩
theorem stb_cast {g lo : Nat} {s t : GState} {w : World} (h : StB g lo s w) (e : s = t) : StB g lo t w := by subst e; exact h
def Siz (w w' : World) : Prop := w.heap.size ≤ w'.heap.size
theorem Siz.size {a b : World} (h : Siz a b) : a.heap.size ≤ b.heap.size := h
theorem Siz.trans {a b c : World} (h : Siz a b) (hg : Grow b c) : Siz a c := Nat.le_trans h hg.size
theorem Siz.below {lo : Nat} {a b c : World} (h : a.heap.size ≤ b.heap.size) (hb : Below lo b c) : Siz a c := Nat.le_trans h hb.size
theorem mkFs {s : GState} {v1 v2 v3 v4 : Value} {w : World} (h1 : Holds (Sl elDelta s.cells) v1 w) (h2 : Holds (Sl elInt s.seqs) v2 w) (h3 : Holds (Sl elLock s.locks) v3 w) (h4 : Holds (Sl elNm s.applied) v4 w) :
    Holds (StF s) (stV v1 v2 v3 v4 s.guilty) w := ⟨v1, v2, v3, v4, rfl, h1, h2, h3, h4⟩
theorem Sl.isSl {α : Type} {T : El α} {l : List α} {v : Value} {w : World} (h : Holds (Sl T l) v w) : ∃ a n c, v = .slice a n c := by
  obtain ⟨a, c, hv, _⟩ := h
  exact ⟨_, _, _, hv⟩
theorem st_oneS {α β γ δ : Type} {T1 : El α} {T2 : El β} {T3 : El γ} {T4 : El δ} {l1 : List α} {l2 : List β} {l3 : List γ} {l4 : List δ} {v1 v2 v3 v4 : Value} {gu : Int64} {w1 w2 w3 w4 : World} (h1 : Holds (Sl T1 l1) v1 w1) (h2 : Holds (Sl T2 l2) v2 w2) (h3 : Holds (Sl T3 l3) v3 w3) (h4 : Holds (Sl T4 l4) v4 w4) :
    ∀ u ∈ stVals v1 v2 v3 v4 gu, u.oneCell' = true := by
  intro u hu
  obtain ⟨a1, n1, c1, rfl⟩ := Sl.isSl h1
  obtain ⟨a2, n2, c2, rfl⟩ := Sl.isSl h2
  obtain ⟨a3, n3, c3, rfl⟩ := Sl.isSl h3
  obtain ⟨a4, n4, c4, rfl⟩ := Sl.isSl h4
  simp [stVals] at hu
  rcases hu with rfl | rfl | rfl | rfl | rfl <;> rfl
section
variable {X : Reg} {pl : List Tmp × List Nat} {Fs : List Fct} {i : Nat} {d : Tmp} {ty : TypeId} {pos : String} {af : Array Edge} {g : Option (Nat × Bool)}
theorem run_bs_int3 (a b c : Int) (w : World) : (Instr.buildSlice 23 3 #[(0, intV a), (1, intV b), (2, intV c)]).run Tryz.prog w = .ok (.slice (some ⟨w.heap.size, 0, none⟩) 3 3) (w.alloc (.cells #[intV a, intV b, intV c] 3)) := by kernel_rfl
theorem ob_bs3_int {x y z : Operand} {a b c : Int} (hx : ArgOK X pl Fs i x (Is (intV a))) (hy : ArgOK X pl Fs i y (Is (intV b))) (hz : ArgOK X pl Fs i z (Is (intV c))) :
    Ob X pl Fs i ⟨some d, .buildSlice 23 3 #[(0, x), (1, y), (2, z)], ty, pos, af, g⟩ (OwnF X.lo elInt [a, b, c]) := by
  refine ob_litF (T := elInt) [a, b, c] (by show 3 ≤ maxLen; decide) ?_
  intro ρ w hs
  have e0 : ρ x = intV a := hx ρ w hs
  have e1 : ρ y = intV b := hy ρ w hs
  have e2 : ρ z = intV c := hz ρ w hs
  unfold execOp
  refine exec_v _ _ _ _ _ ?_
  simp only [List.map_toArray, List.map_cons, List.map_nil, e0, e1, e2]
  rw [run_bs_int3]
  rfl
theorem ob_alloc_cell : Ob X pl Fs i ⟨some d, .alloc 42, ty, pos, af, g⟩ (OwnB X.lo (cellCells ⟨0, 0, 0⟩)) := by
  refine ob_alloc (z := cellV ⟨0, 0, 0⟩) ?_ ?_
  · kernel_rfl
  · rfl
theorem ob_alloc_delta : Ob X pl Fs i ⟨some d, .alloc 54, ty, pos, af, g⟩ (OwnB X.lo (deltaCells ⟨⟨0, 0, 0⟩, 0⟩)) := by
  refine ob_alloc (z := deltaV ⟨⟨0, 0, 0⟩, 0⟩) ?_ ?_
  · kernel_rfl
  · rfl
theorem ob_alloc_lock : Ob X pl Fs i ⟨some d, .alloc 32, ty, pos, af, g⟩ (OwnB X.lo (lockCells ⟨0, 0, 0, 0, 0⟩)) := by
  refine ob_alloc (z := lockV ⟨0, 0, 0, 0, 0⟩) ?_ ?_
  · kernel_rfl
  · rfl
theorem run_build_cell2 (a b : Int) (w : World) : (Instr.build 42 #[(0, intV a), (1, intV b)]).run Tryz.prog w = .ok (.agg (intV a :: intV b :: nmCells 0).toArray) w := by kernel_rfl
theorem ob_build_cell2 {x y : Operand} (k n : Int64) {a b : Int} (hx : ArgOK X pl Fs i x (Is (intV a))) (hy : ArgOK X pl Fs i y (Is (intV b))) (ha : a = k.toInt) (hb : b = n.toInt) :
    Ob X pl Fs i ⟨some d, .build 42 #[(0, x), (1, y)], ty, pos, af, g⟩ (Is (cellV ⟨k, n, 0⟩)) := by
  subst ha hb
  refine ob_same ?_
  intro ρ w hs
  have e0 : ρ x = intV k.toInt := hx ρ w hs
  have e1 : ρ y = intV n.toInt := hy ρ w hs
  refine ⟨cellV ⟨k, n, 0⟩, ?_, rfl⟩
  unfold execOp
  refine exec_v _ _ _ _ _ ?_
  simp only [List.map_toArray, List.map_cons, List.map_nil, e0, e1]
  exact run_build_cell2 _ _ w
end
theorem wl_store_cell {ops : Array Oper} {rest : List Oper} {Q : Exit → Act → World → Prop} {a : Act} {w : World} {p : Tmp} {x : Operand} {ty : TypeId} {pos : String} {af : Array Edge} {g : Nat} {cs : List Value} {n : GCell}
    (hp : Holds (Is (PtrV g)) (a.eval (.tmp p)) w) (hg : Blk g cs w) (hl : cs.length = 10) (hx : Holds (Is (cellV n)) (a.eval x) w) (h : ∀ w', Only g w w' → Blk g (cellCells n) w' → wpList Tryz.prog ops Q rest a w') :
    wpList Tryz.prog ops Q (⟨none, .store 42 (.tmp p) x, ty, pos, af, none⟩ :: rest) a w := by
  refine wl_store' (ds := cellCells n) hp hg hx rfl hl.symm ?_ ?_ h
  · rw [hl]; exact szCell
  · intro u hu; exact one_delta ⟨n, 0⟩ u (List.mem_append_left _ hu)
theorem wl_store_delta {ops : Array Oper} {rest : List Oper} {Q : Exit → Act → World → Prop} {a : Act} {w : World} {p : Tmp} {x : Operand} {ty : TypeId} {pos : String} {af : Array Edge} {g : Nat} {cs : List Value} {n : GDelta}
    (hp : Holds (Is (PtrV g)) (a.eval (.tmp p)) w) (hg : Blk g cs w) (hl : cs.length = 11) (hx : Holds (Is (deltaV n)) (a.eval x) w) (h : ∀ w', Only g w w' → Blk g (deltaCells n) w' → wpList Tryz.prog ops Q rest a w') :
    wpList Tryz.prog ops Q (⟨none, .store 54 (.tmp p) x, ty, pos, af, none⟩ :: rest) a w := by
  refine wl_store' (ds := deltaCells n) hp hg hx rfl hl.symm ?_ (one_delta n) h
  rw [hl]; exact szDelta
theorem wl_store_lock {ops : Array Oper} {rest : List Oper} {Q : Exit → Act → World → Prop} {a : Act} {w : World} {p : Tmp} {x : Operand} {ty : TypeId} {pos : String} {af : Array Edge} {g : Nat} {cs : List Value} {n : GLock}
    (hp : Holds (Is (PtrV g)) (a.eval (.tmp p)) w) (hg : Blk g cs w) (hl : cs.length = 19) (hx : Holds (Is (lockV n)) (a.eval x) w) (h : ∀ w', Only g w w' → Blk g (lockCells n) w' → wpList Tryz.prog ops Q rest a w') :
    wpList Tryz.prog ops Q (⟨none, .store 32 (.tmp p) x, ty, pos, af, none⟩ :: rest) a w := by
  refine wl_store' (ds := lockCells n) hp hg hx rfl hl.symm ?_ (one_lock n) h
  rw [hl]; exact szLock
end Ex
end Go.Proofs.YtnmfiiejhoafnaaGreat
