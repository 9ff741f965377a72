/- States, entries, locks: what they look like, how they are taken apart, put together and compared. -/
import Derived.Test.YtnmfiiejhoafnaaGreatPvApp
set_option linter.unusedSimpArgs false
set_option linter.unusedVariables false
namespace Go.Proofs.YtnmfiiejhoafnaaGreat
namespace Ex
open Go Calm Go.RowKit
structure GState where
  cells : List GDelta
  seqs : List Int
  locks : List GLock
  applied : List UInt64
  guilty : Int64
  deriving DecidableEq
def stVals (v1 v2 v3 v4 : Value) (g : Int64) : List Value := [v1, v2, v3, v4, intV g.toInt]
abbrev stV (v1 v2 v3 v4 : Value) (g : Int64) : Value := .agg (stVals v1 v2 v3 v4 g).toArray
def StF (s : GState) : Fct := fun v w => ∃ v1 v2 v3 v4, v = stV v1 v2 v3 v4 s.guilty ∧ Holds (Sl elDelta s.cells) v1 w ∧ Holds (Sl elInt s.seqs) v2 w ∧ Holds (Sl elLock s.locks) v3 w ∧ Holds (Sl elNm s.applied) v4 w
def StO (lo : Nat) (s : GState) : Fct := fun v w => ∃ v1 v2 v3 v4, v = stV v1 v2 v3 v4 s.guilty ∧ Holds (OwnS lo elDelta s.cells) v1 w ∧ Holds (OwnS lo elInt s.seqs) v2 w ∧ Holds (OwnS lo elLock s.locks) v3 w ∧ Holds (OwnS lo elNm s.applied) v4 w
instance {s : GState} : StabG (StF s) := stabG (fun _ _ _ hg ⟨v1, v2, v3, v4, e, h1, h2, h3, h4⟩ => ⟨v1, v2, v3, v4, e, h1.up hg, h2.up hg, h3.up hg, h4.up hg⟩)
instance {lo : Nat} {s : GState} : StabG (StO lo s) := stabG (fun _ _ _ hg ⟨v1, v2, v3, v4, e, h1, h2, h3, h4⟩ => ⟨v1, v2, v3, v4, e, h1.up hg, h2.up hg, h3.up hg, h4.up hg⟩)
theorem openF {s : GState} {v : Value} {w : World} (h : Holds (StF s) v w) : ∃ v1 v2 v3 v4, Holds (Is (stV v1 v2 v3 v4 s.guilty)) v w ∧ Holds (Sl elDelta s.cells) v1 w ∧ Holds (Sl elInt s.seqs) v2 w ∧ Holds (Sl elLock s.locks) v3 w ∧ Holds (Sl elNm s.applied) v4 w := h
theorem openO {lo : Nat} {s : GState} {v : Value} {w : World} (h : Holds (StO lo s) v w) : ∃ v1 v2 v3 v4, Holds (Is (stV v1 v2 v3 v4 s.guilty)) v w ∧ Holds (OwnS lo elDelta s.cells) v1 w ∧ Holds (OwnS lo elInt s.seqs) v2 w ∧ Holds (OwnS lo elLock s.locks) v3 w ∧ Holds (OwnS lo elNm s.applied) v4 w := h
theorem mkF {l1 : List GDelta} {l2 : List Int} {l3 : List GLock} {l4 : List UInt64} {g : Int64} {v1 v2 v3 v4 : Value} {w : World} (h1 : Holds (Sl elDelta l1) v1 w) (h2 : Holds (Sl elInt l2) v2 w) (h3 : Holds (Sl elLock l3) v3 w) (h4 : Holds (Sl elNm l4) v4 w) :
    Holds (StF ⟨l1, l2, l3, l4, g⟩) (stV v1 v2 v3 v4 g) w := ⟨v1, v2, v3, v4, rfl, h1, h2, h3, h4⟩
theorem mkO {lo : Nat} {l1 : List GDelta} {l2 : List Int} {l3 : List GLock} {l4 : List UInt64} {g : Int64} {v1 v2 v3 v4 : Value} {w : World} (h1 : Holds (OwnS lo elDelta l1) v1 w) (h2 : Holds (OwnS lo elInt l2) v2 w) (h3 : Holds (OwnS lo elLock l3) v3 w) (h4 : Holds (OwnS lo elNm l4) v4 w) :
    Holds (StO lo ⟨l1, l2, l3, l4, g⟩) (stV v1 v2 v3 v4 g) w := ⟨v1, v2, v3, v4, rfl, h1, h2, h3, h4⟩
theorem StO.f {lo : Nat} {s : GState} {v : Value} {w : World} (h : Holds (StO lo s) v w) : Holds (StF s) v w := by
  obtain ⟨v1, v2, v3, v4, e, h1, h2, h3, h4⟩ := h
  exact ⟨v1, v2, v3, v4, e, OwnS.sl h1, OwnS.sl h2, OwnS.sl h3, OwnS.sl h4⟩
set_option maxRecDepth 100000 in
theorem elDeltaP : ElP elDelta ((Tryz.prog.info? 54).getD default) ⟨⟨0, 0, 0⟩, 0⟩ := ⟨by kernel_rfl, by kernel_rfl, by kernel_rfl, by kernel_rfl, rfl, by kernel_rfl, by kernel_rfl⟩
set_option maxRecDepth 100000 in
theorem elLockP : ElP elLock ((Tryz.prog.info? 32).getD default) ⟨0, 0, 0, 0, 0⟩ := ⟨by kernel_rfl, by kernel_rfl, by kernel_rfl, by kernel_rfl, rfl, by kernel_rfl, by kernel_rfl⟩
theorem szDelta : (Tryz.prog.info? 54).map (·.size) = some 11 := by kernel_rfl
theorem szLock : (Tryz.prog.info? 32).map (·.size) = some 19 := by kernel_rfl
theorem szCell : (Tryz.prog.info? 42).map (·.size) = some 10 := by kernel_rfl
theorem szState : (Tryz.prog.info? 28).map (·.size) = some 5 := by kernel_rfl
theorem szDeltas : (Tryz.prog.info? 22).map (·.size) = some 1 := by kernel_rfl
theorem cofDelta : Tryz.prog.cellsOf 54 = 11 := by kernel_rfl
theorem cofLock : Tryz.prog.cellsOf 32 = 19 := by kernel_rfl
section
variable {X : Reg} {pl : List Tmp × List Nat} {Fs : List Fct} {i : Nat} {d : Tmp} {ty : TypeId} {pos : String} {af : Array Edge} {g : Option (Nat × Bool)}
theorem ob_eqcell {yt : TypeId} {x y : Operand} {m n : GCell} (hx : ArgOK X pl Fs i x (Is (cellV m))) (hy : ArgOK X pl Fs i y (Is (cellV n))) :
    Ob X pl Fs i ⟨some d, .binOp .eql 42 x y yt, ty, pos, af, g⟩ (Is (.bool (decide (m = n)))) :=
  ob_eqkey (m := 4) (D := 4) (D' := 4) hx hy (by kernel_rfl) (by decide) (by kernel_rfl) (formedCell m) (formedCell n) (keyCell 1 m) (keyCell 1 n) (by
    constructor
    · intro h; rw [of_decide_eq_true h]
    · intro h; exact decide_eq_true (cellLits_inj h))
theorem ob_fa_cell0 {x : Operand} {c : GCell} (hx : ArgOK X pl Fs i x (PtrC (cellCells c))) : Ob X pl Fs i ⟨some d, .fieldAddr 42 x 0, ty, pos, af, g⟩ (PtrC [intV c.kind.toInt]) := ob_fa (n := 0) hx Tryz.underlying42 rfl szInt rfl
theorem ob_fa_cell1 {x : Operand} {c : GCell} (hx : ArgOK X pl Fs i x (PtrC (cellCells c))) : Ob X pl Fs i ⟨some d, .fieldAddr 42 x 1, ty, pos, af, g⟩ (PtrC [intV c.id.toInt]) := ob_fa (n := 0) hx Tryz.underlying42 rfl szInt rfl
theorem ob_fa_cell2 {x : Operand} {c : GCell} (hx : ArgOK X pl Fs i x (PtrC (cellCells c))) : Ob X pl Fs i ⟨some d, .fieldAddr 42 x 2, ty, pos, af, g⟩ (PtrC (nmCells c.lock)) := ob_fa (n := 7) hx Tryz.underlying42 rfl szNm rfl
theorem ob_fa_delta0 {x : Operand} {c : GDelta} (hx : ArgOK X pl Fs i x (PtrC (deltaCells c))) : Ob X pl Fs i ⟨some d, .fieldAddr 54 x 0, ty, pos, af, g⟩ (PtrC (cellCells c.cell)) := ob_fa (n := 9) hx Tryz.underlying54 rfl szCell rfl
theorem ob_fa_delta1 {x : Operand} {c : GDelta} (hx : ArgOK X pl Fs i x (PtrC (deltaCells c))) : Ob X pl Fs i ⟨some d, .fieldAddr 54 x 1, ty, pos, af, g⟩ (PtrC [intV c.amount.toInt]) := ob_fa (n := 0) hx Tryz.underlying54 rfl szInt rfl
theorem ob_fa_lock0 {x : Operand} {c : GLock} (hx : ArgOK X pl Fs i x (PtrC (lockCells c))) : Ob X pl Fs i ⟨some d, .fieldAddr 32 x 0, ty, pos, af, g⟩ (PtrC (nmCells c.name)) := ob_fa (n := 7) hx Tryz.underlying32 rfl szNm rfl
theorem ob_fa_lock1 {x : Operand} {c : GLock} (hx : ArgOK X pl Fs i x (PtrC (lockCells c))) : Ob X pl Fs i ⟨some d, .fieldAddr 32 x 1, ty, pos, af, g⟩ (PtrC (nmCells c.hash)) := ob_fa (n := 7) hx Tryz.underlying32 rfl szNm rfl
theorem ob_fa_lock2 {x : Operand} {c : GLock} (hx : ArgOK X pl Fs i x (PtrC (lockCells c))) : Ob X pl Fs i ⟨some d, .fieldAddr 32 x 2, ty, pos, af, g⟩ (PtrC [intV c.owner.toInt]) := ob_fa (n := 0) hx Tryz.underlying32 rfl szInt rfl
theorem ob_fa_lock3 {x : Operand} {c : GLock} (hx : ArgOK X pl Fs i x (PtrC (lockCells c))) : Ob X pl Fs i ⟨some d, .fieldAddr 32 x 3, ty, pos, af, g⟩ (PtrC [intV c.to.toInt]) := ob_fa (n := 0) hx Tryz.underlying32 rfl szInt rfl
theorem ob_fa_lock4 {x : Operand} {c : GLock} (hx : ArgOK X pl Fs i x (PtrC (lockCells c))) : Ob X pl Fs i ⟨some d, .fieldAddr 32 x 4, ty, pos, af, g⟩ (PtrC [intV c.till.toInt]) := ob_fa (n := 0) hx Tryz.underlying32 rfl szInt rfl
theorem ob_box_state {e : TypeId} {x : Operand} {v1 v2 v3 v4 : Value} {gu : Int64} (hx : ArgOK X pl Fs i x (Is (stV v1 v2 v3 v4 gu))) : Ob X pl Fs i ⟨some d, .box e x, ty, pos, af, g⟩ (OwnB X.lo (stVals v1 v2 v3 v4 gu)) := ob_box hx rfl
theorem ob_load_state {x : Operand} {v1 v2 v3 v4 : Value} {gu : Int64} (hx : ArgOK X pl Fs i x (PtrC (stVals v1 v2 v3 v4 gu))) : Ob X pl Fs i ⟨some d, .load 28 x, ty, pos, af, g⟩ (Is (stV v1 v2 v3 v4 gu)) := by
  refine ob_load hx Tryz.underlying28 rfl ?_ rfl
  exact szState
abbrev nilV : Value := .slice none 0 0
theorem ob_alloc_state : Ob X pl Fs i ⟨some d, .alloc 28, ty, pos, af, g⟩ (OwnB X.lo (stVals nilV nilV nilV nilV 0)) := by
  refine ob_alloc (z := stV nilV nilV nilV nilV 0) ?_ ?_
  · kernel_rfl
  · rfl
theorem run_build_state (a1 : Option Addr) (n1 c1 : Nat) (a2 : Option Addr) (n2 c2 : Nat) (a3 : Option Addr) (n3 c3 : Nat) (a4 : Option Addr) (n4 c4 : Nat) (m : Int) (w : World) :
    (Instr.build 28 #[(0, .slice a1 n1 c1), (1, .slice a2 n2 c2), (2, .slice a3 n3 c3), (3, .slice a4 n4 c4), (4, intV m)]).run Tryz.prog w = .ok (.agg #[.slice a1 n1 c1, .slice a2 n2 c2, .slice a3 n3 c3, .slice a4 n4 c4, intV m]) w := by kernel_rfl
theorem OwnS.isSl {α : Type} {lo : Nat} {T : El α} {l : List α} {v : Value} {w : World} (h : Holds (OwnS lo T l) v w) : ∃ a n c, v = .slice a n c := by
  have h0 : w.ownsRow lo T.tid T.size v l.length (l.flatMap T.cells) := h
  rcases h0.2 with ⟨rfl, _⟩ | ⟨g, cap, cur, rfl, _⟩
  · exact ⟨_, _, _, rfl⟩
  · exact ⟨_, _, _, rfl⟩
theorem ob_build_state {x1 x2 x3 x4 x5 : Operand} {lo : Nat} {l1 : List GDelta} {l2 : List Int} {l3 : List GLock} {l4 : List UInt64} {gu : Int64} (h1 : ArgOK X pl Fs i x1 (OwnS lo elDelta l1)) (h2 : ArgOK X pl Fs i x2 (OwnS lo elInt l2)) (h3 : ArgOK X pl Fs i x3 (OwnS lo elLock l3)) (h4 : ArgOK X pl Fs i x4 (OwnS lo elNm l4)) (h5 : ArgOK X pl Fs i x5 (Is (intV gu.toInt))) :
    Ob X pl Fs i ⟨some d, .build 28 #[(0, x1), (1, x2), (2, x3), (3, x4), (4, x5)], ty, pos, af, g⟩ (StO lo ⟨l1, l2, l3, l4, gu⟩) := by
  refine ob_same ?_
  intro ρ w hs
  have e1 := h1 ρ w hs
  have e2 := h2 ρ w hs
  have e3 := h3 ρ w hs
  have e4 := h4 ρ w hs
  have e5 : ρ x5 = intV gu.toInt := h5 ρ w hs
  refine ⟨stV (ρ x1) (ρ x2) (ρ x3) (ρ x4) gu, ?_, mkO e1 e2 e3 e4⟩
  obtain ⟨a1, n1, c1, q1⟩ := OwnS.isSl e1
  obtain ⟨a2, n2, c2, q2⟩ := OwnS.isSl e2
  obtain ⟨a3, n3, c3, q3⟩ := OwnS.isSl e3
  obtain ⟨a4, n4, c4, q4⟩ := OwnS.isSl e4
  unfold execOp
  refine exec_v _ _ _ _ _ ?_
  simp only [List.map_toArray, List.map_cons, List.map_nil, q1, q2, q3, q4, e5]
  exact run_build_state _ _ _ _ _ _ _ _ _ _ _ _ _ w
theorem run_build_state0 (w : World) : (Instr.build 28 #[]).run Tryz.prog w = .ok (stV nilV nilV nilV nilV 0) w := by kernel_rfl
theorem ob_build_state0 : Ob X pl Fs i ⟨some d, .build 28 #[], ty, pos, af, g⟩ (StO X.lo ⟨[], [], [], [], 0⟩) := by
  refine ob_same ?_
  intro ρ w hs
  refine ⟨stV nilV nilV nilV nilV 0, ?_, mkO own_nil own_nil own_nil own_nil⟩
  unfold execOp
  refine exec_v _ _ _ _ _ ?_
  simp only [List.map_toArray, List.map_nil]
  exact run_build_state0 w
end
theorem wl_store_state {ops : Array Oper} {rest : List Oper} {Q : Exit → Act → World → Prop} {a : Act} {w : World} {p : Tmp} {x : Operand} {ty : TypeId} {pos : String} {af : Array Edge} {g : Nat} {cs : List Value} {v1 v2 v3 v4 : Value} {gu : Int64}
    (hp : Holds (Is (PtrV g)) (a.eval (.tmp p)) w) (hg : Blk g cs w) (hl : cs.length = 5) (hx : Holds (Is (stV v1 v2 v3 v4 gu)) (a.eval x) w) (h1 : ∀ u ∈ stVals v1 v2 v3 v4 gu, u.oneCell' = true) (h : ∀ w', Only g w w' → Blk g (stVals v1 v2 v3 v4 gu) w' → wpList Tryz.prog ops Q rest a w') :
    wpList Tryz.prog ops Q (⟨none, .store 28 (.tmp p) x, ty, pos, af, none⟩ :: rest) a w := by
  refine wl_store' (ds := stVals v1 v2 v3 v4 gu) hp hg hx rfl hl.symm ?_ h1 h
  rw [hl]; exact szState
theorem wl_store_sl {α : Type} {T : El α} {lo : Nat} {l : List α} {ops : Array Oper} {rest : List Oper} {Q : Exit → Act → World → Prop} {a : Act} {w : World} {t : TypeId} {p : Tmp} {x : Operand} {ty : TypeId} {pos : String} {af : Array Edge} {g k : Nat} {cs : List Value} {v : Value}
    (hp : Holds (OwnP g k cs) (a.eval (.tmp p)) w) (hx : Holds (Is v) (a.eval x) w) (hv : Holds (OwnS lo T l) v w) (hk : k < cs.length) (hi : (Tryz.prog.info? t).map (·.size) = some 1)
    (h : ∀ w', Only g w w' → Blk g (cs.set k v) w' → wpList Tryz.prog ops Q rest a w') :
    wpList Tryz.prog ops Q (⟨none, .store t (.tmp p) x, ty, pos, af, none⟩ :: rest) a w := by
  obtain ⟨a1, n, c, rfl⟩ := OwnS.isSl hv
  exact wl_store1 hp hx rfl rfl hk hi h
end Ex
end Go.Proofs.YtnmfiiejhoafnaaGreat
