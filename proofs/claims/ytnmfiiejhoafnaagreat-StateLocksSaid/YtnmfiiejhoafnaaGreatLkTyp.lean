/- Variables of one's own whose type is kept: no row is the same block. -/
import Derived.Test.YtnmfiiejhoafnaaGreatLkTwo
import Derived.Test.YtnmfiiejhoafnaaGreatLkGen
set_option linter.unusedSimpArgs false
set_option linter.unusedVariables false
namespace Go.Proofs.YtnmfiiejhoafnaaGreat
namespace Ex
open Go Calm Go.RowKit
def OwnBT (e : TypeId) (lo : Nat) (cs : List Value) : Fct := fun v w => ∃ g, lo ≤ g ∧ v = .pointer (some ⟨g, 0, none⟩) ∧ w.heap[g]? = some (.cells cs.toArray e (0, 0))
instance {e : TypeId} {lo : Nat} {cs : List Value} : StabG (OwnBT e lo cs) := stabG (fun _ _ _ hg ⟨g, hl, hv, h⟩ => ⟨g, hl, hv, (hg.block (Array.getElem?_eq_some_iff.1 h).1).trans h⟩)
def TBlk (e : TypeId) (g : Nat) (w : World) : Prop := ∃ cs, w.heap[g]? = some (.cells cs e (0, 0))
theorem OwnBT.blk {e : TypeId} {lo : Nat} {cs : List Value} {v : Value} {w : World} (h : Holds (OwnBT e lo cs) v w) : ∃ g, lo ≤ g ∧ Holds (Is (PtrV g)) v w ∧ Blk g cs w ∧ TBlk e g w := let ⟨g, h1, h2, h3⟩ := h; ⟨g, h1, h2, ⟨e, h3⟩, ⟨_, h3⟩⟩
theorem own_ne {α : Type} {T : El α} {lo : Nat} {l : List α} {v : Value} {w : World} {e : TypeId} {g : Nat} (h : Holds (OwnS lo T l) v w) (ht : TBlk e g w) (hne : T.tid ≠ e) : ∀ k, v.ownBlock = some k → k ≠ g := by
  intro k hk hkg
  subst hkg
  obtain ⟨cs, ht⟩ := ht
  have h0 : w.ownsRow lo T.tid T.size v l.length (l.flatMap T.cells) := h
  rcases h0.2 with ⟨rfl, _⟩ | ⟨g', cap, cur, rfl, _, hg, _⟩
  · cases hk
  · have e1 : g' = k := by simpa [Value.ownBlock] using hk
    subst e1
    rw [ht] at hg
    simp only [Option.some.injEq, Obj.cells.injEq] at hg
    exact hne hg.2.1.symm
theorem OwnS.onlyN {α : Type} {lo g : Nat} {T : El α} {l : List α} {v : Value} {w w' : World} (h : Holds (OwnS lo T l) v w) (ho : Only g w w') (hne : ∀ k, v.ownBlock = some k → k ≠ g) : Holds (OwnS lo T l) v w' := by
  have h0 : w.ownsRow lo T.tid T.size v l.length (l.flatMap T.cells) := h
  exact World.ownsRow.kept h0 (row := some g) ⟨ho.below.os, ho.below.tape, ho.below.output, ho.below.size, fun k hk hn => ho.block k hk fun e => hn (by rw [e])⟩ (.inr fun e => hne g e rfl)
theorem ptr_ownBT {e : TypeId} {lo : Nat} {cs : List Value} (v : Value) (w : World) (h : OwnBT e lo cs v w) : ∃ g, g < w.heap.size ∧ v = PtrV g := by
  obtain ⟨g, _, h1, h2⟩ := h
  exact ⟨g, (Array.getElem?_eq_some_iff.1 h2).1, h1⟩
theorem ptrokT2 {i k n : Nat} {Fs : List Fct} {e e' : TypeId} {lo lo' : Nat} {cs cs' : List Value} (h1 : Fs[n - 1 - i]? = some (OwnBT e lo cs)) (h2 : Fs[n - 1 - k]? = some (OwnBT e' lo' cs')) : PtrOK [i, k] n Fs := fun j F hj hF => by
  have hj' : j = i ∨ j = k := by simpa using hj
  rcases hj' with rfl | rfl
  · rw [h1] at hF; cases hF; exact ptr_ownBT
  · rw [h2] at hF; cases hF; exact ptr_ownBT
section
variable {X : Reg} {pl : List Tmp × List Nat} {Fs : List Fct} {i : Nat} {d : Tmp} {ty : TypeId} {pos : String} {af : Array Edge} {g : Option (Nat × Bool)}
theorem ob_allocT {e : TypeId} {z : Value} {cs : List Value} (hz : (Tryz.prog.info? e).bind (·.zero) = some z) (hv : z.cells = cs.toArray) :
    Ob X pl Fs i ⟨some d, .alloc e, ty, pos, af, g⟩ (OwnBT e X.lo cs) := by
  refine ob_val ?_
  intro ρ w hs
  refine ⟨_, _, ?_, Grow.alloc w (.cells cs.toArray e), ⟨w.heap.size, lo_le hs, rfl, ?_⟩⟩
  · have h2 : (zeroValue e).run Tryz.prog w = .ok z w := by
      cases hi : Tryz.prog.info? e with
      | none => rw [hi] at hz; cases hz
      | some inf =>
        rw [hi] at hz
        have hz' : inf.zero = some z := hz
        simp [zeroValue, typeInfo, hi, hz']
    unfold execOp
    refine exec_v _ _ _ _ _ ?_
    unfold Instr.alloc newVar
    rw [Sem.run_bind, h2, Result.andThen_ok]
    simp only [Sem.run_bind, hv, run_newRow]
    rfl
  · exact heap_new w _
theorem ob_allocT_state : Ob X pl Fs i ⟨some d, .alloc 28, ty, pos, af, g⟩ (OwnBT 28 X.lo (stVals nilV nilV nilV nilV 0)) := by
  refine ob_allocT (z := stV nilV nilV nilV nilV 0) ?_ ?_
  · kernel_rfl
  · rfl
theorem ob_eqlock {yt : TypeId} {x y : Operand} {m n : GLock} (hx : ArgOK X pl Fs i x (Is (lockV m))) (hy : ArgOK X pl Fs i y (Is (lockV n))) :
    Ob X pl Fs i ⟨some d, .binOp .eql 32 x y yt, ty, pos, af, g⟩ (Is (.bool (decide (m = n)))) :=
  ob_eqkey (m := 4) (D := 4) (D' := 4) hx hy (by kernel_rfl) (by decide) (by kernel_rfl) (formedLock m) (formedLock n) (keyLock 1 m) (keyLock 1 n) (by
    constructor
    · intro h; rw [of_decide_eq_true h]
    · intro h; exact decide_eq_true (lockLits_inj h))
theorem run_build_lock0 (w : World) : (Instr.build 32 #[]).run Tryz.prog w = .ok (lockV ⟨0, 0, 0, 0, 0⟩) w := by kernel_rfl
theorem ob_build_lock0 : Ob X pl Fs i ⟨some d, .build 32 #[], ty, pos, af, g⟩ (Is (lockV ⟨0, 0, 0, 0, 0⟩)) := by
  refine ob_same ?_
  intro ρ w hs
  refine ⟨lockV ⟨0, 0, 0, 0, 0⟩, ?_, rfl⟩
  unfold execOp
  refine exec_v _ _ _ _ _ ?_
  simp only [List.map_toArray, List.map_nil]
  exact run_build_lock0 w
end
end Ex
end Go.Proofs.YtnmfiiejhoafnaaGreat
