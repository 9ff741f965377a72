/- Geneses made and stored; numbers negated; names of one byte; truth values compared; results handed straight on. -/
import Derived.Test.YtnmfiiejhoafnaaGreatPvCpy
import Derived.Test.YtnmfiiejhoafnaaGreatPvInc
import Derived.Test.YtnmfiiejhoafnaaGreatPvRow6
set_option linter.unusedSimpArgs false
set_option linter.unusedVariables false
namespace Go.Proofs.YtnmfiiejhoafnaaGreat
namespace Ex
open Go Calm Go.RowKit
def GenO (lo : Nat) (x : GGen) : Fct := fun v w => ∃ v1 v2 v3, v = genV x.n x.stake v1 v2 v3 ∧ Holds (OwnS lo elNm x.vals) v1 w ∧ Holds (OwnS lo elNm x.accs) v2 w ∧ Holds (OwnS lo elInt x.bals) v3 w
instance {lo : Nat} {x : GGen} : StabG (GenO lo x) := stabG (fun _ _ _ hg ⟨v1, v2, v3, e, h1, h2, h3⟩ => ⟨v1, v2, v3, e, h1.up hg, h2.up hg, h3.up hg⟩)
theorem openGO {lo : Nat} {x : GGen} {v : Value} {w : World} (h : Holds (GenO lo x) v w) : ∃ v1 v2 v3, Holds (Is (genV x.n x.stake v1 v2 v3)) v w ∧ Holds (OwnS lo elNm x.vals) v1 w ∧ Holds (OwnS lo elNm x.accs) v2 w ∧ Holds (OwnS lo elInt x.bals) v3 w := h
theorem mkGO {lo : Nat} {n s : Int} {l1 l2 : List UInt64} {l3 : List Int} {v1 v2 v3 : Value} {w : World} (h1 : Holds (OwnS lo elNm l1) v1 w) (h2 : Holds (OwnS lo elNm l2) v2 w) (h3 : Holds (OwnS lo elInt l3) v3 w) : Holds (GenO lo ⟨n, s, l1, l2, l3⟩) (genV n s v1 v2 v3) w := ⟨v1, v2, v3, rfl, h1, h2, h3⟩
theorem GenO.f {lo : Nat} {x : GGen} {v : Value} {w : World} (h : Holds (GenO lo x) v w) : Holds (GenF x) v w := by
  obtain ⟨v1, v2, v3, e, h1, h2, h3⟩ := h
  exact ⟨v1, v2, v3, e, OwnS.sl h1, OwnS.sl h2, OwnS.sl h3⟩
theorem gen_one {α β γ : Type} {T1 : El α} {T2 : El β} {T3 : El γ} {l1 : List α} {l2 : List β} {l3 : List γ} {m n : Int} {v1 v2 v3 : Value} {w1 w2 w3 : World} (h1 : Holds (Sl T1 l1) v1 w1) (h2 : Holds (Sl T2 l2) v2 w2) (h3 : Holds (Sl T3 l3) v3 w3) : ∀ u ∈ genVals m n v1 v2 v3, u.oneCell' = true := by
  intro u hu
  obtain ⟨a1, n1, c1, rfl⟩ := Sl.isSl h1
  obtain ⟨a2, n2, c2, rfl⟩ := Sl.isSl h2
  obtain ⟨a3, n3, c3, rfl⟩ := Sl.isSl h3
  simp [genVals] at hu
  rcases hu with rfl | rfl | rfl | rfl | rfl <;> rfl
theorem wl_store_gen {ops : Array Oper} {rest : List Oper} {Q : Exit → Act → World → Prop} {a : Act} {w : World} {p : Tmp} {x : Operand} {ty : TypeId} {pos : String} {af : Array Edge} {g : Nat} {cs : List Value} {m n : Int} {v1 v2 v3 : Value}
    (hp : Holds (Is (PtrV g)) (a.eval (.tmp p)) w) (hg : Blk g cs w) (hl : cs.length = 5) (hx : Holds (Is (genV m n v1 v2 v3)) (a.eval x) w) (h1 : ∀ u ∈ genVals m n v1 v2 v3, u.oneCell' = true) (h : ∀ w', Only g w w' → Blk g (genVals m n v1 v2 v3) w' → wpList Tryz.prog ops Q rest a w') :
    wpList Tryz.prog ops Q (⟨none, .store 60 (.tmp p) x, ty, pos, af, none⟩ :: rest) a w := by
  refine wl_store' (ds := genVals m n v1 v2 v3) hp hg hx rfl hl.symm ?_ h1 h
  rw [hl]; exact szGen
section
variable {X : Reg} {pl : List Tmp × List Nat} {Fs : List Fct} {i : Nat} {d : Tmp} {ty : TypeId} {pos : String} {af : Array Edge} {g : Option (Nat × Bool)}
theorem ArgOK.ofstate {x : Operand} {lo : Nat} {s : GState} (h : ArgOK X pl Fs i x (StO lo s)) : ArgOK X pl Fs i x (StF s) := h.imp fun _ _ => StO.f
theorem ArgOK.ofgen {x : Operand} {lo : Nat} {s : GGen} (h : ArgOK X pl Fs i x (GenO lo s)) : ArgOK X pl Fs i x (GenF s) := h.imp fun _ _ => GenO.f
theorem run_build_gen (m n : Int) (a1 a2 a3 : Option Addr) (n1 n2 n3 c1 c2 c3 : Nat) (w : World) : (Instr.build 60 #[(0, intV m), (1, intV n), (2, .slice a1 n1 c1), (3, .slice a2 n2 c2), (4, .slice a3 n3 c3)]).run Tryz.prog w = .ok (genV m n (.slice a1 n1 c1) (.slice a2 n2 c2) (.slice a3 n3 c3)) w := by kernel_rfl
theorem run_build_gen0 (w : World) : (Instr.build 60 #[]).run Tryz.prog w = .ok (genV 0 0 nilV nilV nilV) w := by kernel_rfl
theorem ob_build_gen {x y z u t : Operand} {m n : Int} {lo : Nat} {l1 l2 : List UInt64} {l3 : List Int} (hx : ArgOK X pl Fs i x (Is (intV m))) (hy : ArgOK X pl Fs i y (Is (intV n))) (hz : ArgOK X pl Fs i z (OwnS lo elNm l1)) (hu : ArgOK X pl Fs i u (OwnS lo elNm l2)) (ht : ArgOK X pl Fs i t (OwnS lo elInt l3)) :
    Ob X pl Fs i ⟨some d, .build 60 #[(0, x), (1, y), (2, z), (3, u), (4, t)], ty, pos, af, g⟩ (GenO lo ⟨m, n, l1, l2, l3⟩) := by
  refine ob_same ?_
  intro ρ w hs
  have e1 : ρ x = intV m := hx ρ w hs
  have e2 : ρ y = intV n := hy ρ w hs
  have e3 := hz ρ w hs
  have e4 := hu ρ w hs
  have e5 := ht ρ w hs
  refine ⟨genV m n (ρ z) (ρ u) (ρ t), ?_, mkGO e3 e4 e5⟩
  obtain ⟨a1, n1, c1, q1⟩ := OwnS.isSl e3
  obtain ⟨a2, n2, c2, q2⟩ := OwnS.isSl e4
  obtain ⟨a3, n3, c3, q3⟩ := OwnS.isSl e5
  unfold execOp
  refine exec_v _ _ _ _ _ ?_
  simp only [List.map_toArray, List.map_cons, List.map_nil, e1, e2, q1, q2, q3]
  exact run_build_gen _ _ _ _ _ _ _ _ _ _ _ w
theorem ob_build_gen0 {lo : Nat} : Ob X pl Fs i ⟨some d, .build 60 #[], ty, pos, af, g⟩ (GenO lo ⟨0, 0, [], [], []⟩) := by
  refine ob_same ?_
  intro ρ w hs
  refine ⟨genV 0 0 nilV nilV nilV, ?_, mkGO own_nil own_nil own_nil⟩
  unfold execOp
  refine exec_v _ _ _ _ _ ?_
  simp only [List.map_toArray, List.map_nil]
  exact run_build_gen0 w
theorem ob_build_nm1 {x : Operand} {b : UInt8} (n : UInt64) (hx : ArgOK X pl Fs i x (Is (byteV b))) (hn : nmCells n = [byteV b, byteV 0, byteV 0, byteV 0, byteV 0, byteV 0, byteV 0, byteV 0]) :
    Ob X pl Fs i ⟨some d, .build 30 #[(0, x)], ty, pos, af, g⟩ (Is (nmV n)) := by
  refine ob_same ?_
  intro ρ w hs
  have e0 : ρ x = byteV b := hx ρ w hs
  refine ⟨nmV n, ?_, rfl⟩
  unfold execOp
  refine exec_v _ _ _ _ _ ?_
  simp only [List.map_toArray, List.map_cons, List.map_nil, e0]
  rw [run_build_nm1]
  unfold nmV
  rw [hn]
end
end Ex
end Go.Proofs.YtnmfiiejhoafnaaGreat
