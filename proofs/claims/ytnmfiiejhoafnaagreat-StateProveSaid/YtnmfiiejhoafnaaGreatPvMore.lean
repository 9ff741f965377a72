/- More operations: names built out of bytes, slices made and cut, appends. -/
import Derived.Test.YtnmfiiejhoafnaaGreatPvFac
set_option linter.unusedSimpArgs false
set_option linter.unusedVariables false
namespace Go.Proofs.YtnmfiiejhoafnaaGreat
namespace Ex
open Go Calm Go.RowKit
theorem elNmP : ElP elNm ((Tryz.prog.info? 30).getD default) 0 := ⟨by kernel_rfl, by kernel_rfl, by kernel_rfl, by kernel_rfl, rfl, by kernel_rfl, by kernel_rfl⟩
theorem elByteP : ElP elByte ((Tryz.prog.info? 5).getD default) 0 := ⟨by kernel_rfl, by kernel_rfl, by kernel_rfl, by kernel_rfl, rfl, by kernel_rfl, by kernel_rfl⟩
theorem elIntP : ElP elInt ((Tryz.prog.info? 3).getD default) 0 := ⟨by kernel_rfl, by kernel_rfl, by kernel_rfl, by kernel_rfl, rfl, by kernel_rfl, by kernel_rfl⟩
theorem own_nil {α : Type} {lo : Nat} {T : El α} {w : World} : Holds (OwnS lo T []) (.slice none 0 0) w := World.ownsRow_nil w lo T.tid T.size
theorem sl_nil {α : Type} {T : El α} {w : World} : Holds (Sl T []) (.slice none 0 0) w := ⟨none, 0, rfl, Nat.le_refl _, fun _ => ⟨rfl, rfl⟩, fun p hp => by cases hp⟩
theorem of_byte (x : UInt64) (i : Nat) (hi : i < 8) : (x >>> UInt64.ofNat (56 - 8 * i)).toUInt8 = nb x i := by
  apply UInt8.toNat_inj.1
  unfold nb
  rw [UInt64.toNat_toUInt8, UInt64.toNat_shiftRight, Nat.shiftRight_eq_div_pow]
  simp only [UInt64.toNat_ofNat', UInt8.toNat_ofNat']
  rw [show (56 - 8 * i) % 2 ^ 64 % 64 = 56 - 8 * i by omega]
theorem of_byte7 (x : UInt64) : x.toUInt8 = nb x 7 := by
  apply UInt8.toNat_inj.1
  unfold nb
  simp
theorem of_cells (x : UInt64) : nmCells x = [byteV (x >>> UInt64.ofNat 56).toUInt8, byteV (x >>> UInt64.ofNat 48).toUInt8, byteV (x >>> UInt64.ofNat 40).toUInt8, byteV (x >>> UInt64.ofNat 32).toUInt8, byteV (x >>> UInt64.ofNat 24).toUInt8, byteV (x >>> UInt64.ofNat 16).toUInt8, byteV (x >>> UInt64.ofNat 8).toUInt8, byteV x.toUInt8] := by
  unfold nmCells
  rw [← of_byte x 0 (by decide), ← of_byte x 1 (by decide), ← of_byte x 2 (by decide), ← of_byte x 3 (by decide), ← of_byte x 4 (by decide), ← of_byte x 5 (by decide), ← of_byte x 6 (by decide), ← of_byte7 x]
theorem undByte : Tryz.prog.underlying 5 = some (.int .u8) := by kernel_rfl
section
variable {X : Reg} {pl : List Tmp × List Nat} {Fs : List Fct} {i : Nat} {d : Tmp} {ty : TypeId} {pos : String} {af : Array Edge} {g : Option (Nat × Bool)}
theorem run_build_nm8 (a b c d e f g h : UInt8) (w : World) : (Instr.build 30 #[(0, byteV a), (1, byteV b), (2, byteV c), (3, byteV d), (4, byteV e), (5, byteV f), (6, byteV g), (7, byteV h)]).run Tryz.prog w =
    .ok (.agg #[byteV a, byteV b, byteV c, byteV d, byteV e, byteV f, byteV g, byteV h]) w := by kernel_rfl
theorem run_build_nm1 (a : UInt8) (w : World) : (Instr.build 30 #[(0, byteV a)]).run Tryz.prog w = .ok (.agg #[byteV a, byteV 0, byteV 0, byteV 0, byteV 0, byteV 0, byteV 0, byteV 0]) w := by kernel_rfl
theorem run_build_nm0 (w : World) : (Instr.build 30 #[]).run Tryz.prog w = .ok (nmV 0) w := by kernel_rfl
theorem ob_build_nm8 {x0 x1 x2 x3 x4 x5 x6 x7 : Operand} {b0 b1 b2 b3 b4 b5 b6 b7 : UInt8} {n : UInt64} (h0 : ArgOK X pl Fs i x0 (Is (byteV b0))) (h1 : ArgOK X pl Fs i x1 (Is (byteV b1))) (h2 : ArgOK X pl Fs i x2 (Is (byteV b2))) (h3 : ArgOK X pl Fs i x3 (Is (byteV b3)))
    (h4 : ArgOK X pl Fs i x4 (Is (byteV b4))) (h5 : ArgOK X pl Fs i x5 (Is (byteV b5))) (h6 : ArgOK X pl Fs i x6 (Is (byteV b6))) (h7 : ArgOK X pl Fs i x7 (Is (byteV b7)))
    (hn : nmCells n = [byteV b0, byteV b1, byteV b2, byteV b3, byteV b4, byteV b5, byteV b6, byteV b7]) :
    Ob X pl Fs i ⟨some d, .build 30 #[(0, x0), (1, x1), (2, x2), (3, x3), (4, x4), (5, x5), (6, x6), (7, x7)], ty, pos, af, g⟩ (Is (nmV n)) := by
  refine ob_same ?_
  intro ρ w hs
  have e0 : ρ x0 = byteV b0 := h0 ρ w hs
  have e1 : ρ x1 = byteV b1 := h1 ρ w hs
  have e2 : ρ x2 = byteV b2 := h2 ρ w hs
  have e3 : ρ x3 = byteV b3 := h3 ρ w hs
  have e4 : ρ x4 = byteV b4 := h4 ρ w hs
  have e5 : ρ x5 = byteV b5 := h5 ρ w hs
  have e6 : ρ x6 = byteV b6 := h6 ρ w hs
  have e7 : ρ x7 = byteV b7 := h7 ρ w hs
  refine ⟨nmV n, ?_, rfl⟩
  unfold execOp
  refine exec_v _ _ _ _ _ ?_
  simp only [List.map_toArray, List.map_cons, List.map_nil, e0, e1, e2, e3, e4, e5, e6, e7]
  rw [run_build_nm8]
  unfold nmV
  rw [hn]
theorem ob_build_nm0 : Ob X pl Fs i ⟨some d, .build 30 #[], ty, pos, af, g⟩ (Is (nmV 0)) := by
  refine ob_same ?_
  intro ρ w hs
  refine ⟨nmV 0, ?_, rfl⟩
  unfold execOp
  refine exec_v _ _ _ _ _ ?_
  simp only [List.map_toArray, List.map_nil]
  exact run_build_nm0 w
theorem nmCells_get (n : UInt64) (k : Nat) (h : k < 8) : (nmCells n)[k]? = some (byteV (nb n k)) := by
  match k, h with
  | 0, _ => rfl
  | 1, _ => rfl
  | 2, _ => rfl
  | 3, _ => rfl
  | 4, _ => rfl
  | 5, _ => rfl
  | 6, _ => rfl
  | 7, _ => rfl
theorem ob_index_nm {x y : Operand} {n : UInt64} {k : Nat} {z : Int} {ik : IntKind} (hx : ArgOK X pl Fs i x (Is (nmV n))) (hy : ArgOK X pl Fs i y (Is (.int ik z))) (hz : z = (k : Int)) (hk : k < 8) :
    Ob X pl Fs i ⟨some d, .index 30 x y, ty, pos, af, g⟩ (Is (byteV (nb n k))) := ob_index (m := 8) hx hy hz hk undNm szByte undByte rfl (nmCells_get n k hk)
theorem nmBytes_len (n : UInt64) : (nmBytes n).length = 8 := rfl
theorem nmBytes_cell (n : UInt64) (i : Nat) (b : UInt8) (h : (nmBytes n)[i]? = some b) : (nmCells n)[i]? = some (byteV b) := by
  have e : nmCells n = (nmBytes n).map byteV := rfl
  rw [e, List.getElem?_map, h]; rfl
theorem sl_cells {α : Type} {T : El α} {l : List α} {b o : Nat} {w : World} (h : ∀ i x, l[i]? = some x → Cells b (o + i * T.size) (T.cells x) w) (j : Nat) (u : Value) (hj : (l.flatMap T.cells)[j]? = some u) : w.cell? ⟨b, o + j, none⟩ = some u := by
  obtain ⟨i, x, k, e1, e2, e3⟩ := flatMap_at T l j u hj
  have := h i x e1 k u e2
  rw [e3, ← Nat.add_assoc]; exact this
end
end Ex
end Go.Proofs.YtnmfiiejhoafnaaGreat
