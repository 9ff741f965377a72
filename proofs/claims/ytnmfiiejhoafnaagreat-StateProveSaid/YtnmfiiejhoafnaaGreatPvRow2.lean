/- Rows: made with room, cut beyond their length, and where they lie. -/
import Derived.Test.YtnmfiiejhoafnaaGreatPvRow
set_option linter.unusedSimpArgs false
set_option linter.unusedVariables false
namespace Go.Proofs.YtnmfiiejhoafnaaGreat
namespace Ex
open Go Calm Go.RowKit
section
variable {X : Reg} {pl : List Tmp × List Nat} {Fs : List Fct} {i : Nat} {d : Tmp} {ty : TypeId} {pos : String} {af : Array Edge} {g : Option (Nat × Bool)} {ats : Array TypeId}
theorem ob_maxL {x y : Operand} {m n : Int} (hx : ArgOK X pl Fs i x (Is (intV m))) (hy : ArgOK X pl Fs i y (Is (intV n))) (h : n ≤ m) :
    Ob X pl Fs i ⟨some d, .call { callee := .builtin .max, args := #[x, y], argTypes := ats }, ty, pos, af, g⟩ (Is (intV m)) := by
  refine ob_same ?_
  intro ρ w hs
  have e1 : ρ x = intV m := hx ρ w hs
  have e2 : ρ y = intV n := hy ρ w hs
  refine ⟨intV m, ?_, rfl⟩
  have : ¬ n > m := by omega
  simp [execOp, resolve, invoke, builtin, e1, e2, run_max_int2, this]
theorem ob_maxR {x y : Operand} {m n : Int} (hx : ArgOK X pl Fs i x (Is (intV m))) (hy : ArgOK X pl Fs i y (Is (intV n))) (h : m ≤ n) :
    Ob X pl Fs i ⟨some d, .call { callee := .builtin .max, args := #[x, y], argTypes := ats }, ty, pos, af, g⟩ (Is (intV n)) := by
  refine ob_same ?_
  intro ρ w hs
  have e1 : ρ x = intV m := hx ρ w hs
  have e2 : ρ y = intV n := hy ρ w hs
  refine ⟨intV n, ?_, rfl⟩
  have : (if n > m then n else m) = n := by split <;> omega
  simp [execOp, resolve, invoke, builtin, e1, e2, run_max_int2]
  omega
theorem ob_minL {x y : Operand} {m n : Int} (hx : ArgOK X pl Fs i x (Is (intV m))) (hy : ArgOK X pl Fs i y (Is (intV n))) (h : m ≤ n) :
    Ob X pl Fs i ⟨some d, .call { callee := .builtin .min, args := #[x, y], argTypes := ats }, ty, pos, af, g⟩ (Is (intV m)) := by
  refine ob_same ?_
  intro ρ w hs
  have e1 : ρ x = intV m := hx ρ w hs
  have e2 : ρ y = intV n := hy ρ w hs
  refine ⟨intV m, ?_, rfl⟩
  have : ¬ n < m := by omega
  simp [execOp, resolve, invoke, builtin, e1, e2, run_min_int2, this]
theorem ob_makeR {α : Type} {T : El α} {inf : TypeInfo} {z : α} (E : ElP T inf z) {t : TypeId} {x y : Operand} {n c : Nat} {a b : Int} (ht : Tryz.prog.underlying t = some (.slice T.tid)) (hx : ArgOK X pl Fs i x (Is (intV a))) (hy : ArgOK X pl Fs i y (Is (intV b)))
    (ha : a = (n : Int)) (hb : b = (c : Int)) (hnc : n ≤ c) (hc : T.bytes * c ≤ 281474976710656) (hm : c ≤ maxLen) : Ob X pl Fs i ⟨some d, .makeSlice t x y, ty, pos, af, g⟩ (OwnS X.lo T (List.replicate n z)) := by
  subst ha hb
  refine ob_val ?_
  intro ρ w hs
  have e0 : ρ x = intV n := hx ρ w hs
  have e1 : ρ y = intV c := hy ρ w hs
  have hm' : (c : Int) ≤ 9223372036854775807 := by
    have h := hm
    simp [maxLen] at h
    omega
  have hb2 : (T.bytes : Int) * (c : Int) ≤ 281474976710656 := by
    rw [← Int.natCast_mul]
    omega
  have hr := run_make (P := Tryz.prog) w t T.tid inf (El.val T z) ht E.hinfo E.hzero .i64 .i64 (n : Int) (c : Int) (by omega) (by omega) (by rw [E.hbytes]; exact hb2) hm'
  refine ⟨.slice (some ⟨w.heap.size, 0, none⟩) n c, w.alloc (.cells (madeCells (El.val T z).cells (c * inf.size)) T.tid), ?_, Grow.alloc w _, ?_⟩
  · unfold execOp
    refine exec_v _ _ _ _ _ ?_
    rw [e0, e1]
    rw [hr]
    rfl
  · show World.ownsRow _ X.lo T.tid T.size _ (List.replicate n z).length ((List.replicate n z).flatMap T.cells)
    have hfl := made_flat E.hzcells c
    have hsz : (madeCells (El.val T z).cells (c * inf.size)).size = c * T.size := by
      rw [← Array.length_toList, E.hsize, hfl, flatMap_len, List.length_replicate]
    refine ⟨by rw [flatMap_len], .inr ⟨w.heap.size, c, madeCells (El.val T z).cells (c * inf.size), ?_, lo_le hs, ?_, ?_, hm, hsz, ?_⟩⟩
    · rw [List.length_replicate]
    · exact Array.getElem?_push_size
    · rw [List.length_replicate]; exact hnc
    · rw [E.hsize, hfl, List.length_replicate, flatMap_take, List.take_replicate, Nat.min_eq_left hnc]
def capOf : Value → Nat
  | .slice _ _ c => c
  | _ => 0
theorem ob_cap {α : Type} {T : El α} {t e : TypeId} {x : Operand} {l : List α} {v : Value} {w1 : World} (hx : ArgOK X pl Fs i x (Is v)) (hv : Holds (Sl T l) v w1) (hu : Tryz.prog.underlying t = some (.slice e)) :
    Ob X pl Fs i ⟨some d, .call { callee := .builtin .cap, args := #[x], argTypes := #[t] }, ty, pos, af, g⟩ (Is (intV (capOf v))) := by
  refine ob_same ?_
  intro ρ w hs
  have e1 : ρ x = v := hx ρ w hs
  obtain ⟨a, c, rfl, _⟩ := hv
  refine ⟨intV c, ?_, rfl⟩
  simp [execOp, resolve, invoke, builtin, Builtin.cap_, run_underlying hu, e1, goInt]
theorem ob_faI {s : TypeId} {x : Operand} {k n b : Nat} {cs : List Value} {fields : Array Field} {f : Field} (hx : ArgOK X pl Fs i x (OwnP b 0 cs)) (hu : Tryz.prog.underlying s = some (.struct fields))
    (hf : fields[k]? = some f) (hn : (Tryz.prog.info? f.type).map (·.size) = some (n + 1)) :
    Ob X pl Fs i ⟨some d, .fieldAddr s x k, ty, pos, af, g⟩ (Is (.pointer (some ⟨b, f.offset, none⟩))) := by
  refine ob_same ?_
  intro ρ w hs
  obtain ⟨h1, h2⟩ := hx ρ w hs
  cases hq : Tryz.prog.info? f.type with
  | none => simp [hq] at hn
  | some inf =>
    have hsz : inf.size = n + 1 := by simpa [hq] using hn
    refine ⟨.pointer (some ⟨b, f.offset, none⟩), ?_, rfl⟩
    unfold execOp
    refine exec_v _ _ _ _ _ ?_
    unfold Instr.fieldAt
    rw [Sem.run_bind, run_underlying hu, Result.andThen_ok]
    simp only [hf, h1, Instr.sureAddr, fieldPlace, sizeOf, typeInfo, Sem.run_bind, Sem.run_pure, Result.andThen_ok]
    simp [hq, hsz, add_lit]
theorem ob_slice_ownI {x : Operand} {b o : Nat} (hx : ArgOK X pl Fs i x (Is (.pointer (some ⟨b, o, none⟩)))) : Ob X pl Fs i ⟨some d, .slice 30 x none none none, ty, pos, af, g⟩ (Is (.slice (some ⟨b, o, none⟩) 8 8)) := by
  refine ob_same ?_
  intro ρ w hs
  have h1 : ρ x = .pointer (some ⟨b, o, none⟩) := hx ρ w hs
  refine ⟨.slice (some ⟨b, o, none⟩) 8 8, ?_, rfl⟩
  unfold execOp
  refine exec_v _ _ _ _ _ ?_
  unfold Instr.sliceAt
  have hz : (Tryz.prog.info? 5).map (·.size) = some 1 := szByte
  cases hq : Tryz.prog.info? 5 with
  | none => rw [hq] at hz; cases hz
  | some inf =>
    rw [Sem.run_bind, run_underlying undNm, Result.andThen_ok]
    simp only [h1, Instr.sureAddr, Sem.run_bind, Sem.run_pure, Result.andThen_ok, Instr.sliceBounds, sizeOf, typeInfo, Option.map_none]
    simp [hq, add_lit]
end
theorem arr_slO {g o : Nat} {n : UInt64} {cs : List Value} {w : World} (h : Blk g cs w) (hc : ∀ j u, (nmCells n)[j]? = some u → cs[o + j]? = some u) : Holds (Sl elByte (nmBytes n)) (.slice (some ⟨g, o, none⟩) 8 8) w := by
  refine ⟨some (g, o), 8, rfl, Nat.le_refl _, (fun h => by cases h), fun p hp i x hi => ?_⟩
  cases hp
  intro j u hj
  obtain ⟨e, h2⟩ := h
  obtain ⟨rfl, rfl⟩ : j = 0 ∧ byteV x = u := by
    cases j with
    | zero => exact ⟨rfl, by simpa [elByte] using hj⟩
    | succ j => simp [elByte] at hj
  have h3 : (nmCells n)[i]? = some (byteV x) := by
    have e1 : nmCells n = (nmBytes n).map byteV := rfl
    rw [e1, List.getElem?_map, hi]; rfl
  have := hc i _ h3
  rw [cell_of_row w g _ cs.toArray e (0, 0) h2]
  simpa [elByte] using this
theorem lock_nm0 (k : GLock) : ∀ j u, (nmCells k.name)[j]? = some u → (lockCells k)[0 + j]? = some u := fun j u h => by
  rw [Nat.zero_add]
  unfold lockCells
  rw [List.getElem?_append_left (List.getElem?_eq_some_iff.1 h).1]; exact h
theorem lock_nm1 (k : GLock) : ∀ j u, (nmCells k.hash)[j]? = some u → (lockCells k)[8 + j]? = some u := fun j u h => by
  unfold lockCells
  rw [List.getElem?_append_right (show (nmCells k.name).length ≤ 8 + j from Nat.le_add_right _ _), show 8 + j - (nmCells k.name).length = j from Nat.add_sub_cancel_left _ _, List.getElem?_append_left (List.getElem?_eq_some_iff.1 h).1]; exact h
end Ex
end Go.Proofs.YtnmfiiejhoafnaaGreat
