/- Values by name; slices without room; appends; own slices whose elements are written; strings. -/
import Derived.Test.YtnmfiiejhoafnaaHsh
namespace Go.Proofs.Ytnmfiiejhoafnaa
namespace Ex
open Go Calm Go.RowKit

/-! ### values by name -/
theorem nameV {F : Fct} {x : Value} {w : World} (h : Holds F x w) : ∃ v, Holds (Is v) x w ∧ Holds F v w := ⟨x, rfl, h⟩
theorem unV {F : Fct} {x v : Value} {w w' : World} (h : Holds (Is v) x w) (hv : Holds F v w') : Holds F x w' := by
  have e : x = v := h
  subst e
  exact hv

section
variable {X : Reg} {pl : List Tmp × List Nat} {Fs : List Fct} {i : Nat} {d : Tmp} {ty : TypeId} {pos : String} {af : Array Edge} {g : Option (Nat × Bool)}
theorem ArgOK.val {x : Operand} {v : Value} {F : Fct} [hF : StabG F] (h : ArgOK X pl Fs i x (Is v)) (hv : Holds F v X.w0) : ArgOK X pl Fs i x F := fun ρ w hs => by
  have e : ρ x = v := h ρ w hs
  show F (ρ x) w
  rw [e]
  exact hF.up _ _ _ hs.grow hv
end

/-! ### slices without room behind their last element -/
def SlF {α : Type} (T : El α) (l : List α) : Fct := fun v w => ∃ a : Option (Nat × Nat), v = .slice (a.map fun p => ⟨p.1, p.2, none⟩) l.length l.length ∧ (a = none → l = []) ∧ ∀ p, a = some p → ∀ i x, l[i]? = some x → Cells p.1 (p.2 + i * T.size) (T.cells x) w
instance {α : Type} {T : El α} {l : List α} : StabG (SlF T l) := stabG (fun _ _ _ hg ⟨a, hv, hn, h⟩ => ⟨a, hv, hn, fun p hp i x hi => (h p hp i x hi).up hg⟩)
def OwnF {α : Type} (lo : Nat) (T : El α) (l : List α) : Fct := fun v w => Holds (OwnS lo T l) v w ∧ Holds (SlF T l) v w
instance {α : Type} {lo : Nat} {T : El α} {l : List α} : StabG (OwnF lo T l) := stabG (fun _ _ _ hg h => ⟨h.1.up hg, h.2.up hg⟩)
theorem OwnF.own {α : Type} {lo : Nat} {T : El α} {l : List α} {v : Value} {w : World} (h : Holds (OwnF lo T l) v w) : Holds (OwnS lo T l) v w := h.1
theorem SlF.sl {α : Type} {T : El α} {l : List α} {v : Value} {w : World} (h : Holds (SlF T l) v w) : Holds (Sl T l) v w := by
  obtain ⟨a, hv, hn, hc⟩ := h
  exact ⟨a, l.length, hv, Nat.le_refl _, (fun h => ⟨hn h, by rw [hn h]; rfl⟩), hc⟩
theorem own_litF {α : Type} {T : El α} {lo : Nat} {w : World} (l : List α) (hl : l.length ≤ maxLen) (h : lo ≤ w.heap.size) :
    Holds (OwnF lo T l) (.slice (some ⟨w.heap.size, 0, none⟩) l.length l.length) (w.alloc (.cells (l.flatMap T.cells).toArray T.tid)) := by
  refine ⟨own_lit l hl h, some (w.heap.size, 0), rfl, (fun h => by cases h), fun p hp i x hi j y hj => ?_⟩
  cases hp
  rw [cell_of_row _ w.heap.size _ (l.flatMap T.cells).toArray T.tid (0, 0) (heap_new w _)]
  have := flatMap_get T l i x j y hi hj
  rw [show 0 + i * T.size + j = i * T.size + j by omega]
  simpa using this

section
variable {X : Reg} {pl : List Tmp × List Nat} {Fs : List Fct} {i : Nat} {d : Tmp} {ty : TypeId} {pos : String} {af : Array Edge} {g : Option (Nat × Bool)}
theorem ArgOK.ownf {α : Type} {x : Operand} {lo : Nat} {T : El α} {l : List α} (h : ArgOK X pl Fs i x (OwnF lo T l)) : ArgOK X pl Fs i x (OwnS lo T l) := h.imp fun _ _ => OwnF.own
theorem ArgOK.flf {α : Type} {x : Operand} {lo : Nat} {T : El α} {l : List α} (h : ArgOK X pl Fs i x (OwnF lo T l)) : ArgOK X pl Fs i x (SlF T l) := h.imp fun _ _ hh => hh.2
theorem ArgOK.fsl {α : Type} {x : Operand} {T : El α} {l : List α} (h : ArgOK X pl Fs i x (SlF T l)) : ArgOK X pl Fs i x (Sl T l) := h.imp fun _ _ => SlF.sl
theorem ob_litF {α : Type} {T : El α} {o : Op} (l : List α) (hl : l.length ≤ maxLen)
    (h : ∀ ρ w, Sit X pl Fs i ρ w → (execOp ρ ⟨some d, o, ty, pos, af, g⟩).run Try.prog w = .ok (.value (.slice (some ⟨w.heap.size, 0, none⟩) l.length l.length)) (w.alloc (.cells (l.flatMap T.cells).toArray T.tid))) :
    Ob X pl Fs i ⟨some d, o, ty, pos, af, g⟩ (OwnF X.lo T l) := by
  refine ob_val ?_
  intro ρ w hs
  exact ⟨_, _, h ρ w hs, Grow.alloc w _, own_litF l hl (lo_le hs)⟩

theorem run_bs_byte0 (w : World) : (Instr.buildSlice 34 0 #[]).run Try.prog w = .ok (.slice (some ⟨w.heap.size, 0, none⟩) 0 0) (w.alloc (.cells #[] 5)) := by kernel_rfl
theorem run_bs_nm0 (w : World) : (Instr.buildSlice 39 0 #[]).run Try.prog w = .ok (.slice (some ⟨w.heap.size, 0, none⟩) 0 0) (w.alloc (.cells #[] 23)) := by kernel_rfl
theorem run_bs_byte1 (a : UInt8) (w : World) : (Instr.buildSlice 34 1 #[(0, byteV a)]).run Try.prog w = .ok (.slice (some ⟨w.heap.size, 0, none⟩) 1 1) (w.alloc (.cells #[byteV a] 5)) := by kernel_rfl
theorem run_bs_byte2 (a b : UInt8) (w : World) : (Instr.buildSlice 34 2 #[(0, byteV a), (1, byteV b)]).run Try.prog w = .ok (.slice (some ⟨w.heap.size, 0, none⟩) 2 2) (w.alloc (.cells #[byteV a, byteV b] 5)) := by kernel_rfl
theorem run_bs_byte11 (b0 b1 b2 b3 b4 b5 b6 b7 b8 b9 b10 : UInt8) (w : World) : (Instr.buildSlice 34 11 #[(0, byteV b0), (1, byteV b1), (2, byteV b2), (3, byteV b3), (4, byteV b4), (5, byteV b5), (6, byteV b6), (7, byteV b7), (8, byteV b8), (9, byteV b9), (10, byteV b10)]).run Try.prog w =
    .ok (.slice (some ⟨w.heap.size, 0, none⟩) 11 11) (w.alloc (.cells #[byteV b0, byteV b1, byteV b2, byteV b3, byteV b4, byteV b5, byteV b6, byteV b7, byteV b8, byteV b9, byteV b10] 5)) := by kernel_rfl
theorem run_bs_nm1 (n : UInt64) (w : World) : (Instr.buildSlice 39 1 #[(0, nmV n)]).run Try.prog w = .ok (.slice (some ⟨w.heap.size, 0, none⟩) 1 1) (w.alloc (.cells (nmCells n).toArray 23)) := by kernel_rfl
theorem ob_bs0_byte : Ob X pl Fs i ⟨some d, .buildSlice 34 0 #[], ty, pos, af, g⟩ (OwnF X.lo elByte []) := by
  refine ob_litF (T := elByte) [] (by decide) ?_
  intro ρ w hs
  unfold execOp
  refine exec_v _ _ _ _ _ ?_
  simp only [List.map_toArray, List.map_nil]
  rw [run_bs_byte0]
  rfl
theorem ob_bs0_nm : Ob X pl Fs i ⟨some d, .buildSlice 39 0 #[], ty, pos, af, g⟩ (OwnF X.lo elNm []) := by
  refine ob_litF (T := elNm) [] (by decide) ?_
  intro ρ w hs
  unfold execOp
  refine exec_v _ _ _ _ _ ?_
  simp only [List.map_toArray, List.map_nil]
  rw [run_bs_nm0]
  rfl
theorem ob_bs1_byte {x : Operand} {a : UInt8} (hx : ArgOK X pl Fs i x (Is (byteV a))) : Ob X pl Fs i ⟨some d, .buildSlice 34 1 #[(0, x)], ty, pos, af, g⟩ (OwnF X.lo elByte [a]) := by
  refine ob_litF (T := elByte) [a] (by show 1 ≤ maxLen; decide) ?_
  intro ρ w hs
  have e0 : ρ x = byteV a := hx ρ w hs
  unfold execOp
  refine exec_v _ _ _ _ _ ?_
  simp only [List.map_toArray, List.map_cons, List.map_nil, e0]
  rw [run_bs_byte1]
  rfl
theorem ob_bs2_byte {x y : Operand} {a b : UInt8} (hx : ArgOK X pl Fs i x (Is (byteV a))) (hy : ArgOK X pl Fs i y (Is (byteV b))) : Ob X pl Fs i ⟨some d, .buildSlice 34 2 #[(0, x), (1, y)], ty, pos, af, g⟩ (OwnF X.lo elByte [a, b]) := by
  refine ob_litF (T := elByte) [a, b] (by show 2 ≤ maxLen; decide) ?_
  intro ρ w hs
  have e0 : ρ x = byteV a := hx ρ w hs
  have e1 : ρ y = byteV b := hy ρ w hs
  unfold execOp
  refine exec_v _ _ _ _ _ ?_
  simp only [List.map_toArray, List.map_cons, List.map_nil, e0, e1]
  rw [run_bs_byte2]
  rfl
theorem ob_bs1_nm {x : Operand} {n : UInt64} (hx : ArgOK X pl Fs i x (Is (nmV n))) : Ob X pl Fs i ⟨some d, .buildSlice 39 1 #[(0, x)], ty, pos, af, g⟩ (OwnF X.lo elNm [n]) := by
  refine ob_litF (T := elNm) [n] (by show 1 ≤ maxLen; decide) ?_
  intro ρ w hs
  have e0 : ρ x = nmV n := hx ρ w hs
  unfold execOp
  refine exec_v _ _ _ _ _ ?_
  simp only [List.map_toArray, List.map_cons, List.map_nil, e0]
  rw [run_bs_nm1]
  simp [elNm]
theorem ob_bs11_byte {x0 x1 x2 x3 x4 x5 x6 x7 x8 x9 x10 : Operand} {b0 b1 b2 b3 b4 b5 b6 b7 b8 b9 b10 : UInt8} (h0 : ArgOK X pl Fs i x0 (Is (byteV b0))) (h1 : ArgOK X pl Fs i x1 (Is (byteV b1))) (h2 : ArgOK X pl Fs i x2 (Is (byteV b2))) (h3 : ArgOK X pl Fs i x3 (Is (byteV b3))) (h4 : ArgOK X pl Fs i x4 (Is (byteV b4)))
    (h5 : ArgOK X pl Fs i x5 (Is (byteV b5))) (h6 : ArgOK X pl Fs i x6 (Is (byteV b6))) (h7 : ArgOK X pl Fs i x7 (Is (byteV b7))) (h8 : ArgOK X pl Fs i x8 (Is (byteV b8))) (h9 : ArgOK X pl Fs i x9 (Is (byteV b9))) (h10 : ArgOK X pl Fs i x10 (Is (byteV b10))) :
    Ob X pl Fs i ⟨some d, .buildSlice 34 11 #[(0, x0), (1, x1), (2, x2), (3, x3), (4, x4), (5, x5), (6, x6), (7, x7), (8, x8), (9, x9), (10, x10)], ty, pos, af, g⟩ (OwnF X.lo elByte [b0, b1, b2, b3, b4, b5, b6, b7, b8, b9, b10]) := by
  refine ob_litF (T := elByte) [b0, b1, b2, b3, b4, b5, b6, b7, b8, b9, b10] (by show 11 ≤ maxLen; decide) ?_
  intro ρ w hs
  have e0 : ρ x0 = byteV b0 := h0 ρ w hs
  have e1 : ρ x1 = byteV b1 := h1 ρ w hs
  have e2 : ρ x2 = byteV b2 := h2 ρ w hs
  have e3 : ρ x3 = byteV b3 := h3 ρ w hs
  have e4 : ρ x4 = byteV b4 := h4 ρ w hs
  have e5 : ρ x5 = byteV b5 := h5 ρ w hs
  have e6 : ρ x6 = byteV b6 := h6 ρ w hs
  have e7 : ρ x7 = byteV b7 := h7 ρ w hs
  have e8 : ρ x8 = byteV b8 := h8 ρ w hs
  have e9 : ρ x9 = byteV b9 := h9 ρ w hs
  have e10 : ρ x10 = byteV b10 := h10 ρ w hs
  unfold execOp
  refine exec_v _ _ _ _ _ ?_
  simp only [List.map_toArray, List.map_cons, List.map_nil, e0, e1, e2, e3, e4, e5, e6, e7, e8, e9, e10]
  rw [run_bs_byte11]
  rfl

/-- all of an array as a slice, without room -/
theorem ob_slice_nmF {x : Operand} {n : UInt64} (hx : ArgOK X pl Fs i x (PtrC (nmCells n))) : Ob X pl Fs i ⟨some d, .slice 23 x none none none, ty, pos, af, g⟩ (SlF elByte (nmBytes n)) := by
  refine ob_same ?_
  intro ρ w hs
  obtain ⟨b, o, h1, h2⟩ := hx ρ w hs
  refine ⟨.slice (some ⟨b, o, none⟩) 8 8, ?_, some (b, o), rfl, (fun h => by cases h), fun p hp i y hi j u hj => ?_⟩
  · unfold execOp
    refine exec_v _ _ _ _ _ ?_
    unfold Instr.sliceAt
    have hz : (Try.prog.info? 5).map (·.size) = some 1 := szByte
    cases hq : Try.prog.info? 5 with
    | none => rw [hq] at hz; cases hz
    | some inf =>
      rw [Sem.run_bind, run_underlying undNm, Result.andThen_ok]
      simp only [h1, Instr.sureAddr, Sem.run_bind, Sem.run_pure, Result.andThen_ok, Instr.sliceBounds, sizeOf, typeInfo, Option.map_none]
      simp [hq, add_lit]
  · cases hp
    have h3 := nmBytes_cell n i y hi
    simp [elByte] at hj
    obtain ⟨hj0, rfl⟩ : j = 0 ∧ byteV y = u := by
      cases j with
      | zero => exact ⟨rfl, by simpa using hj⟩
      | succ j => simp at hj
    have := h2 i _ h3
    simpa [elByte, hj0] using this
end

/-! cut at its end: no room is left -/
section
variable {X : Reg} {pl : List Tmp × List Nat} {Fs : List Fct} {i : Nat} {d : Tmp} {ty : TypeId} {pos : String} {af : Array Edge} {g : Option (Nat × Bool)}
theorem ob_slice_full {α : Type} {T : El α} {t : TypeId} {x y y2 : Operand} {k : Nat} {l : List α} {z z2 : Int} {ik ik2 : IntKind} (hx : ArgOK X pl Fs i x (Sl T l)) (hy : ArgOK X pl Fs i y (Is (.int ik z))) (hy2 : ArgOK X pl Fs i y2 (Is (.int ik2 z2))) (hz : z = (k : Int) ∧ z2 = (k : Int)) (hk : k ≤ l.length)
    (hu : Try.prog.underlying t = some (.slice T.tid)) (hn : (Try.prog.info? T.tid).map (·.size) = some T.size) :
    Ob X pl Fs i ⟨some d, .slice t x none (some y) (some y2), ty, pos, af, g⟩ (SlF T (l.take k)) := by
  refine ob_same ?_
  intro ρ w hs
  obtain ⟨a, c, h1, hlc, h2, h4⟩ := hx ρ w hs
  have h3 : ρ y = .int ik z := hy ρ w hs
  have h3b : ρ y2 = .int ik2 z2 := hy2 ρ w hs
  obtain ⟨rfl, rfl⟩ := hz
  have hu' : Try.prog.underlying t = some (.slice (Try.prog.elem t)) := by rw [elem_of hu]; exact hu
  have hlen : (l.take k).length = k := by rw [List.length_take]; omega
  have hsl : Holds (SlF T (l.take k)) (sliced (a.map fun p => ⟨p.1, p.2, none⟩) 0 k k T.size) w := by
    refine ⟨a, ?_, fun ha => by rw [(h2 ha).1]; simp, fun p hp i x hi => ?_⟩
    · rw [hlen]
      cases a <;> simp [sliced, add_lit]
    · rw [List.getElem?_take] at hi
      split at hi
      · exact h4 p hp i x hi
      · cases hi
  refine ⟨_, ?_, hsl⟩
  unfold execOp
  refine exec_v _ _ _ _ _ ?_
  simp only [h1, h3, h3b, Option.map_some, Option.map_none]
  rw [run_sliceAt_slice w t _ _ _ _ hu', run_slice_hm w t _ _ _ hu' ik ik2 (k : Int) (k : Int) (by omega) (by omega) (by omega), elem_of hu, sizeOf_run hn]
  rfl
end

/-! ### appends that write nothing -/
theorem run_app_new {α : Type} {T : El α} {inf : TypeInfo} {z : α} (E : ElP T inf z) {t : TypeId} (ht : Try.prog.underlying t = some (.slice T.tid)) {ty : TypeId} {lo : Nat} {l m : List α} {v x : Value} {w : World} (hv : Holds (SlF T l) v w) (hx : Holds (Sl T m) x w)
    (hm : m ≠ []) (h63 : l.length + m.length ≤ maxLen) (hbytes : (l.length + m.length) * T.bytes ≤ 140737488355328) (hlo : lo ≤ w.heap.size) :
    ∃ v' w', (Builtin.append_ #[t, t] ty #[v, x]).run Try.prog w = .ok v' w' ∧ Holds (OwnS lo T (l ++ m)) v' w' ∧ Grow w w' := by
  obtain ⟨a0, rfl, hn0, hcells0⟩ := hv
  cases a0 with
  | none =>
    obtain rfl := hn0 rfl
    obtain ⟨v', w', h1, h2, h3⟩ := append_any E ht (ty := ty) (l := []) (lo := lo) (w := w) (v := .slice none 0 0) own_nil hx h63 hbytes hlo
    exact ⟨v', w', h1, h2, ⟨h3.os, h3.tape, h3.output, h3.size, fun k hk => h3.block k hk (by simp [Value.ownBlock])⟩⟩
  | some q =>
  obtain ⟨b, o⟩ := q
  have hcells := hcells0 (b, o) rfl
  obtain ⟨a, c, rfl, hc, hn, hcells2⟩ := hx
  have hml : 0 < m.length := List.length_pos_iff.2 hm
  cases a with
  | none => exact absurd (hn rfl).1 hm
  | some p =>
    have hz : (El.val T z).cells.size = T.size := by rw [E.hzcells]; simp [T.len]
    have hfit : Builtin.nextslicecap (l.length + m.length) l.length * inf.bytes ≤ 281474976710656 := growslice_fits (by omega) (by rw [E.hbytes]; exact hbytes)
    have hr := run_append_grow (P := Try.prog) w t ty T.tid inf (El.val T z) ht E.hinfo E.hzero ⟨b, o, none⟩ l.length l.length (l.flatMap T.cells) (by rw [flatMap_len, E.hsize])
      (fun j u hj => by rw [add_lit]; exact sl_cells hcells j u hj) ⟨p.1, p.2, none⟩ m.length c (m.flatMap T.cells) (by rw [flatMap_len, E.hsize]) (fun j u hj => by rw [add_lit]; exact sl_cells (hcells2 p rfl) j u hj) (by omega) (by simp [maxLen] at h63; omega) hfit
    refine ⟨_, _, hr, ?_, ⟨rfl, rfl, rfl, by simp, fun k hk => Below.heap_alloc w.drew _ k hk⟩⟩
    have hge := grownCap_ge w (l.length + m.length) l.length T.tid
    have hcm := grownCap_le_maxLen w (l.length + m.length) l.length T.tid h63
    generalize grownCap w (l.length + m.length) l.length T.tid = cp at *
    show World.ownsRow _ lo T.tid T.size _ (l ++ m).length ((l ++ m).flatMap T.cells)
    refine ⟨flatMap_len T (l ++ m), .inr ⟨w.heap.size, cp, _, by rw [List.length_append], hlo, heap_alloc_new w.drew _, by rw [List.length_append]; exact hge, hcm, ?_, ?_⟩⟩
    · have e1 : l.length + m.length + (cp - (l.length + m.length)) = cp := by omega
      have e2 : ((l.flatMap T.cells).toArray ++ (m.flatMap T.cells).toArray ++ Builtin.zeroCells (El.val T z).cells (cp - (l.length + m.length))).size = (l.length + m.length + (cp - (l.length + m.length))) * T.size := by
        rw [Array.size_append, Array.size_append, List.size_toArray, List.size_toArray, size_zeroCells, hz, flatMap_len, flatMap_len, Nat.add_mul, Nat.add_mul]
      rw [e1] at e2
      exact e2
    · simp only [Array.toList_append, List.append_assoc, List.flatMap_append, List.length_append]
      rw [← List.append_assoc]
      have e : (l.length + m.length) * T.size = (l.flatMap T.cells ++ m.flatMap T.cells).length := by rw [List.length_append, flatMap_len, flatMap_len, Nat.add_mul]
      rw [e]
      exact List.take_left
theorem run_app_fresh {α : Type} {T : El α} {inf : TypeInfo} {z : α} (E : ElP T inf z) {t : TypeId} (ht : Try.prog.underlying t = some (.slice T.tid)) {ty : TypeId} {lo : Nat} {l m : List α} {v x : Value} {w : World} (hv : Holds (OwnF lo T l) v w) (hx : Holds (Sl T m) x w)
    (h63 : l.length + m.length ≤ maxLen) (hbytes : (l.length + m.length) * T.bytes ≤ 140737488355328) (hlo : lo ≤ w.heap.size) :
    ∃ v' w', (Builtin.append_ #[t, t] ty #[v, x]).run Try.prog w = .ok v' w' ∧ Holds (OwnS lo T (l ++ m)) v' w' ∧ Grow w w' := by
  by_cases hm : m = []
  · subst hm
    obtain ⟨b, rfl, _⟩ := hv.2
    obtain ⟨a, c, rfl, hc, hn, _⟩ := hx
    refine ⟨_, w, ?_, by rw [List.append_nil]; exact hv.1, Grow.refl w⟩
    have hi := E.hinfo
    cases b <;> cases a with
    | none =>
      obtain ⟨_, rfl⟩ := hn rfl
      simp [Builtin.append_, run_underlying ht, sizeOf, typeInfo, hi, Builtin.lenOf, Builtin.firstCells, storeCells]
    | some p => simp [Builtin.append_, run_underlying ht, sizeOf, typeInfo, hi, Builtin.lenOf, Builtin.firstCells, storeCells, loadCells, loadCellsFrom]
  · exact run_app_new E ht hv.2 hx hm h63 hbytes hlo

section
variable {X : Reg} {pl : List Tmp × List Nat} {Fs : List Fct} {i : Nat} {d : Tmp} {ty : TypeId} {pos : String} {af : Array Edge} {g : Option (Nat × Bool)}
theorem exec_append {s x : Operand} {t : TypeId} {ρ : Operand → Value} {v' : Value} {w w' : World} (h : (Builtin.append_ #[t, t] ty #[ρ s, ρ x]).run Try.prog w = .ok v' w') :
    (execOp ρ ⟨some d, .call { callee := .builtin .append, args := #[s, x], argTypes := #[t, t] }, ty, pos, af, g⟩).run Try.prog w = .ok (.value v') w' := by
  unfold execOp
  simp [resolve, invoke, builtin, h, Result.andThen]
theorem ob_append_new {α : Type} {T : El α} {inf : TypeInfo} {z : α} (E : ElP T inf z) {s x : Operand} {t : TypeId} {l m : List α} (ht : Try.prog.underlying t = some (.slice T.tid)) (hs : ArgOK X pl Fs i s (SlF T l)) (hx : ArgOK X pl Fs i x (Sl T m))
    (h : m ≠ [] ∧ l.length + m.length ≤ 17592186044416 ∧ (l.length + m.length) * T.bytes ≤ 140737488355328) :
    Ob X pl Fs i ⟨some d, .call { callee := .builtin .append, args := #[s, x], argTypes := #[t, t] }, ty, pos, af, g⟩ (OwnS X.lo T (l ++ m)) := by
  refine ob_val ?_
  intro ρ w hsit
  obtain ⟨v', w', h1, h2, h3⟩ := run_app_new E ht (ty := ty) (hs ρ w hsit) (hx ρ w hsit) h.1 (by have := h.2.1; simp only [maxLen]; omega) h.2.2 (lo_le hsit)
  exact ⟨v', w', exec_append h1, h3, h2⟩
theorem ob_append_fresh {α : Type} {T : El α} {inf : TypeInfo} {z : α} (E : ElP T inf z) {s x : Operand} {t : TypeId} {l m : List α} (ht : Try.prog.underlying t = some (.slice T.tid)) (hs : ArgOK X pl Fs i s (OwnF X.lo T l)) (hx : ArgOK X pl Fs i x (Sl T m))
    (h : l.length + m.length ≤ 140737488355328 ∧ (l.length + m.length) * T.bytes ≤ 140737488355328) :
    Ob X pl Fs i ⟨some d, .call { callee := .builtin .append, args := #[s, x], argTypes := #[t, t] }, ty, pos, af, g⟩ (OwnS X.lo T (l ++ m)) := by
  refine ob_val ?_
  intro ρ w hsit
  obtain ⟨v', w', h1, h2, h3⟩ := run_app_fresh E ht (ty := ty) (hs ρ w hsit) (hx ρ w hsit) (by have := h.1; simp only [maxLen]; omega) h.2 (lo_le hsit)
  exact ⟨v', w', exec_append h1, h3, h2⟩
/-- an append onto what the region itself has made -/
theorem ob_appendC {α : Type} {T : El α} {inf : TypeInfo} {z : α} (E : ElP T inf z) {s x : Operand} {t : TypeId} {l m : List α} (hX : X.w0.heap.size ≤ X.lo) (ht : Try.prog.underlying t = some (.slice T.tid)) (hs : ArgOK X pl Fs i s (OwnS X.lo T l)) (hx : ArgOK X pl Fs i x (Sl T m))
    (h : l.length + m.length ≤ 140737488355328 ∧ (l.length + m.length) * T.bytes ≤ 140737488355328) :
    ObC X pl Fs i ⟨some d, .call { callee := .builtin .append, args := #[s, x], argTypes := #[t, t] }, ty, pos, af, g⟩ (OwnS X.lo T (l ++ m)) := by
  constructor
  intro ρ w hsit
  have h0 := hs ρ w hsit
  obtain ⟨v', w', h1, h2, h3⟩ := append_any E ht (ty := ty) h0 (hx ρ w hsit) (by have := h.1; simp only [maxLen]; omega) h.2 (lo_le hsit)
  rw [exec_append h1]
  have h0' : w.ownsRow X.lo T.tid T.size (ρ s) l.length (l.flatMap T.cells) := h0
  exact ⟨Below.mono (grownBy_below h3 (fun k hk => (h0'.lt k hk).1) (lo_le hsit)) hX, h2⟩
end
theorem hlo_of {w ws : World} (h : ws.heap = w.heap) : ws.heap.size ≤ w.heap.size := by rw [h]; exact Nat.le_refl _

/-! ### writes into rows of one element type -/
structure Wr (lo : Nat) (e : TypeId) (w w' : World) : Prop where
  below : Below lo w w'
  other : ∀ k, k < w.heap.size → (∀ cs fz, w.heap[k]? ≠ some (.cells cs e fz)) → w'.heap[k]? = w.heap[k]?
theorem Wr.refl {lo : Nat} {e : TypeId} (w : World) : Wr lo e w w := ⟨Below.refl _ _, fun _ _ _ => rfl⟩
theorem Wr.of {lo : Nat} {e : TypeId} {w w' : World} {row : Option Nat} (h : w.grownBy w' row) (hl : ∀ k, row = some k → lo ≤ k) (hw : lo ≤ w.heap.size) (ht : ∀ k, row = some k → ∃ cs fz, w.heap[k]? = some (.cells cs e fz)) : Wr lo e w w' :=
  ⟨grownBy_below h hl hw, fun k hk hn => h.block k hk fun he => by obtain ⟨cs, fz, h2⟩ := ht k he.symm; exact hn cs fz h2⟩
theorem OwnS.wr {α : Type} {lo lo' : Nat} {e : TypeId} {T : El α} {l : List α} {v : Value} {w w' : World} (h : Holds (OwnS lo T l) v w) (hw : Wr lo' e w w') (hne : (T.tid == e) = false) : Holds (OwnS lo T l) v w' := by
  have h0 : w.ownsRow lo T.tid T.size v l.length (l.flatMap T.cells) := h
  refine ⟨h0.1, ?_⟩
  rcases h0.2 with h1 | ⟨g, cap, cur, h1, h2, h3, h4⟩
  · exact .inl h1
  · refine .inr ⟨g, cap, cur, h1, h2, ?_, h4⟩
    rw [hw.other g (Array.getElem?_eq_some_iff.1 h3).1 (fun cs fz hc => ?_)]
    · exact h3
    · rw [h3] at hc
      simp only [Option.some.injEq, Obj.cells.injEq] at hc
      simp [hc.2.1] at hne
theorem OwnS.row {α : Type} {lo : Nat} {T : El α} {l : List α} {v : Value} {w : World} (h : Holds (OwnS lo T l) v w) : ∀ k, v.ownBlock = some k → ∃ cs fz, w.heap[k]? = some (.cells cs T.tid fz) := by
  have h0 : w.ownsRow lo T.tid T.size v l.length (l.flatMap T.cells) := h
  intro k hk
  rcases h0.2 with ⟨rfl, _⟩ | ⟨g, cap, cur, rfl, h2, h3, h4⟩
  · cases hk
  · simp [Value.ownBlock] at hk
    subst hk
    exact ⟨cur, _, h3⟩
theorem Blk.wr {lo g : Nat} {e : TypeId} {cs : List Value} {w w' : World} (h : Blk g cs w) (hw : Wr lo e w w') (hl : g < lo) : Blk g cs w' := h.below hw.below hl
theorem Grow.wr {lo : Nat} {e : TypeId} {a b c : World} (h : Grow a b) (hw : Wr lo e b c) (hl : a.heap.size ≤ lo) : Grow a c := h.below hw.below hl

theorem wl_appendW {α : Type} {T : El α} {inf : TypeInfo} {z : α} (E : ElP T inf z) {ops : Array Oper} {rest : List Oper} {Q : Exit → Act → World → Prop} {a : Act} {w : World} {d n : Nat} {s x : Operand} {t ty : TypeId} {pos : String} {af : Array Edge} {lo : Nat} {l m : List α}
    (ts : List Tmp) (hf : Fr n a) (hd : decide (d < n) = true) (hts : ts.contains d = false) (ht : Try.prog.underlying t = some (.slice T.tid)) (hs : Holds (OwnS lo T l) (a.eval s) w) (hx : Holds (Sl T m) (a.eval x) w)
    (h63 : l.length + m.length ≤ maxLen) (hbytes : (l.length + m.length) * T.bytes ≤ 140737488355328) (hlo : lo ≤ w.heap.size)
    (h : ∀ a' w', Fr n a' → Wr lo T.tid w w' → Keep ts a a' → Holds (OwnS lo T (l ++ m)) (a'.eval (.tmp d)) w' → wpList Try.prog ops Q rest a' w') :
    wpList Try.prog ops Q (⟨some d, .call { callee := .builtin .append, args := #[s, x], argTypes := #[t, t] }, ty, pos, af, none⟩ :: rest) a w := by
  obtain ⟨v', w', h1, h2, h3⟩ := append_any E ht (ty := ty) hs hx h63 hbytes hlo
  have h0 : w.ownsRow lo T.tid T.size (a.eval s) l.length (l.flatMap T.cells) := hs
  unfold wpList
  rw [if_pos (by simp [Region.wanted])]
  refine .inl ?_
  unfold Oper.wp
  rw [exec_append h1]
  have hd' : d < n := of_decide_eq_true hd
  refine h _ w' (fr_put hf) (Wr.of h3 (fun k hk => (h0.lt k hk).1) hlo (OwnS.row hs)) (fun u hu => eval_put_ne fun e => ?_) ?_
  · subst e; rw [hts] at hu; cases hu
  · rw [eval_put_eq hf hd']; exact h2

/-! ### elements of own slices, written -/
def elP (v : Value) (o : Nat) : Value := match v with
  | .slice (some a) _ _ => .pointer (some (a.add o))
  | _ => undef
section
variable {X : Reg} {pl : List Tmp × List Nat} {Fs : List Fct} {i : Nat} {d : Tmp} {ty : TypeId} {pos : String} {af : Array Edge} {g : Option (Nat × Bool)}
theorem ob_ixv {α : Type} {T : El α} {t : TypeId} {x y : Operand} {k : Nat} {l : List α} {z : Int} {v : Value} {ik : IntKind} (hx : ArgOK X pl Fs i x (Is v)) (hv : Holds (Sl T l) v X.w0) (hy : ArgOK X pl Fs i y (Is (.int ik z))) (hz : z = (k : Int)) (hk : k < l.length)
    (hu : Try.prog.underlying t = some (.slice T.tid)) (hn : (Try.prog.info? T.tid).map (·.size) = some T.size) :
    Ob X pl Fs i ⟨some d, .indexAddr t x y, ty, pos, af, g⟩ (Is (elP v (k * T.size))) := by
  refine ob_same ?_
  intro ρ w hs
  have h1 : ρ x = v := hx ρ w hs
  obtain ⟨a, c, h0, _, h2, h4⟩ := hv
  have h3 : ρ y = .int ik z := hy ρ w hs
  subst hz
  cases a with
  | none => have := (h2 rfl).1; subst this; simp at hk
  | some p =>
    cases hq : Try.prog.info? T.tid with
    | none => simp [hq] at hn
    | some inf =>
      have hsz : inf.size = T.size := by simpa [hq] using hn
      refine ⟨elP v (k * T.size), ?_, rfl⟩
      unfold execOp
      refine exec_v _ _ _ _ _ ?_
      have e1 : (0 : Int) ≤ (k : Int) ∧ (k : Int) < (l.length : Int) := by omega
      rw [h1, h0]
      simp only [Instr.indexAt, Sem.run_bind, h3, asIntOf, Sem.run_pure, Result.andThen_ok, run_underlying hu, Option.map_some, Instr.sureAddr, e1, and_self, if_true, sizeOf, typeInfo, elP]
      simp [hq, hsz]
end
theorem set_flat {α : Type} (T : El α) (y : α) : ∀ (l : List α) (k : Nat), k < l.length → (l.set k y).flatMap T.cells = (l.flatMap T.cells).take (k * T.size) ++ (T.cells y ++ (l.flatMap T.cells).drop (k * T.size + T.size))
  | x :: l, 0, _ => by
    simp only [List.set_cons_zero, List.flatMap_cons, Nat.zero_mul, List.take_zero, List.nil_append, Nat.zero_add]
    rw [List.drop_left' (T.len x)]
  | x :: l, k + 1, h => by
    have ih := set_flat T y l k (by simpa using h)
    simp only [List.set_cons_succ, List.flatMap_cons]
    rw [ih]
    have e1 : (k + 1) * T.size = (T.cells x).length + k * T.size := by rw [T.len, Nat.add_mul]; omega
    rw [e1, List.take_length_add_append, Nat.add_assoc, List.drop_length_add_append, List.append_assoc]
theorem wl_store_el {α : Type} {T : El α} {ops : Array Oper} {rest : List Oper} {Q : Exit → Act → World → Prop} {a : Act} {w : World} {t : TypeId} {p : Tmp} {x : Operand} {ty : TypeId} {pos : String} {af : Array Edge} {lo k : Nat} {l : List α} {y : α} {v : Value}
    (hp : Holds (Is (elP v (k * T.size))) (a.eval (.tmp p)) w) (hv : Holds (OwnS lo T l) v w) (hlo : lo ≤ w.heap.size) (hk : k < l.length) (hx : Holds (Is (El.val T y)) (a.eval x) w) (hvc : (El.val T y).cells = (T.cells y).toArray) (ht : t = T.tid) (hi : (Try.prog.info? T.tid).map (·.size) = some T.size)
    (h : ∀ w', Wr lo T.tid w w' → (∃ g, v.ownBlock = some g ∧ Only g w w') → Holds (OwnS lo T (l.set k y)) v w' → wpList Try.prog ops Q rest a w') :
    wpList Try.prog ops Q (⟨none, .store t (.tmp p) x, ty, pos, af, none⟩ :: rest) a w := by
  subst ht
  have h0 : w.ownsRow lo T.tid T.size v l.length (l.flatMap T.cells) := hv
  rcases h0.2 with ⟨_, h1⟩ | ⟨g, cap, cur, rfl, hbg, hg, hnc, hcm, hcs, htake⟩
  · omega
  have hpv : a.eval (.tmp p) = .pointer (some ⟨g, k * T.size, none⟩) := by
    have := hp
    simp only [elP, add_lit, Nat.zero_add] at this
    exact this
  have hx' : a.eval x = El.val T y := hx
  have hkc : (k + 1) * T.size ≤ cap * T.size := Nat.mul_le_mul_right _ (by omega)
  rw [Nat.add_mul, Nat.one_mul] at hkc
  cases hq : Try.prog.info? T.tid with
  | none => simp [hq] at hi
  | some inf =>
    have hs : inf.size = T.size := by simpa [hq] using hi
    have hst := run_storeCells_at Try.prog g (k * T.size) T.tid (T.cells y) 0 cur w hg (by rw [T.len, hcs]; omega) (T.one y)
    simp only [Nat.add_zero, T.len] at hst
    have hrun : (execOp a.eval ⟨none, .store T.tid (.tmp p) x, ty, pos, af, none⟩).run Try.prog w = .ok .skip (w.setRow g (cur.toList.take (k * T.size) ++ T.cells y ++ cur.toList.drop (k * T.size + T.size)).toArray) := by
      unfold execOp
      simp only [Instr.storeAt, hpv, Instr.sureAddr, Sem.run_bind, Sem.run_pure, Result.andThen_ok, storeVar, hx', sizeOf, typeInfo]
      simp [hq, hs, hvc, T.len, hst]
    unfold wpList
    rw [if_pos (by simp [Region.wanted])]
    refine .inl ?_
    unfold Oper.wp
    rw [hrun]
    have hoth : ∀ j, j ≠ g → (w.setRow g (cur.toList.take (k * T.size) ++ T.cells y ++ cur.toList.drop (k * T.size + T.size)).toArray).heap[j]? = w.heap[j]? := fun j hne => setRow_other w g j _ hne
    refine h _ ⟨setRow_below hbg, fun j _ hn => hoth j fun e => (by subst e; exact hn cur _ hg)⟩ ⟨g, rfl, setRow_below (Nat.le_refl _), fun j _ hne => hoth j hne⟩ ?_
    · show World.ownsRow _ lo T.tid T.size _ (l.set k y).length ((l.set k y).flatMap T.cells)
      refine ⟨flatMap_len T _, .inr ⟨g, cap, _, by rw [List.length_set], hbg, setRow_heap w g cur _ T.tid (0, 0) hg, by rw [List.length_set]; exact hnc, hcm, ?_, ?_⟩⟩
      · simp only [List.size_toArray, List.length_append, List.length_take, List.length_drop, Array.length_toList, T.len, hcs]
        omega
      · rw [set_flat T y l k hk, ← htake]
        have hkl : (k + 1) * T.size ≤ l.length * T.size := Nat.mul_le_mul_right _ (by omega)
        rw [Nat.add_mul, Nat.one_mul] at hkl
        have hlc : l.length * T.size ≤ cap * T.size := Nat.mul_le_mul_right _ hnc
        have hcl : cur.toList.length = cap * T.size := by rw [Array.length_toList, hcs]
        have hlen : (cur.toList.take (k * T.size) ++ T.cells y).length = k * T.size + T.size := by rw [List.length_append, List.length_take, hcl, T.len, Nat.min_eq_left (by omega)]
        have e : l.length * T.size = (cur.toList.take (k * T.size) ++ T.cells y).length + (l.length * T.size - (k * T.size + T.size)) := by rw [hlen]; omega
        rw [List.length_set, List.take_take, Nat.min_eq_left (by omega), List.drop_take]
        generalize hn : l.length * T.size - (k * T.size + T.size) = r at *
        rw [e, List.take_length_add_append, List.append_assoc]

theorem OwnS.apart {α : Type} {lo : Nat} {T : El α} {l : List α} {v u : Value} {w w' : World} (h : Holds (OwnS lo T l) v w) (ho : ∃ g, u.ownBlock = some g ∧ Only g w w') (hlt : ∀ g, u.ownBlock = some g → g < lo) : Holds (OwnS lo T l) v w' := by
  obtain ⟨g, hg, ho⟩ := ho
  exact OwnS.only h ho (hlt g hg)
theorem wl_store_elNm {ops : Array Oper} {rest : List Oper} {Q : Exit → Act → World → Prop} {a : Act} {w : World} {p : Tmp} {x : Operand} {ty : TypeId} {pos : String} {af : Array Edge} {lo k : Nat} {l : List UInt64} {y : UInt64} {v : Value}
    (hp : Holds (Is (elP v (k * elNm.size))) (a.eval (.tmp p)) w) (hv : Holds (OwnS lo elNm l) v w) (hlo : lo ≤ w.heap.size) (hk : k < l.length) (hx : Holds (Is (nmV y)) (a.eval x) w)
    (h : ∀ w', Wr lo 23 w w' → (∃ g, v.ownBlock = some g ∧ Only g w w') → Holds (OwnS lo elNm (l.set k y)) v w' → wpList Try.prog ops Q rest a w') :
    wpList Try.prog ops Q (⟨none, .store 23 (.tmp p) x, ty, pos, af, none⟩ :: rest) a w :=
  wl_store_el (T := elNm) hp hv hlo hk hx rfl rfl szNm h
/-- a row of zeros -/
theorem made_flat {α : Type} {T : El α} {z : α} (hz : (El.val T z).cells = (T.cells z).toArray) : ∀ n : Nat, (madeCells (El.val T z).cells (n * T.size)).toList = (List.replicate n z).flatMap T.cells := by
  intro n
  apply List.ext_getElem?
  intro j
  by_cases hj : j < n * T.size
  · have hq : j / T.size < n := Nat.div_lt_of_lt_mul (by rw [Nat.mul_comm]; exact hj)
    have hm : j % T.size < T.size := Nat.mod_lt _ T.pos
    have hlt : j % T.size < (T.cells z).length := by rw [T.len]; exact hm
    have h1 := flatMap_get T (List.replicate n z) (j / T.size) z (j % T.size) (T.cells z)[j % T.size] (by simp [hq]) (by simp [hlt])
    rw [Nat.mul_comm, Nat.div_add_mod] at h1
    rw [h1, hz]
    simp [madeCells, hj, T.len]
    rw [List.getElem?_eq_getElem hlt]
    rfl
  · rw [List.getElem?_eq_none (by rw [Array.length_toList, size_madeCells]; omega), List.getElem?_eq_none (by rw [flatMap_len, List.length_replicate]; omega)]
section
variable {X : Reg} {pl : List Tmp × List Nat} {Fs : List Fct} {i : Nat} {d : Tmp} {ty : TypeId} {pos : String} {af : Array Edge} {g : Option (Nat × Bool)}
theorem ob_makeN {α : Type} {T : El α} {inf : TypeInfo} {z : α} (E : ElP T inf z) {t : TypeId} {x y : Operand} {c : Nat} (ht : Try.prog.underlying t = some (.slice T.tid)) (hx : ArgOK X pl Fs i x (Is (intV c))) (hy : ArgOK X pl Fs i y (Is (intV c)))
    (hc : T.bytes * c ≤ 281474976710656 ∧ c ≤ maxLen) : Ob X pl Fs i ⟨some d, .makeSlice t x y, ty, pos, af, g⟩ (OwnS X.lo T (List.replicate c z)) := by
  refine ob_val ?_
  intro ρ w hs
  have e0 : ρ x = intV c := hx ρ w hs
  have e1 : ρ y = intV c := hy ρ w hs
  obtain ⟨w', h1, h2, h3⟩ := run_make_full (P := Try.prog) w X.lo t T.tid inf (El.val T z) T.size ht E.hinfo E.hzero E.hsize .i64 .i64 c (by rw [E.hbytes]; exact hc.1) hc.2 (lo_le hs)
  refine ⟨.slice (some ⟨w.heap.size, 0, none⟩) c c, w', ?_, grownBy_below h3 (fun k hk => by cases hk) (Nat.le_refl _), ?_⟩
  · unfold execOp
    refine exec_v _ _ _ _ _ ?_
    rw [e0, e1]
    exact h1
  · show World.ownsRow _ X.lo T.tid T.size _ (List.replicate c z).length ((List.replicate c z).flatMap T.cells)
    rw [List.length_replicate, ← made_flat E.hzcells]
    exact h2
end

/-! ### arrays of sixteen bytes -/
theorem und16 : Try.prog.underlying 120 = some (.array 16 5) := by kernel_rfl
theorem arr_cells {g : Nat} {l : List UInt8} {w : World} (h : Blk g (l.map byteV) w) (k : Nat) : ∀ i x, (l.drop k)[i]? = some x → Cells g (k + i * elByte.size) (elByte.cells x) w := by
  intro i x hi j u hj
  obtain ⟨e, h2⟩ := h
  obtain ⟨rfl, rfl⟩ : j = 0 ∧ byteV x = u := by
    cases j with
    | zero => exact ⟨rfl, by simpa [elByte] using hj⟩
    | succ j => simp [elByte] at hj
  rw [List.getElem?_drop] at hi
  rw [cell_of_row w g _ _ e (0, 0) h2]
  simp [elByte, hi]
theorem arr_sl {g : Nat} {n : UInt64} {w : World} (h : Blk g (nmCells n) w) : Holds (Sl elByte (nmBytes n)) (.slice (some ⟨g, 0, none⟩) 8 8) w :=
  ⟨some (g, 0), 8, rfl, Nat.le_refl _, (fun h => by cases h), fun p hp i x hi => by cases hp; exact arr_cells (l := nmBytes n) h 0 i x hi⟩
section
variable {X : Reg} {pl : List Tmp × List Nat} {Fs : List Fct} {i : Nat} {d : Tmp} {ty : TypeId} {pos : String} {af : Array Edge} {g : Option (Nat × Bool)}
theorem ob_alloc_b16 : Ob X pl Fs i ⟨some d, .alloc 120, ty, pos, af, g⟩ (OwnB X.lo ((List.replicate 16 (0 : UInt8)).map byteV)) := by
  refine ob_alloc (z := .agg ((List.replicate 16 (0 : UInt8)).map byteV).toArray) ?_ ?_
  · kernel_rfl
  · rfl
theorem run_slice16 {b : Nat} (w : World) : (Instr.sliceAt 120 (.pointer (some ⟨b, 0, none⟩)) none none none).run Try.prog w = .ok (.slice (some ⟨b, 0, none⟩) 16 16) w := by
  unfold Instr.sliceAt
  have hz : (Try.prog.info? 5).map (·.size) = some 1 := szByte
  cases hq : Try.prog.info? 5 with
  | none => rw [hq] at hz; cases hz
  | some inf =>
    rw [Sem.run_bind, run_underlying und16, Result.andThen_ok]
    simp only [Instr.sureAddr, Sem.run_bind, Sem.run_pure, Result.andThen_ok, Instr.sliceBounds, sizeOf, typeInfo]
    simp [hq, add_lit]
theorem run_slice16b {b : Nat} (w : World) : (Instr.sliceAt 120 (.pointer (some ⟨b, 0, none⟩)) (some (.int .i64 8)) none none).run Try.prog w = .ok (.slice (some ⟨b, 8, none⟩) 8 8) w := by
  unfold Instr.sliceAt
  have hz : (Try.prog.info? 5).map (·.size) = some 1 := szByte
  cases hq : Try.prog.info? 5 with
  | none => rw [hq] at hz; cases hz
  | some inf =>
    have hsz : inf.size = 1 := by simpa [hq] using hz
    rw [Sem.run_bind, run_underlying und16, Result.andThen_ok]
    simp only [Instr.sureAddr, Sem.run_bind, Sem.run_pure, Result.andThen_ok, Instr.sliceBounds, sizeOf, typeInfo]
    simp [hq, add_lit, asIntOf, hsz, Instr.sliceBounds, Instr.sliceBound, Result.andThen]
theorem ob_slice16 {x : Operand} {b : Nat} {l : List UInt8} (hx : ArgOK X pl Fs i x (OwnP b 0 (l.map byteV))) (hl : l.length = 16) : Ob X pl Fs i ⟨some d, .slice 120 x none none none, ty, pos, af, g⟩ (SlF elByte l) := by
  refine ob_same ?_
  intro ρ w hs
  obtain ⟨h1, h2⟩ := hx ρ w hs
  refine ⟨.slice (some ⟨b, 0, none⟩) 16 16, ?_, some (b, 0), by rw [hl]; rfl, (fun h => by cases h), fun p hp i y hi => by cases hp; exact arr_cells h2 0 i y hi⟩
  unfold execOp
  refine exec_v _ _ _ _ _ ?_
  rw [h1]
  exact run_slice16 w
theorem ob_slice16_own {x : Operand} {b : Nat} {cs : List Value} (hx : ArgOK X pl Fs i x (OwnP b 0 cs)) : Ob X pl Fs i ⟨some d, .slice 120 x none none none, ty, pos, af, g⟩ (Is (.slice (some ⟨b, 0, none⟩) 16 16)) := by
  refine ob_same ?_
  intro ρ w hs
  obtain ⟨h1, h2⟩ := hx ρ w hs
  refine ⟨.slice (some ⟨b, 0, none⟩) 16 16, ?_, rfl⟩
  unfold execOp
  refine exec_v _ _ _ _ _ ?_
  rw [h1]
  exact run_slice16 w
theorem ob_slice16_own8 {x y : Operand} {b : Nat} {cs : List Value} (hx : ArgOK X pl Fs i x (OwnP b 0 cs)) (hy : ArgOK X pl Fs i y (Is (intV 8))) : Ob X pl Fs i ⟨some d, .slice 120 x (some y) none none, ty, pos, af, g⟩ (Is (.slice (some ⟨b, 8, none⟩) 8 8)) := by
  refine ob_same ?_
  intro ρ w hs
  obtain ⟨h1, h2⟩ := hx ρ w hs
  have h3 : ρ y = .int .i64 8 := hy ρ w hs
  refine ⟨.slice (some ⟨b, 8, none⟩) 8 8, ?_, rfl⟩
  unfold execOp
  refine exec_v _ _ _ _ _ ?_
  simp only [Option.map_some, Option.map_none]
  rw [h1, h3]
  exact run_slice16b w
end

/-! ### a slice whose room is known -/
def OwnC {α : Type} (lo : Nat) (T : El α) (l : List α) (c : Nat) : Fct := fun v w => Holds (OwnS lo T l) v w ∧ ∃ g cap, v = .slice (some ⟨g, 0, none⟩) l.length cap ∧ c ≤ cap
instance {α : Type} {lo : Nat} {T : El α} {l : List α} {c : Nat} : StabG (OwnC lo T l c) := stabG (fun _ _ _ hg h => ⟨h.1.up hg, h.2⟩)
theorem OwnC.own {α : Type} {lo c : Nat} {T : El α} {l : List α} {v : Value} {w : World} (h : Holds (OwnC lo T l c) v w) : Holds (OwnS lo T l) v w := h.1
section
variable {X : Reg} {pl : List Tmp × List Nat} {Fs : List Fct} {i : Nat} {d : Tmp} {ty : TypeId} {pos : String} {af : Array Edge} {g : Option (Nat × Bool)}
theorem ArgOK.ownc {α : Type} {x : Operand} {lo c : Nat} {T : El α} {l : List α} (h : ArgOK X pl Fs i x (OwnC lo T l c)) : ArgOK X pl Fs i x (OwnS lo T l) := h.imp fun _ _ => OwnC.own
theorem ob_make0C {α : Type} {T : El α} {inf : TypeInfo} {z : α} (E : ElP T inf z) {t : TypeId} {x y : Operand} {c : Nat} {n : Int} (ht : Try.prog.underlying t = some (.slice T.tid)) (hx : ArgOK X pl Fs i x (Is (intV 0))) (hy : ArgOK X pl Fs i y (Is (intV n)))
    (hc : n = (c : Int) ∧ T.bytes * c ≤ 281474976710656 ∧ c ≤ 281474976710656) : Ob X pl Fs i ⟨some d, .makeSlice t x y, ty, pos, af, g⟩ (OwnC X.lo T ([] : List α) c) := by
  refine ob_val ?_
  intro ρ w hs
  have e0 : ρ x = intV 0 := hx ρ w hs
  have e1 : ρ y = intV n := hy ρ w hs
  obtain ⟨rfl, hc1, hc2⟩ := hc
  obtain ⟨w', h1, h2, h3⟩ := run_make_own (P := Try.prog) w X.lo t T.tid inf (El.val T z) T.size ht E.hinfo E.hzero E.hsize .i64 .i64 c (by rw [E.hbytes]; exact hc1) (by simp only [maxLen]; omega) (lo_le hs)
  refine ⟨_, w', ?_, grownBy_below h3 (fun k hk => by cases hk) (Nat.le_refl _), h2, w.heap.size, c, rfl, Nat.le_refl _⟩
  unfold execOp
  refine exec_v _ _ _ _ _ ?_
  rw [e0, e1]
  exact h1
end
theorem wl_appendC {α : Type} {T : El α} {inf : TypeInfo} {z : α} (E : ElP T inf z) {ops : Array Oper} {rest : List Oper} {Q : Exit → Act → World → Prop} {a : Act} {w : World} {d n c : Nat} {s x : Operand} {t ty : TypeId} {pos : String} {af : Array Edge} {lo : Nat} {l m : List α}
    (ts : List Tmp) (hf : Fr n a) (hd : decide (d < n) = true) (hts : ts.contains d = false) (ht : Try.prog.underlying t = some (.slice T.tid)) (hs : Holds (OwnC lo T l c) (a.eval s) w) (hx : Holds (Sl T m) (a.eval x) w)
    (hroom : l.length + m.length ≤ c) (hlo : lo ≤ w.heap.size)
    (h : ∀ a' w', Fr n a' → Wr lo T.tid w w' → Keep ts a a' → Holds (OwnC lo T (l ++ m) c) (a'.eval (.tmp d)) w' → wpList Try.prog ops Q rest a' w') :
    wpList Try.prog ops Q (⟨some d, .call { callee := .builtin .append, args := #[s, x], argTypes := #[t, t] }, ty, pos, af, none⟩ :: rest) a w := by
  obtain ⟨hs1, g, cap, hv, hcap⟩ := hs
  have h0 : w.ownsRow lo T.tid T.size (a.eval s) l.length (l.flatMap T.cells) := hs1
  have hd' : d < n := of_decide_eq_true hd
  obtain ⟨b, cx, hxv, hcx, hn, hcells⟩ := hx
  have key : ∃ w', (Builtin.append_ #[t, t] ty #[a.eval s, a.eval x]).run Try.prog w = .ok (.slice (some ⟨g, 0, none⟩) (l.length + m.length) cap) w' ∧ Holds (OwnS lo T (l ++ m)) (.slice (some ⟨g, 0, none⟩) (l.length + m.length) cap) w' ∧ w.grownBy w' (some g) := by
    rw [hv] at h0 ⊢
    cases b with
    | none =>
      obtain ⟨rfl, rfl⟩ := hn rfl
      refine ⟨w, ?_, ?_, rfl, rfl, rfl, Nat.le_refl _, fun _ _ _ => rfl⟩
      · rw [hxv]
        have hr := run_append_owned_none (P := Try.prog) w lo t ty T.tid inf T.size ht E.hinfo _ l.length (l.flatMap T.cells) h0
        simpa using hr
      · rw [List.append_nil]
        exact h0
    | some p =>
      have hone : ∀ u ∈ m.flatMap T.cells, u.oneCell' = true := fun u hu => by
        obtain ⟨y, _, hy⟩ := List.mem_flatMap.1 hu
        exact T.one y u hy
      obtain ⟨w', h1, h2, h3⟩ := run_append_fits (P := Try.prog) w lo t ty T.tid inf T.size ht E.hinfo E.hsize g l.length cap (l.flatMap T.cells) h0 ⟨p.1, p.2, none⟩ m.length cx (m.flatMap T.cells) (flatMap_len T m) (fun j u hj => by rw [add_lit]; exact sl_cells (hcells p rfl) j u hj) hone (by omega)
      refine ⟨w', by rw [hxv]; exact h1, ?_, h3⟩
      show w'.ownsRow lo T.tid T.size _ (l ++ m).length ((l ++ m).flatMap T.cells)
      rw [List.length_append, List.flatMap_append]
      exact h2
  obtain ⟨w', h1, h2, h3⟩ := key
  have hrow := OwnS.row hs1
  have hge := h0.lt
  rw [hv] at hrow hge
  unfold wpList
  rw [if_pos (by simp [Region.wanted])]
  refine .inl ?_
  unfold Oper.wp
  rw [exec_append h1]
  refine h _ w' (fr_put hf) (Wr.of h3 (fun k hk => (hge k (by simpa [Value.ownBlock] using hk)).1) hlo (fun k hk => hrow k (by simpa [Value.ownBlock] using hk))) (fun u hu => eval_put_ne fun e => ?_) ?_
  · subst e; rw [hts] at hu; cases hu
  · rw [eval_put_eq hf hd']
    exact ⟨h2, g, cap, by rw [List.length_append], hcap⟩

/-! ### strings -/
section
variable {X : Reg} {pl : List Tmp × List Nat} {Fs : List Fct} {i : Nat} {d : Tmp} {ty : TypeId} {pos : String} {af : Array Edge} {g : Option (Nat × Bool)}
theorem ob_remu {t yt : TypeId} {x y : Operand} {m n : UInt64} (hx : ArgOK X pl Fs i x (Is (u64V m))) (hy : ArgOK X pl Fs i y (Is (u64V n))) (hn : n.toNat ≠ 0) :
    Ob X pl Fs i ⟨some d, .binOp .rem t x y yt, ty, pos, af, g⟩ (Is (u64V (m % n))) := ob_int hx hy fun w => by
  have h1 : ((n.toNat : Nat) : Int) ≠ 0 := by omega
  have h2 : (m.toNat : Int).tmod (n.toNat : Int) = ((m % n).toNat : Int) := by
    rw [Int.tmod_eq_emod_of_nonneg (by omega), UInt64.toNat_mod]
    rfl
  have h3 : IntKind.u64.wrap ((m % n).toNat : Int) = ((m % n).toNat : Int) := by
    rw [u64_wrap]
    have := (m % n).toNat_lt
    omega
  have key : ∀ (M N R : Int), N ≠ 0 → M.tmod N = R → IntKind.u64.wrap R = R → (binOp .rem t (.int .u64 M) (.int .u64 N)).run Try.prog w = .ok (.int .u64 R) w := by
    intro M N R g1 g2 g3
    simp [binOp, Op.intDiv, g1, g2, g3]
  exact key _ _ _ h1 h2 h3
theorem cast_sl {α : Type} {T : El α} {l m : List α} {v : Value} {w : World} (e : l = m) (h : Holds (Sl T l) v w) : Holds (Sl T m) v w := by subst e; exact h
theorem ob_add_str {t yt : TypeId} {x y : Operand} {m n : List UInt8} (hx : ArgOK X pl Fs i x (Is (.string ⟨m.toArray⟩))) (hy : ArgOK X pl Fs i y (Is (.string ⟨n.toArray⟩))) (h : m.length + n.length ≤ 9223372036854775807) :
    Ob X pl Fs i ⟨some d, .binOp .add t x y yt, ty, pos, af, g⟩ (Is (.string ⟨(m ++ n).toArray⟩)) := by
  refine ob_same ?_
  intro ρ w hs
  have e1 : ρ x = .string ⟨m.toArray⟩ := hx ρ w hs
  have e2 : ρ y = .string ⟨n.toArray⟩ := hy ρ w hs
  refine ⟨.string ⟨(m ++ n).toArray⟩, ?_, rfl⟩
  unfold execOp
  refine exec_v _ _ _ _ _ ?_
  rw [e1, e2, Sem.run_bind, eqGuard_string, Result.andThen_ok]
  have e3 : ¬ ((((ByteArray.mk m.toArray).size + (ByteArray.mk n.toArray).size : Nat) : Int) > IntKind.i64.max) := by
    show ¬ (((m.toArray.size + n.toArray.size : Nat) : Int) > 9223372036854775807)
    simp only [List.size_toArray]
    omega
  have e4 : (ByteArray.mk m.toArray) ++ (ByteArray.mk n.toArray) = ByteArray.mk (m ++ n).toArray := by
    apply ByteArray.ext
    simp
  simp only [binOp, Op.stringOp, if_neg e3, e4]
  rfl
theorem str_eq {m n : List UInt8} : ((ByteArray.mk m.toArray).toList == (ByteArray.mk n.toArray).toList) = decide (m = n) := by
  rw [ByteArray.toList_eq, ByteArray.toList_eq]
  by_cases h : m = n <;> simp [h]
theorem ob_eql_str {t yt : TypeId} {x y : Operand} {m n : List UInt8} (hx : ArgOK X pl Fs i x (Is (.string ⟨m.toArray⟩))) (hy : ArgOK X pl Fs i y (Is (.string ⟨n.toArray⟩))) :
    Ob X pl Fs i ⟨some d, .binOp .eql t x y yt, ty, pos, af, g⟩ (Is (.bool (decide (m = n)))) := by
  refine ob_same ?_
  intro ρ w hs
  have e1 : ρ x = .string ⟨m.toArray⟩ := hx ρ w hs
  have e2 : ρ y = .string ⟨n.toArray⟩ := hy ρ w hs
  refine ⟨.bool (decide (m = n)), ?_, rfl⟩
  unfold execOp
  refine exec_v _ _ _ _ _ ?_
  rw [e1, e2, Sem.run_bind, eqGuard_string, Result.andThen_ok, ← str_eq]
  rfl
theorem ob_neq_str {t yt : TypeId} {x y : Operand} {m n : List UInt8} (hx : ArgOK X pl Fs i x (Is (.string ⟨m.toArray⟩))) (hy : ArgOK X pl Fs i y (Is (.string ⟨n.toArray⟩))) :
    Ob X pl Fs i ⟨some d, .binOp .neq t x y yt, ty, pos, af, g⟩ (Is (.bool (!decide (m = n)))) := by
  refine ob_same ?_
  intro ρ w hs
  have e1 : ρ x = .string ⟨m.toArray⟩ := hx ρ w hs
  have e2 : ρ y = .string ⟨n.toArray⟩ := hy ρ w hs
  refine ⟨.bool (!decide (m = n)), ?_, rfl⟩
  unfold execOp
  refine exec_v _ _ _ _ _ ?_
  rw [e1, e2, Sem.run_bind, eqGuard_string, Result.andThen_ok, ← str_eq]
  rfl
end
end Ex
end Go.Proofs.Ytnmfiiejhoafnaa
