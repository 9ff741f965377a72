/- Values by name; slices without room; appends; own slices whose elements are written; strings. -/
import Derived.Test.YtnmfiiejhoafnaaGreatPvHsh
set_option linter.unusedSimpArgs false
set_option linter.unusedVariables false
namespace Go.Proofs.YtnmfiiejhoafnaaGreat
namespace Ex
open Go Calm Go.RowKit
theorem nameV {F : Fct} {x : Value} {w : World} (h : Holds F x w) : ∃ v, Holds (Is v) x w ∧ Holds F v w := ⟨x, rfl, h⟩
theorem unV {F : Fct} {x v : Value} {w w' : World} (h : Holds (Is v) x w) (hv : Holds F v w') : Holds F x w' := by
  have e : x = v := h
  subst e
  exact hv
section
variable {X : Reg} {pl : List Tmp × List Nat} {Fs : List Fct} {i : Nat} {d : Tmp} {ty : TypeId} {pos : String} {af : Array Edge} {g : Option (Nat × Bool)}
theorem ArgOK.val {x : Operand} {v : Value} {F : Fct} [hF : StabG F] (h : ArgOK X pl Fs i x (Is v)) (hv : Holds F v X.w0) : ArgOK X pl Fs i x F := fun ρ w hs => by
  have e : ρ x = v := h ρ w hs
  show F (ρ x) w
  rw [e]
  exact hF.up _ _ _ hs.grow hv
end
def SlF {α : Type} (T : El α) (l : List α) : Fct := fun v w => ∃ a : Option (Nat × Nat), v = .slice (a.map fun p => ⟨p.1, p.2, none⟩) l.length l.length ∧ (a = none → l = []) ∧ ∀ p, a = some p → ∀ i x, l[i]? = some x → Cells p.1 (p.2 + i * T.size) (T.cells x) w
instance {α : Type} {T : El α} {l : List α} : StabG (SlF T l) := stabG (fun _ _ _ hg ⟨a, hv, hn, h⟩ => ⟨a, hv, hn, fun p hp i x hi => (h p hp i x hi).up hg⟩)
def OwnF {α : Type} (lo : Nat) (T : El α) (l : List α) : Fct := fun v w => Holds (OwnS lo T l) v w ∧ Holds (SlF T l) v w
instance {α : Type} {lo : Nat} {T : El α} {l : List α} : StabG (OwnF lo T l) := stabG (fun _ _ _ hg h => ⟨h.1.up hg, h.2.up hg⟩)
theorem OwnF.own {α : Type} {lo : Nat} {T : El α} {l : List α} {v : Value} {w : World} (h : Holds (OwnF lo T l) v w) : Holds (OwnS lo T l) v w := h.1
theorem SlF.sl {α : Type} {T : El α} {l : List α} {v : Value} {w : World} (h : Holds (SlF T l) v w) : Holds (Sl T l) v w := by
  obtain ⟨a, hv, hn, hc⟩ := h
  exact ⟨a, l.length, hv, Nat.le_refl _, (fun h => ⟨hn h, by rw [hn h]; rfl⟩), hc⟩
theorem own_litF {α : Type} {T : El α} {lo : Nat} {w : World} (l : List α) (hl : l.length ≤ maxLen) (h : lo ≤ w.heap.size) :
    Holds (OwnF lo T l) (.slice (some ⟨w.heap.size, 0, none⟩) l.length l.length) (w.alloc (.cells (l.flatMap T.cells).toArray T.tid)) := by
  refine ⟨own_lit l hl h, some (w.heap.size, 0), rfl, (fun h => by cases h), fun p hp i x hi j y hj => ?_⟩
  cases hp
  rw [cell_of_row _ w.heap.size _ (l.flatMap T.cells).toArray T.tid (0, 0) (heap_new w _)]
  have := flatMap_get T l i x j y hi hj
  rw [show 0 + i * T.size + j = i * T.size + j by omega]
  simpa using this
section
variable {X : Reg} {pl : List Tmp × List Nat} {Fs : List Fct} {i : Nat} {d : Tmp} {ty : TypeId} {pos : String} {af : Array Edge} {g : Option (Nat × Bool)}
theorem ArgOK.ownf {α : Type} {x : Operand} {lo : Nat} {T : El α} {l : List α} (h : ArgOK X pl Fs i x (OwnF lo T l)) : ArgOK X pl Fs i x (OwnS lo T l) := h.imp fun _ _ => OwnF.own
theorem ArgOK.fsl {α : Type} {x : Operand} {T : El α} {l : List α} (h : ArgOK X pl Fs i x (SlF T l)) : ArgOK X pl Fs i x (Sl T l) := h.imp fun _ _ => SlF.sl
theorem ob_litF {α : Type} {T : El α} {o : Op} (l : List α) (hl : l.length ≤ maxLen)
    (h : ∀ ρ w, Sit X pl Fs i ρ w → (execOp ρ ⟨some d, o, ty, pos, af, g⟩).run Tryz.prog w = .ok (.value (.slice (some ⟨w.heap.size, 0, none⟩) l.length l.length)) (w.alloc (.cells (l.flatMap T.cells).toArray T.tid))) :
    Ob X pl Fs i ⟨some d, o, ty, pos, af, g⟩ (OwnF X.lo T l) := by
  refine ob_val ?_
  intro ρ w hs
  exact ⟨_, _, h ρ w hs, Grow.alloc w _, own_litF l hl (lo_le hs)⟩
theorem run_bs_byte0 (w : World) : (Instr.buildSlice 99 0 #[]).run Tryz.prog w = .ok (.slice (some ⟨w.heap.size, 0, none⟩) 0 0) (w.alloc (.cells #[] 5)) := by kernel_rfl
theorem run_bs_nm0 (w : World) : (Instr.buildSlice 25 0 #[]).run Tryz.prog w = .ok (.slice (some ⟨w.heap.size, 0, none⟩) 0 0) (w.alloc (.cells #[] 30)) := by kernel_rfl
theorem run_bs_byte1 (a : UInt8) (w : World) : (Instr.buildSlice 99 1 #[(0, byteV a)]).run Tryz.prog w = .ok (.slice (some ⟨w.heap.size, 0, none⟩) 1 1) (w.alloc (.cells #[byteV a] 5)) := by kernel_rfl
theorem run_bs_byte2 (a b : UInt8) (w : World) : (Instr.buildSlice 99 2 #[(0, byteV a), (1, byteV b)]).run Tryz.prog w = .ok (.slice (some ⟨w.heap.size, 0, none⟩) 2 2) (w.alloc (.cells #[byteV a, byteV b] 5)) := by kernel_rfl
theorem run_bs_nm1 (n : UInt64) (w : World) : (Instr.buildSlice 25 1 #[(0, nmV n)]).run Tryz.prog w = .ok (.slice (some ⟨w.heap.size, 0, none⟩) 1 1) (w.alloc (.cells (nmCells n).toArray 30)) := by kernel_rfl
theorem ob_bs0_byte : Ob X pl Fs i ⟨some d, .buildSlice 99 0 #[], ty, pos, af, g⟩ (OwnF X.lo elByte []) := by
  refine ob_litF (T := elByte) [] (by decide) ?_
  intro ρ w hs
  unfold execOp
  refine exec_v _ _ _ _ _ ?_
  simp only [List.map_toArray, List.map_nil]
  rw [run_bs_byte0]
  rfl
theorem ob_bs0_nm : Ob X pl Fs i ⟨some d, .buildSlice 25 0 #[], ty, pos, af, g⟩ (OwnF X.lo elNm []) := by
  refine ob_litF (T := elNm) [] (by decide) ?_
  intro ρ w hs
  unfold execOp
  refine exec_v _ _ _ _ _ ?_
  simp only [List.map_toArray, List.map_nil]
  rw [run_bs_nm0]
  rfl
theorem ob_bs1_byte {x : Operand} {a : UInt8} (hx : ArgOK X pl Fs i x (Is (byteV a))) : Ob X pl Fs i ⟨some d, .buildSlice 99 1 #[(0, x)], ty, pos, af, g⟩ (OwnF X.lo elByte [a]) := by
  refine ob_litF (T := elByte) [a] (by show 1 ≤ maxLen; decide) ?_
  intro ρ w hs
  have e0 : ρ x = byteV a := hx ρ w hs
  unfold execOp
  refine exec_v _ _ _ _ _ ?_
  simp only [List.map_toArray, List.map_cons, List.map_nil, e0]
  rw [run_bs_byte1]
  rfl
theorem ob_bs2_byte {x y : Operand} {a b : UInt8} (hx : ArgOK X pl Fs i x (Is (byteV a))) (hy : ArgOK X pl Fs i y (Is (byteV b))) : Ob X pl Fs i ⟨some d, .buildSlice 99 2 #[(0, x), (1, y)], ty, pos, af, g⟩ (OwnF X.lo elByte [a, b]) := by
  refine ob_litF (T := elByte) [a, b] (by show 2 ≤ maxLen; decide) ?_
  intro ρ w hs
  have e0 : ρ x = byteV a := hx ρ w hs
  have e1 : ρ y = byteV b := hy ρ w hs
  unfold execOp
  refine exec_v _ _ _ _ _ ?_
  simp only [List.map_toArray, List.map_cons, List.map_nil, e0, e1]
  rw [run_bs_byte2]
  rfl
theorem ob_bs1_nm {x : Operand} {n : UInt64} (hx : ArgOK X pl Fs i x (Is (nmV n))) : Ob X pl Fs i ⟨some d, .buildSlice 25 1 #[(0, x)], ty, pos, af, g⟩ (OwnF X.lo elNm [n]) := by
  refine ob_litF (T := elNm) [n] (by show 1 ≤ maxLen; decide) ?_
  intro ρ w hs
  have e0 : ρ x = nmV n := hx ρ w hs
  unfold execOp
  refine exec_v _ _ _ _ _ ?_
  simp only [List.map_toArray, List.map_cons, List.map_nil, e0]
  rw [run_bs_nm1]
  simp [elNm]
theorem ob_slice_nmF {x : Operand} {n : UInt64} (hx : ArgOK X pl Fs i x (PtrC (nmCells n))) : Ob X pl Fs i ⟨some d, .slice 30 x none none none, ty, pos, af, g⟩ (SlF elByte (nmBytes n)) := by
  refine ob_same ?_
  intro ρ w hs
  obtain ⟨b, o, h1, h2⟩ := hx ρ w hs
  refine ⟨.slice (some ⟨b, o, none⟩) 8 8, ?_, some (b, o), rfl, (fun h => by cases h), fun p hp i y hi j u hj => ?_⟩
  · unfold execOp
    refine exec_v _ _ _ _ _ ?_
    unfold Instr.sliceAt
    have hz : (Tryz.prog.info? 5).map (·.size) = some 1 := szByte
    cases hq : Tryz.prog.info? 5 with
    | none => rw [hq] at hz; cases hz
    | some inf =>
      rw [Sem.run_bind, run_underlying undNm, Result.andThen_ok]
      simp only [h1, Instr.sureAddr, Sem.run_bind, Sem.run_pure, Result.andThen_ok, Instr.sliceBounds, sizeOf, typeInfo, Option.map_none]
      simp [hq, add_lit]
  · cases hp
    have h3 := nmBytes_cell n i y hi
    simp [elByte] at hj
    obtain ⟨hj0, rfl⟩ : j = 0 ∧ byteV y = u := by
      cases j with
      | zero => exact ⟨rfl, by simpa using hj⟩
      | succ j => simp at hj
    have := h2 i _ h3
    simpa [elByte, hj0] using this
end
section
variable {X : Reg} {pl : List Tmp × List Nat} {Fs : List Fct} {i : Nat} {d : Tmp} {ty : TypeId} {pos : String} {af : Array Edge} {g : Option (Nat × Bool)}
theorem ob_slice_full {α : Type} {T : El α} {t : TypeId} {x y y2 : Operand} {k : Nat} {l : List α} {z z2 : Int} {ik ik2 : IntKind} (hx : ArgOK X pl Fs i x (Sl T l)) (hy : ArgOK X pl Fs i y (Is (.int ik z))) (hy2 : ArgOK X pl Fs i y2 (Is (.int ik2 z2))) (hz : z = (k : Int) ∧ z2 = (k : Int)) (hk : k ≤ l.length)
    (hu : Tryz.prog.underlying t = some (.slice T.tid)) (hn : (Tryz.prog.info? T.tid).map (·.size) = some T.size) :
    Ob X pl Fs i ⟨some d, .slice t x none (some y) (some y2), ty, pos, af, g⟩ (SlF T (l.take k)) := by
  refine ob_same ?_
  intro ρ w hs
  obtain ⟨a, c, h1, hlc, h2, h4⟩ := hx ρ w hs
  have h3 : ρ y = .int ik z := hy ρ w hs
  have h3b : ρ y2 = .int ik2 z2 := hy2 ρ w hs
  obtain ⟨rfl, rfl⟩ := hz
  have hu' : Tryz.prog.underlying t = some (.slice (Tryz.prog.elem t)) := by rw [elem_of hu]; exact hu
  have hlen : (l.take k).length = k := by rw [List.length_take]; omega
  have hsl : Holds (SlF T (l.take k)) (sliced (a.map fun p => ⟨p.1, p.2, none⟩) 0 k k T.size) w := by
    refine ⟨a, ?_, fun ha => by rw [(h2 ha).1]; simp, fun p hp i x hi => ?_⟩
    · rw [hlen]
      cases a <;> simp [sliced, add_lit]
    · rw [List.getElem?_take] at hi
      split at hi
      · exact h4 p hp i x hi
      · cases hi
  refine ⟨_, ?_, hsl⟩
  unfold execOp
  refine exec_v _ _ _ _ _ ?_
  simp only [h1, h3, h3b, Option.map_some, Option.map_none]
  rw [run_sliceAt_slice w t _ _ _ _ hu', run_slice_hm w t _ _ _ hu' ik ik2 (k : Int) (k : Int) (by omega) (by omega) (by omega), elem_of hu, sizeOf_run hn]
  rfl
end
theorem run_app_new {α : Type} {T : El α} {inf : TypeInfo} {z : α} (E : ElP T inf z) {t : TypeId} (ht : Tryz.prog.underlying t = some (.slice T.tid)) {ty : TypeId} {lo : Nat} {l m : List α} {v x : Value} {w : World} (hv : Holds (SlF T l) v w) (hx : Holds (Sl T m) x w)
    (hm : m ≠ []) (h63 : l.length + m.length ≤ maxLen) (hbytes : (l.length + m.length) * T.bytes ≤ 140737488355328) (hlo : lo ≤ w.heap.size) :
    ∃ v' w', (Builtin.append_ #[t, t] ty #[v, x]).run Tryz.prog w = .ok v' w' ∧ Holds (OwnS lo T (l ++ m)) v' w' ∧ Grow w w' := by
  obtain ⟨a0, rfl, hn0, hcells0⟩ := hv
  cases a0 with
  | none =>
    obtain rfl := hn0 rfl
    obtain ⟨v', w', h1, h2, h3⟩ := append_any E ht (ty := ty) (l := []) (lo := lo) (w := w) (v := .slice none 0 0) own_nil hx h63 hbytes hlo
    exact ⟨v', w', h1, h2, ⟨h3.os, h3.tape, h3.output, h3.size, fun k hk => h3.block k hk (by simp [Value.ownBlock])⟩⟩
  | some q =>
  obtain ⟨b, o⟩ := q
  have hcells := hcells0 (b, o) rfl
  obtain ⟨a, c, rfl, hc, hn, hcells2⟩ := hx
  have hml : 0 < m.length := List.length_pos_iff.2 hm
  cases a with
  | none => exact absurd (hn rfl).1 hm
  | some p =>
    have hz : (El.val T z).cells.size = T.size := by rw [E.hzcells]; simp [T.len]
    have hfit : Builtin.nextslicecap (l.length + m.length) l.length * inf.bytes ≤ 281474976710656 := growslice_fits (by omega) (by rw [E.hbytes]; exact hbytes)
    have hr := run_append_grow (P := Tryz.prog) w t ty T.tid inf (El.val T z) ht E.hinfo E.hzero ⟨b, o, none⟩ l.length l.length (l.flatMap T.cells) (by rw [flatMap_len, E.hsize])
      (fun j u hj => by rw [add_lit]; exact sl_cells hcells j u hj) ⟨p.1, p.2, none⟩ m.length c (m.flatMap T.cells) (by rw [flatMap_len, E.hsize]) (fun j u hj => by rw [add_lit]; exact sl_cells (hcells2 p rfl) j u hj) (by omega) (by simp [maxLen] at h63; omega) hfit
    refine ⟨_, _, hr, ?_, ⟨rfl, rfl, rfl, by simp, fun k hk => Below.heap_alloc w.drew _ k hk⟩⟩
    have hge := grownCap_ge w (l.length + m.length) l.length T.tid
    have hcm := grownCap_le_maxLen w (l.length + m.length) l.length T.tid h63
    generalize grownCap w (l.length + m.length) l.length T.tid = cp at *
    show World.ownsRow _ lo T.tid T.size _ (l ++ m).length ((l ++ m).flatMap T.cells)
    refine ⟨flatMap_len T (l ++ m), .inr ⟨w.heap.size, cp, _, by rw [List.length_append], hlo, heap_alloc_new w.drew _, by rw [List.length_append]; exact hge, hcm, ?_, ?_⟩⟩
    · have e1 : l.length + m.length + (cp - (l.length + m.length)) = cp := by omega
      have e2 : ((l.flatMap T.cells).toArray ++ (m.flatMap T.cells).toArray ++ Builtin.zeroCells (El.val T z).cells (cp - (l.length + m.length))).size = (l.length + m.length + (cp - (l.length + m.length))) * T.size := by
        rw [Array.size_append, Array.size_append, List.size_toArray, List.size_toArray, size_zeroCells, hz, flatMap_len, flatMap_len, Nat.add_mul, Nat.add_mul]
      rw [e1] at e2
      exact e2
    · simp only [Array.toList_append, List.append_assoc, List.flatMap_append, List.length_append]
      rw [← List.append_assoc]
      have e : (l.length + m.length) * T.size = (l.flatMap T.cells ++ m.flatMap T.cells).length := by rw [List.length_append, flatMap_len, flatMap_len, Nat.add_mul]
      rw [e]
      exact List.take_left
theorem run_app_fresh {α : Type} {T : El α} {inf : TypeInfo} {z : α} (E : ElP T inf z) {t : TypeId} (ht : Tryz.prog.underlying t = some (.slice T.tid)) {ty : TypeId} {lo : Nat} {l m : List α} {v x : Value} {w : World} (hv : Holds (OwnF lo T l) v w) (hx : Holds (Sl T m) x w)
    (h63 : l.length + m.length ≤ maxLen) (hbytes : (l.length + m.length) * T.bytes ≤ 140737488355328) (hlo : lo ≤ w.heap.size) :
    ∃ v' w', (Builtin.append_ #[t, t] ty #[v, x]).run Tryz.prog w = .ok v' w' ∧ Holds (OwnS lo T (l ++ m)) v' w' ∧ Grow w w' := by
  by_cases hm : m = []
  · subst hm
    obtain ⟨b, rfl, _⟩ := hv.2
    obtain ⟨a, c, rfl, hc, hn, _⟩ := hx
    refine ⟨_, w, ?_, by rw [List.append_nil]; exact hv.1, Grow.refl w⟩
    have hi := E.hinfo
    cases b <;> cases a with
    | none =>
      obtain ⟨_, rfl⟩ := hn rfl
      simp [Builtin.append_, run_underlying ht, sizeOf, typeInfo, hi, Builtin.lenOf, Builtin.firstCells, storeCells]
    | some p => simp [Builtin.append_, run_underlying ht, sizeOf, typeInfo, hi, Builtin.lenOf, Builtin.firstCells, storeCells, loadCells, loadCellsFrom]
  · exact run_app_new E ht hv.2 hx hm h63 hbytes hlo
section
variable {X : Reg} {pl : List Tmp × List Nat} {Fs : List Fct} {i : Nat} {d : Tmp} {ty : TypeId} {pos : String} {af : Array Edge} {g : Option (Nat × Bool)}
theorem exec_append {s x : Operand} {t : TypeId} {ρ : Operand → Value} {v' : Value} {w w' : World} (h : (Builtin.append_ #[t, t] ty #[ρ s, ρ x]).run Tryz.prog w = .ok v' w') :
    (execOp ρ ⟨some d, .call { callee := .builtin .append, args := #[s, x], argTypes := #[t, t] }, ty, pos, af, g⟩).run Tryz.prog w = .ok (.value v') w' := by
  unfold execOp
  simp [resolve, invoke, builtin, h, Result.andThen]
theorem ob_append_new {α : Type} {T : El α} {inf : TypeInfo} {z : α} (E : ElP T inf z) {s x : Operand} {t : TypeId} {l m : List α} (ht : Tryz.prog.underlying t = some (.slice T.tid)) (hs : ArgOK X pl Fs i s (SlF T l)) (hx : ArgOK X pl Fs i x (Sl T m))
    (h : m ≠ [] ∧ l.length + m.length ≤ 17592186044416 ∧ (l.length + m.length) * T.bytes ≤ 140737488355328) :
    Ob X pl Fs i ⟨some d, .call { callee := .builtin .append, args := #[s, x], argTypes := #[t, t] }, ty, pos, af, g⟩ (OwnS X.lo T (l ++ m)) := by
  refine ob_val ?_
  intro ρ w hsit
  obtain ⟨v', w', h1, h2, h3⟩ := run_app_new E ht (ty := ty) (hs ρ w hsit) (hx ρ w hsit) h.1 (by have := h.2.1; simp only [maxLen]; omega) h.2.2 (lo_le hsit)
  exact ⟨v', w', exec_append h1, h3, h2⟩
theorem ob_append_fresh {α : Type} {T : El α} {inf : TypeInfo} {z : α} (E : ElP T inf z) {s x : Operand} {t : TypeId} {l m : List α} (ht : Tryz.prog.underlying t = some (.slice T.tid)) (hs : ArgOK X pl Fs i s (OwnF X.lo T l)) (hx : ArgOK X pl Fs i x (Sl T m))
    (h : l.length + m.length ≤ 140737488355328 ∧ (l.length + m.length) * T.bytes ≤ 140737488355328) :
    Ob X pl Fs i ⟨some d, .call { callee := .builtin .append, args := #[s, x], argTypes := #[t, t] }, ty, pos, af, g⟩ (OwnS X.lo T (l ++ m)) := by
  refine ob_val ?_
  intro ρ w hsit
  obtain ⟨v', w', h1, h2, h3⟩ := run_app_fresh E ht (ty := ty) (hs ρ w hsit) (hx ρ w hsit) (by have := h.1; simp only [maxLen]; omega) h.2 (lo_le hsit)
  exact ⟨v', w', exec_append h1, h3, h2⟩
theorem ob_appendC {α : Type} {T : El α} {inf : TypeInfo} {z : α} (E : ElP T inf z) {s x : Operand} {t : TypeId} {l m : List α} (hX : X.w0.heap.size ≤ X.lo) (ht : Tryz.prog.underlying t = some (.slice T.tid)) (hs : ArgOK X pl Fs i s (OwnS X.lo T l)) (hx : ArgOK X pl Fs i x (Sl T m))
    (h : l.length + m.length ≤ 140737488355328 ∧ (l.length + m.length) * T.bytes ≤ 140737488355328) :
    ObC X pl Fs i ⟨some d, .call { callee := .builtin .append, args := #[s, x], argTypes := #[t, t] }, ty, pos, af, g⟩ (OwnS X.lo T (l ++ m)) := by
  constructor
  intro ρ w hsit
  have h0 := hs ρ w hsit
  obtain ⟨v', w', h1, h2, h3⟩ := append_any E ht (ty := ty) h0 (hx ρ w hsit) (by have := h.1; simp only [maxLen]; omega) h.2 (lo_le hsit)
  rw [exec_append h1]
  have h0' : w.ownsRow X.lo T.tid T.size (ρ s) l.length (l.flatMap T.cells) := h0
  exact ⟨Below.mono (grownBy_below h3 (fun k hk => (h0'.lt k hk).1) (lo_le hsit)) hX, h2⟩
end
theorem hlo_of {w ws : World} (h : ws.heap = w.heap) : ws.heap.size ≤ w.heap.size := by rw [h]; exact Nat.le_refl _
structure Wr (lo : Nat) (e : TypeId) (w w' : World) : Prop where
  below : Below lo w w'
  other : ∀ k, k < w.heap.size → (∀ cs fz, w.heap[k]? ≠ some (.cells cs e fz)) → w'.heap[k]? = w.heap[k]?
theorem Wr.refl {lo : Nat} {e : TypeId} (w : World) : Wr lo e w w := ⟨Below.refl _ _, fun _ _ _ => rfl⟩
theorem Wr.of {lo : Nat} {e : TypeId} {w w' : World} {row : Option Nat} (h : w.grownBy w' row) (hl : ∀ k, row = some k → lo ≤ k) (hw : lo ≤ w.heap.size) (ht : ∀ k, row = some k → ∃ cs fz, w.heap[k]? = some (.cells cs e fz)) : Wr lo e w w' :=
  ⟨grownBy_below h hl hw, fun k hk hn => h.block k hk fun he => by obtain ⟨cs, fz, h2⟩ := ht k he.symm; exact hn cs fz h2⟩
theorem OwnS.wr {α : Type} {lo lo' : Nat} {e : TypeId} {T : El α} {l : List α} {v : Value} {w w' : World} (h : Holds (OwnS lo T l) v w) (hw : Wr lo' e w w') (hne : (T.tid == e) = false) : Holds (OwnS lo T l) v w' := by
  have h0 : w.ownsRow lo T.tid T.size v l.length (l.flatMap T.cells) := h
  refine ⟨h0.1, ?_⟩
  rcases h0.2 with h1 | ⟨g, cap, cur, h1, h2, h3, h4⟩
  · exact .inl h1
  · refine .inr ⟨g, cap, cur, h1, h2, ?_, h4⟩
    rw [hw.other g (Array.getElem?_eq_some_iff.1 h3).1 (fun cs fz hc => ?_)]
    · exact h3
    · rw [h3] at hc
      simp only [Option.some.injEq, Obj.cells.injEq] at hc
      simp [hc.2.1] at hne
theorem OwnS.row {α : Type} {lo : Nat} {T : El α} {l : List α} {v : Value} {w : World} (h : Holds (OwnS lo T l) v w) : ∀ k, v.ownBlock = some k → ∃ cs fz, w.heap[k]? = some (.cells cs T.tid fz) := by
  have h0 : w.ownsRow lo T.tid T.size v l.length (l.flatMap T.cells) := h
  intro k hk
  rcases h0.2 with ⟨rfl, _⟩ | ⟨g, cap, cur, rfl, h2, h3, h4⟩
  · cases hk
  · simp [Value.ownBlock] at hk
    subst hk
    exact ⟨cur, _, h3⟩
theorem Blk.wr {lo g : Nat} {e : TypeId} {cs : List Value} {w w' : World} (h : Blk g cs w) (hw : Wr lo e w w') (hl : g < lo) : Blk g cs w' := h.below hw.below hl
theorem Grow.wr {lo : Nat} {e : TypeId} {a b c : World} (h : Grow a b) (hw : Wr lo e b c) (hl : a.heap.size ≤ lo) : Grow a c := h.below hw.below hl
theorem wl_appendW {α : Type} {T : El α} {inf : TypeInfo} {z : α} (E : ElP T inf z) {ops : Array Oper} {rest : List Oper} {Q : Exit → Act → World → Prop} {a : Act} {w : World} {d n : Nat} {s x : Operand} {t ty : TypeId} {pos : String} {af : Array Edge} {lo : Nat} {l m : List α}
    (ts : List Tmp) (hf : Fr n a) (hd : decide (d < n) = true) (hts : ts.contains d = false) (ht : Tryz.prog.underlying t = some (.slice T.tid)) (hs : Holds (OwnS lo T l) (a.eval s) w) (hx : Holds (Sl T m) (a.eval x) w)
    (h63 : l.length + m.length ≤ maxLen) (hbytes : (l.length + m.length) * T.bytes ≤ 140737488355328) (hlo : lo ≤ w.heap.size)
    (h : ∀ a' w', Fr n a' → Wr lo T.tid w w' → Keep ts a a' → Holds (OwnS lo T (l ++ m)) (a'.eval (.tmp d)) w' → wpList Tryz.prog ops Q rest a' w') :
    wpList Tryz.prog ops Q (⟨some d, .call { callee := .builtin .append, args := #[s, x], argTypes := #[t, t] }, ty, pos, af, none⟩ :: rest) a w := by
  obtain ⟨v', w', h1, h2, h3⟩ := append_any E ht (ty := ty) hs hx h63 hbytes hlo
  have h0 : w.ownsRow lo T.tid T.size (a.eval s) l.length (l.flatMap T.cells) := hs
  unfold wpList
  rw [if_pos (by simp [Region.wanted])]
  refine .inl ?_
  unfold Oper.wp
  rw [exec_append h1]
  have hd' : d < n := of_decide_eq_true hd
  refine h _ w' (fr_put hf) (Wr.of h3 (fun k hk => (h0.lt k hk).1) hlo (OwnS.row hs)) (fun u hu => eval_put_ne fun e => ?_) ?_
  · subst e; rw [hts] at hu; cases hu
  · rw [eval_put_eq hf hd']; exact h2
def elP (v : Value) (o : Nat) : Value := match v with
  | .slice (some a) _ _ => .pointer (some (a.add o))
  | _ => undef
section
variable {X : Reg} {pl : List Tmp × List Nat} {Fs : List Fct} {i : Nat} {d : Tmp} {ty : TypeId} {pos : String} {af : Array Edge} {g : Option (Nat × Bool)}
theorem ob_ixv {α : Type} {T : El α} {t : TypeId} {x y : Operand} {k : Nat} {l : List α} {z : Int} {v : Value} {ik : IntKind} (hx : ArgOK X pl Fs i x (Is v)) (hv : Holds (Sl T l) v X.w0) (hy : ArgOK X pl Fs i y (Is (.int ik z))) (hz : z = (k : Int)) (hk : k < l.length)
    (hu : Tryz.prog.underlying t = some (.slice T.tid)) (hn : (Tryz.prog.info? T.tid).map (·.size) = some T.size) :
    Ob X pl Fs i ⟨some d, .indexAddr t x y, ty, pos, af, g⟩ (Is (elP v (k * T.size))) := by
  refine ob_same ?_
  intro ρ w hs
  have h1 : ρ x = v := hx ρ w hs
  obtain ⟨a, c, h0, _, h2, h4⟩ := hv
  have h3 : ρ y = .int ik z := hy ρ w hs
  subst hz
  cases a with
  | none => have := (h2 rfl).1; subst this; simp at hk
  | some p =>
    cases hq : Tryz.prog.info? T.tid with
    | none => simp [hq] at hn
    | some inf =>
      have hsz : inf.size = T.size := by simpa [hq] using hn
      refine ⟨elP v (k * T.size), ?_, rfl⟩
      unfold execOp
      refine exec_v _ _ _ _ _ ?_
      have e1 : (0 : Int) ≤ (k : Int) ∧ (k : Int) < (l.length : Int) := by omega
      rw [h1, h0]
      simp only [Instr.indexAt, Sem.run_bind, h3, asIntOf, Sem.run_pure, Result.andThen_ok, run_underlying hu, Option.map_some, Instr.sureAddr, e1, and_self, if_true, sizeOf, typeInfo, elP]
      simp [hq, hsz]
end
theorem OwnS.apart {α : Type} {lo : Nat} {T : El α} {l : List α} {v u : Value} {w w' : World} (h : Holds (OwnS lo T l) v w) (ho : ∃ g, u.ownBlock = some g ∧ Only g w w') (hlt : ∀ g, u.ownBlock = some g → g < lo) : Holds (OwnS lo T l) v w' := by
  obtain ⟨g, hg, ho⟩ := ho
  exact OwnS.only h ho (hlt g hg)
theorem made_flat {α : Type} {T : El α} {z : α} (hz : (El.val T z).cells = (T.cells z).toArray) : ∀ n : Nat, (madeCells (El.val T z).cells (n * T.size)).toList = (List.replicate n z).flatMap T.cells := by
  intro n
  apply List.ext_getElem?
  intro j
  by_cases hj : j < n * T.size
  · have hq : j / T.size < n := Nat.div_lt_of_lt_mul (by rw [Nat.mul_comm]; exact hj)
    have hm : j % T.size < T.size := Nat.mod_lt _ T.pos
    have hlt : j % T.size < (T.cells z).length := by rw [T.len]; exact hm
    have h1 := flatMap_get T (List.replicate n z) (j / T.size) z (j % T.size) (T.cells z)[j % T.size] (by simp [hq]) (by simp [hlt])
    rw [Nat.mul_comm, Nat.div_add_mod] at h1
    rw [h1, hz]
    simp [madeCells, hj, T.len]
    rw [List.getElem?_eq_getElem hlt]
    rfl
  · rw [List.getElem?_eq_none (by rw [Array.length_toList, size_madeCells]; omega), List.getElem?_eq_none (by rw [flatMap_len, List.length_replicate]; omega)]
theorem und16 : Tryz.prog.underlying 134 = some (.array 16 5) := by kernel_rfl
theorem arr_cells {g : Nat} {l : List UInt8} {w : World} (h : Blk g (l.map byteV) w) (k : Nat) : ∀ i x, (l.drop k)[i]? = some x → Cells g (k + i * elByte.size) (elByte.cells x) w := by
  intro i x hi j u hj
  obtain ⟨e, h2⟩ := h
  obtain ⟨rfl, rfl⟩ : j = 0 ∧ byteV x = u := by
    cases j with
    | zero => exact ⟨rfl, by simpa [elByte] using hj⟩
    | succ j => simp [elByte] at hj
  rw [List.getElem?_drop] at hi
  rw [cell_of_row w g _ _ e (0, 0) h2]
  simp [elByte, hi]
section
variable {X : Reg} {pl : List Tmp × List Nat} {Fs : List Fct} {i : Nat} {d : Tmp} {ty : TypeId} {pos : String} {af : Array Edge} {g : Option (Nat × Bool)}
theorem ob_alloc_b16 : Ob X pl Fs i ⟨some d, .alloc 134, ty, pos, af, g⟩ (OwnB X.lo ((List.replicate 16 (0 : UInt8)).map byteV)) := by
  refine ob_alloc (z := .agg ((List.replicate 16 (0 : UInt8)).map byteV).toArray) ?_ ?_
  · kernel_rfl
  · rfl
theorem run_slice16 {b : Nat} (w : World) : (Instr.sliceAt 134 (.pointer (some ⟨b, 0, none⟩)) none none none).run Tryz.prog w = .ok (.slice (some ⟨b, 0, none⟩) 16 16) w := by
  unfold Instr.sliceAt
  have hz : (Tryz.prog.info? 5).map (·.size) = some 1 := szByte
  cases hq : Tryz.prog.info? 5 with
  | none => rw [hq] at hz; cases hz
  | some inf =>
    rw [Sem.run_bind, run_underlying und16, Result.andThen_ok]
    simp only [Instr.sureAddr, Sem.run_bind, Sem.run_pure, Result.andThen_ok, Instr.sliceBounds, sizeOf, typeInfo]
    simp [hq, add_lit]
theorem run_slice16b {b : Nat} (w : World) : (Instr.sliceAt 134 (.pointer (some ⟨b, 0, none⟩)) (some (.int .i64 8)) none none).run Tryz.prog w = .ok (.slice (some ⟨b, 8, none⟩) 8 8) w := by
  unfold Instr.sliceAt
  have hz : (Tryz.prog.info? 5).map (·.size) = some 1 := szByte
  cases hq : Tryz.prog.info? 5 with
  | none => rw [hq] at hz; cases hz
  | some inf =>
    have hsz : inf.size = 1 := by simpa [hq] using hz
    rw [Sem.run_bind, run_underlying und16, Result.andThen_ok]
    simp only [Instr.sureAddr, Sem.run_bind, Sem.run_pure, Result.andThen_ok, Instr.sliceBounds, sizeOf, typeInfo]
    simp [hq, add_lit, asIntOf, hsz, Instr.sliceBounds, Instr.sliceBound, Result.andThen]
theorem ob_slice16 {x : Operand} {b : Nat} {l : List UInt8} (hx : ArgOK X pl Fs i x (OwnP b 0 (l.map byteV))) (hl : l.length = 16) : Ob X pl Fs i ⟨some d, .slice 134 x none none none, ty, pos, af, g⟩ (SlF elByte l) := by
  refine ob_same ?_
  intro ρ w hs
  obtain ⟨h1, h2⟩ := hx ρ w hs
  refine ⟨.slice (some ⟨b, 0, none⟩) 16 16, ?_, some (b, 0), by rw [hl]; rfl, (fun h => by cases h), fun p hp i y hi => by cases hp; exact arr_cells h2 0 i y hi⟩
  unfold execOp
  refine exec_v _ _ _ _ _ ?_
  rw [h1]
  exact run_slice16 w
theorem ob_slice16_own {x : Operand} {b : Nat} {cs : List Value} (hx : ArgOK X pl Fs i x (OwnP b 0 cs)) : Ob X pl Fs i ⟨some d, .slice 134 x none none none, ty, pos, af, g⟩ (Is (.slice (some ⟨b, 0, none⟩) 16 16)) := by
  refine ob_same ?_
  intro ρ w hs
  obtain ⟨h1, h2⟩ := hx ρ w hs
  refine ⟨.slice (some ⟨b, 0, none⟩) 16 16, ?_, rfl⟩
  unfold execOp
  refine exec_v _ _ _ _ _ ?_
  rw [h1]
  exact run_slice16 w
theorem ob_slice16_own8 {x y : Operand} {b : Nat} {cs : List Value} (hx : ArgOK X pl Fs i x (OwnP b 0 cs)) (hy : ArgOK X pl Fs i y (Is (intV 8))) : Ob X pl Fs i ⟨some d, .slice 134 x (some y) none none, ty, pos, af, g⟩ (Is (.slice (some ⟨b, 8, none⟩) 8 8)) := by
  refine ob_same ?_
  intro ρ w hs
  obtain ⟨h1, h2⟩ := hx ρ w hs
  have h3 : ρ y = .int .i64 8 := hy ρ w hs
  refine ⟨.slice (some ⟨b, 8, none⟩) 8 8, ?_, rfl⟩
  unfold execOp
  refine exec_v _ _ _ _ _ ?_
  simp only [Option.map_some, Option.map_none]
  rw [h1, h3]
  exact run_slice16b w
end
def OwnC {α : Type} (lo : Nat) (T : El α) (l : List α) (c : Nat) : Fct := fun v w => Holds (OwnS lo T l) v w ∧ ∃ g cap, v = .slice (some ⟨g, 0, none⟩) l.length cap ∧ c ≤ cap
instance {α : Type} {lo : Nat} {T : El α} {l : List α} {c : Nat} : StabG (OwnC lo T l c) := stabG (fun _ _ _ hg h => ⟨h.1.up hg, h.2⟩)
theorem OwnC.own {α : Type} {lo c : Nat} {T : El α} {l : List α} {v : Value} {w : World} (h : Holds (OwnC lo T l c) v w) : Holds (OwnS lo T l) v w := h.1
section
variable {X : Reg} {pl : List Tmp × List Nat} {Fs : List Fct} {i : Nat} {d : Tmp} {ty : TypeId} {pos : String} {af : Array Edge} {g : Option (Nat × Bool)}
theorem ArgOK.ownc {α : Type} {x : Operand} {lo c : Nat} {T : El α} {l : List α} (h : ArgOK X pl Fs i x (OwnC lo T l c)) : ArgOK X pl Fs i x (OwnS lo T l) := h.imp fun _ _ => OwnC.own
end
theorem wl_appendC {α : Type} {T : El α} {inf : TypeInfo} {z : α} (E : ElP T inf z) {ops : Array Oper} {rest : List Oper} {Q : Exit → Act → World → Prop} {a : Act} {w : World} {d n c : Nat} {s x : Operand} {t ty : TypeId} {pos : String} {af : Array Edge} {lo : Nat} {l m : List α}
    (ts : List Tmp) (hf : Fr n a) (hd : decide (d < n) = true) (hts : ts.contains d = false) (ht : Tryz.prog.underlying t = some (.slice T.tid)) (hs : Holds (OwnC lo T l c) (a.eval s) w) (hx : Holds (Sl T m) (a.eval x) w)
    (hroom : l.length + m.length ≤ c) (hlo : lo ≤ w.heap.size)
    (h : ∀ a' w', Fr n a' → Wr lo T.tid w w' → Keep ts a a' → Holds (OwnC lo T (l ++ m) c) (a'.eval (.tmp d)) w' → wpList Tryz.prog ops Q rest a' w') :
    wpList Tryz.prog ops Q (⟨some d, .call { callee := .builtin .append, args := #[s, x], argTypes := #[t, t] }, ty, pos, af, none⟩ :: rest) a w := by
  obtain ⟨hs1, g, cap, hv, hcap⟩ := hs
  have h0 : w.ownsRow lo T.tid T.size (a.eval s) l.length (l.flatMap T.cells) := hs1
  have hd' : d < n := of_decide_eq_true hd
  obtain ⟨b, cx, hxv, hcx, hn, hcells⟩ := hx
  have key : ∃ w', (Builtin.append_ #[t, t] ty #[a.eval s, a.eval x]).run Tryz.prog w = .ok (.slice (some ⟨g, 0, none⟩) (l.length + m.length) cap) w' ∧ Holds (OwnS lo T (l ++ m)) (.slice (some ⟨g, 0, none⟩) (l.length + m.length) cap) w' ∧ w.grownBy w' (some g) := by
    rw [hv] at h0 ⊢
    cases b with
    | none =>
      obtain ⟨rfl, rfl⟩ := hn rfl
      refine ⟨w, ?_, ?_, rfl, rfl, rfl, Nat.le_refl _, fun _ _ _ => rfl⟩
      · rw [hxv]
        have hr := run_append_owned_none (P := Tryz.prog) w lo t ty T.tid inf T.size ht E.hinfo _ l.length (l.flatMap T.cells) h0
        simpa using hr
      · rw [List.append_nil]
        exact h0
    | some p =>
      have hone : ∀ u ∈ m.flatMap T.cells, u.oneCell' = true := fun u hu => by
        obtain ⟨y, _, hy⟩ := List.mem_flatMap.1 hu
        exact T.one y u hy
      obtain ⟨w', h1, h2, h3⟩ := run_append_fits (P := Tryz.prog) w lo t ty T.tid inf T.size ht E.hinfo E.hsize g l.length cap (l.flatMap T.cells) h0 ⟨p.1, p.2, none⟩ m.length cx (m.flatMap T.cells) (flatMap_len T m) (fun j u hj => by rw [add_lit]; exact sl_cells (hcells p rfl) j u hj) hone (by omega)
      refine ⟨w', by rw [hxv]; exact h1, ?_, h3⟩
      show w'.ownsRow lo T.tid T.size _ (l ++ m).length ((l ++ m).flatMap T.cells)
      rw [List.length_append, List.flatMap_append]
      exact h2
  obtain ⟨w', h1, h2, h3⟩ := key
  have hrow := OwnS.row hs1
  have hge := h0.lt
  rw [hv] at hrow hge
  unfold wpList
  rw [if_pos (by simp [Region.wanted])]
  refine .inl ?_
  unfold Oper.wp
  rw [exec_append h1]
  refine h _ w' (fr_put hf) (Wr.of h3 (fun k hk => (hge k (by simpa [Value.ownBlock] using hk)).1) hlo (fun k hk => hrow k (by simpa [Value.ownBlock] using hk))) (fun u hu => eval_put_ne fun e => ?_) ?_
  · subst e; rw [hts] at hu; cases hu
  · rw [eval_put_eq hf hd']
    exact ⟨h2, g, cap, by rw [List.length_append], hcap⟩
end Ex
end Go.Proofs.YtnmfiiejhoafnaaGreat
