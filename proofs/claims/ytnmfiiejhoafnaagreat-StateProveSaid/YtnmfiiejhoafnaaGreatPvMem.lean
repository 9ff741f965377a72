/- What each kind of operation on memory gives, and a call. -/
import Derived.Test.YtnmfiiejhoafnaaGreatPvOps
set_option linter.unusedSimpArgs false
set_option linter.unusedVariables false
namespace Go.Proofs.YtnmfiiejhoafnaaGreat
namespace Ex
open Go Calm Go.RowKit
theorem heap_new (w : World) (o : Obj) : (w.alloc o).heap[w.heap.size]? = some o := heap_alloc_new w o
section
variable {X : Reg} {pl : List Tmp × List Nat} {Fs : List Fct} {i : Nat} {d : Tmp} {ty : TypeId} {pos : String} {af : Array Edge} {g : Option (Nat × Bool)}
theorem lo_le {ρ : Operand → Value} {w : World} (hs : Sit X pl Fs i ρ w) : X.lo ≤ w.heap.size := hs.low
theorem own_new {lo : Nat} {w : World} (h : lo ≤ w.heap.size) (cs : List Value) (e : TypeId) : Holds (OwnB lo cs) (.pointer (some ⟨w.heap.size, 0, none⟩)) (w.alloc (.cells cs.toArray e)) :=
  ⟨w.heap.size, e, h, rfl, heap_new w _⟩
theorem run_newRow (P : Program) (e : TypeId) (cs : Array Value) (w : World) : (newRow e cs).run P w = .ok ⟨w.heap.size, 0, none⟩ (w.alloc (.cells cs e)) := rfl
theorem exec_v (P : Program) (s : Sem Value) (v : Value) (w w' : World) (h : s.run P w = .ok v w') : (do pure (Next.value (← s)) : Sem Next).run P w = .ok (.value v) w' := by
  rw [Sem.run_bind, h]; rfl
theorem ob_box {e : TypeId} {x : Operand} {v : Value} {cs : List Value} (hx : ArgOK X pl Fs i x (Is v)) (hv : v.cells = cs.toArray) :
    Ob X pl Fs i ⟨some d, .box e x, ty, pos, af, g⟩ (OwnB X.lo cs) := by
  refine ob_val ?_
  intro ρ w hs
  have h1 : ρ x = v := hx ρ w hs
  refine ⟨_, _, ?_, Grow.alloc w (.cells cs.toArray e), own_new (lo_le hs) cs e⟩
  unfold execOp
  refine exec_v _ _ _ _ _ ?_
  rw [h1]
  unfold Instr.box newVar
  rw [Sem.run_bind, hv, run_newRow]; rfl
theorem ob_alloc {e : TypeId} {z : Value} {cs : List Value} (hz : (Tryz.prog.info? e).bind (·.zero) = some z) (hv : z.cells = cs.toArray) :
    Ob X pl Fs i ⟨some d, .alloc e, ty, pos, af, g⟩ (OwnB X.lo cs) := by
  refine ob_val ?_
  intro ρ w hs
  refine ⟨_, _, ?_, Grow.alloc w (.cells cs.toArray e), own_new (lo_le hs) cs e⟩
  have h2 : (zeroValue e).run Tryz.prog w = .ok z w := by
    cases hi : Tryz.prog.info? e with
    | none => rw [hi] at hz; cases hz
    | some inf =>
      rw [hi] at hz
      have hz' : inf.zero = some z := hz
      simp [zeroValue, typeInfo, hi, hz']
  unfold execOp
  refine exec_v _ _ _ _ _ ?_
  unfold Instr.alloc newVar
  rw [Sem.run_bind, h2, Result.andThen_ok]
  simp only [Sem.run_bind, hv, run_newRow]
  rfl
def aggD : TypeDesc → Bool
  | .struct _ | .array _ _ => true
  | _ => false
theorem isAgg_run {t : TypeId} {dsc : TypeDesc} (hu : Tryz.prog.underlying t = some dsc) (w : World) :
    (isAgg t).run Tryz.prog w = .ok (aggD dsc) w := by
  unfold isAgg
  rw [Sem.run_bind, run_underlying hu, Result.andThen_ok]
  cases dsc <;> rfl
theorem add_lit (b o j : Nat) : (⟨b, o, none⟩ : Addr).add j = ⟨b, o + j, none⟩ := by unfold Addr.add; split <;> simp_all
theorem run_load_agg {t : TypeId} {dsc : TypeDesc} {cs : List Value} {b o : Nat} {w : World} (hu : Tryz.prog.underlying t = some dsc) (hd : aggD dsc = true)
    (hi : (Tryz.prog.info? t).map (·.size) = some cs.length) (hc : Cells b o cs w) : (loadVar t ⟨b, o, none⟩).run Tryz.prog w = .ok (.agg cs.toArray) w := by
  cases hq : Tryz.prog.info? t with
  | none => simp [hq] at hi
  | some inf =>
    have hs : inf.size = cs.length := by simpa [hq] using hi
    have hl := run_loadCells_list (P := Tryz.prog) w ⟨b, o, none⟩ cs (fun j v hj => by rw [add_lit]; exact hc j v hj)
    unfold loadVar
    rw [Sem.run_bind, isAgg_run hu, Result.andThen_ok, hd]
    simp only [if_true, sizeOf, typeInfo, Sem.run_bind]
    simp [hq, hs, hl]
theorem run_load_one {t : TypeId} {dsc : TypeDesc} {c : Value} {b o : Nat} {w : World} (hu : Tryz.prog.underlying t = some dsc) (hd : aggD dsc = false)
    (hc : w.cell? ⟨b, o, none⟩ = some c) : (loadVar t ⟨b, o, none⟩).run Tryz.prog w = .ok c w := by
  unfold loadVar
  rw [Sem.run_bind, isAgg_run hu, Result.andThen_ok, hd]
  simp [load, Sem.run, hc]
theorem exec_load {t : TypeId} {x : Operand} {ρ : Operand → Value} {b o : Nat} {w : World} {v : Value} (hx : ρ x = .pointer (some ⟨b, o, none⟩)) (h : (loadVar t ⟨b, o, none⟩).run Tryz.prog w = .ok v w) :
    (execOp ρ ⟨some d, .load t x, ty, pos, af, g⟩).run Tryz.prog w = .ok (.value v) w := by
  unfold execOp
  refine exec_v _ _ _ _ _ ?_
  unfold Instr.loadAt
  rw [hx, Sem.run_bind]
  simp only [Instr.sureAddr, Sem.run_pure, Result.andThen_ok]
  exact h
theorem ob_load {t : TypeId} {x : Operand} {dsc : TypeDesc} {cs : List Value} {v : Value} (hx : ArgOK X pl Fs i x (PtrC cs)) (hu : Tryz.prog.underlying t = some dsc)
    (hd : aggD dsc = true) (hi : (Tryz.prog.info? t).map (·.size) = some cs.length) (hv : .agg cs.toArray = v) :
    Ob X pl Fs i ⟨some d, .load t x, ty, pos, af, g⟩ (Is v) := by
  refine ob_same ?_
  intro ρ w hs
  obtain ⟨b, o, h1, h2⟩ := hx ρ w hs
  exact ⟨v, exec_load h1 ((run_load_agg hu hd hi h2).trans (by rw [hv])), rfl⟩
theorem ob_load1 {t : TypeId} {x : Operand} {dsc : TypeDesc} {c : Value} (hx : ArgOK X pl Fs i x (PtrC [c])) (hu : Tryz.prog.underlying t = some dsc)
    (hd : aggD dsc = false) : Ob X pl Fs i ⟨some d, .load t x, ty, pos, af, g⟩ (Is c) := by
  refine ob_same ?_
  intro ρ w hs
  obtain ⟨b, o, h1, h2⟩ := hx ρ w hs
  exact ⟨c, exec_load h1 (run_load_one hu hd (by simpa using h2 0 c rfl)), rfl⟩
theorem ArgOK.own {x : Operand} {lo : Nat} {cs : List Value} (h : ArgOK X pl Fs i x (OwnB lo cs)) : ArgOK X pl Fs i x (PtrC cs) := h.imp fun _ _ => OwnB.ptr
theorem ArgOK.sl {α : Type} {x : Operand} {lo : Nat} {T : El α} {l : List α} (h : ArgOK X pl Fs i x (OwnS lo T l)) : ArgOK X pl Fs i x (Sl T l) := h.imp fun _ _ => OwnS.sl
theorem ob_fa {s : TypeId} {x : Operand} {k n : Nat} {cs ds : List Value} {fields : Array Field} {f : Field} (hx : ArgOK X pl Fs i x (PtrC cs)) (hu : Tryz.prog.underlying s = some (.struct fields))
    (hf : fields[k]? = some f) (hn : (Tryz.prog.info? f.type).map (·.size) = some (n + 1)) (hds : (cs.drop f.offset).take ds.length = ds) :
    Ob X pl Fs i ⟨some d, .fieldAddr s x k, ty, pos, af, g⟩ (PtrC ds) := by
  refine ob_same ?_
  intro ρ w hs
  obtain ⟨b, o, h1, h2⟩ := hx ρ w hs
  cases hq : Tryz.prog.info? f.type with
  | none => simp [hq] at hn
  | some inf =>
    have hsz : inf.size = n + 1 := by simpa [hq] using hn
    refine ⟨.pointer (some ⟨b, o + f.offset, none⟩), ?_, b, o + f.offset, rfl, h2.sub f.offset fun j y hj => ?_⟩
    · unfold execOp
      refine exec_v _ _ _ _ _ ?_
      unfold Instr.fieldAt
      rw [Sem.run_bind, run_underlying hu, Result.andThen_ok]
      simp only [hf, h1, Instr.sureAddr, fieldPlace, sizeOf, typeInfo, Sem.run_bind, Sem.run_pure, Result.andThen_ok]
      simp [hq, hsz, add_lit]
    · rw [← hds] at hj
      rw [List.getElem?_take] at hj
      split at hj
      · simpa using hj
      · cases hj
theorem ob_index {t e : TypeId} {x y : Operand} {m k : Nat} {cs : List Value} {z : Int} {c : Value} {ik : IntKind} {dsc : TypeDesc} (hx : ArgOK X pl Fs i x (Is (.agg cs.toArray))) (hy : ArgOK X pl Fs i y (Is (.int ik z))) (hz : z = (k : Int)) (hk : k < m)
    (hu : Tryz.prog.underlying t = some (.array m e)) (hn : (Tryz.prog.info? e).map (·.size) = some 1) (he : Tryz.prog.underlying e = some dsc)
    (hd : aggD dsc = false) (hc : cs[k]? = some c) :
    Ob X pl Fs i ⟨some d, .index t x y, ty, pos, af, g⟩ (Is c) := by
  refine ob_same ?_
  intro ρ w hs
  have h1 : ρ x = .agg cs.toArray := hx ρ w hs
  have h3 : ρ y = .int ik z := hy ρ w hs
  subst hz
  cases hq : Tryz.prog.info? e with
  | none => simp [hq] at hn
  | some inf =>
    have hsz : inf.size = 1 := by simpa [hq] using hn
    refine ⟨c, ?_, rfl⟩
    unfold execOp
    refine exec_v _ _ _ _ _ ?_
    have e1 : (0 : Int) ≤ (k : Int) ∧ (k : Int) < (m : Int) := by omega
    have hag := isAgg_run he w
    rw [hd] at hag
    simp only [Instr.index, Sem.run_bind, h3, asIntOf, Sem.run_pure, Result.andThen_ok, run_underlying hu, h1, e1, and_self, if_true, sizeOf, typeInfo]
    simp [hq, hsz, part, hag, hc]
theorem ob_ix {α : Type} [Inhabited α] {T : El α} {t : TypeId} {x y : Operand} {k : Nat} {l : List α} {z : Int} {ik : IntKind} (hx : ArgOK X pl Fs i x (Sl T l)) (hy : ArgOK X pl Fs i y (Is (.int ik z))) (hz : z = (k : Int)) (hk : k < l.length)
    (hu : Tryz.prog.underlying t = some (.slice T.tid)) (hn : (Tryz.prog.info? T.tid).map (·.size) = some T.size) :
    Ob X pl Fs i ⟨some d, .indexAddr t x y, ty, pos, af, g⟩ (PtrC (T.cells (l.getD k default))) := by
  refine ob_same ?_
  intro ρ w hs
  obtain ⟨a, c, h1, _, h2, h4⟩ := hx ρ w hs
  have h3 : ρ y = .int ik z := hy ρ w hs
  subst hz
  cases a with
  | none => have := (h2 rfl).1; subst this; simp at hk
  | some p =>
    cases hq : Tryz.prog.info? T.tid with
    | none => simp [hq] at hn
    | some inf =>
      have hsz : inf.size = T.size := by simpa [hq] using hn
      refine ⟨.pointer (some ⟨p.1, p.2 + k * T.size, none⟩), ?_, p.1, p.2 + k * T.size, rfl, h4 p rfl k _ (by simp [hk])⟩
      unfold execOp
      refine exec_v _ _ _ _ _ ?_
      have e1 : (0 : Int) ≤ (k : Int) ∧ (k : Int) < (l.length : Int) := by omega
      simp only [Instr.indexAt, Sem.run_bind, h3, asIntOf, Sem.run_pure, Result.andThen_ok, run_underlying hu, h1, Option.map_some, Instr.sureAddr, e1, and_self, if_true, sizeOf, typeInfo]
      simp [hq, hsz, add_lit]
theorem ob_len {α : Type} {T : El α} {t e : TypeId} {x : Operand} {l : List α} (hx : ArgOK X pl Fs i x (Sl T l)) (hu : Tryz.prog.underlying t = some (.slice e)) :
    Ob X pl Fs i ⟨some d, .call { callee := .builtin .len, args := #[x], argTypes := #[t] }, ty, pos, af, g⟩ (Is (intV l.length)) := by
  refine ob_same ?_
  intro ρ w hs
  obtain ⟨a, c, h1, _⟩ := hx ρ w hs
  refine ⟨_, ?_, rfl⟩
  simp [execOp, resolve, invoke, builtin, Builtin.len_, run_underlying hu, h1, goInt]
theorem ob_load_nm {x : Operand} {n : UInt64} (hx : ArgOK X pl Fs i x (PtrC (nmCells n))) : Ob X pl Fs i ⟨some d, .load 30 x, ty, pos, af, g⟩ (Is (nmV n)) := by
  refine ob_load hx Tryz.underlying30 rfl ?_ rfl
  kernel_rfl
theorem ob_load_cell {x : Operand} {c : GCell} (hx : ArgOK X pl Fs i x (PtrC (cellCells c))) : Ob X pl Fs i ⟨some d, .load 42 x, ty, pos, af, g⟩ (Is (cellV c)) := by
  refine ob_load hx Tryz.underlying42 rfl ?_ rfl
  kernel_rfl
theorem ob_load_delta {x : Operand} {c : GDelta} (hx : ArgOK X pl Fs i x (PtrC (deltaCells c))) : Ob X pl Fs i ⟨some d, .load 54 x, ty, pos, af, g⟩ (Is (deltaV c)) := by
  refine ob_load hx Tryz.underlying54 rfl ?_ rfl
  kernel_rfl
theorem ob_load_lock {x : Operand} {c : GLock} (hx : ArgOK X pl Fs i x (PtrC (lockCells c))) : Ob X pl Fs i ⟨some d, .load 32 x, ty, pos, af, g⟩ (Is (lockV c)) := by
  refine ob_load hx Tryz.underlying32 rfl ?_ rfl
  kernel_rfl
theorem ob_box_nm {e : TypeId} {x : Operand} {n : UInt64} (hx : ArgOK X pl Fs i x (Is (nmV n))) : Ob X pl Fs i ⟨some d, .box e x, ty, pos, af, g⟩ (OwnB X.lo (nmCells n)) := ob_box hx rfl
theorem ob_box_cell {e : TypeId} {x : Operand} {n : GCell} (hx : ArgOK X pl Fs i x (Is (cellV n))) : Ob X pl Fs i ⟨some d, .box e x, ty, pos, af, g⟩ (OwnB X.lo (cellCells n)) := ob_box hx rfl
theorem ob_box_delta {e : TypeId} {x : Operand} {n : GDelta} (hx : ArgOK X pl Fs i x (Is (deltaV n))) : Ob X pl Fs i ⟨some d, .box e x, ty, pos, af, g⟩ (OwnB X.lo (deltaCells n)) := ob_box hx rfl
theorem ob_box_lock {e : TypeId} {x : Operand} {n : GLock} (hx : ArgOK X pl Fs i x (Is (lockV n))) : Ob X pl Fs i ⟨some d, .box e x, ty, pos, af, g⟩ (OwnB X.lo (lockCells n)) := ob_box hx rfl
theorem ob_alloc_nm : Ob X pl Fs i ⟨some d, .alloc 30, ty, pos, af, g⟩ (OwnB X.lo (nmCells 0)) := by
  refine ob_alloc (z := nmV 0) ?_ ?_
  · kernel_rfl
  · rfl
theorem arg_cu {n : Int} (x : UInt64) (h : n = (x.toNat : Int)) : ArgOK X pl Fs i (.const (.int .u64 n)) (Is (u64V x)) := by subst h; exact arg_c
theorem arg_cb {n : Int} (x : UInt8) (h : n = (x.toNat : Int)) : ArgOK X pl Fs i (.const (.int .u8 n)) (Is (byteV x)) := by subst h; exact arg_c
theorem ob_u64byte {src dst : TypeId} {x : Operand} {m : UInt64} {dsc : TypeDesc} (hx : ArgOK X pl Fs i x (Is (u64V m))) (h1 : Tryz.prog.underlying src = some dsc) (h2 : Tryz.prog.underlying dst = some (.int .u8)) :
    Ob X pl Fs i ⟨some d, .convert src dst x, ty, pos, af, g⟩ (Is (byteV m.toUInt8)) := by
  refine ob_conv hx h1 h2 ?_
  rw [u8_wrap]
  unfold byteV
  congr 1
theorem ob_byteu64 {src dst : TypeId} {x : Operand} {m : UInt8} {dsc : TypeDesc} (hx : ArgOK X pl Fs i x (Is (byteV m))) (h1 : Tryz.prog.underlying src = some dsc) (h2 : Tryz.prog.underlying dst = some (.int .u64)) :
    Ob X pl Fs i ⟨some d, .convert src dst x, ty, pos, af, g⟩ (Is (u64V m.toUInt64)) := by
  refine ob_conv hx h1 h2 ?_
  have h3 := m.toNat_lt
  have h4 : (m.toNat : Int) % 18446744073709551616 = (m.toNat : Int) := by omega
  rw [u64_wrap, h4]
  unfold u64V
  rw [UInt8.toNat_toUInt64]
theorem ob_intbyte {src dst : TypeId} {x : Operand} {n : Int} {m : UInt8} {dsc : TypeDesc} (hx : ArgOK X pl Fs i x (Is (intV n))) (h1 : Tryz.prog.underlying src = some dsc) (h2 : Tryz.prog.underlying dst = some (.int .u8)) (hm : n % 256 = (m.toNat : Int)) :
    Ob X pl Fs i ⟨some d, .convert src dst x, ty, pos, af, g⟩ (Is (byteV m)) := by
  refine ob_conv hx h1 h2 ?_
  rw [u8_wrap, hm]
  rfl
theorem ob_intu64 {src dst : TypeId} {x : Operand} {n : Int} {m : UInt64} {dsc : TypeDesc} (hx : ArgOK X pl Fs i x (Is (intV n))) (h1 : Tryz.prog.underlying src = some dsc) (h2 : Tryz.prog.underlying dst = some (.int .u64)) (hm : n % 18446744073709551616 = (m.toNat : Int)) :
    Ob X pl Fs i ⟨some d, .convert src dst x, ty, pos, af, g⟩ (Is (u64V m)) := by
  refine ob_conv hx h1 h2 ?_
  rw [u64_wrap, hm]
  rfl
end
end Ex
end Go.Proofs.YtnmfiiejhoafnaaGreat
