/- More operations: arithmetic, slices made, sliced, appended to, copied to; strings; the hash's state. -/
import Derived.Test.YtnmfiiejhoafnaaGreatPvMore
import Derived.WalkKit
set_option linter.unusedSimpArgs false
set_option linter.unusedVariables false
namespace Go.Proofs.YtnmfiiejhoafnaaGreat
namespace Ex
open Go Calm Go.RowKit
section
variable {X : Reg} {pl : List Tmp × List Nat} {Fs : List Fct} {i : Nat} {d : Tmp} {ty : TypeId} {pos : String} {af : Array Edge} {g : Option (Nat × Bool)}
theorem OwnS.mono {α : Type} {T : El α} {lo lo' : Nat} {l : List α} {v : Value} {w : World} (h : Holds (OwnS lo T l) v w) (hl : lo' ≤ lo) : Holds (OwnS lo' T l) v w := by
  have h0 : w.ownsRow lo T.tid T.size v l.length (l.flatMap T.cells) := h
  refine ⟨h0.1, ?_⟩
  rcases h0.2 with h1 | ⟨g, cap, cur, h1, h2, h3⟩
  · exact .inl h1
  · exact .inr ⟨g, cap, cur, h1, Nat.le_trans hl h2, h3⟩
theorem own_lit {α : Type} {T : El α} {lo : Nat} {w : World} (l : List α) (hl : l.length ≤ maxLen) (h : lo ≤ w.heap.size) :
    Holds (OwnS lo T l) (.slice (some ⟨w.heap.size, 0, none⟩) l.length l.length) (w.alloc (.cells (l.flatMap T.cells).toArray T.tid)) := by
  have := World.ownsRow_lit (base := lo) (e := T.tid) (size := T.size) w (l.flatMap T.cells).toArray l.length h hl (by rw [List.size_toArray, flatMap_len])
  exact this
end
section
variable {X : Reg} {pl : List Tmp × List Nat} {Fs : List Fct} {i : Nat} {d : Tmp} {ty : TypeId} {pos : String} {af : Array Edge} {g : Option (Nat × Bool)}
theorem ob_make0 {α : Type} {T : El α} {inf : TypeInfo} {z : α} (E : ElP T inf z) {t : TypeId} {x y : Operand} {c : Nat} (ht : Tryz.prog.underlying t = some (.slice T.tid)) (hx : ArgOK X pl Fs i x (Is (intV 0))) (hy : ArgOK X pl Fs i y (Is (intV c)))
    (hc : T.bytes * c ≤ 281474976710656 ∧ c ≤ maxLen) : Ob X pl Fs i ⟨some d, .makeSlice t x y, ty, pos, af, g⟩ (OwnS X.lo T ([] : List α)) := by
  refine ob_val ?_
  intro ρ w hs
  have e0 : ρ x = intV 0 := hx ρ w hs
  have e1 : ρ y = intV c := hy ρ w hs
  obtain ⟨w', h1, h2, h3⟩ := run_make_own (P := Tryz.prog) w X.lo t T.tid inf (El.val T z) T.size ht E.hinfo E.hzero E.hsize .i64 .i64 c (by rw [E.hbytes]; exact hc.1) hc.2 (lo_le hs)
  refine ⟨_, w', ?_, grownBy_below h3 (fun k hk => by cases hk) (Nat.le_refl _), h2⟩
  unfold execOp
  refine exec_v _ _ _ _ _ ?_
  rw [e0, e1]
  exact h1
end
def OwnP (g k : Nat) (cs : List Value) : Fct := fun v w => v = .pointer (some ⟨g, k, none⟩) ∧ Blk g cs w
instance {g k : Nat} {cs : List Value} : StabG (OwnP g k cs) := stabG (fun _ _ _ hg ⟨e, h⟩ => ⟨e, h.up hg⟩)
theorem Blk.ownp {g : Nat} {cs : List Value} {v : Value} {w : World} (h : Blk g cs w) (hv : Holds (Is (PtrV g)) v w) : Holds (OwnP g 0 cs) v w := ⟨hv, h⟩
theorem OwnP.ptr {g : Nat} {cs : List Value} {v : Value} {w : World} (h : Holds (OwnP g 0 cs) v w) : Holds (PtrC cs) v w := h.2.ptr h.1
section
variable {X : Reg} {pl : List Tmp × List Nat} {Fs : List Fct} {i : Nat} {d : Tmp} {ty : TypeId} {pos : String} {af : Array Edge} {g : Option (Nat × Bool)}
theorem ob_subu {t yt : TypeId} {x y : Operand} {m n : UInt64} (hx : ArgOK X pl Fs i x (Is (u64V m))) (hy : ArgOK X pl Fs i y (Is (u64V n))) :
    Ob X pl Fs i ⟨some d, .binOp .sub t x y yt, ty, pos, af, g⟩ (Is (u64V (m - n))) := ob_int hx hy fun w => by
  have : IntKind.u64.wrap ((m.toNat : Int) - n.toNat) = ((m - n).toNat : Int) := by
    have h1 := m.toNat_lt
    have h2 := n.toNat_lt
    rw [u64_wrap, UInt64.toNat_sub]
    omega
  simp [binOp, Op.intArith, this, u64V]
theorem ob_andu {t yt : TypeId} {x y : Operand} {m n : UInt64} (hx : ArgOK X pl Fs i x (Is (u64V m))) (hy : ArgOK X pl Fs i y (Is (u64V n))) :
    Ob X pl Fs i ⟨some d, .binOp .and t x y yt, ty, pos, af, g⟩ (Is (u64V (m &&& n))) := ob_int hx hy fun w => by
  simp only [binOp, Op.intBits, IntKind.bits, ofInt_u64, ne_eq, not_true_eq_false, if_false, u64_back]
  rfl
theorem and63 {s : UInt64} (h : s.toNat < 64) : s &&& 63 = s := by
  apply UInt64.toNat_inj.1
  rw [UInt64.toNat_and]
  show s.toNat &&& 63 = s.toNat
  rw [Nat.and_two_pow_sub_one_eq_mod s.toNat 6]
  exact Nat.mod_eq_of_lt h
theorem ob_and63 {t yt : TypeId} {x y : Operand} {m : UInt64} (hx : ArgOK X pl Fs i x (Is (u64V m))) (hy : ArgOK X pl Fs i y (Is (u64V 63))) (h : m.toNat < 64) :
    Ob X pl Fs i ⟨some d, .binOp .and t x y yt, ty, pos, af, g⟩ (Is (u64V m)) := by
  have := ob_andu (t := t) (yt := yt) (d := d) (ty := ty) (pos := pos) (af := af) (g := g) hx hy
  rwa [and63 h] at this
theorem ob_nilCheck {x : Operand} {b k : Nat} {cs : List Value} (hx : ArgOK X pl Fs i x (OwnP b k cs)) : Ob X pl Fs i ⟨some d, .nilCheck x, ty, pos, af, g⟩ (OwnP b k cs) := by
  refine ob_same ?_
  intro ρ w hs
  obtain ⟨h1, h2⟩ := hx ρ w hs
  refine ⟨.pointer (some ⟨b, k, none⟩), ?_, rfl, h2⟩
  simp [execOp, h1]
theorem ob_faP {s : TypeId} {x : Operand} {k n b : Nat} {cs : List Value} {fields : Array Field} {f : Field} (hx : ArgOK X pl Fs i x (OwnP b 0 cs)) (hu : Tryz.prog.underlying s = some (.struct fields))
    (hf : fields[k]? = some f) (hn : (Tryz.prog.info? f.type).map (·.size) = some (n + 1)) :
    Ob X pl Fs i ⟨some d, .fieldAddr s x k, ty, pos, af, g⟩ (OwnP b f.offset cs) := by
  refine ob_same ?_
  intro ρ w hs
  obtain ⟨h1, h2⟩ := hx ρ w hs
  cases hq : Tryz.prog.info? f.type with
  | none => simp [hq] at hn
  | some inf =>
    have hsz : inf.size = n + 1 := by simpa [hq] using hn
    refine ⟨.pointer (some ⟨b, f.offset, none⟩), ?_, rfl, h2⟩
    unfold execOp
    refine exec_v _ _ _ _ _ ?_
    unfold Instr.fieldAt
    rw [Sem.run_bind, run_underlying hu, Result.andThen_ok]
    simp only [hf, h1, Instr.sureAddr, fieldPlace, sizeOf, typeInfo, Sem.run_bind, Sem.run_pure, Result.andThen_ok]
    simp [hq, hsz, add_lit]
theorem ob_loadP {t : TypeId} {x : Operand} {dsc : TypeDesc} {b k : Nat} {cs : List Value} {c : Value} (hx : ArgOK X pl Fs i x (OwnP b k cs)) (hu : Tryz.prog.underlying t = some dsc)
    (hd : aggD dsc = false) (hc : cs[k]? = some c) : Ob X pl Fs i ⟨some d, .load t x, ty, pos, af, g⟩ (Is c) := by
  refine ob_same ?_
  intro ρ w hs
  obtain ⟨h1, e, h2⟩ := hx ρ w hs
  refine ⟨c, exec_load h1 (run_load_one hu hd ?_), rfl⟩
  rw [cell_of_row w b k _ e (0, 0) h2]
  simpa using hc
end
theorem sl_sliced {α : Type} {T : El α} {l : List α} {a : Option (Nat × Nat)} {c lo h m : Nat} {w : World} (hlc : l.length ≤ c) (hn : a = none → l = [] ∧ c = 0) (hcells : ∀ p, a = some p → ∀ i x, l[i]? = some x → Cells p.1 (p.2 + i * T.size) (T.cells x) w)
    (h1 : lo ≤ h) (h2 : h ≤ l.length) (h3 : h ≤ m) (h4 : m ≤ c) : Holds (Sl T ((l.take h).drop lo)) (sliced (a.map fun p => ⟨p.1, p.2, none⟩) lo h m T.size) w := by
  have hlen : ((l.take h).drop lo).length = h - lo := by simp; omega
  cases a with
  | none =>
    obtain ⟨rfl, rfl⟩ := hn rfl
    have e1 : h = 0 := by simpa using h2
    have e2 : m = 0 := by omega
    have e3 : lo = 0 := by omega
    subst e1 e2 e3
    exact ⟨none, 0, rfl, by simp, fun _ => ⟨rfl, rfl⟩, fun p hp => by cases hp⟩
  | some p =>
    by_cases hm : m = lo
    · refine ⟨some p, 0, ?_, by rw [hlen]; omega, fun hh => (by cases hh), fun q hq i x hi => ?_⟩
      · rw [hlen]; simp [sliced, hm]
      · have := (List.getElem?_eq_some_iff.1 hi).1
        omega
    · refine ⟨some (p.1, p.2 + lo * T.size), m - lo, ?_, by rw [hlen]; omega, fun hh => (by cases hh), fun q hq i x hi => ?_⟩
      · rw [hlen]; simp [sliced, hm, add_lit]
      · cases hq
        rw [List.getElem?_drop] at hi
        have hi2 : l[lo + i]? = some x := by
          rw [List.getElem?_take] at hi
          split at hi
          · exact hi
          · cases hi
        have := hcells p rfl _ x hi2
        rw [Nat.add_mul, ← Nat.add_assoc] at this
        exact this
theorem elem_of {t e : TypeId} (hu : Tryz.prog.underlying t = some (.slice e)) : Tryz.prog.elem t = e := by simp [Program.elem, hu]
theorem sizeOf_run {e : TypeId} {s : Nat} (hn : (Tryz.prog.info? e).map (·.size) = some s) (w : World) : (sizeOf e).run Tryz.prog w = .ok s w := by
  cases hq : Tryz.prog.info? e with
  | none => simp [hq] at hn
  | some inf =>
    have : inf.size = s := by simpa [hq] using hn
    simp [sizeOf, typeInfo, hq, this]
section
variable {X : Reg} {pl : List Tmp × List Nat} {Fs : List Fct} {i : Nat} {d : Tmp} {ty : TypeId} {pos : String} {af : Array Edge} {g : Option (Nat × Bool)}
theorem ob_slice_from {α : Type} {T : El α} {t : TypeId} {x y : Operand} {k : Nat} {l : List α} {z : Int} {ik : IntKind} (hx : ArgOK X pl Fs i x (Sl T l)) (hy : ArgOK X pl Fs i y (Is (.int ik z))) (hz : z = (k : Int)) (hk : k ≤ l.length)
    (hu : Tryz.prog.underlying t = some (.slice T.tid)) (hn : (Tryz.prog.info? T.tid).map (·.size) = some T.size) :
    Ob X pl Fs i ⟨some d, .slice t x (some y) none none, ty, pos, af, g⟩ (Sl T (l.drop k)) := by
  refine ob_same ?_
  intro ρ w hs
  obtain ⟨a, c, h1, hlc, h2, h4⟩ := hx ρ w hs
  have h3 : ρ y = .int ik z := hy ρ w hs
  subst hz
  have hu' : Tryz.prog.underlying t = some (.slice (Tryz.prog.elem t)) := by rw [elem_of hu]; exact hu
  have hsl := sl_sliced hlc h2 h4 hk (Nat.le_refl _) hlc (Nat.le_refl c)
  rw [List.take_length] at hsl
  refine ⟨_, ?_, hsl⟩
  unfold execOp
  refine exec_v _ _ _ _ _ ?_
  simp only [h1, h3, Option.map_some, Option.map_none]
  rw [run_sliceAt_slice w t _ _ _ _ hu', run_slice_l w t _ _ _ hu' ik (k : Int) (by omega) (by omega), elem_of hu, sizeOf_run hn]
  rfl
theorem ob_slice_to {α : Type} {T : El α} {t : TypeId} {x y : Operand} {k : Nat} {l : List α} {z : Int} {ik : IntKind} (hx : ArgOK X pl Fs i x (Sl T l)) (hy : ArgOK X pl Fs i y (Is (.int ik z))) (hz : z = (k : Int)) (hk : k ≤ l.length)
    (hu : Tryz.prog.underlying t = some (.slice T.tid)) (hn : (Tryz.prog.info? T.tid).map (·.size) = some T.size) :
    Ob X pl Fs i ⟨some d, .slice t x none (some y) none, ty, pos, af, g⟩ (Sl T (l.take k)) := by
  refine ob_same ?_
  intro ρ w hs
  obtain ⟨a, c, h1, hlc, h2, h4⟩ := hx ρ w hs
  have h3 : ρ y = .int ik z := hy ρ w hs
  subst hz
  have hu' : Tryz.prog.underlying t = some (.slice (Tryz.prog.elem t)) := by rw [elem_of hu]; exact hu
  have hsl := sl_sliced (lo := 0) (h := k) (m := c) hlc h2 h4 (Nat.zero_le _) hk (by omega) (Nat.le_refl c)
  rw [List.drop_zero] at hsl
  refine ⟨_, ?_, hsl⟩
  unfold execOp
  refine exec_v _ _ _ _ _ ?_
  simp only [h1, h3, Option.map_some, Option.map_none]
  rw [run_sliceAt_slice w t _ _ _ _ hu', run_slice_h w t _ _ _ hu' ik (k : Int) (by omega) (by omega), elem_of hu, sizeOf_run hn]
  rfl
theorem ob_slice_to3 {α : Type} {T : El α} {t : TypeId} {x y y2 : Operand} {k m : Nat} {l : List α} {z z2 : Int} {ik ik2 : IntKind} (hx : ArgOK X pl Fs i x (Sl T l)) (hy : ArgOK X pl Fs i y (Is (.int ik z))) (hy2 : ArgOK X pl Fs i y2 (Is (.int ik2 z2)))
    (hz : z = (k : Int) ∧ z2 = (m : Int)) (hk : k ≤ m ∧ m ≤ l.length)
    (hu : Tryz.prog.underlying t = some (.slice T.tid)) (hn : (Tryz.prog.info? T.tid).map (·.size) = some T.size) :
    Ob X pl Fs i ⟨some d, .slice t x none (some y) (some y2), ty, pos, af, g⟩ (Sl T (l.take k)) := by
  refine ob_same ?_
  intro ρ w hs
  obtain ⟨a, c, h1, hlc, h2, h4⟩ := hx ρ w hs
  have h3 : ρ y = .int ik z := hy ρ w hs
  have h3b : ρ y2 = .int ik2 z2 := hy2 ρ w hs
  obtain ⟨rfl, rfl⟩ := hz
  have hu' : Tryz.prog.underlying t = some (.slice (Tryz.prog.elem t)) := by rw [elem_of hu]; exact hu
  have hsl := sl_sliced (lo := 0) (h := k) (m := m) hlc h2 h4 (Nat.zero_le _) (by omega) hk.1 (by omega)
  rw [List.drop_zero] at hsl
  refine ⟨_, ?_, hsl⟩
  unfold execOp
  refine exec_v _ _ _ _ _ ?_
  simp only [h1, h3, h3b, Option.map_some, Option.map_none]
  rw [run_sliceAt_slice w t _ _ _ _ hu', run_slice_hm w t _ _ _ hu' ik ik2 (k : Int) (m : Int) (by omega) (by omega) (by omega), elem_of hu, sizeOf_run hn]
  rfl
end
end Ex
end Go.Proofs.YtnmfiiejhoafnaaGreat
