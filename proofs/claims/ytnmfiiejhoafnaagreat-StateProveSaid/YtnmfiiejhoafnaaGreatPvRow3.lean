/- Rows: cut short, cut beyond their length, cleared behind it; laws that call with a row. -/
import Derived.Test.YtnmfiiejhoafnaaGreatPvCpy
set_option linter.unusedSimpArgs false
set_option linter.unusedVariables false
namespace Go.Proofs.YtnmfiiejhoafnaaGreat
namespace Ex
open Go Calm Go.RowKit
theorem own_take {α : Type} {lo g c k : Nat} {T : El α} {l : List α} {w : World} (h : w.ownsRow lo T.tid T.size (.slice (some ⟨g, 0, none⟩) l.length c) l.length (l.flatMap T.cells)) (hk : k ≤ l.length) :
    w.ownsRow lo T.tid T.size (.slice (some ⟨g, 0, none⟩) k c) k ((l.take k).flatMap T.cells) := by
  refine ⟨by rw [flatMap_len, List.length_take, Nat.min_eq_left hk], .inr ?_⟩
  rcases h.2 with ⟨e1, _⟩ | ⟨g', cap, cur, e1, h2, h3, h4, h5, h6, h7⟩
  · cases e1
  · simp only [Value.slice.injEq, Option.some.injEq, Addr.mk.injEq] at e1
    obtain ⟨⟨rfl, _, _⟩, _, rfl⟩ := e1
    refine ⟨g, c, cur, rfl, h2, h3, by omega, h5, h6, ?_⟩
    rw [← flatMap_take, ← h7, List.take_take, Nat.min_eq_left (Nat.mul_le_mul_right _ hk)]
theorem own_shape {α : Type} {lo : Nat} {T : El α} {l : List α} {v : Value} {w : World} (h : Holds (OwnS lo T l) v w) (hl : 0 < l.length) :
    ∃ g c cur, v = .slice (some ⟨g, 0, none⟩) l.length c ∧ lo ≤ g ∧ w.heap[g]? = some (.cells cur T.tid (0, 0)) ∧ l.length ≤ c ∧ c ≤ maxLen ∧ cur.size = c * T.size ∧ cur.toList.take (l.length * T.size) = l.flatMap T.cells := by
  have h0 : w.ownsRow lo T.tid T.size v l.length (l.flatMap T.cells) := h
  rcases h0.2 with ⟨_, h1⟩ | ⟨g, cap, cur, rfl, h2, h3, h4, h5, h6, h7⟩
  · omega
  · exact ⟨g, cap, cur, rfl, h2, h3, h4, h5, h6, h7⟩
section
variable {X : Reg} {pl : List Tmp × List Nat} {Fs : List Fct} {i : Nat} {d : Tmp} {ty : TypeId} {pos : String} {af : Array Edge} {g : Option (Nat × Bool)} {ats : Array TypeId}
theorem ob_slice_toC {α : Type} {T : El α} {t : TypeId} {x y : Operand} {k lo : Nat} {l : List α} {z : Int} {ik : IntKind} {v : Value} (hx : ArgOK X pl Fs i x (Is v)) (hv : Holds (OwnS lo T l) v X.w0) (hy : ArgOK X pl Fs i y (Is (.int ik z))) (hz : z = (k : Int)) (hk : k ≤ l.length) (hl : 0 < l.length)
    (hu : Tryz.prog.underlying t = some (.slice T.tid)) (hn : (Tryz.prog.info? T.tid).map (·.size) = some T.size) :
    Ob X pl Fs i ⟨some d, .slice t x none (some y) none, ty, pos, af, g⟩ (OwnC lo T (l.take k) l.length) := by
  refine ob_same ?_
  intro ρ w hs
  have h1 : ρ x = v := hx ρ w hs
  have h3 : ρ y = .int ik z := hy ρ w hs
  subst hz
  have hv' := hv.up hs.grow
  obtain ⟨g0, c, cur, e, _, _, h4, _⟩ := own_shape hv' hl
  have hu' : Tryz.prog.underlying t = some (.slice (Tryz.prog.elem t)) := by rw [elem_of hu]; exact hu
  have hlen : (l.take k).length = k := by rw [List.length_take, Nat.min_eq_left hk]
  refine ⟨.slice (some ⟨g0, 0, none⟩) k c, ?_, ?_, g0, c, by rw [hlen], h4⟩
  · unfold execOp
    refine exec_v _ _ _ _ _ ?_
    simp only [h1, h3, e, Option.map_some, Option.map_none]
    rw [run_sliceAt_slice w t _ _ _ _ hu', run_slice_h w t _ _ _ hu' ik (k : Int) (by omega) (by omega), elem_of hu, sizeOf_run hn]
    simp only [Result.andThen_ok, sliced, Int.toNat_natCast, Nat.zero_mul, Option.map_some, add_lit, Nat.zero_add, Nat.sub_zero]
    split <;> rfl
  · subst e
    have := own_take hv' hk
    show World.ownsRow _ lo T.tid T.size _ (l.take k).length _
    rw [hlen]
    exact this
theorem ob_slice3_any {α : Type} {T : El α} {t : TypeId} {x y z u : Operand} {a b c : Int} {l : List α} {i1 i2 i3 : IntKind} (hx : ArgOK X pl Fs i x (Sl T l)) (hy : ArgOK X pl Fs i y (Is (.int i1 a))) (hz : ArgOK X pl Fs i z (Is (.int i2 b))) (hu2 : ArgOK X pl Fs i u (Is (.int i3 c)))
    (h : 0 ≤ a ∧ a ≤ b ∧ b ≤ c ∧ c ≤ (l.length : Int)) (hu : Tryz.prog.underlying t = some (.slice T.tid)) (hn : (Tryz.prog.info? T.tid).map (·.size) = some T.size) :
    Ob X pl Fs i ⟨some d, .slice t x (some y) (some z) (some u), ty, pos, af, g⟩ Any := by
  refine ob_same ?_
  intro ρ w hs
  obtain ⟨p, cp, h1, hlc, _⟩ := hx ρ w hs
  have h2 : ρ y = .int i1 a := hy ρ w hs
  have h3 : ρ z = .int i2 b := hz ρ w hs
  have h4 : ρ u = .int i3 c := hu2 ρ w hs
  have hu' : Tryz.prog.underlying t = some (.slice (Tryz.prog.elem t)) := by rw [elem_of hu]; exact hu
  refine ⟨sliced (p.map fun q => ⟨q.1, q.2, none⟩) a.toNat b.toNat c.toNat T.size, ?_, trivial⟩
  unfold execOp
  refine exec_v _ _ _ _ _ ?_
  simp only [h1, h2, h3, h4, Option.map_some]
  rw [run_sliceAt_slice w t _ _ _ _ hu', run_slice_lhm w t _ _ _ hu' i1 i2 i3 a b c (by omega) (by omega) (by omega) (by omega), elem_of hu, sizeOf_run hn]
  rfl
theorem ob_slice_subC {α : Type} {T : El α} {t : TypeId} {x y z : Operand} {lo k dd h : Nat} {l : List α} {a b : Int} {i1 i2 : IntKind} {v : Value} {w1 : World} (hx : ArgOK X pl Fs i x (Is v)) (hv : Holds (OwnC lo T l k) v w1) (hy : ArgOK X pl Fs i y (Is (.int i1 a))) (hz : ArgOK X pl Fs i z (Is (.int i2 b)))
    (ha : a = (dd : Int)) (hb : b = (h : Int)) (h1 : dd ≤ h) (h2 : h ≤ k) (hu : Tryz.prog.underlying t = some (.slice T.tid)) (hn : (Tryz.prog.info? T.tid).map (·.size) = some T.size) :
    Ob X pl Fs i ⟨some d, .slice t x (some y) (some z) none, ty, pos, af, g⟩ (SubV v T.size dd (h - dd)) := by
  subst ha hb
  refine ob_same ?_
  intro ρ w hs
  have e0 : ρ x = v := hx ρ w hs
  have e1 : ρ y = .int i1 (dd : Int) := hy ρ w hs
  have e2 : ρ z = .int i2 (h : Int) := hz ρ w hs
  obtain ⟨_, g0, c, e, hc⟩ := hv
  have hu' : Tryz.prog.underlying t = some (.slice (Tryz.prog.elem t)) := by rw [elem_of hu]; exact hu
  refine ⟨sliced (some ⟨g0, 0, none⟩) dd h c T.size, ?_, ?_⟩
  · unfold execOp
    refine exec_v _ _ _ _ _ ?_
    simp only [e0, e1, e2, e, Option.map_some, Option.map_none]
    rw [run_sliceAt_slice w t _ _ _ _ hu', run_slice_lh w t _ _ _ hu' i1 i2 (dd : Int) (h : Int) (by omega) (by omega) (by omega), elem_of hu, sizeOf_run hn]
    rfl
  · refine ⟨c - dd, ?_⟩
    by_cases hm : c = dd
    · exact .inr ⟨by omega, some ⟨g0, 0, none⟩, by simp [sliced, hm]; omega⟩
    · exact .inl ⟨g0, l.length, c, e, by simp [sliced, hm, add_lit]⟩
end
theorem Wr.grow {lo : Nat} {e : TypeId} {a b c : World} (h : Wr lo e a b) (hg : Grow b c) (hl : lo ≤ b.heap.size) : Wr lo e a c :=
  ⟨Below.trans h.below (Below.mono hg hl), fun k hk hn => (hg.block (Nat.lt_of_lt_of_le hk h.below.size)).trans (h.other k hk hn)⟩
theorem Wr.trans {lo lo' : Nat} {e : TypeId} {a b c : World} (h : Wr lo e a b) (h' : Wr lo' e b c) (hl : lo ≤ lo') : Wr lo e a c :=
  ⟨Below.trans h.below (Below.mono h'.below hl), fun k hk hn => by
    have h1 := h.other k hk hn
    rw [← h1]
    exact h'.other k (Nat.lt_of_lt_of_le hk h.below.size) (by rw [h1]; exact hn)⟩
def RetW (lo : Nat) (e : TypeId) (w0 : World) (F : Fct) : Ending → World → Prop := fun x w' => ∃ v, x = .returned v ∧ Wr lo e w0 w' ∧ Holds F v w'
def ConD {α : Type} (f : FuncId) (T : El α) (l : List α) (y z : Value) (r : List α) : Prop := ∀ wl v w, Siz wl w → Holds (OwnS wl.heap.size T l) v w → Calls Tryz.prog f #[v, y, z] w (RetW wl.heap.size T.tid w (OwnS wl.heap.size T r))
def ConI {α : Type} (f : FuncId) (T : El α) (l : List α) (y : Value) (m r : List α) : Prop := ∀ wl wm v u w, Siz wl wm → Holds (OwnS wl.heap.size T l) v wm → Grow wm w → Holds (OwnS wm.heap.size T m) u w → Calls Tryz.prog f #[v, y, u] w (RetW wl.heap.size T.tid w (OwnS wl.heap.size T r))
theorem ret_wr {fn : Func} {n lo : Nat} {e : TypeId} {a : Act} {w0 w : World} {F : Fct} {t : Tmp} (hr : fn.results = #[.tmp t]) (hf : Fr n a) (hw : Wr lo e w0 w) (h : Holds F (a.eval (.tmp t)) w) : bodyPost Tryz.prog fn (RetW lo e w0 F) .ret a w :=
  ⟨hf.defers, _, results_tmp hr _ _ _, _, rfl, hw, h⟩
theorem zero_flat {α : Type} {T : El α} {z : α} (hz : (El.val T z).cells = (T.cells z).toArray) (n : Nat) : (Builtin.zeroCells (El.val T z).cells n).toList = (List.replicate n z).flatMap T.cells := by
  have h : Builtin.zeroCells (El.val T z).cells n = madeCells (El.val T z).cells (n * T.size) := by
    unfold Builtin.zeroCells madeCells
    rw [show (El.val T z).cells.size = T.size by rw [hz]; simp [T.len]]
  rw [h]
  exact made_flat hz n
theorem wl_clear {α : Type} {T : El α} {inf : TypeInfo} {z : α} (E : ElP T inf z) {ops : Array Oper} {rest : List Oper} {Q : Exit → Act → World → Prop} {a : Act} {w : World} {x : Operand} {t ty : TypeId} {pos : String} {af : Array Edge} {lo dd n k : Nat} {l : List α} {v : Value}
    (ht : Tryz.prog.underlying t = some (.slice T.tid)) (hv : Holds (OwnC lo T l k) v w) (hx : Holds (SubV v T.size dd n) (a.eval x) w) (h1 : l.length ≤ dd) (h2 : dd + n ≤ k)
    (h : ∀ w', Wr lo T.tid w w' → Holds (OwnC lo T l k) v w' → wpList Tryz.prog ops Q rest a w') :
    wpList Tryz.prog ops Q (⟨none, .call { callee := .builtin .clear, args := #[x], argTypes := #[t] }, ty, pos, af, none⟩ :: rest) a w := by
  have key : ∃ w', (Builtin.clear_ #[t] ty #[a.eval x]).run Tryz.prog w = .ok (.tuple #[]) w' ∧ Wr lo T.tid w w' ∧ Holds (OwnC lo T l k) v w' := by
    obtain ⟨dc, ⟨g, m, c, e1, e2⟩ | ⟨e1, o, e2⟩⟩ := hx
    · cases n with
      | zero =>
        refine ⟨w, ?_, Wr.refl w, hv⟩
        rw [e2]
        simp [Builtin.clear_, run_underlying ht]
      | succ n =>
        obtain ⟨hs, g', cap, e3, hcap⟩ := hv
        rw [e1] at e3
        simp only [Value.slice.injEq, Option.some.injEq, Addr.mk.injEq] at e3
        obtain ⟨⟨rfl, _, _⟩, rfl, rfl⟩ := e3
        have hs0 : w.ownsRow lo T.tid T.size v l.length (l.flatMap T.cells) := hs
        rcases hs0.2 with ⟨e4, _⟩ | ⟨g', cap', cur, e4, h3, h4, h5, h6, h7, h8⟩
        · rw [e1] at e4; cases e4
        · rw [e1] at e4
          simp only [Value.slice.injEq, Option.some.injEq, Addr.mk.injEq] at e4
          obtain ⟨⟨rfl, _, _⟩, _, rfl⟩ := e4
          have hzl : ((Builtin.zeroCells (El.val T z).cells (n + 1)).toList).length = (n + 1) * T.size := by rw [zero_flat E.hzcells, flatMap_len, List.length_replicate]
          have hle : dd * T.size + (n + 1) * T.size ≤ c * T.size := by rw [← Nat.add_mul]; exact Nat.mul_le_mul_right _ (by omega)
          have hle1 : l.length * T.size ≤ dd * T.size := Nat.mul_le_mul_right _ h1
          have hst := run_storeCells_at Tryz.prog g (dd * T.size) T.tid (Builtin.zeroCells (El.val T z).cells (n + 1)).toList 0 cur w h4 (by rw [hzl]; omega) (fun u hu => by
            rw [zero_flat E.hzcells] at hu
            obtain ⟨y, _, hy⟩ := List.mem_flatMap.1 hu
            exact T.one y u hy)
          simp only [Nat.add_zero] at hst
          refine ⟨w.setRow g (cur.toList.take (dd * T.size) ++ (Builtin.zeroCells (El.val T z).cells (n + 1)).toList ++ cur.toList.drop (dd * T.size + (Builtin.zeroCells (El.val T z).cells (n + 1)).toList.length)).toArray, ?_, ⟨setRow_below h3, fun j _ hne => setRow_other w g j _ fun e => ?_⟩, ⟨⟨hs0.1, .inr ⟨g, c, _, e1, h3, setRow_heap w g cur _ T.tid (0, 0) h4, h5, h6, ?_, ?_⟩⟩, g, c, e1, hcap⟩⟩
          · rw [e2]
            simp [Builtin.clear_, run_underlying ht, zeroValue, typeInfo, E.hinfo, E.hzero, hst]
          · subst e; exact hne _ _ h4
          · simp only [List.size_toArray, List.length_append, List.length_take, List.length_drop, Array.length_toList, hzl]
            omega
          · rw [← h8, List.append_assoc, List.take_append, List.take_take]
            have : (List.take (dd * T.size) cur.toList).length = dd * T.size := by rw [List.length_take, Array.length_toList]; omega
            rw [this, show l.length * T.size - dd * T.size = 0 by omega, List.take_zero, List.append_nil, Nat.min_eq_left (by omega)]
    · subst e1
      refine ⟨w, ?_, Wr.refl w, hv⟩
      rw [e2]
      cases o <;> simp [Builtin.clear_, run_underlying ht]
  obtain ⟨w', hr, hw, hv'⟩ := key
  unfold wpList
  rw [if_pos (by simp [Region.wanted])]
  refine .inl ?_
  unfold Oper.wp
  have hrun : (execOp a.eval ⟨none, .call { callee := .builtin .clear, args := #[x], argTypes := #[t] }, ty, pos, af, none⟩).run Tryz.prog w = .ok (.value (.tuple #[])) w' := by
    unfold execOp
    simp [resolve, invoke, builtin, hr, Result.andThen]
  rw [hrun]
  exact h w' hw hv'
end Ex
end Go.Proofs.YtnmfiiejhoafnaaGreat
