/- Rows: stretched into their room, moved along, set against others, made longer by zeros. -/
import Derived.Test.YtnmfiiejhoafnaaGreatPvRow3
import Derived.Lib.AppendZerosOnto
import Derived.Lib.Overlaps
import Derived.Laws.OwnMore
set_option linter.unusedSimpArgs false
set_option linter.unusedVariables false
namespace Go.Proofs.YtnmfiiejhoafnaaGreat
namespace Ex
open Go Calm Go.RowKit
def OwnJ {α : Type} (v0 : Value) (lo : Nat) (T : El α) (l : List α) (k : Nat) : Fct := fun v w => v.ownBlock = v0.ownBlock ∧ ∃ g cap cur, v = .slice (some ⟨g, 0, none⟩) (l.length + k) cap ∧ lo ≤ g ∧ w.heap[g]? = some (.cells cur T.tid (0, 0)) ∧ l.length + k ≤ cap ∧ cap ≤ maxLen ∧ cur.size = cap * T.size ∧ cur.toList.take (l.length * T.size) = l.flatMap T.cells
instance {α : Type} {v0 : Value} {lo : Nat} {T : El α} {l : List α} {k : Nat} : StabG (OwnJ v0 lo T l k) := stabG (fun _ _ _ hg ⟨e, g, cap, cur, h1, h2, h3, h4⟩ => ⟨e, g, cap, cur, h1, h2, (hg.block (Array.getElem?_eq_some_iff.1 h3).1).trans h3, h4⟩)
def Shp (v : Value) (m : Nat) : Prop := ∃ g c, v = .slice (some ⟨g, 0, none⟩) m c ∧ m ≤ c
theorem OwnJ.shp {α : Type} {v0 v : Value} {lo k : Nat} {T : El α} {l : List α} {w : World} (h : Holds (OwnJ v0 lo T l k) v w) : Shp v (l.length + k) := by
  obtain ⟨_, g, cap, _, h1, _, _, h4, _⟩ := h
  exact ⟨g, cap, h1, h4⟩
theorem OwnJ.blk {α : Type} {v0 v : Value} {lo k : Nat} {T : El α} {l : List α} {w : World} (h : Holds (OwnJ v0 lo T l k) v w) : v.ownBlock = v0.ownBlock := h.1
theorem own_shp {α : Type} {lo : Nat} {T : El α} {l : List α} {v : Value} {w : World} (h : Holds (OwnS lo T l) v w) (hl : 0 < l.length) : Shp v l.length := by
  obtain ⟨g, c, _, h1, _, _, h4, _⟩ := own_shape h hl
  exact ⟨g, c, h1, h4⟩
theorem far_of {α : Type} {lo : Nat} {T : El α} {l : List α} {v u : Value} {w : World} (h : Holds (OwnS lo T l) v w) (e : u.ownBlock = v.ownBlock) : ∀ g, u.ownBlock = some g → g < w.heap.size := fun g hg => by
  have h0 : w.ownsRow lo T.tid T.size v l.length (l.flatMap T.cells) := h
  exact (h0.lt g (e ▸ hg)).2
def CutK {α : Type} (v : Value) (lo : Nat) (T : El α) (l : List α) : Fct := fun u w => Holds (OwnS lo T l) u w ∧ ∃ g, u = .slice (some ⟨g, 0, none⟩) l.length (capOf v)
instance {α : Type} {v : Value} {lo : Nat} {T : El α} {l : List α} : StabG (CutK v lo T l) := stabG (fun _ _ _ hg h => ⟨h.1.up hg, h.2⟩)
section
variable {X : Reg} {pl : List Tmp × List Nat} {Fs : List Fct} {i : Nat} {d : Tmp} {ty : TypeId} {pos : String} {af : Array Edge} {g : Option (Nat × Bool)} {ats : Array TypeId}
theorem ob_slice_toK {α : Type} {T : El α} {t : TypeId} {x y : Operand} {k lo : Nat} {l : List α} {z : Int} {ik : IntKind} {v : Value} (hx : ArgOK X pl Fs i x (Is v)) (hv : Holds (OwnS lo T l) v X.w0) (hy : ArgOK X pl Fs i y (Is (.int ik z))) (hz : z = (k : Int)) (hk : k ≤ l.length) (hl : 0 < l.length)
    (hu : Tryz.prog.underlying t = some (.slice T.tid)) (hn : (Tryz.prog.info? T.tid).map (·.size) = some T.size) :
    Ob X pl Fs i ⟨some d, .slice t x none (some y) none, ty, pos, af, g⟩ (CutK v lo T (l.take k)) := by
  refine ob_same ?_
  intro ρ w hs
  have h1 : ρ x = v := hx ρ w hs
  have h3 : ρ y = .int ik z := hy ρ w hs
  subst hz
  have hv' := hv.up hs.grow
  obtain ⟨g0, c, cur, e, _, _, h4, _⟩ := own_shape hv' hl
  have hu' : Tryz.prog.underlying t = some (.slice (Tryz.prog.elem t)) := by rw [elem_of hu]; exact hu
  have hlen : (l.take k).length = k := by rw [List.length_take, Nat.min_eq_left hk]
  refine ⟨.slice (some ⟨g0, 0, none⟩) k c, ?_, ?_, g0, by rw [hlen, e]; rfl⟩
  · unfold execOp
    refine exec_v _ _ _ _ _ ?_
    simp only [h1, h3, e, Option.map_some, Option.map_none]
    rw [run_sliceAt_slice w t _ _ _ _ hu', run_slice_h w t _ _ _ hu' ik (k : Int) (by omega) (by omega), elem_of hu, sizeOf_run hn]
    simp only [Result.andThen_ok, sliced, Int.toNat_natCast, Nat.zero_mul, Option.map_some, add_lit, Nat.zero_add, Nat.sub_zero]
    split <;> rfl
  · subst e
    have := own_take hv' hk
    show World.ownsRow _ lo T.tid T.size _ (l.take k).length _
    rw [hlen]
    exact this
theorem ob_slice_ext {α : Type} {T : El α} {t : TypeId} {x y : Operand} {k lo : Nat} {l : List α} {z : Int} {ik : IntKind} {v : Value} (hx : ArgOK X pl Fs i x (Is v)) (hv : Holds (OwnS lo T l) v X.w0) (hy : ArgOK X pl Fs i y (Is (.int ik z))) (hz : z = ((l.length + k : Nat) : Int)) (hk : l.length + k ≤ capOf v) (hl : 0 < l.length)
    (hu : Tryz.prog.underlying t = some (.slice T.tid)) (hn : (Tryz.prog.info? T.tid).map (·.size) = some T.size) :
    Ob X pl Fs i ⟨some d, .slice t x none (some y) none, ty, pos, af, g⟩ (OwnJ v lo T l k) := by
  refine ob_same ?_
  intro ρ w hs
  have h1 : ρ x = v := hx ρ w hs
  have h3 : ρ y = .int ik z := hy ρ w hs
  subst hz
  have hv' := hv.up hs.grow
  obtain ⟨g0, c, cur, e, f1, f2, f3, f4, f5, f6⟩ := own_shape hv' hl
  have hkc : l.length + k ≤ c := by rw [e] at hk; exact hk
  have hu' : Tryz.prog.underlying t = some (.slice (Tryz.prog.elem t)) := by rw [elem_of hu]; exact hu
  refine ⟨.slice (some ⟨g0, 0, none⟩) (l.length + k) c, ?_, by rw [e]; rfl, g0, c, cur, rfl, f1, f2, hkc, f4, f5, f6⟩
  unfold execOp
  refine exec_v _ _ _ _ _ ?_
  simp only [h1, h3, e, Option.map_some, Option.map_none]
  rw [run_sliceAt_slice w t _ _ _ _ hu', run_slice_h w t _ _ _ hu' ik ((l.length + k : Nat) : Int) (by omega) (by omega), elem_of hu, sizeOf_run hn]
  simp only [Result.andThen_ok, sliced, Int.toNat_natCast, Nat.zero_mul, Option.map_some, add_lit, Nat.zero_add, Nat.sub_zero]
  split <;> rfl
theorem ob_slice_sub {α : Type} {T : El α} {t : TypeId} {x y : Operand} {dd m : Nat} {z : Int} {ik : IntKind} {v : Value} (hx : ArgOK X pl Fs i x (Is v)) (hs' : Shp v m) (hy : ArgOK X pl Fs i y (Is (.int ik z))) (hz : z = (dd : Int)) (hd : dd ≤ m)
    (hu : Tryz.prog.underlying t = some (.slice T.tid)) (hn : (Tryz.prog.info? T.tid).map (·.size) = some T.size) :
    Ob X pl Fs i ⟨some d, .slice t x (some y) none none, ty, pos, af, g⟩ (SubV v T.size dd (m - dd)) := by
  refine ob_same ?_
  intro ρ w hs
  have h1 : ρ x = v := hx ρ w hs
  have h3 : ρ y = .int ik z := hy ρ w hs
  subst hz
  obtain ⟨g0, c, e, hc⟩ := hs'
  have hu' : Tryz.prog.underlying t = some (.slice (Tryz.prog.elem t)) := by rw [elem_of hu]; exact hu
  refine ⟨sliced (some ⟨g0, 0, none⟩) dd m c T.size, ?_, ?_⟩
  · unfold execOp
    refine exec_v _ _ _ _ _ ?_
    simp only [h1, h3, e, Option.map_some, Option.map_none]
    rw [run_sliceAt_slice w t _ _ _ _ hu', run_slice_l w t _ _ _ hu' ik (dd : Int) (by omega) (by omega), elem_of hu, sizeOf_run hn]
    rfl
  · refine ⟨c - dd, ?_⟩
    by_cases hm : c = dd
    · exact .inr ⟨by omega, some ⟨g0, 0, none⟩, by simp [sliced, hm]; omega⟩
    · exact .inl ⟨g0, m, c, e, by simp [sliced, hm, add_lit]⟩
theorem ob_append_zeros {α : Type} {T : El α} {inf : TypeInfo} {z0 : α} (E : ElP T inf z0) {t tn : TypeId} {x y : Operand} {k lo : Nat} {l : List α} {z : Int} {kn : IntKind} {v : Value} (hx : ArgOK X pl Fs i x (CutK v lo T l)) (hy : ArgOK X pl Fs i y (Is (intV z))) (hz : z = (k : Int)) (h0 : 0 < k) (hc : capOf v < l.length + k) (h1 : (l.length + k) * T.bytes ≤ 140737488355328) (h2 : l.length + k ≤ maxLen)
    (ht : Tryz.prog.underlying t = some (.slice T.tid)) (htn : Tryz.prog.underlying tn = some (.int kn)) :
    Ob X pl Fs i ⟨some d, .call { callee := .builtin .append, args := #[x, y], argTypes := #[t, tn] }, ty, pos, af, g⟩ (OwnS X.lo T (l ++ List.replicate k z0)) := by
  subst hz
  refine ob_val ?_
  intro ρ w hs
  obtain ⟨ho, g0, e⟩ := hx ρ w hs
  have e1 : ρ y = intV (k : Int) := hy ρ w hs
  have ho0 : w.ownsRow lo T.tid T.size (ρ x) l.length (l.flatMap T.cells) := ho
  have hmax : ((l.length + k : Nat) : Int) ≤ 9223372036854775807 := by
    have := h2
    simp only [maxLen] at this
    omega
  have hcells := ho0.cells (g := g0) (by rw [e]; rfl)
  have hold := run_firstCells_some (P := Tryz.prog) w.drew inf.size l.length ⟨g0, 0, none⟩ l.length (capOf v) (l.flatMap T.cells) (by rw [flatMap_len, E.hsize]) hcells
  have hr := Lib.run_append_grow_zeros (P := Tryz.prog) w t tn ty T.tid inf (El.val T z0) .i64 kn ht htn E.hinfo E.hzero (some ⟨g0, 0, none⟩) l.length (capOf v) (l.flatMap T.cells) hold k h0 (by rw [E.hsize]; exact T.pos) hc hmax
    (by rw [E.hbytes]; have : k * T.bytes ≤ (l.length + k) * T.bytes := Nat.mul_le_mul_right _ (by omega); omega) (growslice_fits hc (by rw [E.hbytes]; exact h1))
  refine ⟨.slice (some ⟨w.heap.size, 0, none⟩) (l.length + k) (grownCap w (l.length + k) (capOf v) T.tid), w.drew.alloc (.cells ((l.flatMap T.cells).toArray ++ Builtin.zeroCells (El.val T z0).cells k ++ Builtin.zeroCells (El.val T z0).cells (grownCap w (l.length + k) (capOf v) T.tid - (l.length + k))) T.tid), ?_, ?_, ?_⟩
  · unfold execOp
    simp [resolve, invoke, builtin, e, e1, hr, Result.andThen]
  · exact Grow.trans (Grow.drew w) (Grow.alloc w.drew _)
  · have hge := grownCap_ge w (l.length + k) (capOf v) T.tid
    have hcm := grownCap_le_maxLen w (l.length + k) (capOf v) T.tid h2
    have hll : (l ++ List.replicate k z0).length = l.length + k := by simp
    show World.ownsRow _ X.lo T.tid T.size _ (l ++ List.replicate k z0).length _
    rw [hll]
    refine ⟨by rw [flatMap_len, hll], .inr ⟨w.heap.size, _, _, rfl, lo_le hs, heap_alloc_new w.drew _, hge, hcm, ?_, ?_⟩⟩
    · rw [← Array.length_toList, Array.toList_append, Array.toList_append, List.length_append, List.length_append, zero_flat E.hzcells, zero_flat E.hzcells, flatMap_len, flatMap_len]
      simp only [flatMap_len, List.length_replicate, ← Nat.add_mul]
      rw [Nat.add_sub_cancel' hge]
    · rw [Array.toList_append, Array.toList_append, zero_flat E.hzcells, ← List.flatMap_append]
      refine List.take_left' ?_
      rw [flatMap_len, hll]
end
theorem row_shape {w : World} {g : Nat} {cur : Array Value} {e : TypeId} (h : w.heap[g]? = some (.cells cur e (0, 0))) : w.shape? g = some (e, cur.size) := by
  simp [World.shape?, h]
theorem row_frozen {w : World} {g j : Nat} {cur : Array Value} {e : TypeId} (h : w.heap[g]? = some (.cells cur e (0, 0))) : w.frozen? ⟨g, j, none⟩ = false := by
  simp [World.frozen?, h]
section
variable {X : Reg} {pl : List Tmp × List Nat} {Fs : List Fct} {i : Nat} {d : Tmp} {ty : TypeId} {pos : String} {af : Array Edge} {g : Option (Nat × Bool)} {ats : Array TypeId}
theorem ob_overlaps {α : Type} {T : El α} {f : FuncId} {fn : Func} {tS tR : TypeId} {x y : Operand} {lo lo2 dd n k : Nat} {l m : List α} {v0 v1 u : Value}
    (hf : Tryz.prog.funcs[f]? = some fn) (hname : (fn.name == "runtime.NumGoroutine") = false) (hb : fn.body.isNone = true) (hn : Extern.findNext fn = none) (he : Extern.find fn = some (Extern.SlicesOverlaps.overlaps #[tS, tS] #[tR])) (ht : Tryz.prog.underlying tS = some (.slice T.tid)) (hsz : (Tryz.prog.info? T.tid).map (·.size) = some T.size)
    (hx : ArgOK X pl Fs i x (Is u)) (hu : Holds (OwnS lo2 T m) u X.w0) (hm : 0 < m.length) (hy : ArgOK X pl Fs i y (SubV v1 T.size dd n)) (hj : Holds (OwnJ v0 lo T l k) v1 X.w0) (hn0 : 0 < n) (hl0 : 0 < l.length) (hfar : ∀ g, v1.ownBlock = some g → g < lo2) :
    Ob X pl Fs i ⟨some d, .call { callee := .value (.func f), args := #[x, y], argTypes := ats }, ty, pos, af, g⟩ (Is (.bool false)) := by
  refine ob_same ?_
  intro ρ w hs
  have e1 : ρ x = u := hx ρ w hs
  obtain ⟨gu, cu, curu, f1, f2, f3, f4, f5, f6, f7⟩ := own_shape (hu.up hs.grow) hm
  obtain ⟨_, gj, cj, curj, h1, h2, h3, h4, h5, h6, h7⟩ := hj.up hs.grow
  obtain ⟨dc, ⟨g1, m1, c1, e2, e3⟩ | ⟨e2, _⟩⟩ := hy ρ w hs
  · rw [h1] at e2
    simp only [Value.slice.injEq, Option.some.injEq, Addr.mk.injEq, and_true] at e2
    obtain ⟨rfl, _, _⟩ := e2
    have hlt := hfar gj (by rw [h1]; rfl)
    refine ⟨.bool false, ?_, rfl⟩
    have hargs : (#[x, y] : Array Operand).map ρ = #[.slice (some ⟨gu, 0, none⟩) m.length cu, .slice (some ⟨gj, dd * T.size, none⟩) n dc] := by simp [e1, f1, e3]
    have hsz' : ∀ w, (Go.sizeOf T.tid).run Tryz.prog w = .ok T.size w := fun w => sizeOf_run hsz w
    have hk : curj.size ≠ 0 := by
      rw [h6]
      have h8 : 0 < cj := by omega
      exact Nat.pos_iff_ne_zero.1 (Nat.mul_pos h8 T.pos)
    have hov := Lib.run_overlaps_apart (P := Tryz.prog) w tS tR T.tid ht T.size hsz' ⟨gu, 0, none⟩ ⟨gj, dd * T.size, none⟩ m.length cu n dc (by show gu ≠ gj; omega) T.tid T.tid curu.size curj.size (row_shape f3) (row_shape h3) hk (row_frozen f3) (row_frozen f3)
    unfold execOp
    simp only [resolve, hs.base.func, Deferred.ofValue, Sem.run_bind, Sem.run_pure, Result.andThen_ok, invoke, Array.empty_append, Array.append_empty, hargs]
    rw [run_callFunc_extern hf hname hb hn he, hov]
    rfl
  · omega
end
theorem wl_copyJ {α : Type} {T : El α} {ops : Array Oper} {rest : List Oper} {Q : Exit → Act → World → Prop} {a : Act} {w : World} {d n : Nat} {x y : Operand} {t t' ty : TypeId} {pos : String} {af : Array Edge} {lo i dl sl : Nat} {l : List α} {v v0 : Value}
    (ts : List Tmp) (hf : Fr n a) (hd : decide (d < n) = true) (hts : ts.contains d = false) (ht : Tryz.prog.underlying t = some (.slice T.tid)) (hsz : (Tryz.prog.info? T.tid).map (·.size) = some T.size)
    (hv : Holds (OwnJ v0 lo T l 1) v w) (hx : Holds (SubV v T.size (i + 1) dl) (a.eval x) w) (hy : Holds (SubV v T.size i sl) (a.eval y) w) (hi : i < l.length) (hdl : dl = l.length + 1 - (i + 1)) (hsl : sl = l.length + 1 - i)
    (h : ∀ a' w', Fr n a' → Wr lo T.tid w w' → Keep ts a a' → (∃ g, v.ownBlock = some g ∧ Only g w w') → Holds (OwnS lo T (l.take (i + 1) ++ l.drop i)) v w' → wpList Tryz.prog ops Q rest a' w') :
    wpList Tryz.prog ops Q (⟨some d, .call { callee := .builtin .copy, args := #[x, y], argTypes := #[t, t'] }, ty, pos, af, none⟩ :: rest) a w := by
  have hd' : d < n := of_decide_eq_true hd
  obtain ⟨_, g, cap, cur, f1, f2, f3, f4, f5, f6, f7⟩ := hv
  obtain ⟨dc, ⟨g1, m1, c1, e1, e2⟩ | ⟨e1, _⟩⟩ := hx
  · obtain ⟨sc, ⟨g2, m2, c2, e3, e4⟩ | ⟨e3, _⟩⟩ := hy
    · rw [f1] at e1 e3
      simp only [Value.slice.injEq, Option.some.injEq, Addr.mk.injEq, and_true] at e1 e3
      obtain ⟨rfl, _, _⟩ := e1
      obtain ⟨rfl, _, _⟩ := e3
      have hcl : ((l.drop i).flatMap T.cells).length = (l.length - i) * T.size := by rw [flatMap_len, List.length_drop]
      have hle : (i + 1) * T.size + ((l.drop i).flatMap T.cells).length ≤ cap * T.size := by
        rw [hcl, ← Nat.add_mul]
        exact Nat.mul_le_mul_right _ (by omega)
      have hcur : ∀ j u, (l.flatMap T.cells)[j]? = some u → cur.toList[j]? = some u := fun j u hj => by
        rw [← f7, List.getElem?_take] at hj
        split at hj
        · exact hj
        · cases hj
      have hr : (Builtin.copy_ #[t, t'] ty #[a.eval x, a.eval y]).run Tryz.prog w = .ok (goInt ((l.length - i : Nat) : Int)) (w.setRow g (cur.toList.take ((i + 1) * T.size) ++ (l.drop i).flatMap T.cells ++ cur.toList.drop ((i + 1) * T.size + ((l.drop i).flatMap T.cells).length)).toArray) := by
        rw [e2, e4]
        refine run_copy_any w t t' ty T.tid T.size g ((i + 1) * T.size) dl dc ⟨g, i * T.size, none⟩ sl sc cur T.tid _ _ ht hsz f3 ?_ hcl ?_ (by omega) ?_
        · rw [hdl, hsl]
          show min _ _ = _
          omega
        · intro j u hj
          rw [add_lit, cell_of_row w g _ cur T.tid (0, 0) f3]
          rw [← flatMap_drop, List.getElem?_drop] at hj
          have := hcur _ _ hj
          simpa using this
        · intro u hu
          obtain ⟨z, _, hz⟩ := List.mem_flatMap.1 hu
          exact T.one z u hz
      unfold wpList
      rw [if_pos (by simp [Region.wanted])]
      refine .inl ?_
      unfold Oper.wp
      rw [exec_copy hr]
      refine h _ _ (fr_put hf) ⟨setRow_below f2, fun j _ hne => setRow_other w g j _ fun e => ?_⟩ (fun u hu => eval_put_ne fun e => ?_) ⟨g, by rw [f1]; rfl, setRow_below (Nat.le_refl _), fun k _ hne => setRow_other w g k _ hne⟩ ?_
      · subst e; exact hne _ _ f3
      · subst e; rw [hts] at hu; cases hu
      · have hll : (l.take (i + 1) ++ l.drop i).length = l.length + 1 := by
          simp only [List.length_append, List.length_take, List.length_drop]
          omega
        show World.ownsRow _ lo T.tid T.size _ (l.take (i + 1) ++ l.drop i).length _
        rw [hll]
        refine ⟨by rw [flatMap_len, hll], .inr ⟨g, cap, _, f1, f2, setRow_heap w g cur _ T.tid (0, 0) f3, f4, f5, ?_, ?_⟩⟩
        · simp only [List.size_toArray, List.length_append, List.length_take, List.length_drop, Array.length_toList]
          omega
        · have e5 : cur.toList.take ((i + 1) * T.size) = (l.take (i + 1)).flatMap T.cells := by
            rw [← flatMap_take, ← f7, List.take_take, Nat.min_eq_left (Nat.mul_le_mul_right _ (by omega))]
          rw [e5, ← List.flatMap_append]
          refine List.take_left' ?_
          rw [flatMap_len, hll]
    · omega
  · omega
theorem put1 {α : Type} (L : List α) (x : α) (i dl : Nat) (h : 0 < dl) : L.take i ++ [x].take dl ++ L.drop (i + min [x].length dl) = L.take i ++ x :: L.drop (i + 1) := by
  have e : min [x].length dl = 1 := by simp only [List.length_cons, List.length_nil]; omega
  rw [e, List.take_of_length_le (show [x].length ≤ dl from h), List.append_assoc]; rfl
theorem ins_grow1 {α : Type} {l : List α} {x z : α} {i k : Nat} (hi : i ≤ l.length) : (l.take i ++ List.replicate k z).take i ++ x :: (l.take i ++ List.replicate k z).drop (i + 1) = l.take i ++ x :: List.replicate (k - 1) z := by
  have e : (l.take i).length = i := by rw [List.length_take, Nat.min_eq_left hi]
  rw [List.take_left' e, List.drop_append, e, List.drop_of_length_le (by omega), List.nil_append, List.drop_replicate, show i + 1 - i = 1 by omega]
theorem ins_grow2 {α : Type} {l : List α} {x z : α} {i k dl : Nat} (hi : i ≤ l.length) (hk : k = l.length - i) (hd : dl = k) :
    (l.take i ++ x :: List.replicate k z).take (i + 1) ++ (l.drop i).take dl ++ (l.take i ++ x :: List.replicate k z).drop (i + 1 + min (l.drop i).length dl) = l.take i ++ x :: l.drop i := by
  have e : (l.take i).length = i := by rw [List.length_take, Nat.min_eq_left hi]
  have e2 : (l.take i ++ [x]).length = i + 1 := by rw [List.length_append, e]; rfl
  have e3 : l.take i ++ x :: List.replicate k z = (l.take i ++ [x]) ++ List.replicate k z := by rw [List.append_assoc]; rfl
  have e4 : (l.drop i).take dl = l.drop i := List.take_of_length_le (by rw [List.length_drop]; omega)
  have e6 : ((l.take i ++ [x]) ++ List.replicate k z).drop (i + 1 + min (l.drop i).length dl) = [] := List.drop_of_length_le (by rw [List.length_append, e2, List.length_replicate, List.length_drop]; omega)
  rw [e3, e6, List.take_left' e2, e4, List.append_nil, List.append_assoc]; rfl
theorem ins_place {α : Type} {l : List α} {x : α} {i : Nat} (hi : i < l.length) : (l.take (i + 1) ++ l.drop i).take i ++ x :: (l.take (i + 1) ++ l.drop i).drop (i + 1) = l.take i ++ x :: l.drop i := by
  have e : (l.take (i + 1)).length = i + 1 := by rw [List.length_take, Nat.min_eq_left (by omega)]
  rw [List.drop_left' e, List.take_append_of_le_length (by omega), List.take_take, Nat.min_eq_left (by omega)]
end Ex
end Go.Proofs.YtnmfiiejhoafnaaGreat
