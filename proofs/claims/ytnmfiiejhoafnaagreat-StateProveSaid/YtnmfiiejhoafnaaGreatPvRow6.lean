/- One field of one element of a row, written. -/
import Derived.Test.YtnmfiiejhoafnaaGreatPvRow5
set_option linter.unusedSimpArgs false
set_option linter.unusedVariables false
namespace Go.Proofs.YtnmfiiejhoafnaaGreat
namespace Ex
open Go Calm Go.RowKit
theorem set_flatF {α : Type} {T : El α} {l : List α} {k off : Nat} {x y : α} {u : Value} (hx : l[k]? = some x) (ho : off < T.size) (hy : T.cells y = (T.cells x).set off u) :
    (l.flatMap T.cells).take (k * T.size + off) ++ [u] ++ (l.flatMap T.cells).drop (k * T.size + off + 1) = (l.set k y).flatMap T.cells := by
  have hk : k < l.length := (List.getElem?_eq_some_iff.1 hx).1
  have hxe : l[k] = x := (List.getElem?_eq_some_iff.1 hx).2
  have e1 : l = l.take k ++ x :: l.drop (k + 1) := by
    rw [← hxe, ← List.drop_eq_getElem_cons hk, List.take_append_drop]
  have e2 : l.set k y = l.take k ++ y :: l.drop (k + 1) := List.set_eq_take_append_cons_drop.trans (if_pos hk)
  have hA : ((l.take k).flatMap T.cells).length = k * T.size := by rw [flatMap_len, List.length_take, Nat.min_eq_left (by omega)]
  have e3 : l.flatMap T.cells = (l.take k).flatMap T.cells ++ (T.cells x ++ (l.drop (k + 1)).flatMap T.cells) := by
    conv => lhs; rw [e1]
    rw [List.flatMap_append, List.flatMap_cons]
  rw [e2, List.flatMap_append, List.flatMap_cons, e3, hy]
  have hC : (T.cells x).length = T.size := T.len x
  have f1 : ((l.take k).flatMap T.cells ++ (T.cells x ++ (l.drop (k + 1)).flatMap T.cells)).take (k * T.size + off) = (l.take k).flatMap T.cells ++ (T.cells x).take off := by
    rw [List.take_append, hA, List.take_of_length_le (by omega), Nat.add_sub_cancel_left, List.take_append_of_le_length (by omega)]
  have f2 : ((l.take k).flatMap T.cells ++ (T.cells x ++ (l.drop (k + 1)).flatMap T.cells)).drop (k * T.size + off + 1) = (T.cells x).drop (off + 1) ++ (l.drop (k + 1)).flatMap T.cells := by
    rw [List.drop_append, hA, List.drop_of_length_le (by omega), List.nil_append, show k * T.size + off + 1 - k * T.size = off + 1 by omega, List.drop_append_of_le_length (by omega)]
  rw [f1, f2, List.set_eq_take_append_cons_drop, if_pos (by omega)]
  simp only [List.append_assoc, List.cons_append, List.nil_append]
theorem elP_own {α : Type} {lo o : Nat} {T : El α} {l : List α} {v : Value} {w : World} (h : Holds (OwnS lo T l) v w) (hl : 0 < l.length) : ∃ g, v.ownBlock = some g ∧ elP v o = .pointer (some ⟨g, o, none⟩) := by
  obtain ⟨g, c, _, rfl, _⟩ := own_shape h hl
  exact ⟨g, rfl, by simp [elP, add_lit]⟩
section
variable {X : Reg} {pl : List Tmp × List Nat} {Fs : List Fct} {i : Nat} {d : Tmp} {ty : TypeId} {pos : String} {af : Array Edge} {g : Option (Nat × Bool)}
theorem ob_fa_el {α : Type} {lo : Nat} {T : El α} {l : List α} {v : Value} {w1 : World} {s : TypeId} {x : Operand} {k n o : Nat} {fields : Array Field} {f : Field} (hx : ArgOK X pl Fs i x (Is (elP v o))) (hv : Holds (OwnS lo T l) v w1) (hl : 0 < l.length) (hu : Tryz.prog.underlying s = some (.struct fields))
    (hf : fields[k]? = some f) (hn : (Tryz.prog.info? f.type).map (·.size) = some (n + 1)) :
    Ob X pl Fs i ⟨some d, .fieldAddr s x k, ty, pos, af, g⟩ (Is (elP v (o + f.offset))) := by
  refine ob_same ?_
  intro ρ w hs
  obtain ⟨b, _, e1⟩ := elP_own (o := o) hv hl
  obtain ⟨b2, e4, e2⟩ := elP_own (o := o + f.offset) hv hl
  have h1 : ρ x = elP v o := hx ρ w hs
  rw [e1] at h1
  have hb : b = b2 := by
    obtain ⟨g0, c, _, rfl, _⟩ := own_shape hv hl
    simp [elP, add_lit] at e1 e2
    rw [← e1, ← e2]
  subst hb
  cases hq : Tryz.prog.info? f.type with
  | none => simp [hq] at hn
  | some inf =>
    have hsz : inf.size = n + 1 := by simpa [hq] using hn
    refine ⟨.pointer (some ⟨b, o + f.offset, none⟩), ?_, e2.symm⟩
    unfold execOp
    refine exec_v _ _ _ _ _ ?_
    unfold Instr.fieldAt
    rw [Sem.run_bind, run_underlying hu, Result.andThen_ok]
    simp only [hf, h1, Instr.sureAddr, fieldPlace, sizeOf, typeInfo, Sem.run_bind, Sem.run_pure, Result.andThen_ok]
    simp [hq, hsz, add_lit]
theorem run_build_delta (k n m : Int) (x : UInt64) (w : World) : (Instr.build 54 #[(0, .agg (intV k :: intV n :: nmCells x).toArray), (1, intV m)]).run Tryz.prog w = .ok (.agg (intV k :: intV n :: (nmCells x ++ [intV m])).toArray) w := by kernel_rfl
theorem ob_build_delta {x y : Operand} {c : GCell} (n : Int64) {a : Int} (hx : ArgOK X pl Fs i x (Is (cellV c))) (hy : ArgOK X pl Fs i y (Is (intV a))) (ha : a = n.toInt) :
    Ob X pl Fs i ⟨some d, .build 54 #[(0, x), (1, y)], ty, pos, af, g⟩ (Is (deltaV ⟨c, n⟩)) := by
  subst ha
  refine ob_same ?_
  intro ρ w hs
  have e0 : ρ x = cellV c := hx ρ w hs
  have e1 : ρ y = intV n.toInt := hy ρ w hs
  refine ⟨deltaV ⟨c, n⟩, ?_, rfl⟩
  unfold execOp
  refine exec_v _ _ _ _ _ ?_
  simp only [List.map_toArray, List.map_cons, List.map_nil, e0, e1]
  exact run_build_delta _ _ _ _ w
end
theorem wl_store_fld {α : Type} {T : El α} {ops : Array Oper} {rest : List Oper} {Q : Exit → Act → World → Prop} {a : Act} {w : World} {t : TypeId} {p : Tmp} {x : Operand} {ty : TypeId} {pos : String} {af : Array Edge} {lo k off : Nat} {l : List α} {x0 y : α} {v u : Value}
    (hp : Holds (Is (elP v (k * T.size + off))) (a.eval (.tmp p)) w) (hv : Holds (OwnS lo T l) v w) (hk : l[k]? = some x0) (ho : off < T.size) (hx : Holds (Is u) (a.eval x) w) (hvc : u.cells = #[u]) (hu1 : u.oneCell' = true) (hy : T.cells y = (T.cells x0).set off u) (hi : (Tryz.prog.info? t).map (·.size) = some 1)
    (h : ∀ w', Wr lo T.tid w w' → Holds (OwnS lo T (l.set k y)) v w' → wpList Tryz.prog ops Q rest a w') :
    wpList Tryz.prog ops Q (⟨none, .store t (.tmp p) x, ty, pos, af, none⟩ :: rest) a w := by
  have hkl : k < l.length := (List.getElem?_eq_some_iff.1 hk).1
  obtain ⟨g, c, cur, rfl, f2, f3, f4, f5, f6, f7⟩ := own_shape hv (by omega)
  have hpv : a.eval (.tmp p) = .pointer (some ⟨g, k * T.size + off, none⟩) := by
    have := hp
    simp only [elP, add_lit, Nat.zero_add] at this
    exact this
  have hx' : a.eval x = u := hx
  have hle : (k + 1) * T.size ≤ l.length * T.size := Nat.mul_le_mul_right _ hkl
  rw [Nat.add_mul, Nat.one_mul] at hle
  have hle2 : l.length * T.size ≤ c * T.size := Nat.mul_le_mul_right _ f4
  cases hq : Tryz.prog.info? t with
  | none => simp [hq] at hi
  | some inf =>
    have hs : inf.size = 1 := by simpa [hq] using hi
    have hst := run_storeCells_at Tryz.prog g (k * T.size + off) T.tid [u] 0 cur w f3 (by rw [f6]; simp only [List.length_cons, List.length_nil]; omega) (fun z hz => by simp at hz; subst hz; exact hu1)
    simp only [Nat.add_zero, List.length_cons, List.length_nil, Nat.zero_add] at hst
    have hrun : (execOp a.eval ⟨none, .store t (.tmp p) x, ty, pos, af, none⟩).run Tryz.prog w = .ok .skip (w.setRow g (cur.toList.take (k * T.size + off) ++ [u] ++ cur.toList.drop (k * T.size + off + 1)).toArray) := by
      unfold execOp
      simp only [Instr.storeAt, hpv, Instr.sureAddr, Sem.run_bind, Sem.run_pure, Result.andThen_ok, storeVar, hx', sizeOf, typeInfo]
      simp [hq, hs, hvc, hst]
    unfold wpList
    rw [if_pos (by simp [Region.wanted])]
    refine .inl ?_
    unfold Oper.wp
    rw [hrun]
    refine h _ ⟨setRow_below f2, fun j _ hn => setRow_other w g j _ fun e => (by subst e; exact hn cur _ f3)⟩ ?_
    show World.ownsRow _ lo T.tid T.size _ (l.set k y).length ((l.set k y).flatMap T.cells)
    rw [List.length_set]
    refine ⟨by rw [flatMap_len, List.length_set], .inr ⟨g, c, _, rfl, f2, setRow_heap w g cur _ T.tid (0, 0) f3, f4, f5, ?_, ?_⟩⟩
    · simp only [List.size_toArray, List.length_append, List.length_take, List.length_drop, Array.length_toList, List.length_cons, List.length_nil]
      omega
    · rw [← set_flatF hk ho hy, ← f7]
      have h9 : cur.toList.length = c * T.size := (Array.length_toList (xs := cur)).trans f6
      have := seg_take cur.toList [u] (k * T.size + off) (l.length * T.size) (by simp only [List.length_cons, List.length_nil]; omega) (by omega)
      exact this
end Ex
end Go.Proofs.YtnmfiiejhoafnaaGreat
