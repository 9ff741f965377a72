/- Rows of any element type: copied into, cut, cleared. -/
import Derived.Test.YtnmfiiejhoafnaaGreatPvFnv
import Derived.Laws.Small
set_option linter.unusedSimpArgs false
set_option linter.unusedVariables false
namespace Go.Proofs.YtnmfiiejhoafnaaGreat
namespace Ex
open Go Calm Go.RowKit
theorem flatMap_take {α : Type} (T : El α) : ∀ (l : List α) (d : Nat), (l.flatMap T.cells).take (d * T.size) = (l.take d).flatMap T.cells
  | [], d => by simp
  | a :: l, 0 => by simp
  | a :: l, d + 1 => by
    rw [List.flatMap_cons, List.take_succ_cons, List.flatMap_cons, ← flatMap_take T l d, List.take_append, T.len, List.take_of_length_le (by rw [T.len, Nat.add_mul]; omega)]
    congr 2
    rw [Nat.add_mul]
    omega
theorem flatMap_drop {α : Type} (T : El α) : ∀ (l : List α) (d : Nat), (l.flatMap T.cells).drop (d * T.size) = (l.drop d).flatMap T.cells
  | [], d => by simp
  | a :: l, 0 => by simp
  | a :: l, d + 1 => by
    rw [List.flatMap_cons, List.drop_succ_cons, ← flatMap_drop T l d, List.drop_append, T.len, List.drop_of_length_le (by rw [T.len, Nat.add_mul]; omega), List.nil_append]
    congr 1
    rw [Nat.add_mul]
    omega
theorem seg_take {β : Type} (cur cs : List β) (o N : Nat) (h : o + cs.length ≤ N) (hN : N ≤ cur.length) : (cur.take o ++ cs ++ cur.drop (o + cs.length)).take N = (cur.take N).take o ++ cs ++ (cur.take N).drop (o + cs.length) := by
  rw [List.take_append, List.take_of_length_le (by simp; omega), List.take_take, Nat.min_eq_left (by omega), List.drop_take]
  congr 2
  simp
  omega
theorem run_copy_any (w : World) (dT sT ty elem : TypeId) (sz g o dLen dCap : Nat) (a : Addr) (sLen sCap : Nat) (cur : Array Value) (t : TypeId) (cs : List Value) (n : Nat)
    (hu : Tryz.prog.underlying dT = some (.slice elem)) (hs : (Tryz.prog.info? elem).map (·.size) = some sz)
    (hg : w.heap[g]? = some (.cells cur t (0, 0))) (hn : Nat.min sLen dLen = n) (hc : cs.length = n * sz)
    (hsrc : ∀ j v, cs[j]? = some v → w.cell? (a.add j) = some v) (hfit : o + cs.length ≤ cur.size) (h1 : ∀ v ∈ cs, v.oneCell' = true) :
    (Builtin.copy_ #[dT, sT] ty #[.slice (some ⟨g, o, none⟩) dLen dCap, .slice (some a) sLen sCap]).run Tryz.prog w =
      .ok (goInt n) (w.setRow g (cur.toList.take o ++ cs ++ cur.toList.drop (o + cs.length)).toArray) := by
  have hl := run_loadCells_list (P := Tryz.prog) w a cs hsrc
  rw [hc] at hl
  have hst := run_storeCells_at Tryz.prog g o t cs 0 cur w hg (by simpa using hfit) h1
  cases hq : Tryz.prog.info? elem with
  | none => simp [hq] at hs
  | some i =>
    have hi : i.size = sz := by simpa [hq] using hs
    simp [Builtin.copy_, run_underlying hu, Builtin.lenOf, Builtin.firstCells, sizeOf, typeInfo, hq, hi, hn, hl, hst]
theorem run_copy_zero (w : World) (dT sT ty elem : TypeId) (d a : Option Addr) (dLen dCap sLen sCap : Nat) (hu : Tryz.prog.underlying dT = some (.slice elem)) (hs : ((Tryz.prog.info? elem).map (·.size)).isSome = true) (hn : Nat.min sLen dLen = 0) :
    (Builtin.copy_ #[dT, sT] ty #[.slice d dLen dCap, .slice a sLen sCap]).run Tryz.prog w = .ok (goInt 0) w := by
  cases hq : Tryz.prog.info? elem with
  | none => simp [hq] at hs
  | some i =>
    have hl : ∀ (x : Addr), (loadCells x 0).run Tryz.prog w = .ok #[] w := fun x => by simpa using run_loadCells_list (P := Tryz.prog) w x [] (by simp)
    cases d <;> cases a <;> simp [Builtin.copy_, run_underlying hu, Builtin.lenOf, Builtin.firstCells, sizeOf, typeInfo, hq, hn, storeCells, hl]
def SubV (v : Value) (size d n : Nat) : Fct := fun u _ => ∃ dc, (∃ g m c, v = .slice (some ⟨g, 0, none⟩) m c ∧ u = .slice (some ⟨g, d * size, none⟩) n dc) ∨ (n = 0 ∧ ∃ o, u = .slice o 0 dc)
instance {v : Value} {size d n : Nat} : StabG (SubV v size d n) := stabG (fun _ _ _ _ h => h)
theorem sub_any {v x : Value} {size d n : Nat} {w w' : World} (h : Holds (SubV v size d n) x w) : Holds (SubV v size d n) x w' := h
theorem sub_self {α : Type} {lo : Nat} {T : El α} {l : List α} {v x : Value} {w w' : World} (hx : Holds (Is v) x w') (h : Holds (OwnS lo T l) v w) : Holds (SubV v T.size 0 l.length) x w' := by
  have h0 : w.ownsRow lo T.tid T.size v l.length (l.flatMap T.cells) := h
  have e : x = v := hx
  subst e
  rcases h0.2 with ⟨rfl, hn⟩ | ⟨g, cap, cur, rfl, _⟩
  · exact ⟨0, .inr ⟨hn, none, rfl⟩⟩
  · exact ⟨cap, .inl ⟨g, l.length, cap, rfl, by simp⟩⟩
theorem exec_copy {d : Option Tmp} {ty : TypeId} {pos : String} {af : Array Edge} {g : Option (Nat × Bool)} {s x : Operand} {t t' : TypeId} {ρ : Operand → Value} {v' : Value} {w w' : World} (h : (Builtin.copy_ #[t, t'] ty #[ρ s, ρ x]).run Tryz.prog w = .ok v' w') :
    (execOp ρ ⟨d, .call { callee := .builtin .copy, args := #[s, x], argTypes := #[t, t'] }, ty, pos, af, g⟩).run Tryz.prog w = .ok (.value v') w' := by
  unfold execOp
  simp [resolve, invoke, builtin, h, Result.andThen]
theorem owns_set {lo g m c n d k size : Nat} {e : TypeId} {w : World} {cur : Array Value} {xs cs : List Value} (h : w.ownsRow lo e size (.slice (some ⟨g, 0, none⟩) m c) n xs) (hg : w.heap[g]? = some (.cells cur e (0, 0))) (hc : cs.length = k * size) (hd : d + k ≤ n) :
    (w.setRow g (cur.toList.take (d * size) ++ cs ++ cur.toList.drop (d * size + cs.length)).toArray).ownsRow lo e size (.slice (some ⟨g, 0, none⟩) m c) n (xs.take (d * size) ++ cs ++ xs.drop (d * size + cs.length)) := by
  have hle : d * size + cs.length ≤ n * size := by rw [hc, ← Nat.add_mul]; exact Nat.mul_le_mul_right _ hd
  refine ⟨by have := h.1; simp only [List.length_append, List.length_take, List.length_drop]; omega, .inr ?_⟩
  rcases h.2 with ⟨e1, _⟩ | ⟨g', cap, cur', e1, h2, h3, h4, h5, h6, h7⟩
  · cases e1
  · simp only [Value.slice.injEq, Option.some.injEq, Addr.mk.injEq] at e1
    obtain ⟨⟨rfl, _, _⟩, rfl, rfl⟩ := e1
    rw [hg] at h3
    simp only [Option.some.injEq, Obj.cells.injEq, and_true] at h3
    subst h3
    have hcap : m * size ≤ c * size := Nat.mul_le_mul_right _ h4
    have hsz : cur.toList.length = c * size := by simpa using h6
    refine ⟨g, c, _, rfl, h2, setRow_heap w g cur _ e (0, 0) hg, h4, h5, ?_, ?_⟩
    · simp only [List.size_toArray, List.length_append, List.length_take, List.length_drop]
      omega
    · rw [← h7]
      exact seg_take _ _ _ _ hle (by omega)
theorem wl_copyO {α : Type} {T : El α} {ops : Array Oper} {rest : List Oper} {Q : Exit → Act → World → Prop} {a : Act} {w : World} {d n : Nat} {x y : Operand} {t t' ty : TypeId} {pos : String} {af : Array Edge} {lo dd dl : Nat} {l m : List α} {v : Value}
    (ts : List Tmp) (hf : Fr n a) (hd : decide (d < n) = true) (hts : ts.contains d = false) (ht : Tryz.prog.underlying t = some (.slice T.tid)) (hsz : (Tryz.prog.info? T.tid).map (·.size) = some T.size)
    (hv : Holds (OwnS lo T l) v w) (hx : Holds (SubV v T.size dd dl) (a.eval x) w) (hy : Holds (Sl T m) (a.eval y) w) (hfit : dd + min m.length dl ≤ l.length) (hlo : lo ≤ w.heap.size)
    (h : ∀ a' w', Fr n a' → Wr lo T.tid w w' → Keep ts a a' → Holds (OwnS lo T (l.take dd ++ m.take dl ++ l.drop (dd + min m.length dl))) v w' → Holds (Is (intV ((min m.length dl : Nat) : Int))) (a'.eval (.tmp d)) w' → wpList Tryz.prog ops Q rest a' w') :
    wpList Tryz.prog ops Q (⟨some d, .call { callee := .builtin .copy, args := #[x, y], argTypes := #[t, t'] }, ty, pos, af, none⟩ :: rest) a w := by
  obtain ⟨p, c, hyv, hc, hn, hcells⟩ := hy
  have hd' : d < n := of_decide_eq_true hd
  have fin : ∀ w' k, k = min m.length dl → Wr lo T.tid w w' → Holds (OwnS lo T (l.take dd ++ m.take dl ++ l.drop (dd + min m.length dl))) v w' → wpList Tryz.prog ops Q rest (a.put (some d) (goInt ((k : Nat) : Int))) w' := fun w' k hk h1 h2 => by
    subst hk
    refine h _ w' (fr_put hf) h1 (fun u hu => eval_put_ne fun e => ?_) h2 ?_
    · subst e; rw [hts] at hu; cases hu
    · rw [eval_put_eq hf hd']; rfl
  unfold wpList
  rw [if_pos (by simp [Region.wanted])]
  refine .inl ?_
  unfold Oper.wp
  by_cases h0 : min m.length dl = 0
  · have hrun : ∃ o dn dc, a.eval x = .slice o dn dc ∧ Nat.min m.length dn = 0 := by
      obtain ⟨dc, ⟨g, k, c2, e1, e2⟩ | ⟨e1, o, e2⟩⟩ := hx
      · exact ⟨_, _, _, e2, h0⟩
      · exact ⟨_, _, _, e2, Nat.min_zero _⟩
    obtain ⟨o, dn, dc, e2, e3⟩ := hrun
    have hr : (Builtin.copy_ #[t, t'] ty #[a.eval x, a.eval y]).run Tryz.prog w = .ok (goInt ((0 : Nat) : Int)) w := by
      rw [e2, hyv]
      exact run_copy_zero w t t' ty T.tid o _ dn dc m.length c ht (by rw [hsz]; rfl) e3
    rw [exec_copy hr]
    refine fin w 0 h0.symm (Wr.refl w) ?_
    have e4 : m.take dl = [] := List.eq_nil_of_length_eq_zero (by rw [List.length_take, Nat.min_comm]; exact h0)
    rw [h0, e4, List.append_nil, Nat.add_zero, List.take_append_drop]
    exact hv
  · obtain ⟨dc, ⟨g, k, c2, e1, e2⟩ | ⟨e1, o, e2⟩⟩ := hx
    · cases p with
      | none =>
        obtain ⟨rfl, rfl⟩ := hn rfl
        simp at h0
      | some q =>
        subst e1
        have hv0 : w.ownsRow lo T.tid T.size (.slice (some ⟨g, 0, none⟩) k c2) l.length (l.flatMap T.cells) := hv
        obtain ⟨cur, hg, hcur, hcap⟩ : ∃ cur, w.heap[g]? = some (.cells cur T.tid (0, 0)) ∧ cur.size = c2 * T.size ∧ l.length ≤ c2 := by
          rcases hv0.2 with ⟨e3, _⟩ | ⟨g', cap, cur, e3, h2, h3, h4, h5, h6, h7⟩
          · cases e3
          · simp only [Value.slice.injEq, Option.some.injEq, Addr.mk.injEq] at e3
            obtain ⟨⟨rfl, _, _⟩, rfl, rfl⟩ := e3
            exact ⟨cur, h3, h6, h4⟩
        have hlen : ((m.take dl).flatMap T.cells).length = min m.length dl * T.size := by rw [flatMap_len, List.length_take, Nat.min_comm]
        have hle : dd * T.size + ((m.take dl).flatMap T.cells).length ≤ l.length * T.size := by rw [hlen, ← Nat.add_mul]; exact Nat.mul_le_mul_right _ hfit
        have hle2 : l.length * T.size ≤ c2 * T.size := Nat.mul_le_mul_right _ hcap
        have hr : (Builtin.copy_ #[t, t'] ty #[a.eval x, a.eval y]).run Tryz.prog w = .ok (goInt ((min m.length dl : Nat) : Int)) (w.setRow g (cur.toList.take (dd * T.size) ++ (m.take dl).flatMap T.cells ++ cur.toList.drop (dd * T.size + ((m.take dl).flatMap T.cells).length)).toArray) := by
          rw [e2, hyv]
          refine run_copy_any w t t' ty T.tid T.size g (dd * T.size) dl dc ⟨q.1, q.2, none⟩ m.length c cur T.tid _ _ ht hsz hg rfl hlen ?_ (by omega) ?_
          · intro j u hj
            obtain ⟨i, z, r, f1, f2, f3⟩ := flatMap_at T _ j u hj
            have f4 : m[i]? = some z := by
              rw [List.getElem?_take] at f1
              split at f1
              · exact f1
              · cases f1
            have := hcells q rfl i z f4 r u f2
            rw [add_lit, f3, ← Nat.add_assoc]; exact this
          · intro u hu
            obtain ⟨z, _, hz⟩ := List.mem_flatMap.1 hu
            exact T.one z u hz
        rw [exec_copy hr]
        refine fin _ _ rfl ⟨setRow_below (hv0.lt g rfl).1, fun j _ hne => setRow_other w g j _ fun e => ?_⟩ ?_
        · subst e
          exact hne _ _ hg
        · have := owns_set hv0 hg hlen hfit
          rw [hlen, ← Nat.add_mul, flatMap_take, flatMap_drop] at this
          show World.ownsRow _ lo T.tid T.size _ (l.take dd ++ m.take dl ++ l.drop (dd + min m.length dl)).length ((l.take dd ++ m.take dl ++ l.drop (dd + min m.length dl)).flatMap T.cells)
          rw [List.flatMap_append, List.flatMap_append, hlen, ← Nat.add_mul]
          have e5 : (l.take dd ++ m.take dl ++ l.drop (dd + min m.length dl)).length = l.length := by
            simp only [List.length_append, List.length_take, List.length_drop]
            omega
          rw [e5]
          exact this
    · exact absurd (by rw [e1, Nat.min_zero]) h0
end Ex
end Go.Proofs.YtnmfiiejhoafnaaGreat
