/- What the program's types are; equality of names, cells, entries, locks; own cells by their block; appends. -/
import Derived.Test.YtnmfiiejhoafnaaGreatPvCtl
set_option linter.unusedSimpArgs false
set_option linter.unusedVariables false
namespace Go.Proofs.YtnmfiiejhoafnaaGreat
namespace Ex
open Go Calm Go.RowKit
theorem szNm : (Tryz.prog.info? 30).map (·.size) = some 8 := by kernel_rfl
theorem szByte : (Tryz.prog.info? 5).map (·.size) = some 1 := by kernel_rfl
theorem szInt : (Tryz.prog.info? 3).map (·.size) = some 1 := by kernel_rfl
theorem nb_inj {n m : UInt64} (h : ∀ i, i < 8 → nb n i = nb m i) : n = m := by
  have hn := n.toNat_lt
  have hm := m.toNat_lt
  have key : ∀ i, i < 8 → n.toNat / 2 ^ (56 - 8 * i) % 256 = m.toNat / 2 ^ (56 - 8 * i) % 256 := fun i hi => by
    have := congrArg UInt8.toNat (h i hi)
    simpa [nb] using this
  have h0 := key 0 (by decide)
  have h1 := key 1 (by decide)
  have h2 := key 2 (by decide)
  have h3 := key 3 (by decide)
  have h4 := key 4 (by decide)
  have h5 := key 5 (by decide)
  have h6 := key 6 (by decide)
  have h7 := key 7 (by decide)
  simp only [Nat.reduceMul, Nat.reduceSub, Nat.reducePow, Nat.div_one] at h0 h1 h2 h3 h4 h5 h6 h7
  apply UInt64.toNat_inj.1
  omega
def nmLits (n : UInt64) : List Lit := [.int .u8 (nb n 0).toNat, .int .u8 (nb n 1).toNat, .int .u8 (nb n 2).toNat, .int .u8 (nb n 3).toNat, .int .u8 (nb n 4).toNat, .int .u8 (nb n 5).toNat, .int .u8 (nb n 6).toNat, .int .u8 (nb n 7).toNat]
theorem nmLits_inj {n m : UInt64} (h : nmLits n = nmLits m) : n = m := by
  unfold nmLits at h
  simp only [List.cons.injEq, Lit.int.injEq, true_and, and_true, Int.natCast_inj, UInt8.toNat_inj] at h
  obtain ⟨h0, h1, h2, h3, h4, h5, h6, h7⟩ := h
  refine nb_inj fun i hi => ?_
  match i, hi with
  | 0, _ => exact h0
  | 1, _ => exact h1
  | 2, _ => exact h2
  | 3, _ => exact h3
  | 4, _ => exact h4
  | 5, _ => exact h5
  | 6, _ => exact h6
  | 7, _ => exact h7
theorem keyByte (d : Nat) (b : UInt8) : Tryz.prog.keyLits (d + 1) 5 [byteV b] = some [.int .u8 b.toNat] := by
  have h1 : Tryz.prog.underlying 5 = some (.int .u8) := by kernel_rfl
  have h2 : (Lit.int .u8 (b.toNat : Int)).wf = true := by
    have := b.toNat_lt
    simp [Lit.wf, IntKind.min, IntKind.max, IntKind.signed, IntKind.bits]; omega
  unfold Program.keyLits
  simp [h1, byteV, h2]
theorem keyInt (d : Nat) (b : Int64) : Tryz.prog.keyLits (d + 1) 3 [intV b.toInt] = some [.int .i64 b.toInt] := by
  have h1 : Tryz.prog.underlying 3 = some (.int .i64) := by kernel_rfl
  have h2 : (Lit.int .i64 b.toInt).wf = true := by
    have h3 := b.toInt_lt
    have h4 := b.le_toInt
    simp [Lit.wf, IntKind.min, IntKind.max, IntKind.signed, IntKind.bits]; omega
  unfold Program.keyLits
  simp [h1, h2]
theorem cofNm : Tryz.prog.cellsOf 30 = 8 := by kernel_rfl
theorem cofByte : Tryz.prog.cellsOf 5 = 1 := by kernel_rfl
theorem cofInt : Tryz.prog.cellsOf 3 = 1 := by kernel_rfl
theorem cofCell : Tryz.prog.cellsOf 42 = 10 := by kernel_rfl
theorem undNm : Tryz.prog.underlying 30 = some (.array 8 5) := by kernel_rfl
theorem keyNm (d : Nat) (n : UInt64) : Tryz.prog.keyLits (d + 2) 30 (nmCells n) = some (nmLits n) := by
  unfold Program.keyLits
  simp only [undNm, cofNm, cofByte]
  rw [if_pos (show (nmCells n).length = 8 from rfl)]
  simp only [List.range_succ_eq_map, List.range_zero, List.map_cons, List.map_nil, List.mapM_cons, List.mapM_nil, nmCells, Nat.reduceMul, List.drop_succ_cons, List.drop_zero, List.take_succ_cons, List.take_zero, Nat.succ_eq_add_one, Nat.reduceAdd, Nat.zero_mul, keyByte]
  rfl
theorem formedNm (n : UInt64) : (nmV n).formed Tryz.prog 30 = true := by kernel_rfl
def cellLits (c : GCell) : List Lit := .int .i64 c.kind.toInt :: .int .i64 c.id.toInt :: nmLits c.lock
theorem cellLits_inj {a b : GCell} (h : cellLits a = cellLits b) : a = b := by
  unfold cellLits at h
  simp only [List.cons.injEq, Lit.int.injEq, true_and] at h
  obtain ⟨h0, h1, h2⟩ := h
  cases a; cases b
  simp only at h0 h1 h2
  rw [Int64.toInt_inj.1 h0, Int64.toInt_inj.1 h1, nmLits_inj h2]
theorem keyCell (d : Nat) (c : GCell) : Tryz.prog.keyLits (d + 3) 42 (cellCells c) = some (cellLits c) := by
  unfold Program.keyLits
  simp only [Tryz.underlying42, cofCell]
  rw [if_pos (And.intro (show (cellCells c).length = 10 from rfl) (by kernel_rfl))]
  simp only [List.mapM_cons, List.mapM_nil, cofInt, cofNm, cellCells, List.drop_succ_cons, List.drop_zero, List.take_succ_cons, List.take_zero, keyInt]
  have := keyNm d c.lock
  unfold nmCells at this
  rw [this]
  rfl
theorem formedCell (c : GCell) : (cellV c).formed Tryz.prog 42 = true := by kernel_rfl
section
variable {X : Reg} {pl : List Tmp × List Nat} {Fs : List Fct} {i : Nat} {d : Tmp} {ty : TypeId} {pos : String} {af : Array Edge} {g : Option (Nat × Bool)}
theorem ob_eqnm {yt : TypeId} {x y : Operand} {m n : UInt64} (hx : ArgOK X pl Fs i x (Is (nmV m))) (hy : ArgOK X pl Fs i y (Is (nmV n))) :
    Ob X pl Fs i ⟨some d, .binOp .eql 30 x y yt, ty, pos, af, g⟩ (Is (.bool (decide (m = n)))) :=
  ob_eqkey (m := 3) (D := 3) (D' := 3) hx hy (by kernel_rfl) (by decide) (by kernel_rfl) (formedNm m) (formedNm n) (keyNm 1 m) (keyNm 1 n) (by
    constructor
    · intro h; rw [of_decide_eq_true h]
    · intro h; exact decide_eq_true (nmLits_inj h))
theorem ob_neqnm {yt : TypeId} {x y : Operand} {m n : UInt64} (hx : ArgOK X pl Fs i x (Is (nmV m))) (hy : ArgOK X pl Fs i y (Is (nmV n))) :
    Ob X pl Fs i ⟨some d, .binOp .neq 30 x y yt, ty, pos, af, g⟩ (Is (.bool (!decide (m = n)))) :=
  ob_neqkey (m := 3) (D := 3) (D' := 3) hx hy (by kernel_rfl) (by decide) (by kernel_rfl) (formedNm m) (formedNm n) (keyNm 1 m) (keyNm 1 n) (by
    constructor
    · intro h; rw [of_decide_eq_true h]
    · intro h; exact decide_eq_true (nmLits_inj h))
end
theorem Holds.mp {F G : Fct} {v : Value} {w : World} (h : Holds F v w) (hi : ∀ v w, Holds F v w → Holds G v w) : Holds G v w := hi v w h
theorem is_any {x : Value} {v : Value} {w w' : World} (h : Holds (Is x) v w) : Holds (Is x) v w' := h
theorem Grow.below {lo : Nat} {a b c : World} (h : Grow a b) (hb : Below lo b c) (hl : a.heap.size ≤ lo) : Grow a c := Below.trans h (Below.mono hb hl)
theorem OwnB.mono {lo lo' : Nat} {cs : List Value} {v : Value} {w : World} (h : Holds (OwnB lo cs) v w) (hl : lo' ≤ lo) : Holds (OwnB lo' cs) v w := by
  obtain ⟨g, e, h1, h2⟩ := h
  exact ⟨g, e, Nat.le_trans hl h1, h2⟩
def Blk (g : Nat) (cs : List Value) (w : World) : Prop := ∃ e, w.heap[g]? = some (.cells cs.toArray e (0, 0))
def PtrV (g : Nat) : Value := .pointer (some ⟨g, 0, none⟩)
theorem Blk.lt {g : Nat} {cs : List Value} {w : World} (h : Blk g cs w) : g < w.heap.size := let ⟨_, h⟩ := h; (Array.getElem?_eq_some_iff.1 h).1
theorem Blk.up {g : Nat} {cs : List Value} {w w' : World} (h : Blk g cs w) (hg : Grow w w') : Blk g cs w' := let ⟨e, h1⟩ := h; ⟨e, (hg.block h.lt).trans h1⟩
theorem Blk.below {g lo : Nat} {cs : List Value} {w w' : World} (h : Blk g cs w) (hb : Below lo w w') (hl : g < lo) : Blk g cs w' := let ⟨e, h1⟩ := h; ⟨e, (hb.block g hl).trans h1⟩
theorem Blk.own {g lo : Nat} {cs : List Value} {v : Value} {w : World} (h : Blk g cs w) (hv : Holds (Is (PtrV g)) v w) (hl : lo ≤ g) : Holds (OwnB lo cs) v w := let ⟨e, h1⟩ := h; ⟨g, e, hl, hv, h1⟩
theorem Blk.ptr {g : Nat} {cs : List Value} {v : Value} {w : World} (h : Blk g cs w) (hv : Holds (Is (PtrV g)) v w) : Holds (PtrC cs) v w := (h.own hv (Nat.zero_le _)).mp fun _ _ => OwnB.ptr
theorem OwnB.blk {lo : Nat} {cs : List Value} {v : Value} {w : World} (h : Holds (OwnB lo cs) v w) : ∃ g, lo ≤ g ∧ Holds (Is (PtrV g)) v w ∧ Blk g cs w := let ⟨g, e, h1, h2, h3⟩ := h; ⟨g, h1, h2, e, h3⟩
structure Only (g : Nat) (w w' : World) : Prop where
  below : Below g w w'
  block : ∀ k, k < w.heap.size → k ≠ g → w'.heap[k]? = w.heap[k]?
theorem Blk.only {g k : Nat} {cs : List Value} {w w' : World} (h : Blk k cs w) (ho : Only g w w') (hn : k ≠ g) : Blk k cs w' := let ⟨e, h1⟩ := h; ⟨e, (ho.block k h.lt hn).trans h1⟩
theorem Grow.only {g : Nat} {a b c : World} (h : Grow a b) (ho : Only g b c) (hl : a.heap.size ≤ g) : Grow a c := h.below ho.below hl
theorem OwnS.only {α : Type} {lo g : Nat} {T : El α} {l : List α} {v : Value} {w w' : World} (h : Holds (OwnS lo T l) v w) (ho : Only g w w') (hl : g < lo) : Holds (OwnS lo T l) v w' := by
  have h0 : w.ownsRow lo T.tid T.size v l.length (l.flatMap T.cells) := h
  refine World.ownsRow.kept h0 (row := some g) ⟨ho.below.os, ho.below.tape, ho.below.output, ho.below.size, fun k hk hne => ho.block k hk fun e => hne (by rw [e])⟩ (.inr fun e => ?_)
  have := h0.lt g e
  omega
theorem wl_store' {ops : Array Oper} {rest : List Oper} {Q : Exit → Act → World → Prop} {a : Act} {w : World} {t : TypeId} {p : Tmp} {x : Operand} {ty : TypeId} {pos : String} {af : Array Edge} {g : Nat} {cs ds : List Value} {v : Value}
    (hp : Holds (Is (PtrV g)) (a.eval (.tmp p)) w) (hg : Blk g cs w) (hx : Holds (Is v) (a.eval x) w) (hv : v.cells = ds.toArray) (hl : ds.length = cs.length) (hi : (Tryz.prog.info? t).map (·.size) = some cs.length) (h1 : ∀ u ∈ ds, u.oneCell' = true)
    (h : ∀ w', Only g w w' → Blk g ds w' → wpList Tryz.prog ops Q rest a w') :
    wpList Tryz.prog ops Q (⟨none, .store t (.tmp p) x, ty, pos, af, none⟩ :: rest) a w := by
  obtain ⟨e, hge⟩ := hg
  have hpv : a.eval (.tmp p) = .pointer (some ⟨g, 0, none⟩) := hp
  have hx' : a.eval x = v := hx
  cases hq : Tryz.prog.info? t with
  | none => simp [hq] at hi
  | some inf =>
    have hs : inf.size = cs.length := by simpa [hq] using hi
    have hst := run_storeCells_at Tryz.prog g 0 e ds 0 cs.toArray w hge (by simp [hl]) h1
    have hlen : (cs.toArray.toList.take (0 + 0) ++ ds ++ cs.toArray.toList.drop (0 + 0 + ds.length)) = ds := by simp [hl]
    rw [hlen] at hst
    have hrun : (execOp a.eval ⟨none, .store t (.tmp p) x, ty, pos, af, none⟩).run Tryz.prog w = .ok .skip (w.setRow g ds.toArray) := by
      unfold execOp
      simp only [Instr.storeAt, hpv, Instr.sureAddr, Sem.run_bind, Sem.run_pure, Result.andThen_ok, storeVar, hx', sizeOf, typeInfo]
      have : ds.length = inf.size := by rw [hl, hs]
      simp [hq, this, hv, hst]
    unfold wpList
    rw [if_pos (by simp [Region.wanted])]
    refine .inl ?_
    unfold Oper.wp
    rw [hrun]
    exact h _ ⟨setRow_below (Nat.le_refl _), fun k _ hne => setRow_other w g k _ hne⟩ ⟨e, setRow_heap w g cs.toArray ds.toArray e (0, 0) hge⟩
theorem Keep.refl (ts : List Tmp) (a : Act) : Keep ts a a := fun _ _ => rfl
theorem Keep.trans {ts ts' : List Tmp} {a b c : Act} (h : Keep ts a b) (h' : Keep ts' b c) (hs : (ts.all fun t => ts'.contains t) = true) : Keep ts a c := fun t ht => by
  have : ts'.contains t = true := by simp only [List.all_eq_true] at hs; exact hs t (by simpa using ht)
  rw [h' t this, h t ht]
theorem is_cast {x y : Value} {v : Value} {w w' : World} (h : Holds (Is x) v w) (e : x = y) : Holds (Is y) v w' := by subst e; exact h
theorem wl_store_nm {ops : Array Oper} {rest : List Oper} {Q : Exit → Act → World → Prop} {a : Act} {w : World} {p : Tmp} {x : Operand} {ty : TypeId} {pos : String} {af : Array Edge} {g : Nat} {cs : List Value} {n : UInt64}
    (hp : Holds (Is (PtrV g)) (a.eval (.tmp p)) w) (hg : Blk g cs w) (hl : cs.length = 8) (hx : Holds (Is (nmV n)) (a.eval x) w) (h : ∀ w', Only g w w' → Blk g (nmCells n) w' → wpList Tryz.prog ops Q rest a w') :
    wpList Tryz.prog ops Q (⟨none, .store 30 (.tmp p) x, ty, pos, af, none⟩ :: rest) a w := by
  refine wl_store' (ds := nmCells n) hp hg hx rfl hl.symm ?_ (elNm.one n) h
  rw [hl]; exact szNm
theorem append_any {α : Type} {T : El α} {inf : TypeInfo} {z : α} (E : ElP T inf z) {t : TypeId} (ht : Tryz.prog.underlying t = some (.slice T.tid)) {ty : TypeId} {lo : Nat} {l m : List α} {v x : Value} {w : World} (hv : Holds (OwnS lo T l) v w) (hx : Holds (Sl T m) x w)
    (h63 : l.length + m.length ≤ maxLen) (hbytes : (l.length + m.length) * T.bytes ≤ 140737488355328) (hlo : lo ≤ w.heap.size) :
    ∃ v' w', (Builtin.append_ #[t, t] ty #[v, x]).run Tryz.prog w = .ok v' w' ∧ Holds (OwnS lo T (l ++ m)) v' w' ∧ w.grownBy w' v.ownBlock := by
  have h0 : w.ownsRow lo T.tid T.size v l.length (l.flatMap T.cells) := hv
  obtain ⟨a, c, hxv, hc, hn, hcells⟩ := hx
  cases a with
  | some p =>
    have hone : ∀ u ∈ m.flatMap T.cells, u.oneCell' = true := fun u hu => by
      obtain ⟨y, _, hy⟩ := List.mem_flatMap.1 hu
      exact T.one y u hy
    obtain ⟨v', w', h1, h2, h3, _⟩ := run_append_own (P := Tryz.prog) w lo t ty T.tid inf (El.val T z) T.size T.bytes ht E.hinfo E.hzero E.hsize E.hbytes (by rw [E.hzcells]; simp [T.len]) T.pos v l.length (l.flatMap T.cells) h0
      ⟨p.1, p.2, none⟩ m.length c (m.flatMap T.cells) (flatMap_len T m) (fun j u hj => by
        obtain ⟨i, x, k, e1, e2, e3⟩ := flatMap_at T m j u hj
        have := hcells p rfl i x e1 k u e2
        rw [add_lit, e3, ← Nat.add_assoc]; exact this) hone h63 hbytes hlo
    refine ⟨v', w', ?_, ?_, h3⟩
    · rw [hxv]; exact h1
    · show w'.ownsRow lo T.tid T.size v' (l ++ m).length ((l ++ m).flatMap T.cells)
      rw [List.length_append, List.flatMap_append]; exact h2
  | none =>
    obtain ⟨rfl, rfl⟩ := hn rfl
    refine ⟨v, w, ?_, ?_, ⟨rfl, rfl, rfl, Nat.le_refl _, fun _ _ _ => rfl⟩⟩
    · rw [hxv]
      exact run_append_owned_none (P := Tryz.prog) w lo t ty T.tid inf T.size ht E.hinfo v l.length (l.flatMap T.cells) h0
    · rw [List.append_nil]; exact hv
theorem grownBy_below {w w' : World} {row : Option Nat} {lo : Nat} (h : w.grownBy w' row) (hl : ∀ k, row = some k → lo ≤ k) (hw : lo ≤ w.heap.size) : Below lo w w' :=
  ⟨h.os, h.tape, h.output, h.size, fun k hk => h.block k (by omega) fun e => by have := hl k e.symm; omega⟩
theorem eval_put_eq {a : Act} {n d : Nat} {v : Value} (hf : Fr n a) (hd : d < n) : (a.put (some d) v).eval (.tmp d) = v := by simp [Act.put, Act.eval, hf.size, hd]
theorem eval_put_ne {a : Act} {d t : Nat} {v : Value} (h : d ≠ t) : (a.put (some d) v).eval (.tmp t) = a.eval (.tmp t) := by simp [Act.put, Act.eval, Array.getElem?_setIfInBounds_ne h]
theorem fr_put {a : Act} {n : Nat} {d : Option Nat} {v : Value} (hf : Fr n a) : Fr n (a.put d v) := by
  cases d with
  | none => exact hf
  | some d => exact ⟨by simp [Act.put, hf.size], hf.defers⟩
end Ex
end Go.Proofs.YtnmfiiejhoafnaaGreat
