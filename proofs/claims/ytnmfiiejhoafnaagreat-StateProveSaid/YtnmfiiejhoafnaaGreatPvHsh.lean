/- The hash's state, stores into a field, copies, the call that writes through its pointer. -/
import Derived.Test.YtnmfiiejhoafnaaGreatPvBig
import Derived.Laws.CopyOwn
set_option linter.unusedSimpArgs false
set_option linter.unusedVariables false
namespace Go.Proofs.YtnmfiiejhoafnaaGreat
namespace Ex
open Go Calm Go.RowKit
def ofB (a b c d e f g h : UInt8) : UInt64 := UInt64.ofNat (a.toNat * 2 ^ 56 + b.toNat * 2 ^ 48 + c.toNat * 2 ^ 40 + d.toNat * 2 ^ 32 + e.toNat * 2 ^ 24 + f.toNat * 2 ^ 16 + g.toNat * 2 ^ 8 + h.toNat)
theorem nmCells_ofB (a b c d e f g h : UInt8) : nmCells (ofB a b c d e f g h) = [byteV a, byteV b, byteV c, byteV d, byteV e, byteV f, byteV g, byteV h] := by
  have ha := a.toNat_lt
  have hb := b.toNat_lt
  have hc := c.toNat_lt
  have hd := d.toNat_lt
  have he := e.toNat_lt
  have hf := f.toNat_lt
  have hg := g.toNat_lt
  have hh := h.toNat_lt
  have e0 : (ofB a b c d e f g h).toNat = a.toNat * 2 ^ 56 + b.toNat * 2 ^ 48 + c.toNat * 2 ^ 40 + d.toNat * 2 ^ 32 + e.toNat * 2 ^ 24 + f.toNat * 2 ^ 16 + g.toNat * 2 ^ 8 + h.toNat := by
    unfold ofB
    rw [UInt64.toNat_ofNat', Nat.mod_eq_of_lt (by omega)]
  have key : ∀ (i : Nat) (x : UInt8), (a.toNat * 2 ^ 56 + b.toNat * 2 ^ 48 + c.toNat * 2 ^ 40 + d.toNat * 2 ^ 32 + e.toNat * 2 ^ 24 + f.toNat * 2 ^ 16 + g.toNat * 2 ^ 8 + h.toNat) / 2 ^ (56 - 8 * i) % 256 = x.toNat → nb (ofB a b c d e f g h) i = x := by
    intro i x hx
    unfold nb
    apply UInt8.toNat_inj.1
    rw [UInt8.toNat_ofNat', e0]
    exact hx
  unfold nmCells
  rw [key 0 a (by simp only [Nat.reduceMul, Nat.reduceSub, Nat.reducePow]; omega), key 1 b (by simp only [Nat.reduceMul, Nat.reduceSub, Nat.reducePow]; omega), key 2 c (by simp only [Nat.reduceMul, Nat.reduceSub, Nat.reducePow]; omega),
    key 3 d (by simp only [Nat.reduceMul, Nat.reduceSub, Nat.reducePow]; omega), key 4 e (by simp only [Nat.reduceMul, Nat.reduceSub, Nat.reducePow]; omega), key 5 f (by simp only [Nat.reduceMul, Nat.reduceSub, Nat.reducePow]; omega),
    key 6 g (by simp only [Nat.reduceMul, Nat.reduceSub, Nat.reducePow]; omega), key 7 h (by simp only [Nat.reduceMul, Nat.reduceSub, Nat.reducePow]; omega)]
section
variable {X : Reg} {pl : List Tmp × List Nat} {Fs : List Fct} {i : Nat} {d : Tmp} {ty : TypeId} {pos : String} {af : Array Edge} {g : Option (Nat × Bool)}
theorem ArgOK.ownp {x : Operand} {b : Nat} {cs : List Value} (h : ArgOK X pl Fs i x (OwnP b 0 cs)) : ArgOK X pl Fs i x (PtrC cs) := h.imp fun _ _ => OwnP.ptr
theorem szHs : (Tryz.prog.info? 136).map (·.size) = some 2 := by kernel_rfl
theorem run_build_hs (a b : UInt64) (w : World) : (Instr.build 136 #[(0, u64V a), (1, u64V b)]).run Tryz.prog w = .ok (.agg #[u64V a, u64V b]) w := by kernel_rfl
theorem ob_build_hs {x y : Operand} {a b : UInt64} (hx : ArgOK X pl Fs i x (Is (u64V a))) (hy : ArgOK X pl Fs i y (Is (u64V b))) :
    Ob X pl Fs i ⟨some d, .build 136 #[(0, x), (1, y)], ty, pos, af, g⟩ (Is (.agg #[u64V a, u64V b])) := by
  refine ob_same ?_
  intro ρ w hs
  have e0 : ρ x = u64V a := hx ρ w hs
  have e1 : ρ y = u64V b := hy ρ w hs
  refine ⟨_, ?_, rfl⟩
  unfold execOp
  refine exec_v _ _ _ _ _ ?_
  simp only [List.map_toArray, List.map_cons, List.map_nil, e0, e1]
  exact run_build_hs a b w
theorem ob_alloc_hs : Ob X pl Fs i ⟨some d, .alloc 136, ty, pos, af, g⟩ (OwnB X.lo [u64V 0, u64V 0]) := by
  refine ob_alloc (z := .agg #[u64V 0, u64V 0]) ?_ ?_
  · kernel_rfl
  · rfl
theorem ob_shluv {t yt : TypeId} {x y : Operand} {m s : UInt64} (hx : ArgOK X pl Fs i x (Is (u64V m))) (hy : ArgOK X pl Fs i y (Is (u64V s))) (hs : s.toNat < 64) :
    Ob X pl Fs i ⟨some d, .binOp .shl t x y yt, ty, pos, af, g⟩ (Is (u64V (m <<< UInt64.ofNat s.toNat))) := ob_shlu (k := .u64) (n := (s.toNat : Int)) hx hy rfl hs
theorem ob_shruv {t yt : TypeId} {x y : Operand} {m s : UInt64} (hx : ArgOK X pl Fs i x (Is (u64V m))) (hy : ArgOK X pl Fs i y (Is (u64V s))) (hs : s.toNat < 64) :
    Ob X pl Fs i ⟨some d, .binOp .shr t x y yt, ty, pos, af, g⟩ (Is (u64V (m >>> UInt64.ofNat s.toNat))) := ob_shru (k := .u64) (n := (s.toNat : Int)) hx hy rfl hs
theorem ob_slice_own {x : Operand} {b : Nat} {cs : List Value} (hx : ArgOK X pl Fs i x (OwnP b 0 cs)) : Ob X pl Fs i ⟨some d, .slice 30 x none none none, ty, pos, af, g⟩ (Is (.slice (some ⟨b, 0, none⟩) 8 8)) := by
  refine ob_same ?_
  intro ρ w hs
  obtain ⟨h1, _⟩ := hx ρ w hs
  refine ⟨.slice (some ⟨b, 0, none⟩) 8 8, ?_, rfl⟩
  unfold execOp
  refine exec_v _ _ _ _ _ ?_
  unfold Instr.sliceAt
  have hz : (Tryz.prog.info? 5).map (·.size) = some 1 := szByte
  cases hq : Tryz.prog.info? 5 with
  | none => rw [hq] at hz; cases hz
  | some inf =>
    rw [Sem.run_bind, run_underlying undNm, Result.andThen_ok]
    simp only [h1, Instr.sureAddr, Sem.run_bind, Sem.run_pure, Result.andThen_ok, Instr.sliceBounds, sizeOf, typeInfo, Option.map_none]
    simp [hq, add_lit]
end
theorem wl_store_hs {ops : Array Oper} {rest : List Oper} {Q : Exit → Act → World → Prop} {a : Act} {w : World} {p : Tmp} {x : Operand} {ty : TypeId} {pos : String} {af : Array Edge} {g : Nat} {cs : List Value} {m n : UInt64}
    (hp : Holds (Is (PtrV g)) (a.eval (.tmp p)) w) (hg : Blk g cs w) (hl : cs.length = 2) (hx : Holds (Is (.agg #[u64V m, u64V n])) (a.eval x) w) (h : ∀ w', Only g w w' → Blk g [u64V m, u64V n] w' → wpList Tryz.prog ops Q rest a w') :
    wpList Tryz.prog ops Q (⟨none, .store 136 (.tmp p) x, ty, pos, af, none⟩ :: rest) a w := by
  refine wl_store' (ds := [u64V m, u64V n]) hp hg hx rfl hl.symm ?_ (fun u hu => ?_) h
  · rw [hl]; exact szHs
  · simp [u64V] at hu
    rcases hu with rfl | rfl <;> rfl
theorem wl_store1 {ops : Array Oper} {rest : List Oper} {Q : Exit → Act → World → Prop} {a : Act} {w : World} {t : TypeId} {p : Tmp} {x : Operand} {ty : TypeId} {pos : String} {af : Array Edge} {g k : Nat} {cs : List Value} {v : Value}
    (hp : Holds (OwnP g k cs) (a.eval (.tmp p)) w) (hx : Holds (Is v) (a.eval x) w) (hv : v.oneCell' = true) (hvc : v.cells = #[v]) (hk : k < cs.length) (hi : (Tryz.prog.info? t).map (·.size) = some 1)
    (h : ∀ w', Only g w w' → Blk g (cs.set k v) w' → wpList Tryz.prog ops Q rest a w') :
    wpList Tryz.prog ops Q (⟨none, .store t (.tmp p) x, ty, pos, af, none⟩ :: rest) a w := by
  obtain ⟨hpv, e, hge⟩ := hp
  have hx' : a.eval x = v := hx
  cases hq : Tryz.prog.info? t with
  | none => simp [hq] at hi
  | some inf =>
    have hs : inf.size = 1 := by simpa [hq] using hi
    have hst := run_storeCells_at Tryz.prog g k e [v] 0 cs.toArray w hge (by simp; omega) (by simpa using hv)
    have hlen : (cs.toArray.toList.take (k + 0) ++ [v] ++ cs.toArray.toList.drop (k + 0 + [v].length)) = cs.set k v := by
      simp only [Nat.add_zero, List.length_cons, List.length_nil, Nat.zero_add]
      rw [List.set_eq_take_append_cons_drop, if_pos hk]
      simp
    rw [hlen] at hst
    have hrun : (execOp a.eval ⟨none, .store t (.tmp p) x, ty, pos, af, none⟩).run Tryz.prog w = .ok .skip (w.setRow g (cs.set k v).toArray) := by
      unfold execOp
      simp only [Instr.storeAt, hpv, Instr.sureAddr, Sem.run_bind, Sem.run_pure, Result.andThen_ok, storeVar, hx', sizeOf, typeInfo]
      simp [hq, hs, hvc, hst]
    unfold wpList
    rw [if_pos (by simp [Region.wanted])]
    refine .inl ?_
    unfold Oper.wp
    rw [hrun]
    exact h _ ⟨setRow_below (Nat.le_refl _), fun k _ hne => setRow_other w g k _ hne⟩ ⟨e, setRow_heap w g cs.toArray (cs.set k v).toArray e (0, 0) hge⟩
theorem wl_store_u64 {ops : Array Oper} {rest : List Oper} {Q : Exit → Act → World → Prop} {a : Act} {w : World} {p : Tmp} {x : Operand} {ty : TypeId} {pos : String} {af : Array Edge} {g k : Nat} {cs : List Value} {n : UInt64}
    (hp : Holds (OwnP g k cs) (a.eval (.tmp p)) w) (hx : Holds (Is (u64V n)) (a.eval x) w) (hk : k < cs.length) (h : ∀ w', Only g w w' → Blk g (cs.set k (u64V n)) w' → wpList Tryz.prog ops Q rest a w') :
    wpList Tryz.prog ops Q (⟨none, .store 102 (.tmp p) x, ty, pos, af, none⟩ :: rest) a w :=
  wl_store1 hp hx rfl rfl hk (by kernel_rfl) h
theorem only_refl (g : Nat) (w : World) : Only g w w := ⟨Below.refl _ _, fun _ _ _ => rfl⟩
theorem wl_copy {ops : Array Oper} {rest : List Oper} {Q : Exit → Act → World → Prop} {a : Act} {w : World} {d n : Nat} {x y : Operand} {t t' ty : TypeId} {pos : String} {af : Array Edge} {g o dl dc : Nat} {cs : List Value} {l : List UInt8}
    (ts : List Tmp) (hf : Fr n a) (hd : decide (d < n) = true) (hts : ts.contains d = false) (ht : Tryz.prog.underlying t = some (.slice 5)) (hx : Holds (Is (.slice (some ⟨g, o, none⟩) dl dc)) (a.eval x) w) (hg : Blk g cs w)
    (hy : Holds (Sl elByte l) (a.eval y) w) (hfit : o + min l.length dl ≤ cs.length)
    (h : ∀ a' w', Fr n a' → Only g w w' → Keep ts a a' → Blk g (cs.take o ++ ((l.take dl).map byteV ++ cs.drop (o + min l.length dl))) w' → Holds (Is (intV ((min l.length dl : Nat) : Int))) (a'.eval (.tmp d)) w' → wpList Tryz.prog ops Q rest a' w') :
    wpList Tryz.prog ops Q (⟨some d, .call { callee := .builtin .copy, args := #[x, y], argTypes := #[t, t'] }, ty, pos, af, none⟩ :: rest) a w := by
  obtain ⟨e, hge⟩ := hg
  obtain ⟨p, c, hyv, hc, hn, hcells⟩ := hy
  have hxv : a.eval x = .slice (some ⟨g, o, none⟩) dl dc := hx
  have hd' : d < n := of_decide_eq_true hd
  have hlen : ((l.take dl).map byteV).length = min l.length dl := by simp [Nat.min_comm]
  have fin : ∀ w', Only g w w' → Blk g (cs.take o ++ ((l.take dl).map byteV ++ cs.drop (o + min l.length dl))) w' → wpList Tryz.prog ops Q rest (a.put (some d) (goInt ((min l.length dl : Nat) : Int))) w' := fun w' h1 h2 => by
    refine h _ w' (fr_put hf) h1 (fun u hu => eval_put_ne fun e => ?_) h2 ?_
    · subst e; rw [hts] at hu; cases hu
    · rw [eval_put_eq hf hd']; rfl
  cases p with
  | none =>
    obtain ⟨rfl, rfl⟩ := hn rfl
    refine wpList_copy_nothing rfl x y t t' rfl 5 ht szByte (some ⟨g, o, none⟩) none dl dc 0 0 hxv hyv (by simp) ?_
    have h3 := fin w (only_refl g w) ⟨e, by simpa using hge⟩
    simpa using h3
  | some q =>
    have hsrc : ∀ j v, ((l.take dl).map byteV)[j]? = some v → w.cell? ((⟨q.1, q.2, none⟩ : Addr).add j) = some v := fun j v hj => by
      rw [List.getElem?_map, Option.map_eq_some_iff] at hj
      obtain ⟨b, hb, rfl⟩ := hj
      have hb' : l[j]? = some b := by
        rw [List.getElem?_take] at hb
        split at hb
        · exact hb
        · cases hb
      have := hcells q rfl j b hb' 0 (byteV b) rfl
      rw [add_lit]
      simpa [elByte] using this
    refine wpList_copy_own rfl x y t t' rfl 5 ht szByte g o dl dc ⟨q.1, q.2, none⟩ l.length c hxv hyv cs.toArray e hge ((l.take dl).map byteV) hlen hsrc (by rw [hlen]; simpa using hfit) (fun v hv => ?_) ?_
    · obtain ⟨b, _, rfl⟩ := List.mem_map.1 hv
      rfl
    · have h3 := fin _ ⟨setRow_below (Nat.le_refl g), fun k _ hne => setRow_other w g k _ hne⟩ ⟨e, setRow_heap w g cs.toArray (cs.take o ++ ((l.take dl).map byteV ++ cs.drop (o + min l.length dl))).toArray e (0, 0) hge⟩
      rw [hlen]
      exact h3
structure Bel (g : Nat) (w w' : World) : Prop where
  below : Below g w w'
  there : g < w.heap.size
theorem Bel.refl {g : Nat} {w : World} (h : g < w.heap.size) : Bel g w w := ⟨Below.refl _ _, h⟩
theorem Bel.size {g : Nat} {a b : World} (h : Bel g a b) : a.heap.size ≤ b.heap.size := h.below.size
theorem Bel.trans {g : Nat} {a b c : World} (h : Bel g a b) (k : Grow b c) : Bel g a c := ⟨Below.trans h.below (Below.mono k (Nat.le_trans (Nat.le_of_lt h.there) h.below.size)), h.there⟩
theorem Bel.only {g g' : Nat} {a b c : World} (h : Bel g a b) (ho : Only g' b c) (hl : g ≤ g') : Bel g a c := ⟨Below.trans h.below (Below.mono ho.below hl), h.there⟩
def ConM (f : FuncId) (cs ds : List Value) (y : Value) : Prop := ∀ g w, Blk g cs w → Calls Tryz.prog f #[PtrV g, y] w (fun e w' => (∃ v, e = .returned v) ∧ Bel g w w' ∧ Blk g ds w')
theorem ret_mutn {n : Nat} {fn : Func} {w0 w : World} {a : Act} {g : Nat} {ds : List Value} (hr : fn.results = #[]) (hf : Fr n a) (hg : Bel g w0 w) (hb : Blk g ds w) :
    bodyPost Tryz.prog fn (fun e w' => (∃ v, e = .returned v) ∧ Bel g w0 w' ∧ Blk g ds w') .normal a w :=
  ⟨hf.defers, _, results_none hr _ _ _, ⟨_, rfl⟩, hg, hb⟩
theorem wl_callm {ops : Array Oper} {rest : List Oper} {Q : Exit → Act → World → Prop} {a : Act} {w : World} {d n f : Nat} {p : Tmp} {y : Operand} {ats : Array TypeId} {ty : TypeId} {pos : String} {af : Array Edge} {g : Nat} {cs ds : List Value} {yv : Value}
    (ts : List Tmp) (hf : Fr n a) (hd : decide (d < n) = true) (hts : ts.contains d = false) (hc : callable f = true) (con : ConM f cs ds yv) (hp : Holds (Is (PtrV g)) (a.eval (.tmp p)) w) (hg : Blk g cs w) (hy : Holds (Is yv) (a.eval y) w)
    (h : ∀ a' w', Fr n a' → Bel g w w' → Keep ts a a' → Blk g ds w' → wpList Tryz.prog ops Q rest a' w') :
    wpList Tryz.prog ops Q (⟨some d, .call { callee := .value (.func f), args := #[.tmp p, y], argTypes := ats }, ty, pos, af, none⟩ :: rest) a w := by
  have hpv : a.eval (.tmp p) = PtrV g := hp
  have hyv : a.eval y = yv := hy
  unfold wpList
  rw [if_pos (by simp [Region.wanted])]
  refine .inl ?_
  unfold Oper.wp
  rw [run_call hc (base_eval a), show (#[Operand.tmp p, y] : Array Operand).map a.eval = #[a.eval (.tmp p), a.eval y] by simp, hpv, hyv]
  refine (con g w hg).mono fun e w' ⟨⟨v, he⟩, h1, h2⟩ => ?_
  subst he
  exact h _ w' (fr_put hf) h1 (fun u hu => eval_put_ne fun e => (by subst e; rw [hts] at hu; cases hu)) h2
end Ex
end Go.Proofs.YtnmfiiejhoafnaaGreat
