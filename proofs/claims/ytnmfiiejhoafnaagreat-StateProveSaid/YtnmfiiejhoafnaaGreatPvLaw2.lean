/- How cells, entries, states, inclusions and lists of entries open. -/
import Derived.Test.YtnmfiiejhoafnaaGreatPvLaw
import Derived.Test.YtnmfiiejhoafnaaGreatPvInc
set_option linter.unusedSimpArgs false
set_option linter.unusedVariables false
namespace Go.Proofs.YtnmfiiejhoafnaaGreat
namespace Ex
open Go Calm Go.RowKit Go.ChangeShapes Go.WideShapes Go.ChangeAt
set_option maxRecDepth 100000
theorem ctState : Tryz.prog.cellTypes Tryz.prog.depth 28 = some [22, 23, 24, 25, 26] := by kernel_rfl
theorem cofState : Tryz.prog.cellsOf 28 = 5 := by kernel_rfl
theorem cofC : Tryz.prog.cellsOf 42 = 10 := by kernel_rfl
theorem cofI : Tryz.prog.cellsOf 3 = 1 := by kernel_rfl
theorem cofM : Tryz.prog.cellsOf 26 = 1 := by kernel_rfl
theorem cofN : Tryz.prog.cellsOf 30 = 8 := by kernel_rfl
theorem cofDs : Tryz.prog.cellsOf 22 = 1 := by kernel_rfl
theorem cofIs : Tryz.prog.cellsOf 23 = 1 := by kernel_rfl
theorem cofKs : Tryz.prog.cellsOf 24 = 1 := by kernel_rfl
theorem cofNs : Tryz.prog.cellsOf 25 = 1 := by kernel_rfl
theorem undMask : Tryz.prog.underlying 26 = some (.int .i64) := by kernel_rfl
theorem undDs : Tryz.prog.underlying 22 = some (.slice 54) := by kernel_rfl
theorem undIs : Tryz.prog.underlying 23 = some (.slice 3) := by kernel_rfl
theorem undKs : Tryz.prog.underlying 24 = some (.slice 32) := by kernel_rfl
theorem undNs : Tryz.prog.underlying 25 = some (.slice 30) := by kernel_rfl
section
variable {H : Type} {enc : TypeId × Value → H} {W : World} {base : Nat} {d : DataW H} {ps : List MemPlace} {v : Value}
theorem structLen {t : TypeId} {fs : Array Field} (hu : Tryz.prog.underlying t = some (.struct fs)) {fuel : Nat} {cs : List Value} {x : DataW H × List MemPlace} (h : DataW.trod enc Tryz.prog W 0 (fun _ => true) true fuel t cs = some x) : cs.length = Tryz.prog.cellsOf t := by
  obtain ⟨_, _, _, _, hl, _⟩ := DataW.trod_struct hu h
  exact hl
theorem structAt {t : TypeId} {fs : Array Field} (hu : Tryz.prog.underlying t = some (.struct fs)) {fuel : Nat} {cs : List Value} {x : DataW H × List MemPlace} (h : DataW.trod enc Tryz.prog W 0 (fun _ => true) true fuel t cs = some x) (i : Nat) {f : Field} (hf : fs[i]? = some f) :
    ∃ n y, DataW.trod enc Tryz.prog W 0 (fun _ => true) true n f.type ((cs.drop f.offset).take (Tryz.prog.cellsOf f.type)) = some y := by
  obtain ⟨xs, n, _, _, _, hlen, hfs⟩ := DataW.trod_struct hu h
  have h1 := hfs i f hf
  have hi : i < xs.length := by rw [hlen]; exact (Array.getElem?_eq_some_iff.1 hf).1
  rw [List.getElem?_eq_getElem hi] at h1
  exact ⟨n, _, h1⟩
end
theorem reads_cell : Reads 42 GCell cellCells := by
  intro H enc W fuel cs x h
  have hl := structLen Tryz.underlying42 h
  rw [cofC] at hl
  obtain ⟨n0, y0, h0⟩ := structAt Tryz.underlying42 h 0 rfl
  obtain ⟨n1, y1, h1⟩ := structAt Tryz.underlying42 h 1 rfl
  obtain ⟨n2, y2, h2⟩ := structAt Tryz.underlying42 h 2 rfl
  simp only [List.getElem_toArray, List.getElem_cons_zero, List.getElem_cons_succ] at h0 h1 h2
  rw [cofI] at h0 h1
  rw [cofN] at h2
  obtain ⟨a, ha⟩ := reads_int h0
  obtain ⟨b, hb⟩ := reads_int h1
  obtain ⟨n, hn⟩ := reads_nm h2
  match cs, hl with
  | [c0, c1, c2, c3, c4, c5, c6, c7, c8, c9], _ =>
    refine ⟨⟨a, b, n⟩, ?_⟩
    simp only [List.drop_succ_cons, List.drop_zero, List.take_succ_cons, List.take_zero, nmCells, List.cons.injEq, and_true] at ha hb hn
    obtain ⟨e0, e1, e2, e3, e4, e5, e6, e7⟩ := hn
    subst ha hb e0 e1 e2 e3 e4 e5 e6 e7
    rfl
theorem reads_delta : Reads 54 GDelta deltaCells := by
  intro H enc W fuel cs x h
  have hl := structLen Tryz.underlying54 h
  rw [cofDelta] at hl
  obtain ⟨n0, y0, h0⟩ := structAt Tryz.underlying54 h 0 rfl
  obtain ⟨n1, y1, h1⟩ := structAt Tryz.underlying54 h 1 rfl
  simp only [List.getElem_toArray, List.getElem_cons_zero, List.getElem_cons_succ] at h0 h1
  rw [cofC] at h0
  rw [cofI] at h1
  obtain ⟨c, hc⟩ := reads_cell h0
  obtain ⟨b, hb⟩ := reads_int h1
  match cs, hl with
  | [c0, c1, c2, c3, c4, c5, c6, c7, c8, c9, c10], _ =>
    refine ⟨⟨c, b⟩, ?_⟩
    simp only [List.drop_succ_cons, List.drop_zero, List.take_succ_cons, List.take_zero] at hc hb
    unfold deltaCells
    rw [← hc, ← hb]
    rfl
theorem reads_lock : Reads 32 GLock lockCells := by
  intro H enc W fuel cs x h
  have hl := structLen Tryz.underlying32 h
  rw [cofLock] at hl
  obtain ⟨n0, y0, h0⟩ := structAt Tryz.underlying32 h 0 rfl
  obtain ⟨n1, y1, h1⟩ := structAt Tryz.underlying32 h 1 rfl
  obtain ⟨n2, y2, h2⟩ := structAt Tryz.underlying32 h 2 rfl
  obtain ⟨n3, y3, h3⟩ := structAt Tryz.underlying32 h 3 rfl
  obtain ⟨n4, y4, h4⟩ := structAt Tryz.underlying32 h 4 rfl
  simp only [List.getElem_toArray, List.getElem_cons_zero, List.getElem_cons_succ] at h0 h1 h2 h3 h4
  rw [cofN] at h0 h1
  rw [cofI] at h2 h3 h4
  obtain ⟨a, ha⟩ := reads_nm h0
  obtain ⟨b, hb⟩ := reads_nm h1
  obtain ⟨o, ho⟩ := reads_int h2
  obtain ⟨t, ht⟩ := reads_int h3
  obtain ⟨u, hu⟩ := reads_int h4
  match cs, hl with
  | [c0, c1, c2, c3, c4, c5, c6, c7, c8, c9, c10, c11, c12, c13, c14, c15, c16, c17, c18], _ =>
    refine ⟨⟨a, b, o, t, u⟩, ?_⟩
    simp only [List.drop_succ_cons, List.drop_zero, List.take_succ_cons, List.take_zero, List.cons.injEq, and_true] at ha hb ho ht hu
    unfold lockCells
    rw [← ha, ← hb, ← ho, ← ht, ← hu]
    rfl
theorem reads_intI : Reads 3 Int (fun n => [intV n]) := fun h => by
  obtain ⟨b, hb⟩ := reads_int h
  exact ⟨b.toInt, hb⟩
section
variable {H : Type} {enc : TypeId × Value → H} {W : World} {base : Nat} {d : DataW H} {ps : List MemPlace} {v : Value}
theorem open_flat {t : TypeId} {fs : Array Field} {α : Type} {cells : α → List Value} (hu : Tryz.prog.underlying t = some (.struct fs)) (hr : Reads t α cells) (hval : Value.okWide Tryz.prog W .any base t v) (h : DataW.Trod enc Tryz.prog W 0 (fun _ => true) true t v d ps) : ∃ a, v = .agg (cells a).toArray := by
  simp only [Value.okWide, hu] at hval
  obtain ⟨cs, rfl, _, _⟩ := hval
  obtain ⟨fuel, hf⟩ := h
  obtain ⟨a, ha⟩ := hr hf
  refine ⟨a, ?_⟩
  rw [← ha]
  simp [Value.cells]
theorem open_cell (hval : Value.okWide Tryz.prog W .any base 42 v) (h : DataW.Trod enc Tryz.prog W 0 (fun _ => true) true 42 v d ps) : ∃ c, Holds (Is (cellV c)) v W := open_flat Tryz.underlying42 reads_cell hval h
theorem open_list {α : Type} {T : El α} {t e : TypeId} (hu : Tryz.prog.underlying t = some (.slice e)) (hc : Tryz.prog.cellsOf e = T.size) (hr : Reads e α T.cells) {fuel : Nat} {x : DataW H × List MemPlace}
    (hval : Cell.okWide Tryz.prog W .any base t v) (h : DataW.trod enc Tryz.prog W 0 (fun _ => true) true fuel t [v] = some x) : ∃ l : List α, Holds (Sl T l) v W := by
  obtain ⟨l, _, h1, _⟩ := open_sl (T := T) hu hc hr hval h
  exact ⟨l, h1⟩
theorem okAt {t : TypeId} {ts : List TypeId} {cs : Array Value} (hct : Tryz.prog.cellTypes Tryz.prog.depth t = some ts) (h : Row.okWide Tryz.prog W .any base t cs) (i : Nat) {c : Value} {u : TypeId} (hi : i < ts.length) (hc : cs[i]? = some c) (hu : ts[i]? = some u) : Cell.okWide Tryz.prog W .any base u c := by
  obtain ⟨ts', hts, _, hok⟩ := h
  rw [hct] at hts
  obtain rfl := Option.some.inj hts
  obtain ⟨u', hu', hk⟩ := hok i c hc
  rw [Nat.mod_eq_of_lt hi, hu] at hu'
  obtain rfl := Option.some.inj hu'
  exact hk
theorem open_state (hval : Value.okWide Tryz.prog W .any base 28 v) (h : DataW.Trod enc Tryz.prog W 0 (fun _ => true) true 28 v d ps) : ∃ s, Holds (StF s) v W := by
  simp only [Value.okWide, Tryz.underlying28] at hval
  obtain ⟨⟨l⟩, rfl, hsz, hok⟩ := hval
  obtain ⟨fuel, hf⟩ := h
  rw [cofState] at hsz
  match l, hsz with
  | [c0, c1, c2, c3, c4], _ =>
    have hf' : DataW.trod enc Tryz.prog W 0 (fun _ => true) true fuel 28 [c0, c1, c2, c3, c4] = some (d, ps) := hf
    obtain ⟨n0, y0, h0⟩ := structAt Tryz.underlying28 hf' 0 rfl
    obtain ⟨n1, y1, h1⟩ := structAt Tryz.underlying28 hf' 1 rfl
    obtain ⟨n2, y2, h2⟩ := structAt Tryz.underlying28 hf' 2 rfl
    obtain ⟨n3, y3, h3⟩ := structAt Tryz.underlying28 hf' 3 rfl
    obtain ⟨n4, y4, h4⟩ := structAt Tryz.underlying28 hf' 4 rfl
    simp only [List.getElem_toArray, List.getElem_cons_zero, List.getElem_cons_succ] at h0 h1 h2 h3 h4
    rw [cofDs] at h0
    rw [cofIs] at h1
    rw [cofKs] at h2
    rw [cofNs] at h3
    rw [cofM] at h4
    simp only [List.drop_succ_cons, List.drop_zero, List.take_succ_cons, List.take_zero] at h0 h1 h2 h3 h4
    obtain ⟨l1, k1⟩ := open_list (T := elDelta) undDs cofDelta reads_delta (okAt ctState hok 0 (by decide) rfl rfl) h0
    obtain ⟨l2, k2⟩ := open_list (T := elInt) undIs cofI reads_intI (okAt ctState hok 1 (by decide) rfl rfl) h1
    obtain ⟨l3, k3⟩ := open_list (T := elLock) undKs cofLock reads_lock (okAt ctState hok 2 (by decide) rfl rfl) h2
    obtain ⟨l4, k4⟩ := open_list (T := elNm) undNs cofN reads_nm (okAt ctState hok 3 (by decide) rfl rfl) h3
    obtain ⟨g, e, _, hw⟩ := DataW.trod_int undMask h4
    obtain ⟨b, rfl⟩ := wf_i64 hw
    obtain rfl : c4 = intV b.toInt := by simpa using e
    exact ⟨⟨l1, l2, l3, l4, b⟩, c0, c1, c2, c3, rfl, k1, k2, k3, k4⟩
end
end Ex
end Go.Proofs.YtnmfiiejhoafnaaGreat
