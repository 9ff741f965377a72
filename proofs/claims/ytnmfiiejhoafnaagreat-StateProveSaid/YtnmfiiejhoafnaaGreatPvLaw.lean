/- From a walked law ('it returns true and writes only above') to the given statement; and how each kind of argument opens. -/
import Derived.Test.YtnmfiiejhoafnaaGreatPvHsh
import Derived.Test.YtnmfiiejhoafnaaGreatRows
import Derived.ProofKit
import Derived.OpenShut
import Derived.SizedLaws
set_option linter.unusedSimpArgs false
set_option linter.unusedVariables false
namespace Go.Proofs.YtnmfiiejhoafnaaGreat
namespace Ex
open Go Calm Go.RowKit Go.ChangeShapes Go.WideShapes Go.ChangeAt
set_option maxRecDepth 100000
theorem ownKnob_none : ownKnob Tryz.prog.godebug = none := by kernel_rfl
theorem laidOut : laidOutB Tryz.prog = true := by kernel_rfl
theorem und4 : Tryz.prog.underlying 4 = some .bool := by kernel_rfl
section
variable {H : Type} {enc : TypeId × Value → H}
theorem trodAll_below {W W' : World} (hb : Below W.heap.size W W') : ∀ {ts : List TypeId} {vs : List Value} {ds : List (DataW H)} {ps : List MemPlace}, (∀ t ∈ ts, Tryz.prog.readableRec t = true ∧ t < Tryz.prog.types.size) →
    DataW.TrodAll enc Tryz.prog W 0 (fun _ => true) true ts vs ds ps → (∀ x ∈ ps, x.block < W.heap.size) → DataW.TrodAll enc Tryz.prog W' 0 (fun b => decide (b < W.heap.size)) true ts vs ds ps
  | [], [], [], _, _, h, _ => h
  | t :: ts, v :: vs, d :: ds, ps, hr, ⟨p, q, h1, h2, e⟩, hlt => by
    subst e
    exact ⟨p, q, Below.trod laidOut (hr t (by simp)).1 (hr t (by simp)).2 h1 hb (fun x hx => hlt x (by simp [hx])), trodAll_below hb (fun t' ht => hr t' (by simp [ht])) h2 (fun x hx => hlt x (by simp [hx])), rfl⟩
  | [], _ :: _, _, _, _, h, _ | [], [], _ :: _, _, _, h, _ | _ :: _, [], _, _, _, h, _ | _ :: _, _ :: _, [], _, _, h, _ => by cases h
theorem trodAll_length {W : World} {b : Nat} {sp : Nat → Bool} {hd : Bool} : ∀ {ts : List TypeId} {vs : List Value} {ds : List (DataW H)} {ps : List MemPlace}, DataW.TrodAll enc Tryz.prog W b sp hd ts vs ds ps → ds.length = ts.length
  | [], [], [], _, _ => rfl
  | _ :: ts, _ :: vs, _ :: ds, _, ⟨_, _, _, h2, _⟩ => by simpa using trodAll_length h2
  | [], _ :: _, _, _, h | [], [], _ :: _, _, h | _ :: _, [], _, _, h | _ :: _, _ :: _, [], _, h => by cases h
theorem law_lifted {s : ChangeSpec} {f : FuncId} {fn : Func} (hfn : Tryz.prog.funcs[f]? = some fn) (hno : Tryz.prog.inits.idxOf? f = none) (hv : s.vars = []) (hr : fn.resultTypes = #[4])
    (hs : ∀ (ds : List (DataW H)), ds.length = fn.params.size → (s.fn H ds).results = [.lit (.bool true)] ∧ (s.fn H ds).args = ds ∧ (s.fn H ds).vars = [])
    (hp : ∀ t ∈ fn.params.toList, Tryz.prog.readableRec t = true ∧ t < Tryz.prog.types.size)
    (os : Os) (started : os.Started)
    (wit : ∃ (w : World) (tape : Tape) (i : Input), w.os = os ∧ (w.forCall tape i).Shaped Tryz.checked.prog ∧ i.vars = [] ∧ Input.okWide Tryz.checked.prog (w.forCall tape i) .any w.heap.size f i ∧
      s.pre6 enc Tryz.checked.prog fn [] false (w.forCall tape i).memory i.args ∧ Assume.holds {} Tryz.checked.prog (lone (Frame.enter Tryz.checked.prog f i.args .normal) [] (w.forCall tape i)))
    (con : ∀ (W : World) (base : Nat) (args : Array Value) (ds : List (DataW H)) (p : List MemPlace), (∀ (j : Nat) t v, fn.params[j]? = some t → args[j]? = some v → Value.okWide Tryz.prog W .any base t v) →
      DataW.TrodAll enc Tryz.prog W 0 (fun _ => true) true fn.params.toList args.toList ds p → (DataW.weightsEach Tryz.prog fn.params.toList ds).all (· ≤ reachBytes) = true → Calls Tryz.prog f args W (Ret W (Is (.bool true)))) :
    ReturnsInHanded {} Tryz.checked os f .any (s.pre6 enc Tryz.prog fn [] false) (s.post enc Tryz.prog fn false true false false) := by
  refine returnsInHanded_of_change_sized (C := Tryz.checked) ownKnob_none started hno hfn wit ?_
  intro W base args ds gs before hval hW _ hwt0 _
  have hW' : DataW.Whole enc Tryz.prog fn.params.toList s.vars false W args.toList ds gs before := hW
  have hlt := hW'.lt
  obtain ⟨p, q, hA, hV, rfl, hfz, hnd⟩ := hW
  rw [hv] at hV
  obtain ⟨rfl, rfl⟩ := trodVars_none hV
  have hA' : DataW.TrodAll enc Tryz.prog W 0 (fun _ => true) true fn.params.toList args.toList ds p := hA
  have hl := trodAll_length hA'
  obtain ⟨s1, s2, s3⟩ := hs (ds ++ []) (by simpa using hl)
  have hwt : (DataW.weightsEach Tryz.prog fn.params.toList ds).all (· ≤ reachBytes) = true := by
    have e : s.plain.varTypes Tryz.prog = [] := by simp [DataSpec.varTypes, ChangeSpec.plain, hv]
    have h0 : (DataW.weightsEach Tryz.prog (fn.params.toList ++ s.plain.varTypes Tryz.prog) (ds ++ [])).all (· ≤ reachBytes) = true := hwt0
    rw [e, List.append_nil, List.append_nil] at h0
    exact h0
  refine (con W base args ds p hval hA' hwt).mono fun e W' ⟨v, he, hg, hh⟩ => ?_
  have hv1 : v = .bool true := hh
  subst hv1
  refine ⟨_, he, ds, [], p ++ [], [], p, [], hW', ?_, ?_, ?_, Below.frame hg _, fun h => by cases h⟩
  · rw [s1, hr]
    exact trodAll_mk1 (shut_bool und4 true)
  · rw [s2, List.append_nil]
    exact trodAll_below hg hp hA' (fun x hx => hlt x (by simp [hx]))
  · rw [s3, hv]
    rfl
end
section
variable {H : Type} {enc : TypeId × Value → H} {W : World} {base : Nat} {d : DataW H} {ps : List MemPlace} {v : Value}
theorem wf_u8 {n : Int} (h : (Lit.int .u8 n).wf = true) : ∃ x : UInt8, n = (x.toNat : Int) := by
  simp [Lit.wf, IntKind.min, IntKind.max, IntKind.signed, IntKind.bits] at h
  refine ⟨UInt8.ofNat n.toNat, ?_⟩
  rw [UInt8.toNat_ofNat']
  omega
theorem wf_i64 {n : Int} (h : (Lit.int .i64 n).wf = true) : ∃ x : Int64, n = x.toInt := by
  simp [Lit.wf, IntKind.min, IntKind.max, IntKind.signed, IntKind.bits] at h
  refine ⟨Int64.ofInt n, ?_⟩
  rw [Int64.toInt_ofInt_of_le (by omega) (by omega)]
def Reads (t : TypeId) (α : Type) (cells : α → List Value) : Prop :=
  ∀ {H : Type} {enc : TypeId × Value → H} {W : World} {fuel : Nat} {cs : List Value} {x : DataW H × List MemPlace}, DataW.trod enc Tryz.prog W 0 (fun _ => true) true fuel t cs = some x → ∃ a, cs = cells a
theorem und5 : Tryz.prog.underlying 5 = some (.int .u8) := by kernel_rfl
theorem und3 : Tryz.prog.underlying 3 = some (.int .i64) := by kernel_rfl
theorem und23 : Tryz.prog.underlying 30 = some (.array 8 5) := by kernel_rfl
theorem cof23 : Tryz.prog.cellsOf 30 = 8 := by kernel_rfl
theorem cof5 : Tryz.prog.cellsOf 5 = 1 := by kernel_rfl
theorem reads_byte : Reads 5 UInt8 (fun b => [byteV b]) := by
  intro H enc W fuel cs x h
  obtain ⟨n, rfl, _, hw⟩ := DataW.trod_int und5 h
  obtain ⟨b, rfl⟩ := wf_u8 hw
  exact ⟨b, rfl⟩
theorem reads_int : Reads 3 Int64 (fun b => [intV b.toInt]) := by
  intro H enc W fuel cs x h
  obtain ⟨n, rfl, _, hw⟩ := DataW.trod_int und3 h
  obtain ⟨b, rfl⟩ := wf_i64 hw
  exact ⟨b, rfl⟩
theorem one_of_take {cs : List Value} {i : Nat} {v : Value} (h : (cs.drop i).take 1 = [v]) : cs[i]? = some v := by
  have := congrArg (fun l => l[0]?) h
  simpa using this
theorem reads_nm : Reads 30 UInt64 nmCells := by
  intro H enc W fuel cs x h
  obtain ⟨xs, m, rfl, rfl, hl, hn, he⟩ := DataW.trod_array und23 h
  rw [cof23] at hl
  have key : ∀ i, i < 8 → ∃ b, cs[i]? = some (byteV b) := by
    intro i hi
    have h1 := he i hi
    rw [cof5, Nat.mul_one, List.getElem?_eq_getElem (show i < xs.length by omega)] at h1
    obtain ⟨b, hb⟩ := reads_byte h1
    exact ⟨b, one_of_take hb⟩
  match cs, hl with
  | [c0, c1, c2, c3, c4, c5, c6, c7], _ =>
    obtain ⟨b0, h0⟩ := key 0 (by omega)
    obtain ⟨b1, h1⟩ := key 1 (by omega)
    obtain ⟨b2, h2⟩ := key 2 (by omega)
    obtain ⟨b3, h3⟩ := key 3 (by omega)
    obtain ⟨b4, h4⟩ := key 4 (by omega)
    obtain ⟨b5, h5⟩ := key 5 (by omega)
    obtain ⟨b6, h6⟩ := key 6 (by omega)
    obtain ⟨b7, h7⟩ := key 7 (by omega)
    simp at h0 h1 h2 h3 h4 h5 h6 h7
    subst h0 h1 h2 h3 h4 h5 h6 h7
    exact ⟨ofB b0 b1 b2 b3 b4 b5 b6 b7, (nmCells_ofB b0 b1 b2 b3 b4 b5 b6 b7).symm⟩
theorem open_nm (hval : Value.okWide Tryz.prog W .any base 30 v) (h : DataW.Trod enc Tryz.prog W 0 (fun _ => true) true 30 v d ps) : ∃ n, Holds (Is (nmV n)) v W := by
  simp only [Value.okWide, und23] at hval
  obtain ⟨cs, rfl, _, _⟩ := hval
  obtain ⟨fuel, hf⟩ := h
  obtain ⟨n, hn⟩ := reads_nm hf
  refine ⟨n, ?_⟩
  show Value.agg cs = .agg (nmCells n).toArray
  rw [← hn]
  simp [Value.cells]
theorem list_of {α : Type} {Q : Nat → α → Prop} : ∀ {n : Nat}, (∀ i, i < n → ∃ y, Q i y) → ∃ l : List α, l.length = n ∧ ∀ i y, l[i]? = some y → Q i y
  | 0, _ => ⟨[], rfl, fun i y h => by simp at h⟩
  | k + 1, h => by
    obtain ⟨l, h1, h2⟩ := list_of (fun i hi => h i (Nat.lt_succ_of_lt hi))
    obtain ⟨y, hy⟩ := h k (Nat.lt_succ_self k)
    refine ⟨l ++ [y], by simp [h1], fun i z hz => ?_⟩
    by_cases hi : i < l.length
    · rw [List.getElem?_append_left hi] at hz
      exact h2 i z hz
    · rw [List.getElem?_append_right (by omega)] at hz
      have e : i = k := by
        have := (List.getElem?_eq_some_iff.1 hz).1
        simp at this
        omega
      subst e
      rw [h1] at hz
      simp at hz
      subst hz
      exact hy
theorem open_sl {α : Type} {T : El α} {t e : TypeId} (hu : Tryz.prog.underlying t = some (.slice e)) (hc : Tryz.prog.cellsOf e = T.size) (hr : Reads e α T.cells) {fuel : Nat} {x : DataW H × List MemPlace}
    (hval : Cell.okWide Tryz.prog W .any base t v) (h : DataW.trod enc Tryz.prog W 0 (fun _ => true) true fuel t [v] = some x) : ∃ l : List α, l.length ≤ maxLen ∧ Holds (Sl T l) v W ∧ (l = [] ∨ ∃ es sp, x.1 = .slice es sp ∧ es.length = l.length) := by
  rcases DataW.trod_slice hu h with ⟨h0, _⟩ | ⟨a, len, cap, elems, rest, n, _, h0, hx, _, hl, hm, hlen, hel, _, _⟩
  · obtain ⟨rfl⟩ : v = .slice none 0 0 := by simpa using h0
    exact ⟨[], by simp, ⟨none, 0, rfl, Nat.le_refl _, fun _ => ⟨rfl, rfl⟩, fun p hp => by cases hp⟩, .inl rfl⟩
  · obtain ⟨rfl⟩ : v = .slice (some a) len cap := by simpa using h0
    have hspot : a.spot = none := by
      simp only [Cell.okWide, hu, Cell.ok] at hval
      exact hval.2.2.2.1
    have each : ∀ i, i < len → ∃ y : α, Cells a.block (a.off + i * T.size) (T.cells y) W := by
      intro i hi
      have h1 := hel i hi
      rw [List.getElem?_eq_getElem (show i < elems.length by omega), Option.bind_eq_some_iff] at h1
      obtain ⟨cs, hcs, hy⟩ := h1
      obtain ⟨y, rfl⟩ := hr hy
      refine ⟨y, fun j z hz => ?_⟩
      have h2 := (World.cells?_some hcs).2.2 j (by have := (List.getElem?_eq_some_iff.1 hz).1; rw [hc, ← T.len y]; exact this)
      rw [hz] at h2
      rw [← h2]
      congr 1
      rw [hc]
      obtain ⟨b, o, s⟩ := a
      cases hspot
      unfold Addr.add
      by_cases h3 : i * T.size = 0 <;> by_cases h4 : j = 0 <;> simp [h3, h4, Nat.add_assoc]
    obtain ⟨l, h1, h2⟩ := list_of each
    refine ⟨l, by omega, ⟨some (a.block, a.off), cap, ?_, by omega, (fun h3 => by cases h3), (fun p hp i y hi => by cases hp; exact h2 i y hi)⟩, .inr ⟨_, _, congrArg Prod.fst hx, by rw [List.length_map, hlen, h1]⟩⟩
    obtain ⟨b, o, s⟩ := a
    cases hspot
    rw [h1]
    rfl
end
end Ex
end Go.Proofs.YtnmfiiejhoafnaaGreat
