/- A rule for a statement whose order of evaluation is left open: each operation is looked at once, under what is known of the operations that it waits for. -/
import Derived.Orders
import Derived.Tactics
import Derived.KernelRfl
set_option linter.unusedSimpArgs false
set_option linter.unusedVariables false
namespace Go.Proofs.YtnmfiiejhoafnaaGreat
namespace Calm
open Go
abbrev Fct := Value → World → Prop
def Is (x : Value) : Fct := fun v _ => v = x
def Any : Fct := fun _ _ => True
def direct (o : Oper) : List Nat := o.after.toList.filterMap fun e => if Region.binds .any e then some e.on else none
def ancs (ops : List Oper) : List Nat :=
  ops.foldl (init := []) fun acc o => acc ++ [(direct o).foldl (fun s k => s ||| 2 ^ k ||| acc.getD k 0) 0]
def isAnc (A : List Nat) (i j : Nat) : Bool := (A.getD j 0).testBit i
def wantedBy (ops : Array Oper) (o : Oper) (ρ : Operand → Value) : Bool :=
  match o.guard with
  | none => true
  | some (j, want) =>
    match (ops[j]?).bind (·.dst) with
    | some d => match ρ (.tmp d) with
      | .bool b => b == want
      | _ => false
    | none => false
def givesOf (P : Program) (R : Value → World → Prop) : Result Next → Prop
  | .ok (.value v) w => R v w
  | .ok .skip w => R undef w
  | .ok (.enter f args) w => Calls P f args w (fun e w' => ∃ v, e = .returned v ∧ R v w')
  | _ => False
def keepV (o : Oper) (v : Value) : Value := match o.dst with | some _ => v | none => undef
def tmpVal (ρ : Operand → Value) (o : Oper) : Value := match o.dst with | some d => ρ (.tmp d) | none => undef
def frees (ops : List Oper) (A : List Nat) (i : Nat) (o : Oper) : List Tmp :=
  (o.op.operands.toList.filterMap fun | .tmp t => some t | _ => none).filter fun t =>
    ops.zipIdx.all fun (o', j) => o'.dst != some t || i == j || isAnc A i j
structure Base (ρ : Operand → Value) : Prop where
  const : ∀ c, ρ (.const c) = c
  func : ∀ f, ρ (.func f) = .func (.func f) #[] #[]
  glob : ∀ g, ρ (.global g) = .pointer (some ⟨g, 0, none⟩)
def Obl (P : Program) (l : List Oper) (A : List Nat) (a0 : Act) (C : World → Prop) (S : Nat → World → World → Prop) (F : Nat → Fct) (i : Nat) (o : Oper) : Prop :=
  ∀ (ρ : Operand → Value) (w : World), Base ρ → C w → (∀ t ∈ frees l A i o, ρ (.tmp t) = a0.eval (.tmp t)) →
    (∀ j ∈ direct o, F j (tmpVal ρ (l.getD j o)) w) →
    if wantedBy l.toArray o ρ then givesOf P (fun v w' => C w' ∧ S i w w' ∧ F i (keepV o v) w') ((execOp ρ o).run P w) else F i undef w
def OblsFrom (P : Program) (l : List Oper) (A : List Nat) (a0 : Act) (C : World → Prop) (S : Nat → World → World → Prop) (F : Nat → Fct) : Nat → List Oper → Prop
  | _, [] => True
  | i, o :: rest => Obl P l A a0 C S F i o ∧ OblsFrom P l A a0 C S F (i + 1) rest
theorem OblsFrom.at {P : Program} {l : List Oper} {A : List Nat} {a0 : Act} {C : World → Prop} {S : Nat → World → World → Prop} {F : Nat → Fct} :
    ∀ (r : List Oper) (i : Nat), OblsFrom P l A a0 C S F i r → ∀ k o, r[k]? = some o → Obl P l A a0 C S F (i + k) o
  | [], _, _, k, o, h => by simp at h
  | o :: r, i, h, 0, o', hk => by simp at hk; subst hk; exact h.1
  | o :: r, i, h, k + 1, o', hk => by
    have := OblsFrom.at r (i + 1) h.2 k o' (by simpa using hk)
    rwa [Nat.add_assoc, Nat.add_comm 1 k] at this
def puts : List Oper → Nat → (Nat → Value) → Act → Act
  | [], _, _, a => a
  | o :: r, i, vs, a => puts r (i + 1) vs (a.put o.dst (vs i))
def checks (l : List Oper) (m : Nat) (A : List Nat) (dead : Nat → List Nat) (size : Nat) : Bool :=
  decide (m ≤ l.length) && l.zipIdx.all (fun (o, j) => decide (j < m) || (if j == m then (List.range m).all (fun k => isAnc A k j) else (direct o).contains (j - 1))) &&
  A == ancs l &&
  l.zipIdx.all (fun (o, i) => (direct o).all (· < i)) &&
  l.zipIdx.all (fun (o, i) => l.zipIdx.all fun (o', j) => i == j || o.dst == none || o.dst != o'.dst) &&
  l.all (fun o => match o.dst with | some d => d < size | none => true) &&
  l.zipIdx.all (fun (_, i) => (dead i).all fun k => isAnc A k i && l.zipIdx.all fun (o, j) => decide (m ≤ j) || !(direct o).contains k || j == i || isAnc A j i)
theorem mem_direct {o : Oper} {k : Nat} : k ∈ direct o ↔ ∃ e ∈ o.after, Region.binds .any e = true ∧ e.on = k := by
  unfold direct
  rw [List.mem_filterMap]
  constructor
  · rintro ⟨e, he, h⟩
    split at h
    · rename_i hb; exact ⟨e, Array.mem_toList_iff.1 he, hb, Option.some.inj h⟩
    · cases h
  · rintro ⟨e, he, hb, rfl⟩
    exact ⟨e, Array.mem_toList_iff.2 he, by rw [if_pos hb]⟩
theorem testBit_foldl (f : Nat → Nat) (i : Nat) : ∀ (ks : List Nat) (s : Nat),
    (ks.foldl (fun s k => s ||| 2 ^ k ||| f k) s).testBit i = true → s.testBit i = true ∨ ∃ k ∈ ks, i = k ∨ (f k).testBit i = true
  | [], s, h => .inl h
  | k :: ks, s, h => by
    rcases testBit_foldl f i ks _ h with h | ⟨m, hm, h⟩
    · rw [Nat.testBit_or, Nat.testBit_or, Nat.testBit_two_pow] at h
      simp only [Bool.or_eq_true, decide_eq_true_eq] at h
      rcases h with (h | h) | h
      · exact .inl h
      · exact .inr ⟨k, by simp, .inl h.symm⟩
      · exact .inr ⟨k, by simp, .inr h⟩
    · exact .inr ⟨m, by simp [hm], h⟩
theorem ancs_spec (l : List Oper) : ∀ j o, l[j]? = some o → ∀ i, isAnc (ancs l) i j = true → ∃ k ∈ direct o, i = k ∨ isAnc (ancs l) i k = true := by
  have key : ∀ (l : List Oper) (acc : List Nat), ∃ tl, l.foldl (init := acc) (fun acc o => acc ++ [(direct o).foldl (fun s k => s ||| 2 ^ k ||| acc.getD k 0) 0]) = acc ++ tl ∧ tl.length = l.length ∧
      ∀ j o, l[j]? = some o → ∀ i, (tl.getD j 0).testBit i = true → ∃ k ∈ direct o, i = k ∨ (((acc ++ tl)).getD k 0).testBit i = true := by
    intro l
    induction l with
    | nil => intro acc; exact ⟨[], by simp⟩
    | cons o l ih =>
      intro acc
      obtain ⟨tl, h1, h2, h3⟩ := ih (acc ++ [(direct o).foldl (fun s k => s ||| 2 ^ k ||| acc.getD k 0) 0])
      refine ⟨(direct o).foldl (fun s k => s ||| 2 ^ k ||| acc.getD k 0) 0 :: tl, ?_, by simp [h2], ?_⟩
      · simp only [List.foldl_cons]; rw [h1]; simp
      · intro j o' hj i hi
        cases j with
        | zero =>
          simp at hj; subst hj
          simp only [List.getD_cons_zero] at hi
          rcases testBit_foldl _ i _ _ hi with h | ⟨k, hk, h⟩
          · simp at h
          · refine ⟨k, hk, h.imp id fun h => ?_⟩
            by_cases hlt : k < acc.length
            · rw [List.getD_eq_getElem?_getD, List.getElem?_append_left hlt, ← List.getD_eq_getElem?_getD]; exact h
            · rw [List.getD_eq_getElem?_getD, List.getElem?_eq_none (by omega)] at h; simp at h
        | succ j =>
          obtain ⟨k, hk, h⟩ := h3 j o' (by simpa using hj) i (by simpa using hi)
          exact ⟨k, hk, h.imp id fun h => by simpa using h⟩
  intro j o hj i hi
  obtain ⟨tl, h1, _, h3⟩ := key l []
  have he : ancs l = tl := by unfold ancs; rw [h1]; simp
  unfold isAnc at *
  rw [he] at hi ⊢
  simpa using h3 j o hj i hi
theorem wanted_eq (ops : Array Oper) (o : Oper) (a : Act) : Region.wanted o (yielded ops a.tmps) = wantedBy ops o a.eval := by
  unfold Region.wanted wantedBy yielded
  cases o.guard with
  | none => rfl
  | some g =>
    obtain ⟨j, want⟩ := g
    simp only
    cases (ops[j]?).bind (·.dst) with
    | none => rfl
    | some d =>
      simp only [Option.bind_some, Act.eval, Array.getD_eq_getD_getElem?]
      cases h : a.tmps[d]? with
      | none => simp [undef]
      | some v => cases v <;> simp
theorem base_eval (a : Act) : Base a.eval := ⟨fun _ => rfl, fun _ => rfl, fun _ => rfl⟩
section
variable {P : Program} {l : List Oper} {Q : Exit → Act → World → Prop} {a0 : Act} {C : World → Prop} {S : Nat → World → World → Prop} {F : Nat → Fct} {dead : Nat → List Nat}
structure Inv (l : List Oper) (a0 : Act) (C : World → Prop) (F : Nat → Fct) (dead : Nat → List Nat) (listed : Array Bool) (a : Act) (w : World) : Prop where
  size : listed.size = l.length
  closed : ∀ j o, l[j]? = some o → listed.getD j false = true → ∀ k ∈ direct o, listed.getD k false = true
  defers : a.defers = a0.defers
  tsize : a.tmps.size = a0.tmps.size
  frame : ∀ t, (∀ j o, l[j]? = some o → o.dst = some t → listed.getD j false = false) → a.tmps[t]? = a0.tmps[t]?
  cls : C w
  facts : ∀ k o, l[k]? = some o → listed.getD k false = true → (∀ i, listed.getD i false = true → k ∉ dead i) → F k (tmpVal a.eval o) w
def left (listed : Array Bool) : Nat := listed.toList.countP (fun b => !b)
theorem getD_set (x : Array Bool) (i j : Nat) (hi : i < x.size) (b : Bool) : (x.setIfInBounds i true).getD j b = if i = j then true else x.getD j b := by
  simp only [Array.getD_eq_getD_getElem?, Array.getElem?_setIfInBounds]
  by_cases h : i = j
  · subst h; simp [hi]
  · simp [h]
theorem left_set (x : Array Bool) (i : Nat) (hi : i < x.size) (hf : x.getD i true = false) : left (x.setIfInBounds i true) + 1 = left x := by
  unfold left
  have h0 : x[i] = false := by simpa [Array.getD_eq_getD_getElem?, hi] using hf
  rw [Array.toList_setIfInBounds, List.countP_set (by simpa using hi)]
  have hp : 0 < List.countP (fun b => !b) x.toList := by
    rw [List.countP_pos_iff]; exact ⟨x[i], by simp, by simp [h0]⟩
  have h1 : x.toList[i]'(by simpa using hi) = false := by simpa using h0
  rw [h1]
  simp only [Bool.not_false, if_true, Bool.not_true, Bool.false_eq_true, if_false]
  omega
theorem puts_get : ∀ (r : List Oper) (i : Nat) (vs : Nat → Value) (a : Act), (puts r i vs a).defers = a.defers ∧ (puts r i vs a).tmps.size = a.tmps.size ∧
    (∀ t, (∀ (k : Nat) (o : Oper), r[k]? = some o → o.dst ≠ some t) → (puts r i vs a).tmps[t]? = a.tmps[t]?) ∧
    (∀ t (k : Nat) (o : Oper), r[k]? = some o → o.dst = some t → (∀ (k' : Nat) (o' : Oper), r[k']? = some o' → o'.dst = some t → k' = k) → t < a.tmps.size → (puts r i vs a).tmps[t]? = some (vs (i + k)))
  | [], i, vs, a => ⟨rfl, rfl, fun _ _ => rfl, fun t k o h => by simp at h⟩
  | o :: r, i, vs, a => by
    obtain ⟨h1, h2, h3, h4⟩ := puts_get r (i + 1) vs (a.put o.dst (vs i))
    have hps : (a.put o.dst (vs i)).tmps.size = a.tmps.size := by cases h : o.dst <;> simp [Act.put]
    refine ⟨?_, ?_, ?_, ?_⟩
    · simp only [puts]; rw [h1]; cases o.dst <;> rfl
    · simp only [puts]; rw [h2, hps]
    · intro t ht
      simp only [puts]
      rw [h3 t fun k o' hk => ht (k + 1) o' (by simpa using hk)]
      have := ht 0 o (by simp)
      cases hd : o.dst with
      | none => rfl
      | some d => simp only [Act.put]; rw [Array.getElem?_setIfInBounds_ne]; intro e; exact this (by rw [hd, e])
    · intro t k o' hk hd hu hlt
      simp only [puts]
      cases k with
      | zero =>
        simp at hk; subst hk
        rw [h3 t ?_]
        · rw [hd]; simp [Act.put, hlt]
        · intro k o' hk' hd'
          have := hu (k + 1) o' (by simpa using hk') hd'
          omega
      | succ k =>
        have := h4 t k o' (by simpa using hk) hd (fun k' o'' h' hd' => by have := hu (k' + 1) o'' (by simpa using h') hd'; omega) (by rw [hps]; exact hlt)
        rw [this]; congr 2; omega
theorem anc_listed {A : List Nat} (hA : A = ancs l) {listed : Array Bool} (hcl : ∀ j o, l[j]? = some o → listed.getD j false = true → ∀ k ∈ direct o, listed.getD k false = true)
    (hlow : ∀ (j : Nat) (o : Oper), l[j]? = some o → ∀ k ∈ direct o, k < j) : ∀ (j i : Nat), (∃ o, l[j]? = some o) → isAnc A i j = true → listed.getD j false = true → listed.getD i false = true := by
  intro j
  induction j using Nat.strongRecOn with
  | _ j ih =>
    rintro i ⟨o, hj⟩ ha hl
    subst hA
    obtain ⟨k, hk, h⟩ := ancs_spec l j o hj i ha
    have hkl := hcl j o hj hl k hk
    rcases h with rfl | h
    · exact hkl
    · have hkj := hlow j o hj k hk
      have hlt : j < l.length := (List.getElem?_eq_some_iff.1 hj).1
      exact ih k hkj i ⟨l[k], List.getElem?_eq_getElem (by omega)⟩ h hkl
theorem step_inv
    (hdst : ∀ (i : Nat) (o : Oper) (j : Nat) (o' : Oper), l[i]? = some o → l[j]? = some o' → i ≠ j → o.dst ≠ none → o.dst ≠ o'.dst)
    (hin : ∀ (j : Nat) (o : Oper) (d : Nat), l[j]? = some o → o.dst = some d → d < a0.tmps.size)
    {listed : Array Bool} {a : Act} {w w' : World} {i : Nat} {o : Oper} {v : Value} (ho : l[i]? = some o)
    (hst : ∀ k, k ∉ dead i → k ≠ i → listed.getD k false = true → ∀ v, S i w w' → F k v w → F k v w')
    (hr : ∀ k ∈ direct o, listed.getD k false = true) (h : Inv l a0 C F dead listed a w) (hC : C w') (hS : w' = w ∨ S i w w') (hF : F i v w') (hv : o.dst = none → v = undef) :
    Inv l a0 C F dead (listed.setIfInBounds i true) (a.put o.dst v) w' := by
  have hi : i < listed.size := by rw [h.size]; exact (List.getElem?_eq_some_iff.1 ho).1
  have ps : (a.put o.dst v).tmps.size = a.tmps.size := by cases hd : o.dst <;> simp [Act.put]
  refine ⟨by simp [h.size], ?_, ?_, ps.trans h.tsize, ?_, hC, ?_⟩
  · intro j o' hj hl k hk
    rw [getD_set _ _ _ hi] at hl ⊢
    split
    · rfl
    · by_cases hij : i = j
      · subst hij; rw [ho] at hj; cases hj; exact hr k hk
      · rw [if_neg hij] at hl; exact h.closed j o' hj hl k hk
  · cases hd : o.dst <;> exact h.defers
  · intro t ht
    have hne : o.dst ≠ some t := fun e => by have := ht i o ho e; rw [getD_set _ _ _ hi] at this; simp at this
    have h0 : a.tmps[t]? = a0.tmps[t]? := h.frame t fun j o' hj hd => by
      have := ht j o' hj hd
      rw [getD_set _ _ _ hi] at this
      split at this
      · cases this
      · exact this
    rw [← h0]
    cases hd : o.dst with
    | none => rfl
    | some d => simp only [Act.put]; rw [Array.getElem?_setIfInBounds_ne]; intro e; exact hne (by rw [hd, e])
  · intro k o' hk hl hdd
    rw [getD_set _ _ _ hi] at hl
    by_cases hik : i = k
    · subst hik
      rw [ho] at hk; cases hk
      have : tmpVal (a.put o.dst v).eval o = v := by
        unfold tmpVal
        cases hd : o.dst with
        | none => exact (hv hd).symm
        | some d =>
          have := hin i o d ho hd
          simp [Act.put, Act.eval, h.tsize, this]
      rw [this]; exact hF
    · rw [if_neg hik] at hl
      have h0 := h.facts k o' hk hl fun j hj => hdd j (by rw [getD_set _ _ _ hi]; split; rfl; exact hj)
      have hval : tmpVal (a.put o.dst v).eval o' = tmpVal a.eval o' := by
        unfold tmpVal
        cases hd' : o'.dst with
        | none => rfl
        | some d =>
          simp only
          refine Act.eval_put fun d' hd e => ?_
          cases e
          exact hdst i o k o' ho hk hik (by rw [hd]; simp) (by rw [hd, hd'])
      rw [hval]
      rcases hS with rfl | hS
      · exact h0
      · exact hst k (hdd i (by rw [getD_set _ _ _ hi]; simp)) (fun e => hik e.symm) hl _ hS h0
theorem wpAny_forced {m : Nat} (hlow : ∀ (j : Nat) (o : Oper), l[j]? = some o → ∀ k ∈ direct o, k < j) (hch : ∀ (j : Nat) (o : Oper), l[j]? = some o → m < j → j - 1 ∈ direct o) :
    ∀ (r : List Oper) (i : Nat) (listed : Array Bool) (a : Act) (w : World), l.drop i = r → m ≤ i → listed.size = l.length → (∀ j, j < i → j < l.length → listed.getD j false = true) → (∀ j, i ≤ j → listed.getD j false = false) →
      wpList P l.toArray Q r a w → ∀ fuel, left listed = fuel → wpAny P .any l.toArray Q fuel listed a w
  | [], i, listed, a, w, hr, _, hs, h1, _, hw, fuel, hf => by
    have hnil : Region.ready .any l.toArray listed = [] := by
      rw [List.eq_nil_iff_forall_not_mem]
      intro j hj
      obtain ⟨hu, o, ho, _⟩ := mem_ready.1 hj
      have hlt : j < l.length := by simpa using (Array.getElem?_eq_some_iff.1 ho).1
      have hil : l.length ≤ i := by simpa using hr
      have := h1 j (by omega) hlt
      have hjs : j < listed.size := by rw [hs]; exact hlt
      simp [Array.getD_eq_getD_getElem?, hjs] at this hu
      rw [this] at hu
      cases hu
    cases fuel with
    | zero => exact ⟨hnil, hw⟩
    | succ fuel => exact ⟨fun _ => hw, fun j hj => by rw [hnil] at hj; cases hj⟩
  | o :: r, i, listed, a, w, hr, hm, hs, h1, h2, hw, fuel, hf => by
    have hil : i < l.length := by
      refine Classical.byContradiction fun hn => ?_
      rw [List.drop_eq_nil_of_le (by omega)] at hr
      cases hr
    have hio : l[i]? = some o := by
      have := congrArg (fun x => x[0]?) hr
      simpa using this
    have hr' : l.drop (i + 1) = r := by
      have := congrArg List.tail hr
      simpa using this
    have his : i < listed.size := by rw [hs]; exact hil
    have hun : listed.getD i true = false := by
      have := h2 i (Nat.le_refl _)
      simp [Array.getD_eq_getD_getElem?, his] at this ⊢
      exact this
    have hready : ∀ j, j ∈ Region.ready .any l.toArray listed → j = i := by
      intro j hj
      obtain ⟨hu, o', ho', hd⟩ := mem_ready.1 hj
      have hjl : j < l.length := by simpa using (Array.getElem?_eq_some_iff.1 ho').1
      refine Classical.byContradiction fun hne => ?_
      have hjs : j < listed.size := by rw [hs]; exact hjl
      by_cases hlt : j < i
      · have := h1 j hlt hjl
        simp [Array.getD_eq_getD_getElem?, hjs] at this hu
        rw [this] at hu
        cases hu
      · have hj1 := hch j o' (by simpa using ho') (by omega)
        obtain ⟨e, he, hb, hon⟩ := mem_direct.1 hj1
        have := hd e he hb
        rw [hon, h2 (j - 1) (by omega)] at this
        cases this
    have hin : i ∈ Region.ready .any l.toArray listed := by
      refine mem_ready.2 ⟨hun, o, by simpa using hio, fun e he hb => ?_⟩
      have := hlow i o hio e.on (mem_direct.2 ⟨e, he, hb, rfl⟩)
      exact h1 _ this (by omega)
    have hleft := left_set listed i his hun
    cases fuel with
    | zero => omega
    | succ fuel =>
      refine ⟨fun hn => (by rw [hn] at hin; cases hin), fun j hj => ?_⟩
      have := hready j hj
      subst this
      have go : ∀ a' w', wpList P l.toArray Q r a' w' → wpAny P .any l.toArray Q fuel (listed.setIfInBounds j true) a' w' := fun a' w' h => by
        refine wpAny_forced hlow hch r (j + 1) _ a' w' hr' (by omega) (by simp [hs]) (fun k hk hkl => ?_) (fun k hk => ?_) h fuel (by omega)
        · rw [getD_set _ _ _ his]
          split
          · rfl
          · exact h1 k (by omega) hkl
        · rw [getD_set _ _ _ his, if_neg (by omega)]
          exact h2 k (by omega)
      have ho' : l.toArray[j]? = some o := by simpa using hio
      unfold wpOp
      simp only [ho']
      unfold wpList at hw
      split
      · rename_i hwt
        rw [if_pos hwt] at hw
        exact hw.imp (Oper.wp_mono go) id
      · rename_i hwt
        rw [if_neg hwt] at hw
        exact go _ _ hw
theorem anc_listed' {A : List Nat} (hA : A = ancs l) {listed : Array Bool} (hcl : ∀ j o, l[j]? = some o → listed.getD j false = true → ∀ k ∈ direct o, listed.getD k false = true)
    (hlow : ∀ (j : Nat) (o : Oper), l[j]? = some o → ∀ k ∈ direct o, k < j) (j : Nat) (o : Oper) (hj : l[j]? = some o) (hr : ∀ k ∈ direct o, listed.getD k false = true) (i : Nat) (ha : isAnc A i j = true) : listed.getD i false = true := by
  have ha' := ha
  rw [hA] at ha'
  obtain ⟨k, hk, h⟩ := ancs_spec l j o hj i ha'
  have hkl := hr k hk
  rcases h with rfl | h
  · exact hkl
  · have hkj := hlow j o hj k hk
    have hlt : j < l.length := (List.getElem?_eq_some_iff.1 hj).1
    exact anc_listed hA hcl hlow k i ⟨l[k], List.getElem?_eq_getElem (by omega)⟩ (by rw [hA]; exact h) hkl
theorem wpAny_calm {m : Nat} {A : List Nat} (hchk : checks l m A dead a0.tmps.size = true)
    (hst : ∀ i k, i < m → k < m → k ∉ dead i → k ≠ i → isAnc A i k = false → ∀ w w' v, C w → S i w w' → F k v w → F k v w')
    (hop : OblsFrom P l A a0 C S F 0 (l.take m))
    (hfin : ∀ (vs : Nat → Value) (w : World), C w → (∀ (k : Nat) (o : Oper), k < m → l[k]? = some o → o.dst = none → vs k = undef) → (∀ k, k < m → (∀ i, i < m → k ∉ dead i) → F k (vs k) w) → wpList P l.toArray Q (l.drop m) (puts (l.take m) 0 vs a0) w) :
    ∀ (fuel : Nat) (listed : Array Bool) (a : Act) (w : World), left listed = fuel → (∀ j, m ≤ j → listed.getD j false = false) → Inv l a0 C F dead listed a w → wpAny P .any l.toArray Q fuel listed a w := by
  unfold checks at hchk
  simp only [Bool.and_eq_true, beq_iff_eq, List.all_eq_true, Bool.or_eq_true, bne_iff_ne, decide_eq_true_eq, Prod.forall, List.mem_zipIdx_iff_getElem?] at hchk
  obtain ⟨⟨⟨⟨⟨⟨hml, htail⟩, hA⟩, hlow⟩, hdst⟩, hin⟩, hdead⟩ := hchk
  have hlow' : ∀ (j : Nat) (o : Oper), l[j]? = some o → ∀ k ∈ direct o, k < j := fun j o hj k hk => hlow o j hj k hk
  have hdst' : ∀ (i : Nat) (o : Oper) (j : Nat) (o' : Oper), l[i]? = some o → l[j]? = some o' → i ≠ j → o.dst ≠ none → o.dst ≠ o'.dst := fun i o j o' hi hj hne hn => by
    rcases hdst o i hi o' j hj with (h | h) | h
    · exact absurd h hne
    · exact absurd h hn
    · exact h
  have hin' : ∀ (j : Nat) (o : Oper) (d : Nat), l[j]? = some o → o.dst = some d → d < a0.tmps.size := fun j o d hj hd => by
    have := hin o (List.mem_of_getElem? hj)
    rw [hd] at this; simpa using this
  have hch : ∀ (j : Nat) (o : Oper), l[j]? = some o → m < j → j - 1 ∈ direct o := fun j o hj hmj => by
    rcases htail o j hj with h | h
    · omega
    · rw [if_neg (by omega)] at h
      simpa using h
  have hfirst : ∀ (o : Oper), l[m]? = some o → ∀ k, k < m → isAnc A k m = true := fun o hj k hk => by
    rcases htail o m hj with h | h
    · omega
    · rw [if_pos rfl] at h
      simp only [List.all_eq_true, List.mem_range] at h
      exact h k hk
  -- the end
  have fin : ∀ (listed : Array Bool) (a : Act) (w : World), (∀ j, m ≤ j → listed.getD j false = false) → Inv l a0 C F dead listed a w → (∀ j, j < m → listed.getD j false = true) → wpList P l.toArray Q (l.drop m) a w := by
    intro listed a w hno h all
    have hvs : a = puts (l.take m) 0 (fun k => match l[k]? with | some o => tmpVal a.eval o | none => undef) a0 := by
      obtain ⟨h1, h2, h3, h4⟩ := puts_get (l.take m) 0 (fun k => match l[k]? with | some o => tmpVal a.eval o | none => undef) a0
      have ht : a.tmps = (puts (l.take m) 0 (fun k => match l[k]? with | some o => tmpVal a.eval o | none => undef) a0).tmps := by
        apply Array.ext_getElem?
        intro t
        by_cases hex : ∃ (j : Nat) (o : Oper), (l.take m)[j]? = some o ∧ o.dst = some t
        · obtain ⟨j, o, hj0, hd⟩ := hex
          have hjm : j < m := by
            have := (List.getElem?_eq_some_iff.1 hj0).1
            rw [List.length_take] at this
            omega
          have hj : l[j]? = some o := by rw [List.getElem?_take, if_pos hjm] at hj0; exact hj0
          have hlt := hin' j o t hj hd
          rw [h4 t j o hj0 hd (fun k' o' hk0 hd' => by
            have hk' : l[k']? = some o' := by
              rw [List.getElem?_take] at hk0
              split at hk0
              · exact hk0
              · cases hk0
            refine Classical.byContradiction fun hne => ?_
            exact hdst' k' o' j o hk' hj hne (by rw [hd']; simp) (by rw [hd, hd'])) hlt]
          simp only [Nat.zero_add, hj, tmpVal, hd, Act.eval]
          have hlt' : t < a.tmps.size := by rw [h.tsize]; exact hlt
          simp [hlt']
        · rw [h3 t fun k o hk hd => hex ⟨k, o, hk, hd⟩]
          refine h.frame t fun j o hj hd => ?_
          by_cases hjm : j < m
          · exact absurd ⟨j, o, by rw [List.getElem?_take, if_pos hjm]; exact hj, hd⟩ hex
          · exact hno j (by omega)
      cases a with
      | mk tm df =>
        generalize hp : puts (l.take m) 0 _ a0 = p at h1 ht
        cases p with
        | mk tm' df' => simp at ht h1; have := h.defers; simp at this; rw [ht, h1, this]
    rw [hvs]
    refine hfin _ w h.cls (fun k o _ hk hd => by simp only [hk]; unfold tmpVal; rw [hd]) fun k hk hd => ?_
    have hk' : l[k]? = some (l[k]'(by omega)) := List.getElem?_eq_getElem (by omega)
    simp only [hk']
    refine h.facts k (l[k]'(by omega)) hk' (all k hk) fun i hi => ?_
    by_cases hlt : i < m
    · exact hd i hlt
    · rw [hno i (by omega)] at hi
      cases hi
  have early : ∀ (listed : Array Bool) (a : Act) (w : World), (∀ j, m ≤ j → listed.getD j false = false) → Inv l a0 C F dead listed a w → (∀ j, j < m → listed.getD j false = true) → ∀ fuel, left listed = fuel → wpAny P .any l.toArray Q fuel listed a w := by
    intro listed a w hno h all fuel hf
    exact wpAny_forced hlow' hch (l.drop m) m listed a w rfl (Nat.le_refl _) h.size (fun j hj _ => all j hj) hno (fin listed a w hno h all) fuel hf
  have nonil : ∀ (listed : Array Bool) (a : Act) (w : World), Inv l a0 C F dead listed a w → Region.ready .any l.toArray listed = [] → ∀ j, j < l.length → listed.getD j false = true := by
    intro listed a w h hnil
    intro j
    induction j using Nat.strongRecOn with
    | _ j ih =>
      intro hj
      cases hb : listed.getD j false with
      | true => rfl
      | false =>
        exfalso
        have : j ∈ Region.ready .any l.toArray listed := by
          refine mem_ready.2 ⟨?_, l[j], by simp [hj], ?_⟩
          · have hjs : j < listed.size := by rw [h.size]; exact hj
            simpa [Array.getD_eq_getD_getElem?, hjs] using hb
          · intro e he hbnd
            have hk : e.on ∈ direct l[j] := mem_direct.2 ⟨e, he, hbnd, rfl⟩
            have := hlow' j l[j] (by simp [hj]) e.on hk
            exact ih e.on this (by omega)
        rw [hnil] at this; cases this
  intro fuel
  induction fuel with
  | zero =>
    intro listed a w hleft hno h
    have hnil : Region.ready .any l.toArray listed = [] := by
      rw [List.eq_nil_iff_forall_not_mem]
      intro j hj
      obtain ⟨hf, o, ho, _⟩ := mem_ready.1 hj
      have hlt : j < listed.size := by rw [h.size]; have := (Array.getElem?_eq_some_iff.1 ho).1; simpa using this
      have := left_set listed j hlt hf
      omega
    exact early listed a w hno h (fun j hj => nonil listed a w h hnil j (by omega)) 0 hleft
  | succ fuel ih =>
    intro listed a w hleft hno h
    by_cases hall : ∀ j, j < m → listed.getD j false = true
    · exact early listed a w hno h hall _ hleft
    have hnonil : Region.ready .any l.toArray listed = [] → Q .normal a w := fun hnil => (hall fun j hj => nonil listed a w h hnil j (by omega)).elim
    refine ⟨hnonil, fun i hi => ?_⟩
    obtain ⟨hun, o, ho, hr0⟩ := mem_ready.1 hi
    have ho' : l[i]? = some o := by simpa using ho
    have hr : ∀ k ∈ direct o, listed.getD k false = true := fun k hk => by
      obtain ⟨e, he, hb, rfl⟩ := mem_direct.1 hk
      exact hr0 e he hb
    have hlt : i < listed.size := by rw [h.size]; exact (List.getElem?_eq_some_iff.1 ho').1
    have hleft' : left (listed.setIfInBounds i true) = fuel := by have := left_set listed i hlt hun; omega
    have hun' : listed.getD i false = false := by simpa [Array.getD_eq_getD_getElem?, hlt] using hun
    have hnotanc : ∀ (j : Nat), listed.getD j false = true → (∃ o, l[j]? = some o) → isAnc A i j = true → False := fun j hj hex ha => by
      have := anc_listed hA h.closed hlow' j i hex ha hj
      rw [hun'] at this; cases this
    have him : i < m := by
      refine Classical.byContradiction fun hge => hall fun k hk => ?_
      by_cases hem : i = m
      · subst hem
        exact anc_listed' hA h.closed hlow' i o ho' hr k (hfirst o ho' k hk)
      · have h1 := hr _ (hch i o ho' (by omega))
        rw [hno (i - 1) (by omega)] at h1
        cases h1
    have hst' : ∀ w w', C w → ∀ k, k ∉ dead i → k ≠ i → listed.getD k false = true → ∀ v, S i w w' → F k v w → F k v w' := fun w w' hCw k hkd hki hkl v hS hF => by
      have hkm : k < m := by
        refine Classical.byContradiction fun hge => ?_
        rw [hno k (by omega)] at hkl
        cases hkl
      refine hst i k him hkm hkd hki ?_ w w' v hCw hS hF
      cases hb : isAnc A i k with
      | false => rfl
      | true =>
        have := anc_listed hA h.closed hlow' k i ⟨l[k]'(by omega), List.getElem?_eq_getElem (by omega)⟩ hb hkl
        rw [hun'] at this
        cases this
    have hno' : ∀ j, m ≤ j → (listed.setIfInBounds i true).getD j false = false := fun j hj => by
      rw [getD_set _ _ _ hlt, if_neg (by omega)]
      exact hno j hj
    have hO := hop.at (l.take m) 0 i o (by rw [List.getElem?_take, if_pos him]; exact ho')
    rw [Nat.zero_add] at hO
    have hO' := hO a.eval w (base_eval a) h.cls ?_ ?_
    · unfold wpOp
      simp only [ho]
      rw [wanted_eq]
      split
      · rename_i hw
        rw [if_pos hw] at hO'
        refine .inl ?_
        unfold Oper.wp
        generalize (execOp a.eval o).run P w = r at hO'
        have go : ∀ v w', (C w' ∧ S i w w' ∧ F i (keepV o v) w') → wpAny P .any l.toArray Q fuel (listed.setIfInBounds i true) (a.put o.dst v) w' := fun v w' ⟨h1, h2, h3⟩ => by
          have e : a.put o.dst v = a.put o.dst (keepV o v) := by unfold keepV; cases o.dst <;> rfl
          rw [e]
          exact ih _ _ _ hleft' hno' (step_inv hdst' hin' ho' (hst' w w' h.cls) hr h h1 (.inr h2) h3 (fun e => by unfold keepV; rw [e]))
        cases r with
        | ok n w' =>
          cases n <;> simp only [givesOf] at hO' <;> simp only [Oper.upon]
          case value v => exact go v w' hO'
          case skip => exact go _ w' hO'
          case enter f args => exact hO'.mono fun e w'' ⟨v, he, h3⟩ => by subst he; exact go v w'' h3
        | halt x w' => simp only [givesOf] at hO'
      · rename_i hw
        rw [if_neg hw] at hO'
        exact ih _ _ _ hleft' hno' (step_inv hdst' hin' ho' (hst' w w h.cls) hr h h.cls (.inl rfl) hO' (fun _ => rfl))
    · intro t ht
      unfold frees at ht
      rw [List.mem_filter] at ht
      have hall := ht.2
      simp only [List.all_eq_true, Prod.forall, List.mem_zipIdx_iff_getElem?, Bool.or_eq_true, bne_iff_ne, beq_iff_eq] at hall
      have := h.frame t fun j o' hj hd => by
        rcases hall o' j hj with (h1 | h1) | h1
        · exact absurd hd h1
        · subst h1; exact hun'
        · cases hb : listed.getD j false with
          | false => rfl
          | true => exact (hnotanc j hb ⟨o', hj⟩ h1).elim
      simp only [Act.eval, Array.getD_eq_getD_getElem?, this]
    · intro j hj
      have hjl := hr j hj
      have hji := hlow' i o ho' j hj
      have hilt : i < l.length := (List.getElem?_eq_some_iff.1 ho').1
      have hj' : l[j]? = some (l[j]'(by omega)) := List.getElem?_eq_getElem (by omega)
      have e : l.getD j o = l[j]'(by omega) := by rw [List.getD_eq_getElem?_getD, hj']; rfl
      rw [e]
      refine h.facts j _ hj' hjl fun q hm hd => ?_
      have hmlt : q < l.length := by
        refine Classical.byContradiction fun hge => ?_
        have : listed.size ≤ q := by rw [h.size]; omega
        simp [Array.getD_eq_getD_getElem?, Array.getElem?_eq_none this] at hm
      have hm' : l[q]? = some l[q] := by simp [hmlt]
      have := hdead l[q] q hm' j hd
      rcases this.2 o i ho' with ((h1 | h1) | h1) | h1
      · omega
      · simp at h1; exact h1 hj
      · subst h1; rw [hun'] at hm; cases hm
      · exact hnotanc q hm ⟨_, hm'⟩ h1
theorem wp_region_calm {id : Nat} {w : World} (hm : P.follows .mixedOrders = true) {m : Nat} {A : List Nat} (hchk : checks l m A dead a0.tmps.size = true)
    (hC : C { w with drawn := w.drawn + 1 })
    (hst : ∀ i k, i < m → k < m → k ∉ dead i → k ≠ i → isAnc A i k = false → ∀ w w' v, C w → S i w w' → F k v w → F k v w')
    (hop : OblsFrom P l A a0 C S F 0 (l.take m))
    (hfin : ∀ (vs : Nat → Value) (w : World), C w → (∀ (k : Nat) (o : Oper), k < m → l[k]? = some o → o.dst = none → vs k = undef) → (∀ k, k < m → (∀ i, i < m → k ∉ dead i) → F k (vs k) w) → wpList P l.toArray Q (l.drop m) (puts (l.take m) 0 vs a0) w) :
    (Code.region id l.toArray true).wp P Q a0 w := by
  have hnone : ∀ j, (Array.replicate l.length false).getD j false = false := fun j => by
    simp only [Array.getD_eq_getD_getElem?, Array.getElem?_replicate]
    split <;> rfl
  refine wp_region_any hm (wpAny_calm hchk hst hop hfin _ _ _ _ (by unfold left; rw [Array.toList_replicate, List.countP_replicate]; simp) (fun j _ => by simpa using hnone j) ⟨by simp, ?_, rfl, rfl, fun _ _ => rfl, hC, ?_⟩)
  · intro j o hj hl
    simp [Array.getD_eq_getD_getElem?, Array.getElem?_replicate] at hl
    split at hl <;> simp at hl
  · intro j o hj hl
    simp [Array.getD_eq_getD_getElem?, Array.getElem?_replicate] at hl
    split at hl <;> simp at hl
end
end Calm
end Go.Proofs.YtnmfiiejhoafnaaGreat
