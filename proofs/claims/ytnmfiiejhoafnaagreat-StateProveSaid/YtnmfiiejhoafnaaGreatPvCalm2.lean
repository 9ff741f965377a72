/- The rule for regions whose order is left open, widened: how the values stand to each other; one operation that may come up beside the first of the tail. -/
import Derived.Test.YtnmfiiejhoafnaaGreatPvCalm
set_option linter.unusedSimpArgs false
set_option linter.unusedVariables false
namespace Go.Proofs.YtnmfiiejhoafnaaGreat
namespace Calm
open Go
def Obl2 (P : Program) (l : List Oper) (A : List Nat) (a0 : Act) (C : World → Prop) (S : Nat → World → World → Prop) (F : Nat → Fct) (R : Nat → Nat → Value → Value → Prop) (i : Nat) (o : Oper) : Prop :=
  ∀ (ρ : Operand → Value) (w : World), Base ρ → C w → (∀ t ∈ frees l A i o, ρ (.tmp t) = a0.eval (.tmp t)) →
    (∀ j ∈ direct o, F j (tmpVal ρ (l.getD j o)) w) →
    if wantedBy l.toArray o ρ then givesOf P (fun v w' => C w' ∧ S i w w' ∧ F i (keepV o v) w' ∧ ∀ k vk, F k vk w → R i k (keepV o v) vk) ((execOp ρ o).run P w) else F i undef w ∧ ∀ k vk, F k vk w → R i k undef vk
def Obl2sFrom (P : Program) (l : List Oper) (A : List Nat) (a0 : Act) (C : World → Prop) (S : Nat → World → World → Prop) (F : Nat → Fct) (R : Nat → Nat → Value → Value → Prop) : Nat → List Oper → Prop
  | _, [] => True
  | i, o :: rest => Obl2 P l A a0 C S F R i o ∧ Obl2sFrom P l A a0 C S F R (i + 1) rest
theorem Obl2sFrom.at {P : Program} {l : List Oper} {A : List Nat} {a0 : Act} {C : World → Prop} {S : Nat → World → World → Prop} {F : Nat → Fct} {R : Nat → Nat → Value → Value → Prop} :
    ∀ (r : List Oper) (i : Nat), Obl2sFrom P l A a0 C S F R i r → ∀ k o, r[k]? = some o → Obl2 P l A a0 C S F R (i + k) o
  | [], _, _, k, o, h => by simp at h
  | o :: r, i, h, 0, o', hk => by simp at hk; subst hk; exact h.1
  | o :: r, i, h, k + 1, o', hk => by
    have := Obl2sFrom.at r (i + 1) h.2 k o' (by simpa using hk)
    rwa [Nat.add_assoc, Nat.add_comm 1 k] at this
def ordOK (l : List Oper) : List Nat → Bool
  | [] => true
  | i :: r => (direct (l.getD i default)).all (fun k => !(i :: r).contains k) && r.all (fun j => (direct (l.getD j default)).any fun k => (i :: r).contains k) && !r.contains i && ordOK l r
def checks2 (l : List Oper) (m : Nat) (st : Option Nat) (A : List Nat) (dead : Nat → List Nat) (size : Nat) : Bool :=
  decide (m ≤ l.length) && l.zipIdx.all (fun (o, j) => decide (j < m) || (if j == m then (List.range m).all (fun k => isAnc A k j || st == some k) else (direct o).contains (j - 1))) &&
  A == ancs l &&
  l.zipIdx.all (fun (o, i) => (direct o).all (· < i)) &&
  l.zipIdx.all (fun (o, i) => l.zipIdx.all fun (o', j) => i == j || o.dst == none || o.dst != o'.dst) &&
  l.all (fun o => match o.dst with | some d => d < size | none => true) &&
  l.zipIdx.all (fun (_, i) => (dead i).all fun k => isAnc A k i && l.zipIdx.all fun (o, j) => decide (m ≤ j) || !(direct o).contains k || j == i || isAnc A j i) &&
  (match st with | some d => decide (d < m) && decide (m < l.length) && ordOK l (d :: List.range' (m + 1) (l.length - (m + 1))) | none => true)
section
variable {P : Program} {l : List Oper} {Q : Exit → Act → World → Prop} {a0 : Act} {C : World → Prop} {S : Nat → World → World → Prop} {F : Nat → Fct} {R : Nat → Nat → Value → Value → Prop} {dead : Nat → List Nat}
structure Inv2 (l : List Oper) (a0 : Act) (C : World → Prop) (F : Nat → Fct) (R : Nat → Nat → Value → Value → Prop) (dead : Nat → List Nat) (listed : Array Bool) (a : Act) (w : World) : Prop where
  size : listed.size = l.length
  closed : ∀ j o, l[j]? = some o → listed.getD j false = true → ∀ k ∈ direct o, listed.getD k false = true
  defers : a.defers = a0.defers
  tsize : a.tmps.size = a0.tmps.size
  frame : ∀ t, (∀ j o, l[j]? = some o → o.dst = some t → listed.getD j false = false) → a.tmps[t]? = a0.tmps[t]?
  cls : C w
  facts : ∀ k o, l[k]? = some o → listed.getD k false = true → (∀ i, listed.getD i false = true → k ∉ dead i) → F k (tmpVal a.eval o) w
  rels : ∀ i k oi ok, i ≠ k → l[i]? = some oi → l[k]? = some ok → listed.getD i false = true → listed.getD k false = true → (∀ j, listed.getD j false = true → i ∉ dead j) → (∀ j, listed.getD j false = true → k ∉ dead j) → R i k (tmpVal a.eval oi) (tmpVal a.eval ok) ∨ R k i (tmpVal a.eval ok) (tmpVal a.eval oi)
theorem step_inv2
    (hdst : ∀ (i : Nat) (o : Oper) (j : Nat) (o' : Oper), l[i]? = some o → l[j]? = some o' → i ≠ j → o.dst ≠ none → o.dst ≠ o'.dst)
    (hin : ∀ (j : Nat) (o : Oper) (d : Nat), l[j]? = some o → o.dst = some d → d < a0.tmps.size)
    {listed : Array Bool} {a : Act} {w w' : World} {i : Nat} {o : Oper} {v : Value} (ho : l[i]? = some o)
    (hst : ∀ k, k ∉ dead i → k ≠ i → listed.getD k false = true → ∀ v, S i w w' → F k v w → F k v w')
    (hr : ∀ k ∈ direct o, listed.getD k false = true) (h : Inv2 l a0 C F R dead listed a w) (hC : C w') (hS : w' = w ∨ S i w w') (hF : F i v w') (hv : o.dst = none → v = undef) (hR : ∀ k vk, F k vk w → R i k v vk) :
    Inv2 l a0 C F R dead (listed.setIfInBounds i true) (a.put o.dst v) w' := by
  have hi : i < listed.size := by rw [h.size]; exact (List.getElem?_eq_some_iff.1 ho).1
  have ps : (a.put o.dst v).tmps.size = a.tmps.size := by cases hd : o.dst <;> simp [Act.put]
  have hval : ∀ (k : Nat) (o' : Oper), l[k]? = some o' → i ≠ k → tmpVal (a.put o.dst v).eval o' = tmpVal a.eval o' := fun k o' hk hik => by
    unfold tmpVal
    cases hd' : o'.dst with
    | none => rfl
    | some d =>
      simp only
      refine Act.eval_put fun d' hd e => ?_
      cases e
      exact hdst i o k o' ho hk hik (by rw [hd]; simp) (by rw [hd, hd'])
  have hnew : tmpVal (a.put o.dst v).eval o = v := by
    unfold tmpVal
    cases hd : o.dst with
    | none => exact (hv hd).symm
    | some d =>
      have := hin i o d ho hd
      simp [Act.put, Act.eval, h.tsize, this]
  refine ⟨by simp [h.size], ?_, ?_, ps.trans h.tsize, ?_, hC, ?_, ?_⟩
  · intro j o' hj hl k hk
    rw [getD_set _ _ _ hi] at hl ⊢
    split
    · rfl
    · by_cases hij : i = j
      · subst hij; rw [ho] at hj; cases hj; exact hr k hk
      · rw [if_neg hij] at hl; exact h.closed j o' hj hl k hk
  · cases hd : o.dst <;> exact h.defers
  · intro t ht
    have hne : o.dst ≠ some t := fun e => by have := ht i o ho e; rw [getD_set _ _ _ hi] at this; simp at this
    have h0 : a.tmps[t]? = a0.tmps[t]? := h.frame t fun j o' hj hd => by
      have := ht j o' hj hd
      rw [getD_set _ _ _ hi] at this
      split at this
      · cases this
      · exact this
    rw [← h0]
    cases hd : o.dst with
    | none => rfl
    | some d => simp only [Act.put]; rw [Array.getElem?_setIfInBounds_ne]; intro e; exact hne (by rw [hd, e])
  · intro k o' hk hl hdd
    rw [getD_set _ _ _ hi] at hl
    by_cases hik : i = k
    · subst hik
      rw [ho] at hk; cases hk
      have : tmpVal (a.put o.dst v).eval o = v := by
        unfold tmpVal
        cases hd : o.dst with
        | none => exact (hv hd).symm
        | some d =>
          have := hin i o d ho hd
          simp [Act.put, Act.eval, h.tsize, this]
      rw [this]; exact hF
    · rw [if_neg hik] at hl
      have h0 := h.facts k o' hk hl fun j hj => hdd j (by rw [getD_set _ _ _ hi]; split; rfl; exact hj)
      have hval : tmpVal (a.put o.dst v).eval o' = tmpVal a.eval o' := by
        unfold tmpVal
        cases hd' : o'.dst with
        | none => rfl
        | some d =>
          simp only
          refine Act.eval_put fun d' hd e => ?_
          cases e
          exact hdst i o k o' ho hk hik (by rw [hd]; simp) (by rw [hd, hd'])
      rw [hval]
      rcases hS with rfl | hS
      · exact h0
      · exact hst k (hdd i (by rw [getD_set _ _ _ hi]; simp)) (fun e => hik e.symm) hl _ hS h0
  · intro p q op oq hpq hp hq hlp hlq hdp hdq
    have old : ∀ k, k ≠ i → (listed.setIfInBounds i true).getD k false = true → listed.getD k false = true := fun k hne hl => by
      rw [getD_set _ _ _ hi, if_neg (fun e => hne e.symm)] at hl
      exact hl
    have dd : ∀ k, (∀ j, (listed.setIfInBounds i true).getD j false = true → k ∉ dead j) → ∀ j, listed.getD j false = true → k ∉ dead j := fun k hk j hj => hk j (by rw [getD_set _ _ _ hi]; split; rfl; exact hj)
    by_cases hip : i = p
    · subst hip
      rw [ho] at hp; cases hp
      have hlq' := old q (fun e => hpq e.symm) hlq
      rw [hnew, hval q oq hq hpq]
      exact .inl (hR q _ (h.facts q oq hq hlq' (dd q hdq)))
    · have hlp' := old p (fun e => hip e.symm) hlp
      by_cases hiq : i = q
      · subst hiq
        rw [ho] at hq; cases hq
        rw [hnew, hval p op hp hip]
        exact .inr (hR p _ (h.facts p op hp hlp' (dd p hdp)))
      · have hlq' := old q (fun e => hiq e.symm) hlq
        rw [hval p op hp hip, hval q oq hq hiq]
        exact h.rels p q op oq hpq hp hq hlp' hlq' (dd p hdp) (dd q hdq)
theorem wpAny_ord : ∀ (_ : ∀ (j : Nat) (o : Oper), l[j]? = some o → ∀ k ∈ direct o, k < j) (ord : List Nat) (listed : Array Bool) (a : Act) (w : World), listed.size = l.length → (∀ j, j < l.length → (listed.getD j false = false ↔ j ∈ ord)) → (∀ j ∈ ord, j < l.length) → ordOK l ord = true →
      wpList P l.toArray Q (ord.map fun j => l.getD j default) a w → ∀ fuel, left listed = fuel → wpAny P .any l.toArray Q fuel listed a w
  | hlow, [], listed, a, w, hs, hl, _, _, hw, fuel, hf => by
    have hnil : Region.ready .any l.toArray listed = [] := by
      rw [List.eq_nil_iff_forall_not_mem]
      intro j hj
      obtain ⟨hu, o, ho, _⟩ := mem_ready.1 hj
      have hlt : j < l.length := by simpa using (Array.getElem?_eq_some_iff.1 ho).1
      have hjs : j < listed.size := by rw [hs]; exact hlt
      have : listed.getD j false = false := by simpa [Array.getD_eq_getD_getElem?, hjs] using hu
      have := (hl j hlt).1 this
      cases this
    cases fuel with
    | zero => exact ⟨hnil, hw⟩
    | succ fuel => exact ⟨fun _ => hw, fun j hj => by rw [hnil] at hj; cases hj⟩
  | hlow, i :: r, listed, a, w, hs, hl, hb, hok, hw, fuel, hf => by
    have hil : i < l.length := hb i (by simp)
    have hio : l[i]? = some l[i] := by simp [hil]
    have hgi : l.getD i default = l[i] := by simp [hil]
    have his : i < listed.size := by rw [hs]; exact hil
    unfold ordOK at hok
    simp only [Bool.and_eq_true, List.all_eq_true, List.any_eq_true, Bool.not_eq_true'] at hok
    obtain ⟨⟨⟨h1, h2⟩, h3⟩, h4⟩ := hok
    have hun : listed.getD i true = false := by
      have := (hl i hil).2 (by simp)
      simpa [Array.getD_eq_getD_getElem?, his] using this
    have hready : ∀ j, j ∈ Region.ready .any l.toArray listed → j = i := by
      intro j hj
      obtain ⟨hu, o', ho', hd⟩ := mem_ready.1 hj
      have hjl : j < l.length := by simpa using (Array.getElem?_eq_some_iff.1 ho').1
      have hjs : j < listed.size := by rw [hs]; exact hjl
      have hjf : listed.getD j false = false := by simpa [Array.getD_eq_getD_getElem?, hjs] using hu
      have hmem := (hl j hjl).1 hjf
      rcases List.mem_cons.1 hmem with rfl | hr
      · rfl
      · obtain ⟨k, hk, hkc⟩ := h2 j hr
        have hoj : l.getD j default = o' := by
          have e : l[j]? = some o' := by simpa using ho'
          rw [List.getD_eq_getElem?_getD, e]; rfl
        rw [hoj] at hk
        obtain ⟨e, he, hbn, hon⟩ := mem_direct.1 hk
        have h5 := hd e he hbn
        rw [hon] at h5
        have hkl : k < l.length := by
          refine hb k ?_
          simpa using hkc
        have h6 := (hl k hkl).2 (by simpa using hkc)
        rw [h6] at h5
        cases h5
    have hin : i ∈ Region.ready .any l.toArray listed := by
      refine mem_ready.2 ⟨hun, l[i], by simp [hil], fun e he hbn => ?_⟩
      have hk : e.on ∈ direct l[i] := mem_direct.2 ⟨e, he, hbn, rfl⟩
      rw [← hgi] at hk
      have h5 := h1 e.on hk
      cases hb2 : listed.getD e.on false with
      | true => rfl
      | false =>
        by_cases hlt : e.on < l.length
        · have h6 := (hl e.on hlt).1 hb2
          have h7 : (i :: r).contains e.on = true := by simpa using h6
          rw [h7] at h5
          cases h5
        · exact absurd (Nat.lt_trans (hlow i l[i] hio e.on (mem_direct.2 ⟨e, he, hbn, rfl⟩)) hil) hlt
    have hleft := left_set listed i his hun
    cases fuel with
    | zero => omega
    | succ fuel =>
      refine ⟨fun hn => (by rw [hn] at hin; cases hin), fun j hj => ?_⟩
      have := hready j hj
      subst this
      have go : ∀ a' w', wpList P l.toArray Q (r.map fun j => l.getD j default) a' w' → wpAny P .any l.toArray Q fuel (listed.setIfInBounds j true) a' w' := fun a' w' h => by
        refine wpAny_ord hlow r _ a' w' (by simp [hs]) (fun k hk => ?_) (fun k hk => hb k (by simp [hk])) h4 h fuel (by omega)
        rw [getD_set _ _ _ his]
        by_cases hjk : j = k
        · subst hjk
          simp
          simpa using h3
        · rw [if_neg hjk, hl k hk]
          simp [Ne.symm hjk]
      have ho' : l.toArray[j]? = some l[j] := by simp [hil]
      unfold wpOp
      simp only [ho']
      simp only [List.map_cons, hgi] at hw
      unfold wpList at hw
      split
      · rename_i hwt
        rw [if_pos hwt] at hw
        exact hw.imp (Oper.wp_mono go) id
      · rename_i hwt
        rw [if_neg hwt] at hw
        exact go _ _ hw
theorem wpAny_calm2 {m : Nat} {st : Option Nat} {A : List Nat} (hchk : checks2 l m st A dead a0.tmps.size = true)
    (hst : ∀ i k, i < m → k < m → k ∉ dead i → k ≠ i → isAnc A i k = false → ∀ w w' v, C w → S i w w' → F k v w → F k v w')
    (hop : Obl2sFrom P l A a0 C S F R 0 (l.take m))
    (hfin : ∀ (vs : Nat → Value) (w : World), C w → (∀ (k : Nat) (o : Oper), k < m → l[k]? = some o → o.dst = none → vs k = undef) → (∀ k, k < m → (∀ i, i < m → k ∉ dead i) → F k (vs k) w) → (∀ i k, i < m → k < m → i ≠ k → (∀ j, j < m → i ∉ dead j) → (∀ j, j < m → k ∉ dead j) → R i k (vs i) (vs k) ∨ R k i (vs k) (vs i)) → wpList P l.toArray Q (l.drop m) (puts (l.take m) 0 vs a0) w)
    (hfin2 : ∀ d, st = some d → ∀ (listed : Array Bool) (a : Act) (w : World), Inv2 l a0 C F R dead listed a w → (∀ j, j < m → j ≠ d → listed.getD j false = true) → listed.getD d false = false → (∀ j, m ≤ j → listed.getD j false = false) → wpList P l.toArray Q ((m :: d :: List.range' (m + 1) (l.length - (m + 1))).map fun j => l.getD j default) a w) :
    ∀ (fuel : Nat) (listed : Array Bool) (a : Act) (w : World), left listed = fuel → (∀ j, m ≤ j → listed.getD j false = false) → Inv2 l a0 C F R dead listed a w → wpAny P .any l.toArray Q fuel listed a w := by
  unfold checks2 at hchk
  simp only [Bool.and_eq_true, beq_iff_eq, List.all_eq_true, Bool.or_eq_true, bne_iff_ne, decide_eq_true_eq, Prod.forall, List.mem_zipIdx_iff_getElem?] at hchk
  obtain ⟨⟨⟨⟨⟨⟨⟨hml, htail⟩, hA⟩, hlow⟩, hdst⟩, hin⟩, hdead⟩, hstr⟩ := hchk
  have hlow' : ∀ (j : Nat) (o : Oper), l[j]? = some o → ∀ k ∈ direct o, k < j := fun j o hj k hk => hlow o j hj k hk
  have hdst' : ∀ (i : Nat) (o : Oper) (j : Nat) (o' : Oper), l[i]? = some o → l[j]? = some o' → i ≠ j → o.dst ≠ none → o.dst ≠ o'.dst := fun i o j o' hi hj hne hn => by
    rcases hdst o i hi o' j hj with (h | h) | h
    · exact absurd h hne
    · exact absurd h hn
    · exact h
  have hin' : ∀ (j : Nat) (o : Oper) (d : Nat), l[j]? = some o → o.dst = some d → d < a0.tmps.size := fun j o d hj hd => by
    have := hin o (List.mem_of_getElem? hj)
    rw [hd] at this; simpa using this
  have hch : ∀ (j : Nat) (o : Oper), l[j]? = some o → m < j → j - 1 ∈ direct o := fun j o hj hmj => by
    rcases htail o j hj with h | h
    · omega
    · rw [if_neg (by omega)] at h
      simpa using h
  have hfirst : ∀ (o : Oper), l[m]? = some o → ∀ k, k < m → isAnc A k m = true ∨ st = some k := fun o hj k hk => by
    rcases htail o m hj with h | h
    · omega
    · rw [if_pos rfl] at h
      simp only [List.all_eq_true, List.mem_range, Bool.or_eq_true, beq_iff_eq] at h
      exact h k hk
  -- the end
  have fin : ∀ (listed : Array Bool) (a : Act) (w : World), (∀ j, m ≤ j → listed.getD j false = false) → Inv2 l a0 C F R dead listed a w → (∀ j, j < m → listed.getD j false = true) → wpList P l.toArray Q (l.drop m) a w := by
    intro listed a w hno h all
    have hvs : a = puts (l.take m) 0 (fun k => match l[k]? with | some o => tmpVal a.eval o | none => undef) a0 := by
      obtain ⟨h1, h2, h3, h4⟩ := puts_get (l.take m) 0 (fun k => match l[k]? with | some o => tmpVal a.eval o | none => undef) a0
      have ht : a.tmps = (puts (l.take m) 0 (fun k => match l[k]? with | some o => tmpVal a.eval o | none => undef) a0).tmps := by
        apply Array.ext_getElem?
        intro t
        by_cases hex : ∃ (j : Nat) (o : Oper), (l.take m)[j]? = some o ∧ o.dst = some t
        · obtain ⟨j, o, hj0, hd⟩ := hex
          have hjm : j < m := by
            have := (List.getElem?_eq_some_iff.1 hj0).1
            rw [List.length_take] at this
            omega
          have hj : l[j]? = some o := by rw [List.getElem?_take, if_pos hjm] at hj0; exact hj0
          have hlt := hin' j o t hj hd
          rw [h4 t j o hj0 hd (fun k' o' hk0 hd' => by
            have hk' : l[k']? = some o' := by
              rw [List.getElem?_take] at hk0
              split at hk0
              · exact hk0
              · cases hk0
            refine Classical.byContradiction fun hne => ?_
            exact hdst' k' o' j o hk' hj hne (by rw [hd']; simp) (by rw [hd, hd'])) hlt]
          simp only [Nat.zero_add, hj, tmpVal, hd, Act.eval]
          have hlt' : t < a.tmps.size := by rw [h.tsize]; exact hlt
          simp [hlt']
        · rw [h3 t fun k o hk hd => hex ⟨k, o, hk, hd⟩]
          refine h.frame t fun j o hj hd => ?_
          by_cases hjm : j < m
          · exact absurd ⟨j, o, by rw [List.getElem?_take, if_pos hjm]; exact hj, hd⟩ hex
          · exact hno j (by omega)
      cases a with
      | mk tm df =>
        generalize hp : puts (l.take m) 0 _ a0 = p at h1 ht
        cases p with
        | mk tm' df' => simp at ht h1; have := h.defers; simp at this; rw [ht, h1, this]
    rw [hvs]
    have dd : ∀ k, (∀ i, i < m → k ∉ dead i) → ∀ i, listed.getD i false = true → k ∉ dead i := fun k hd i hi => by
      by_cases hlt : i < m
      · exact hd i hlt
      · rw [hno i (by omega)] at hi
        cases hi
    refine hfin _ w h.cls (fun k o _ hk hd => by simp only [hk]; unfold tmpVal; rw [hd]) (fun k hk hd => ?_) fun i k hi hk hik hdi hdk => ?_
    · have hk' : l[k]? = some (l[k]'(by omega)) := List.getElem?_eq_getElem (by omega)
      simp only [hk']
      exact h.facts k (l[k]'(by omega)) hk' (all k hk) (dd k hd)
    · have hk' : l[k]? = some (l[k]'(by omega)) := List.getElem?_eq_getElem (by omega)
      have hi' : l[i]? = some (l[i]'(by omega)) := List.getElem?_eq_getElem (by omega)
      simp only [hk', hi']
      exact h.rels i k _ _ hik hi' hk' (all i hi) (all k hk) (dd i hdi) (dd k hdk)
  have early : ∀ (listed : Array Bool) (a : Act) (w : World), (∀ j, m ≤ j → listed.getD j false = false) → Inv2 l a0 C F R dead listed a w → (∀ j, j < m → listed.getD j false = true) → ∀ fuel, left listed = fuel → wpAny P .any l.toArray Q fuel listed a w := by
    intro listed a w hno h all fuel hf
    exact wpAny_forced hlow' hch (l.drop m) m listed a w rfl (Nat.le_refl _) h.size (fun j hj _ => all j hj) hno (fin listed a w hno h all) fuel hf
  have nonil : ∀ (listed : Array Bool) (a : Act) (w : World), Inv2 l a0 C F R dead listed a w → Region.ready .any l.toArray listed = [] → ∀ j, j < l.length → listed.getD j false = true := by
    intro listed a w h hnil
    intro j
    induction j using Nat.strongRecOn with
    | _ j ih =>
      intro hj
      cases hb : listed.getD j false with
      | true => rfl
      | false =>
        exfalso
        have : j ∈ Region.ready .any l.toArray listed := by
          refine mem_ready.2 ⟨?_, l[j], by simp [hj], ?_⟩
          · have hjs : j < listed.size := by rw [h.size]; exact hj
            simpa [Array.getD_eq_getD_getElem?, hjs] using hb
          · intro e he hbnd
            have hk : e.on ∈ direct l[j] := mem_direct.2 ⟨e, he, hbnd, rfl⟩
            have := hlow' j l[j] (by simp [hj]) e.on hk
            exact ih e.on this (by omega)
        rw [hnil] at this; cases this
  intro fuel
  induction fuel with
  | zero =>
    intro listed a w hleft hno h
    have hnil : Region.ready .any l.toArray listed = [] := by
      rw [List.eq_nil_iff_forall_not_mem]
      intro j hj
      obtain ⟨hf, o, ho, _⟩ := mem_ready.1 hj
      have hlt : j < listed.size := by rw [h.size]; have := (Array.getElem?_eq_some_iff.1 ho).1; simpa using this
      have := left_set listed j hlt hf
      omega
    exact early listed a w hno h (fun j hj => nonil listed a w h hnil j (by omega)) 0 hleft
  | succ fuel ih =>
    intro listed a w hleft hno h
    by_cases hall : ∀ j, j < m → listed.getD j false = true
    · exact early listed a w hno h hall _ hleft
    have hnonil : Region.ready .any l.toArray listed = [] → Q .normal a w := fun hnil => (hall fun j hj => nonil listed a w h hnil j (by omega)).elim
    refine ⟨hnonil, fun i hi => ?_⟩
    obtain ⟨hun, o, ho, hr0⟩ := mem_ready.1 hi
    have ho' : l[i]? = some o := by simpa using ho
    have hr : ∀ k ∈ direct o, listed.getD k false = true := fun k hk => by
      obtain ⟨e, he, hb, rfl⟩ := mem_direct.1 hk
      exact hr0 e he hb
    have hlt : i < listed.size := by rw [h.size]; exact (List.getElem?_eq_some_iff.1 ho').1
    have hleft' : left (listed.setIfInBounds i true) = fuel := by have := left_set listed i hlt hun; omega
    have hun' : listed.getD i false = false := by simpa [Array.getD_eq_getD_getElem?, hlt] using hun
    have hnotanc : ∀ (j : Nat), listed.getD j false = true → (∃ o, l[j]? = some o) → isAnc A i j = true → False := fun j hj hex ha => by
      have := anc_listed hA h.closed hlow' j i hex ha hj
      rw [hun'] at this; cases this
    by_cases him : ¬ i < m
    · have hem : i = m := by
        refine Classical.byContradiction fun hne => ?_
        have h1 := hr _ (hch i o ho' (by omega))
        rw [hno (i - 1) (by omega)] at h1
        cases h1
      subst hem
      have hoth : ∀ k, k < i → isAnc A k i = true → listed.getD k false = true := fun k _ ha => anc_listed' hA h.closed hlow' i o ho' hr k ha
      obtain ⟨d, hd, hdm, hdu⟩ : ∃ d, st = some d ∧ d < i ∧ listed.getD d false = false := by
        refine Classical.byContradiction fun hn => hall fun k hk => ?_
        rcases hfirst o ho' k hk with h1 | h1
        · exact hoth k hk h1
        · cases hb : listed.getD k false with
          | true => rfl
          | false => exact absurd ⟨k, h1, hk, hb⟩ hn
      have hothers : ∀ j, j < i → j ≠ d → listed.getD j false = true := fun j hj hne => by
        rcases hfirst o ho' j hj with h1 | h1
        · exact hoth j hj h1
        · rw [hd] at h1
          exact absurd (Option.some.inj h1).symm hne
      have hw := hfin2 d hd listed a w h hothers hdu hno
      rw [hd] at hstr
      simp only [Bool.and_eq_true, decide_eq_true_eq] at hstr
      have hil : i < l.length := (List.getElem?_eq_some_iff.1 ho').1
      have hgi : l.getD i default = o := by rw [List.getD_eq_getElem?_getD, ho']; rfl
      have go : ∀ a' w', wpList P l.toArray Q ((d :: List.range' (i + 1) (l.length - (i + 1))).map fun j => l.getD j default) a' w' → wpAny P .any l.toArray Q fuel (listed.setIfInBounds i true) a' w' := fun a' w' hw' => by
        refine wpAny_ord hlow' _ _ a' w' (by simp [h.size]) (fun k hk => ?_) (fun k hk => ?_) hstr.2 hw' fuel hleft'
        · rw [getD_set _ _ _ hlt]
          simp only [List.mem_cons, List.mem_range'_1]
          by_cases hik : i = k
          · subst hik
            simp
            omega
          · rw [if_neg hik]
            constructor
            · intro hf
              by_cases hki : k < i
              · refine .inl (Classical.byContradiction fun hne => ?_)
                rw [hothers k hki hne] at hf
                cases hf
              · exact .inr (by omega)
            · rintro (rfl | h1)
              · exact hdu
              · exact hno k (by omega)
        · simp only [List.mem_cons, List.mem_range'_1] at hk
          rcases hk with rfl | h1
          · omega
          · omega
      simp only [List.map_cons, hgi] at hw
      unfold wpOp
      simp only [ho]
      unfold wpList at hw
      split
      · rename_i hwt
        rw [if_pos hwt] at hw
        exact hw.imp (Oper.wp_mono (by simpa only [List.map_cons] using go)) id
      · rename_i hwt
        rw [if_neg hwt] at hw
        exact go _ _ (by simpa only [List.map_cons] using hw)
    have him : i < m := Classical.not_not.1 him
    have hst' : ∀ w w', C w → ∀ k, k ∉ dead i → k ≠ i → listed.getD k false = true → ∀ v, S i w w' → F k v w → F k v w' := fun w w' hCw k hkd hki hkl v hS hF => by
      have hkm : k < m := by
        refine Classical.byContradiction fun hge => ?_
        rw [hno k (by omega)] at hkl
        cases hkl
      refine hst i k him hkm hkd hki ?_ w w' v hCw hS hF
      cases hb : isAnc A i k with
      | false => rfl
      | true =>
        have := anc_listed hA h.closed hlow' k i ⟨l[k]'(by omega), List.getElem?_eq_getElem (by omega)⟩ hb hkl
        rw [hun'] at this
        cases this
    have hno' : ∀ j, m ≤ j → (listed.setIfInBounds i true).getD j false = false := fun j hj => by
      rw [getD_set _ _ _ hlt, if_neg (by omega)]
      exact hno j hj
    have hO := hop.at (l.take m) 0 i o (by rw [List.getElem?_take, if_pos him]; exact ho')
    rw [Nat.zero_add] at hO
    have hO' := hO a.eval w (base_eval a) h.cls ?_ ?_
    · unfold wpOp
      simp only [ho]
      rw [wanted_eq]
      split
      · rename_i hw
        rw [if_pos hw] at hO'
        refine .inl ?_
        unfold Oper.wp
        generalize (execOp a.eval o).run P w = r at hO'
        have go : ∀ v w', (C w' ∧ S i w w' ∧ F i (keepV o v) w' ∧ ∀ k vk, F k vk w → R i k (keepV o v) vk) → wpAny P .any l.toArray Q fuel (listed.setIfInBounds i true) (a.put o.dst v) w' := fun v w' ⟨h1, h2, h3, h4⟩ => by
          have e : a.put o.dst v = a.put o.dst (keepV o v) := by unfold keepV; cases o.dst <;> rfl
          rw [e]
          exact ih _ _ _ hleft' hno' (step_inv2 hdst' hin' ho' (hst' w w' h.cls) hr h h1 (.inr h2) h3 (fun e => by unfold keepV; rw [e]) h4)
        cases r with
        | ok n w' =>
          cases n <;> simp only [givesOf] at hO' <;> simp only [Oper.upon]
          case value v => exact go v w' hO'
          case skip => exact go _ w' hO'
          case enter f args => exact hO'.mono fun e w'' ⟨v, he, h3⟩ => by subst he; exact go v w'' h3
        | halt x w' => simp only [givesOf] at hO'
      · rename_i hw
        rw [if_neg hw] at hO'
        exact ih _ _ _ hleft' hno' (step_inv2 hdst' hin' ho' (hst' w w h.cls) hr h h.cls (.inl rfl) hO'.1 (fun _ => rfl) hO'.2)
    · intro t ht
      unfold frees at ht
      rw [List.mem_filter] at ht
      have hall := ht.2
      simp only [List.all_eq_true, Prod.forall, List.mem_zipIdx_iff_getElem?, Bool.or_eq_true, bne_iff_ne, beq_iff_eq] at hall
      have := h.frame t fun j o' hj hd => by
        rcases hall o' j hj with (h1 | h1) | h1
        · exact absurd hd h1
        · subst h1; exact hun'
        · cases hb : listed.getD j false with
          | false => rfl
          | true => exact (hnotanc j hb ⟨o', hj⟩ h1).elim
      simp only [Act.eval, Array.getD_eq_getD_getElem?, this]
    · intro j hj
      have hjl := hr j hj
      have hji := hlow' i o ho' j hj
      have hilt : i < l.length := (List.getElem?_eq_some_iff.1 ho').1
      have hj' : l[j]? = some (l[j]'(by omega)) := List.getElem?_eq_getElem (by omega)
      have e : l.getD j o = l[j]'(by omega) := by rw [List.getD_eq_getElem?_getD, hj']; rfl
      rw [e]
      refine h.facts j _ hj' hjl fun q hm hd => ?_
      have hmlt : q < l.length := by
        refine Classical.byContradiction fun hge => ?_
        have : listed.size ≤ q := by rw [h.size]; omega
        simp [Array.getD_eq_getD_getElem?, Array.getElem?_eq_none this] at hm
      have hm' : l[q]? = some l[q] := by simp [hmlt]
      have := hdead l[q] q hm' j hd
      rcases this.2 o i ho' with ((h1 | h1) | h1) | h1
      · omega
      · simp at h1; exact h1 hj
      · subst h1; rw [hun'] at hm; cases hm
      · exact hnotanc q hm ⟨_, hm'⟩ h1
theorem wp_region_calm2 {id : Nat} {w : World} (hm : P.follows .mixedOrders = true) {m : Nat} {st : Option Nat} {A : List Nat} (hchk : checks2 l m st A dead a0.tmps.size = true)
    (hC : C { w with drawn := w.drawn + 1 })
    (hst : ∀ i k, i < m → k < m → k ∉ dead i → k ≠ i → isAnc A i k = false → ∀ w w' v, C w → S i w w' → F k v w → F k v w')
    (hop : Obl2sFrom P l A a0 C S F R 0 (l.take m))
    (hfin : ∀ (vs : Nat → Value) (w : World), C w → (∀ (k : Nat) (o : Oper), k < m → l[k]? = some o → o.dst = none → vs k = undef) → (∀ k, k < m → (∀ i, i < m → k ∉ dead i) → F k (vs k) w) → (∀ i k, i < m → k < m → i ≠ k → (∀ j, j < m → i ∉ dead j) → (∀ j, j < m → k ∉ dead j) → R i k (vs i) (vs k) ∨ R k i (vs k) (vs i)) → wpList P l.toArray Q (l.drop m) (puts (l.take m) 0 vs a0) w)
    (hfin2 : ∀ d, st = some d → ∀ (listed : Array Bool) (a : Act) (w : World), Inv2 l a0 C F R dead listed a w → (∀ j, j < m → j ≠ d → listed.getD j false = true) → listed.getD d false = false → (∀ j, m ≤ j → listed.getD j false = false) → wpList P l.toArray Q ((m :: d :: List.range' (m + 1) (l.length - (m + 1))).map fun j => l.getD j default) a w) :
    (Code.region id l.toArray true).wp P Q a0 w := by
  have hnone : ∀ j, (Array.replicate l.length false).getD j false = false := fun j => by
    simp only [Array.getD_eq_getD_getElem?, Array.getElem?_replicate]
    split <;> rfl
  refine wp_region_any hm (wpAny_calm2 hchk hst hop hfin hfin2 _ _ _ _ (by unfold left; rw [Array.toList_replicate, List.countP_replicate]; simp) (fun j _ => by simpa using hnone j) ⟨by simp, ?_, rfl, rfl, fun _ _ => rfl, hC, ?_, ?_⟩)
  · intro j o hj hl
    simp [Array.getD_eq_getD_getElem?, Array.getElem?_replicate] at hl
    split at hl <;> simp at hl
  · intro j o hj hl
    simp [Array.getD_eq_getD_getElem?, Array.getElem?_replicate] at hl
    split at hl <;> simp at hl
  · intro i k oi ok _ _ _ hl
    simp [Array.getD_eq_getD_getElem?, Array.getElem?_replicate] at hl
    split at hl <;> simp at hl
end
end Calm
end Go.Proofs.YtnmfiiejhoafnaaGreat
