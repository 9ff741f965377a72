/- Regions whose order is left open, that make two variables of their own, or in which an operation may come up beside the first store. -/
import Derived.Test.YtnmfiiejhoafnaaGreatPvCalm2
import Derived.Test.YtnmfiiejhoafnaaGreatPvApp
set_option linter.unusedSimpArgs false
set_option linter.unusedVariables false
namespace Go.Proofs.YtnmfiiejhoafnaaGreat
namespace Ex
open Go Calm Go.RowKit
def isNew (o : Oper) : Bool := (match o.op with
  | .alloc _ | .box _ _ => true
  | _ => false) && o.guard == none && o.dst.isSome
theorem run_new {o : Oper} (ho : isNew o = true) {ρ : Operand → Value} {w w' : World} {n : Next} (h : (execOp ρ o).run Tryz.prog w = .ok n w') : n = .value (PtrV w.heap.size) := by
  obtain ⟨dst, op, ty, pos, af, g⟩ := o
  unfold isNew at ho
  simp only [Bool.and_eq_true] at ho
  obtain ⟨⟨h1, _⟩, _⟩ := ho
  cases op <;> simp at h1
  case alloc e =>
    unfold execOp at h
    simp only [Instr.alloc, Sem.run_bind] at h
    cases hz : (zeroValue e).run Tryz.prog w with
    | halt x w1 => rw [hz] at h; cases h
    | ok z w1 =>
      have hw : w1 = w := by
        unfold zeroValue typeInfo at hz
        simp only [Sem.run_bind] at hz
        cases hi : Tryz.prog.info? e with
        | none => simp [hi] at hz
        | some inf =>
          cases hzz : inf.zero with
          | none => simp [hi, hzz] at hz
          | some zz => simp [hi, hzz] at hz; exact hz.2.symm
      subst hw
      rw [hz] at h
      simp only [Result.andThen_ok, newVar, Sem.run_bind, run_newRow, Sem.run_pure] at h
      cases h
      rfl
  case box e x =>
    unfold execOp at h
    simp only [Instr.box, newVar, Sem.run_bind, run_newRow, Sem.run_pure, Result.andThen_ok] at h
    cases h
    rfl
def PtrOK (al : List Nat) (n : Nat) (Fs : List Fct) : Prop := ∀ k F, al.contains k = true → Fs[n - 1 - k]? = some F → ∀ v w, F v w → ∃ g, g < w.heap.size ∧ v = PtrV g
theorem ptrok0 {n : Nat} {Fs : List Fct} : PtrOK [] n Fs := fun j F hj hF => by simp at hj
def Apart (l : List Oper) (al : List Nat) (a : Act) : Prop := ∀ i k, al.contains i = true → al.contains k = true → i ≠ k → tmpVal a.eval (l.getD i default) ≠ tmpVal a.eval (l.getD k default)
theorem Apart.at {l : List Oper} {al : List Nat} {a : Act} (h : Apart l al a) (i k : Nat) {d e : Tmp} (hi : al.contains i = true) (hk : al.contains k = true) (hne : (i == k) = false) (hd : (l.getD i default).dst = some d) (he : (l.getD k default).dst = some e) {w w' : World} {x y : Nat}
    (hx : Holds (Is (PtrV x)) (a.eval (.tmp d)) w) (hy : Holds (Is (PtrV y)) (a.eval (.tmp e)) w') : x ≠ y := by
  have h0 := h i k hi hk (by simpa using hne)
  unfold tmpVal at h0
  rw [hd, he] at h0
  simp only at h0
  intro hxy
  subst hxy
  have h1 : a.eval (.tmp d) = PtrV x := hx
  have h2 : a.eval (.tmp e) = PtrV x := hy
  rw [h1, h2] at h0
  exact h0 rfl
def NewsBut (b : Nat) (l : List Oper) (n : Nat) (Fs : List Fct) (a : Act) (w : World) : Prop := ∀ j k F, k + 1 + j = n → (j == b) = false → Fs[k]? = some F → Holds F (tmpVal a.eval (l.getD j default)) w
theorem NewsBut.at {b : Nat} {l : List Oper} {n : Nat} {Fs : List Fct} {a : Act} {w : World} (h : NewsBut b l n Fs a w) (j k : Nat) {F : Fct} {d : Tmp} (hF : Fs[k]? = some F) (hn : k + 1 + j = n)
    (hd : (l.getD j default).dst = some d) (hb : (j == b) = false := by rfl) : Holds F (a.eval (.tmp d)) w := by
  have := h j k F hn hb hF
  unfold tmpVal at this
  rw [hd] at this
  exact this
def plan2 (l : List Oper) (m : Nat) (al : List Nat) (st : Option Nat) (A : List Nat) (plan : List (List Tmp × List Nat)) (kept : List Tmp) (size : Nat) : Bool :=
  plan.length == m && checks2 l m st A (fun _ => []) size &&
  ((l.take m).zip plan).zipIdx.all (fun ((o, pl), i) =>
    (pl.1.all fun t => (frees l A i o).contains t) && pl.2.all fun j => (direct o).contains j) &&
  kept.all (fun t => (l.take m).all fun o => o.dst != some t) &&
  al.all (fun i => decide (i < m) && isNew (l.getD i default))
theorem wp_calm2 {id : Nat} {l1 l2 : List Oper} {Q : Exit → Act → World → Prop} {a : Act} {w : World} {n : Nat} (al : List Nat) (st : Option Nat) (A : List Nat) (plan : List (List Tmp × List Nat)) (ts : List Tmp) (lo : Nat) {L : List (Tmp × Fct)} [hL : StabL L]
    (hf : Fr n a) (hlo : lo ≤ w.heap.size) (hk : plan2 (l1 ++ l2) l1.length al st A plan ts n = true) (hb : Bund L a w)
    (h : ∀ w0, Grow w w0 → Chain { ops := (l1 ++ l2).toArray, l := l1, a, L, w0, lo } (fun Fs => PtrOK al l1.length Fs ∧
      (∀ a' w', Fr n a' → Grow w w' → Keep ts a a' → News l1 l1.length Fs a' w' → Apart l1 al a' → wpList Tryz.prog (l1 ++ l2).toArray Q l2 a' w') ∧
      (∀ d, st = some d → ∀ a' w', Fr n a' → Grow w w' → Keep ts a a' → NewsBut d l1 l1.length Fs a' w' → (al.contains d = false → Apart l1 al a') → wpList Tryz.prog (l1 ++ l2).toArray Q (l2.headD default :: l1.getD d default :: l2.tail) a' w')) 0 [] l1 plan) :
    (Code.region id (l1 ++ l2).toArray true).wp Tryz.prog Q a w := by
  have hg0 : Grow w { w with drawn := w.drawn + 1 } := Grow.drew w
  obtain ⟨Gs, g1, ⟨gp, g2, g3⟩, _, g4, g5⟩ := Chain.out l1 0 [] plan (h _ hg0) rfl
  unfold plan2 at hk
  simp only [Bool.and_eq_true, beq_iff_eq] at hk
  obtain ⟨⟨⟨⟨hlen, hchk⟩, hpl⟩, hkept⟩, hnew⟩ := hk
  have htk : (l1 ++ l2).take l1.length = l1 := by simp
  have hdr : (l1 ++ l2).drop l1.length = l2 := by simp
  rw [htk] at hpl hkept
  have g1' : Gs.length = l1.length := by simpa using g1
  have hin1 : ∀ (k : Nat) (o : Oper), l1[k]? = some o → (l1 ++ l2)[k]? = some o := fun k o hk => by
    rw [List.getElem?_append_left (List.getElem?_eq_some_iff.1 hk).1]; exact hk
  have hst : ∀ F ∈ Gs, StabG F := fun F hF => (g4 F hF).resolve_left (by simp)
  have hkept' : ∀ t, ts.contains t = true → ∀ (k : Nat) (o : Oper), l1[k]? = some o → o.dst ≠ some t := fun t ht k o hk hd => by
    simp only [List.all_eq_true, bne_iff_ne] at hkept
    exact hkept t (by simpa using ht) o (List.mem_of_getElem? hk) hd
  have hplan : ∀ (i : Nat) (o : Oper) (pl : List Tmp × List Nat), l1[i]? = some o → plan[i]? = some pl → (∀ t ∈ pl.1, t ∈ frees (l1 ++ l2) A i o) ∧ ∀ j ∈ pl.2, j ∈ direct o := fun i o pl ho hp => by
    simp only [List.all_eq_true, Prod.forall, List.mem_zipIdx_iff_getElem?, Bool.and_eq_true] at hpl
    have := hpl o pl.1 pl.2 i (by simp [List.getElem?_zip_eq_some, ho, hp])
    exact ⟨fun t ht => by simpa using this.1 t ht, fun j hj => by simpa using this.2 j hj⟩
  have hchk' := hchk
  unfold checks2 at hchk'
  simp only [Bool.and_eq_true, beq_iff_eq, List.all_eq_true, Bool.or_eq_true, bne_iff_ne, decide_eq_true_eq, Prod.forall, List.mem_zipIdx_iff_getElem?] at hchk'
  obtain ⟨⟨⟨⟨⟨⟨⟨_, _⟩, _⟩, hlow0⟩, hdst⟩, hin⟩, _⟩, hstr⟩ := hchk'
  have hlow : ∀ (i : Nat) (o : Oper), l1[i]? = some o → ∀ j ∈ direct o, j < i := fun i o ho j hj => hlow0 o i (hin1 i o ho) j hj
  have halk : ∀ i, al.contains i = true → i < l1.length ∧ ∀ o, l1[i]? = some o → isNew o = true := fun i hi => by
    simp only [List.all_eq_true, Bool.and_eq_true, decide_eq_true_eq] at hnew
    have h1 := hnew i (by simpa using hi)
    refine ⟨h1.1, fun o ho => ?_⟩
    have h2 := h1.2
    rw [List.getD_eq_getElem?_getD, hin1 i o ho] at h2
    exact h2
  have key : ∀ (i : Nat) (o : Oper), l1[i]? = some o → Obl2 Tryz.prog (l1 ++ l2) A a (fun w' => Grow w w' ∧ Grow { w with drawn := w.drawn + 1 } w' ∧ ∀ p ∈ L, Holds p.2 (a.eval (.tmp p.1)) w') (fun _ => Grow)
      (fun k => (Gs[Gs.length - 1 - k]?).getD Any) (fun i k v vk => al.contains i = true → al.contains k = true → v ≠ vk) i o := by
    intro i o ho ρ w1 hbase hC hfr hnd
    obtain ⟨pl, F, h1, h2, _, Es, h3, h4, h5⟩ := g5 i o ho
    obtain ⟨p1, p2⟩ := hplan i o pl ho h1
    simp only [Nat.zero_add] at h2 h3 h4 h5
    have hi : i < l1.length := (List.getElem?_eq_some_iff.1 ho).1
    have hsit : Sit { ops := (l1 ++ l2).toArray, l := l1, a, L, w0 := { w with drawn := w.drawn + 1 }, lo } pl Es i ρ w1 := by
      refine ⟨hbase, hC.2.1, Nat.le_trans hlo hC.1.size, hC.2.2, fun t ht => hfr t (p1 t ht), fun j hj k hk G hG => ?_⟩
      have h6 : ((Gs[Gs.length - 1 - j]?).getD Any) (tmpVal ρ ((l1 ++ l2).getD j o)) w1 := hnd j (p2 j hj)
      have hji : j < i := by omega
      have e : k = i - 1 - j := by omega
      rw [e, h4 j hji] at hG
      rw [hG] at h6
      have ej : (l1 ++ l2).getD j o = l1.getD j default := by
        rw [List.getD_eq_getElem?_getD, List.getD_eq_getElem?_getD, List.getElem?_append_left (by omega), List.getElem?_eq_getElem (by omega)]; rfl
      rw [← ej]
      exact h6
    have h7 := h5 ρ w1 hsit
    have eF : (Gs[Gs.length - 1 - i]?).getD Any = F := by rw [h2]; rfl
    simp only [eF, rel_nil] at h7 ⊢
    have up : ∀ w2, Grow w1 w2 → (Grow w w2 ∧ Grow { w with drawn := w.drawn + 1 } w2 ∧ ∀ p ∈ L, Holds p.2 (a.eval (.tmp p.1)) w2) := fun w2 hg =>
      ⟨hC.1.trans hg, hC.2.1.trans hg, fun p hp => (hL.up p hp).up _ _ _ hg (hC.2.2 p hp)⟩
    have far : ∀ (v : Value) (n' : Next) (w2 : World), (execOp ρ o).run Tryz.prog w1 = .ok n' w2 → (n' = .value v ∨ ∀ x, n' ≠ .value x) → ∀ k vk, (Gs[Gs.length - 1 - k]?).getD Any vk w1 → al.contains i = true → al.contains k = true → keepV o v ≠ vk := fun v n' w2 hr hn k vk hF hai hak => by
      have hno := (halk i hai).2 o ho
      have h8 := run_new hno hr
      rcases hn with h9 | h9
      · rw [h9] at h8
        cases h8
        have hk1 := (halk k hak).1
        cases hq : Gs[Gs.length - 1 - k]? with
        | none => rw [List.getElem?_eq_none_iff] at hq; omega
        | some G =>
          rw [hq] at hF
          obtain ⟨g, hg, rfl⟩ := gp k G hak (by rw [← g1']; exact hq) vk w1 hF
          have hd : o.dst.isSome = true := by
            unfold isNew at hno
            simp only [Bool.and_eq_true] at hno
            exact hno.2
          unfold keepV
          cases hdd : o.dst with
          | none => rw [hdd] at hd; cases hd
          | some d =>
            simp only
            intro e
            simp only [PtrV, Value.pointer.injEq, Option.some.injEq, Addr.mk.injEq, and_true] at e
            omega
      · exact absurd h8 (h9 _)
    split
    · rename_i hw
      rw [if_pos hw] at h7
      revert h7
      cases hr : (execOp ρ o).run Tryz.prog w1 with
      | ok n' w' =>
        cases n' <;> simp only [givesOf] <;> intro hh
        case value v => exact ⟨up _ hh.1, hh.1, hh.2, far v _ w' hr (.inl rfl)⟩
        case skip => exact ⟨up _ hh.1, hh.1, hh.2, far undef _ w' hr (.inr fun _ e => by cases e)⟩
        case enter f args => exact hh.mono fun e w'' ⟨v, he, k1, k2⟩ => ⟨v, he, up _ k1, k1, k2, fun k vk hF hai hak => far v _ w' hr (.inr fun _ e => by cases e) k vk hF hai hak⟩
        all_goals exact hh
      | halt x w' => exact fun hh => hh.elim
    · rename_i hw
      rw [if_neg hw] at h7
      refine ⟨h7, fun k vk hF hai hak => ?_⟩
      have hno := (halk i hai).2 o ho
      unfold isNew at hno
      simp only [Bool.and_eq_true, beq_iff_eq] at hno
      exact absurd (by simp [wantedBy, hno.1.2]) hw
  have all : ∀ (r : List Oper) (i : Nat), (∀ k o, r[k]? = some o → l1[i + k]? = some o) → Calm.Obl2sFrom Tryz.prog (l1 ++ l2) A a (fun w' => Grow w w' ∧ Grow { w with drawn := w.drawn + 1 } w' ∧ ∀ p ∈ L, Holds p.2 (a.eval (.tmp p.1)) w') (fun _ => Grow) (fun k => (Gs[Gs.length - 1 - k]?).getD Any) (fun i k v vk => al.contains i = true → al.contains k = true → v ≠ vk) i r := by
    intro r
    induction r with
    | nil => intro i _; trivial
    | cons o r ih =>
      intro i hr
      exact ⟨key i o (by simpa using hr 0 o (by simp)), ih (i + 1) fun k o' hk => by have := hr (k + 1) o' (by simpa using hk); rwa [show i + (k + 1) = i + 1 + k by omega] at this⟩
  refine Calm.wp_region_calm2 (C := fun w' => Grow w w' ∧ Grow { w with drawn := w.drawn + 1 } w' ∧ ∀ p ∈ L, Holds p.2 (a.eval (.tmp p.1)) w') (S := fun _ => Grow) (F := fun k => (Gs[Gs.length - 1 - k]?).getD Any) (R := fun i k v vk => al.contains i = true → al.contains k = true → v ≠ vk) (dead := fun _ => []) (st := st) (show Tryz.prog.follows .mixedOrders = true by kernel_rfl) (m := l1.length) (A := A)
    (by rw [hf.size]; exact hchk) ⟨hg0, Grow.refl _, fun p hp => (hL.up p hp).up _ _ _ hg0 (hb.mem p hp)⟩ ?_ ?_ ?_ ?_
  · intro i k _ hkm _ _ _ w1 w2 v hC hg hF
    cases hq : Gs[Gs.length - 1 - k]? with
    | none => simp [Any]
    | some F =>
      simp only [hq, Option.getD_some] at hF ⊢
      exact (hst F (List.mem_of_getElem? hq)).up _ _ _ hg hF
  · rw [htk]
    exact all l1 0 fun k o hk => by simpa using hk
  · intro vs w' hC hN hF hR
    rw [htk, hdr]
    obtain ⟨q1, q2, q3, q4⟩ := puts_get l1 0 vs a
    have hval : ∀ j, (hj : j < l1.length) → tmpVal (puts l1 0 vs a).eval l1[j] = vs j := fun j hjl => by
      have hlj : l1[j]? = some l1[j] := by simp [hjl]
      unfold tmpVal
      cases hd : l1[j].dst with
      | none => exact (hN j _ hjl (hin1 j _ hlj) hd).symm
      | some d =>
        have hlt : d < a.tmps.size := by
          rw [hf.size]
          have := hin l1[j] (List.mem_append_left _ (List.getElem_mem hjl))
          rw [hd] at this; simpa using this
        have := q4 d j l1[j] hlj hd (fun k' o' hk' hd' => by
          refine Classical.byContradiction fun hne => ?_
          rcases hdst o' k' (hin1 k' o' hk') l1[j] j (hin1 j _ hlj) with (h | h) | h
          · exact hne h
          · rw [hd'] at h; cases h
          · exact h (by rw [hd', hd])) hlt
        simp only [Act.eval, Array.getD_eq_getD_getElem?, this, Nat.zero_add, Option.getD_some]
    have hgd : ∀ j, (hj : j < l1.length) → l1.getD j default = l1[j] := fun j hj => by rw [List.getD_eq_getElem?_getD, List.getElem?_eq_getElem hj]; rfl
    refine g2 _ _ ⟨q2.trans hf.size, q1.trans hf.defers⟩ hC.1 (fun t ht => puts_eval_ne (hkept' t ht)) (fun j k F hj hkF => ?_) fun i k hai hak hik => ?_
    · have hjl : j < l1.length := by omega
      have h8 := hF j hjl (fun _ _ => by simp)
      have e : Gs[Gs.length - 1 - j]? = some F := by rw [← hkF]; congr 1; omega
      rw [e] at h8
      rw [hgd j hjl, hval j hjl]
      exact h8
    · have hi := (halk i hai).1
      have hk2 := (halk k hak).1
      rw [hgd i hi, hgd k hk2, hval i hi, hval k hk2]
      rcases hR i k hi hk2 hik (fun _ _ => by simp) (fun _ _ => by simp) with h8 | h8
      · exact h8 hai hak
      · exact (h8 hak hai).symm
  · intro d hd listed a' w' hI hoth hdl hno
    rw [hd] at hstr
    simp only [Bool.and_eq_true, decide_eq_true_eq] at hstr
    obtain ⟨⟨hdm, hml⟩, _⟩ := hstr
    have hgd : ∀ j, (hj : j < l1.length) → l1.getD j default = l1[j] := fun j hj => by rw [List.getD_eq_getElem?_getD, List.getElem?_eq_getElem hj]; rfl
    have hl2 : l2 ≠ [] := by
      intro e
      rw [e] at hml
      simp at hml
    have hlist : ((l1.length :: d :: List.range' (l1.length + 1) ((l1 ++ l2).length - (l1.length + 1))).map fun j => (l1 ++ l2).getD j default) = l2.headD default :: l1.getD d default :: l2.tail := by
      cases l2 with
      | nil => exact absurd rfl hl2
      | cons o r =>
        simp only [List.map_cons, List.headD_cons, List.tail_cons]
        congr 1
        · rw [List.getD_eq_getElem?_getD, List.getElem?_append_right (Nat.le_refl _), Nat.sub_self]; rfl
        · congr 1
          · rw [List.getD_eq_getElem?_getD, List.getD_eq_getElem?_getD, List.getElem?_append_left hdm]
          · apply List.ext_getElem?
            intro j
            by_cases hj : j < r.length
            · rw [List.getElem?_map, List.getElem?_range' (by simp; omega)]
              simp only [Option.map_some, Nat.one_mul]
              rw [List.getD_eq_getElem?_getD, List.getElem?_append_right (by omega), show l1.length + 1 + j - l1.length = j + 1 by omega, List.getElem?_cons_succ, List.getElem?_eq_getElem hj]; rfl
            · rw [List.getElem?_eq_none (by simp; omega), List.getElem?_eq_none (by omega)]
    rw [hlist]
    refine g3 d hd a' w' ⟨hI.tsize.trans hf.size, hI.defers.trans hf.defers⟩ hI.cls.1 (fun t ht => ?_) (fun j k F hj hjd hkF => ?_) fun hdal i k hai hak hik => ?_
    · have := hI.frame t fun j o hj hdt => by
        by_cases hjl : j < l1.length
        · rw [List.getElem?_append_left hjl] at hj
          exact absurd hdt (hkept' t ht j o hj)
        · exact hno j (by omega)
      simp only [Act.eval, Array.getD_eq_getD_getElem?, this]
    · have hjl : j < l1.length := by omega
      have h8 := hI.facts j l1[j] (hin1 j _ (by simp [hjl])) (hoth j hjl (by simpa using hjd)) (fun _ _ => by simp)
      have e : Gs[Gs.length - 1 - j]? = some F := by rw [← hkF]; congr 1; omega
      rw [e] at h8
      rw [hgd j hjl]
      exact h8
    · have hi := (halk i hai).1
      have hk2 := (halk k hak).1
      rw [hgd i hi, hgd k hk2]
      have hne : ∀ j, al.contains j = true → j ≠ d := fun j hj e => by rw [e, hdal] at hj; cases hj
      rcases hI.rels i k l1[i] l1[k] hik (hin1 i l1[i] (List.getElem?_eq_getElem hi)) (hin1 k l1[k] (List.getElem?_eq_getElem hk2)) (hoth i hi (hne i hai)) (hoth k hk2 (hne k hak)) (fun _ _ => by simp) (fun _ _ => by simp) with h8 | h8
      · exact h8 hai hak
      · exact (h8 hak hai).symm
end Ex
end Go.Proofs.YtnmfiiejhoafnaaGreat
