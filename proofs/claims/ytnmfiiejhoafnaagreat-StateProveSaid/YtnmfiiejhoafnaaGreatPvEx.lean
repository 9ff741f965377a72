/- Facts that hang on slots, and the rules by which a region of operations is walked: each operation once, its value described by a fact. -/
import Derived.Test.YtnmfiiejhoafnaaGreatPvCalm
import Derived.Test.YtnmfiiejhoafnaaGreatProg
import Derived.Below
import Derived.Tactics
import Derived.WalkKit
set_option linter.unusedSimpArgs false
set_option linter.unusedVariables false
namespace Go.Proofs.YtnmfiiejhoafnaaGreat
namespace Ex
open Go Calm Go.RowKit
def Grow (w w' : World) : Prop := Below w.heap.size w w'
theorem Grow.refl (w : World) : Grow w w := Below.refl _ _
theorem Grow.trans {a b c : World} (h : Grow a b) (k : Grow b c) : Grow a c := Below.trans h (Below.mono k h.size)
theorem Grow.size {a b : World} (h : Grow a b) : a.heap.size ≤ b.heap.size := Below.size h
theorem Grow.block {a b : World} (h : Grow a b) {k : Nat} (hk : k < a.heap.size) : b.heap[k]? = a.heap[k]? := Below.block h k hk
theorem Grow.alloc (w : World) (o : Obj) : Grow w (w.alloc o) := (Below.refl _ _).alloc (Nat.le_refl _) o
theorem Grow.drew (w : World) : Grow w w.drew := (Below.refl _ _).drew
theorem Grow.cell {a b : World} (h : Grow a b) {p : Addr} {v : Value} (hc : a.cell? p = some v) : b.cell? p = some v :=
  (Below.cell h (World.block_lt_of_cell? a p hc)).trans hc
def Holds (F : Fct) (v : Value) (w : World) : Prop := F v w
def Unst (F : Fct) : Unit → Unit → Prop := fun _ _ => ¬ ∀ v w w', Grow w w' → F v w → F v w'
abbrev StabG (F : Fct) : Prop := Std.Irrefl (Unst F)
theorem stabG {F : Fct} (h : ∀ v w w', Grow w w' → F v w → F v w') : StabG F := ⟨fun _ hn => hn h⟩
theorem StabG.up {F : Fct} (h : StabG F) : ∀ v w w', Grow w w' → F v w → F v w' := Classical.not_not.1 (h.irrefl ())
theorem Holds.up {F : Fct} [h : StabG F] {v : Value} {w w' : World} (hg : Grow w w') (hh : Holds F v w) : Holds F v w' := h.up v w w' hg hh
instance {x : Value} : StabG (Is x) := stabG (fun _ _ _ _ h => h)
instance : StabG Any := stabG (fun _ _ _ _ h => h)
def When (c : Prop) (F : Fct) : Fct := fun v w => (c → F v w) ∧ (¬ c → v = undef)
instance {c : Prop} {F : Fct} [h : StabG F] : StabG (When c F) := stabG (fun v w w' hg hh => ⟨fun hc => h.up v w w' hg (hh.1 hc), hh.2⟩)
def Two (F G : Fct) : Fct := fun v w => ∃ x y, v = .tuple #[x, y] ∧ Holds F x w ∧ Holds G y w
instance {F G : Fct} [h : StabG F] [k : StabG G] : StabG (Two F G) := stabG (fun _ w w' hg ⟨x, y, e, h1, h2⟩ => ⟨x, y, e, h.up x w w' hg h1, k.up y w w' hg h2⟩)
def Bund : List (Tmp × Fct) → Act → World → Prop
  | [], _, _ => True
  | p :: r, a, w => Holds p.2 (a.eval (.tmp p.1)) w ∧ Bund r a w
def Unstl (L : List (Tmp × Fct)) : Unit → Unit → Prop := fun _ _ => ¬ ∀ p ∈ L, StabG p.2
abbrev StabL (L : List (Tmp × Fct)) : Prop := Std.Irrefl (Unstl L)
theorem stabL {L : List (Tmp × Fct)} (h : ∀ p ∈ L, StabG p.2) : StabL L := ⟨fun _ hn => hn h⟩
theorem StabL.up {L : List (Tmp × Fct)} (h : StabL L) : ∀ p ∈ L, StabG p.2 := Classical.not_not.1 (h.irrefl ())
instance : StabL [] := stabL (fun _ h => by cases h)
instance {t : Tmp} {F : Fct} {L : List (Tmp × Fct)} [h : StabG F] [k : StabL L] : StabL ((t, F) :: L) := stabL (fun p hp => by
  rcases List.mem_cons.1 hp with rfl | hp
  · exact h
  · exact k.up p hp)
theorem Bund.mem : ∀ {L : List (Tmp × Fct)} {a : Act} {w : World}, Bund L a w → ∀ p ∈ L, Holds p.2 (a.eval (.tmp p.1)) w
  | _ :: _, _, _, h, p, hp => by
    rcases List.mem_cons.1 hp with rfl | hp
    · exact h.1
    · exact Bund.mem h.2 p hp
structure Fr (n : Nat) (a : Act) : Prop where
  size : a.tmps.size = n
  defers : a.defers = []
def Keep (ts : List Tmp) (a a' : Act) : Prop := ∀ t, ts.contains t = true → a'.eval (.tmp t) = a.eval (.tmp t)
theorem Keep.holds {ts : List Tmp} {a a' : Act} (h : Keep ts a a') {t : Tmp} (ht : ts.contains t = true) {F : Fct} {w : World} (hh : Holds F (a.eval (.tmp t)) w) : Holds F (a'.eval (.tmp t)) w := by
  rw [h t ht]; exact hh
structure Reg where
  ops : Array Oper
  l : List Oper
  a : Act
  L : List (Tmp × Fct)
  w0 : World
  lo : Nat
structure Sit (X : Reg) (pl : List Tmp × List Nat) (Fs : List Fct) (i : Nat) (ρ : Operand → Value) (w : World) : Prop where
  base : Base ρ
  grow : Grow X.w0 w
  low : X.lo ≤ w.heap.size
  kept : ∀ p ∈ X.L, Holds p.2 (X.a.eval (.tmp p.1)) w
  free : ∀ t ∈ pl.1, ρ (.tmp t) = X.a.eval (.tmp t)
  need : ∀ j ∈ pl.2, ∀ k, k + 1 + j = i → ∀ F, Fs[k]? = some F → Holds F (tmpVal ρ (X.l.getD j default)) w
def ArgOK (X : Reg) (pl : List Tmp × List Nat) (Fs : List Fct) (i : Nat) (x : Operand) (G : Fct) : Prop :=
  ∀ ρ w, Sit X pl Fs i ρ w → Holds G (ρ x) w
section
variable {X : Reg} {pl : List Tmp × List Nat} {Fs : List Fct} {i : Nat}
theorem arg_c {c : Value} : ArgOK X pl Fs i (.const c) (Is c) := fun _ _ h => h.base.const c
theorem arg_cg {c : Value} {G : Fct} (hG : ∀ w, Holds G c w) : ArgOK X pl Fs i (.const c) G := fun _ w h => by rw [h.base.const c]; exact hG w
theorem arg_free (k : Nat) {t : Tmp} {G : Fct} (hk : X.L[k]? = some (t, G)) (hp : pl.1.contains t = true) : ArgOK X pl Fs i (.tmp t) G := fun _ w h => by
  rw [h.free t (by simpa using hp)]
  exact h.kept (t, G) (List.mem_of_getElem? hk)
theorem arg_op (j k : Nat) {t : Tmp} {G : Fct} (hF : Fs[k]? = some G) (hi : k + 1 + j = i) (hp : pl.2.contains j = true) (hd : (X.l.getD j default).dst = some t) :
    ArgOK X pl Fs i (.tmp t) G := fun ρ w h => by
  have := h.need j (by simpa using hp) k hi G hF
  unfold tmpVal at this
  rw [hd] at this
  exact this
theorem ArgOK.when {x : Operand} {c : Prop} {G : Fct} (h : ArgOK X pl Fs i x (When c G)) (hc : c) : ArgOK X pl Fs i x G := fun ρ w hs => (h ρ w hs).1 hc
theorem ArgOK.whenAnd {x : Operand} {c e : Prop} {G : Fct} (h : ArgOK X pl Fs i x (When (c ∧ e) G)) (hc : c) : ArgOK X pl Fs i x (When e G) := fun ρ w hs =>
  ⟨fun he => (h ρ w hs).1 ⟨hc, he⟩, fun hn => (h ρ w hs).2 fun hh => hn hh.2⟩
theorem ArgOK.imp {x : Operand} {F G : Fct} (h : ArgOK X pl Fs i x F) (hi : ∀ v w, Holds F v w → Holds G v w) : ArgOK X pl Fs i x G := fun ρ w hs => hi _ w (h ρ w hs)
structure Ob (X : Reg) (pl : List Tmp × List Nat) (Fs : List Fct) (i : Nat) (o : Oper) (F : Fct) : Prop where
  of : ∀ ρ w, Sit X pl Fs i ρ w → givesOf Tryz.prog (fun v w' => Grow w w' ∧ Holds F (keepV o v) w') ((execOp ρ o).run Tryz.prog w)
def Unstb (lo : Nat) (F : Fct) : Unit → Unit → Prop := fun _ _ => ¬ ∀ v w w', lo ≤ w.heap.size → Below lo w w' → F v w → F v w'
abbrev StabB (lo : Nat) (F : Fct) : Prop := Std.Irrefl (Unstb lo F)
theorem stabB {lo : Nat} {F : Fct} (h : ∀ v w w', lo ≤ w.heap.size → Below lo w w' → F v w → F v w') : StabB lo F := ⟨fun _ hn => hn h⟩
theorem StabB.up {lo : Nat} {F : Fct} (h : StabB lo F) : ∀ v w w', lo ≤ w.heap.size → Below lo w w' → F v w → F v w' := Classical.not_not.1 (h.irrefl ())
def At (w0 : World) (F : Fct) : Fct := fun v _ => F v w0
instance {lo : Nat} {x : Value} : StabB lo (Is x) := stabB (fun _ _ _ _ _ h => h)
instance {lo : Nat} {w0 : World} {F : Fct} : StabB lo (At w0 F) := stabB (fun _ _ _ _ _ h => h)
instance {w0 : World} {F : Fct} : StabG (At w0 F) := stabG (fun _ _ _ _ h => h)
structure Mix where
  chain : List Nat := []
  frail : List Nat := []
  dead : List (List Nat) := []
def Mix.rel (M : Mix) (lo i : Nat) (w w' : World) : Prop := if M.chain.contains i then Below lo w w' else Grow w w'
def ChainX (X : Reg) (M : Mix) (K : List Fct → Prop) : Nat → List Fct → List Oper → List (List Tmp × List Nat) → Prop
  | _, Fs, [], _ => K Fs
  | i, Fs, o :: rest, pl :: pls => ∃ F, StabG F ∧ (M.chain = [] ∨ M.frail.contains i = true ∨ StabB X.w0.heap.size F) ∧
      (∀ ρ w, Sit X pl Fs i ρ w → if wantedBy X.ops o ρ then givesOf Tryz.prog (fun v w' => M.rel X.w0.heap.size i w w' ∧ Holds F (keepV o v) w') ((execOp ρ o).run Tryz.prog w) else Holds F undef w) ∧
      ChainX X M K (i + 1) (F :: Fs) rest pls
  | _, _, _ :: _, [] => False
abbrev Chain (X : Reg) (K : List Fct → Prop) : Nat → List Fct → List Oper → List (List Tmp × List Nat) → Prop := ChainX X {} K
theorem rel_nil {lo i : Nat} {w w' : World} : Mix.rel {} lo i w w' = Grow w w' := by simp [Mix.rel]
theorem ch {K : List Fct → Prop} {o : Oper} {rest : List Oper} {pls : List (List Tmp × List Nat)} {F : Fct} (hg : o.guard = none) (h : Ob X pl Fs i o F)
    (hn : Chain X K (i + 1) (F :: Fs) rest pls) [hs : StabG F] : Chain X K i Fs (o :: rest) (pl :: pls) :=
  ⟨F, hs, .inl rfl, fun ρ w h0 => by
    have : wantedBy X.ops o ρ = true := by simp [wantedBy, hg]
    rw [if_pos this]; simp only [rel_nil]; exact h.of ρ w h0, hn⟩
theorem chx {M : Mix} {K : List Fct → Prop} {o : Oper} {rest : List Oper} {pls : List (List Tmp × List Nat)} {F : Fct} (hg : o.guard = none) (hc : M.chain.contains i = false) (h : Ob X pl Fs i o F)
    (hn : ChainX X M K (i + 1) (F :: Fs) rest pls) [hs : StabG F] [hb : StabB X.w0.heap.size F] : ChainX X M K i Fs (o :: rest) (pl :: pls) :=
  ⟨F, hs, .inr (.inr hb), fun ρ w h0 => by
    have : wantedBy X.ops o ρ = true := by simp [wantedBy, hg]
    rw [if_pos this]; simp only [Mix.rel, hc, Bool.false_eq_true, if_false]; exact h.of ρ w h0, hn⟩
structure ObC (X : Reg) (pl : List Tmp × List Nat) (Fs : List Fct) (i : Nat) (o : Oper) (F : Fct) : Prop where
  of : ∀ ρ w, Sit X pl Fs i ρ w → givesOf Tryz.prog (fun v w' => Below X.w0.heap.size w w' ∧ Holds F (keepV o v) w') ((execOp ρ o).run Tryz.prog w)
theorem chxc {M : Mix} {K : List Fct → Prop} {o : Oper} {rest : List Oper} {pls : List (List Tmp × List Nat)} {F : Fct} (hg : o.guard = none) (hc : M.chain.contains i = true) (hf : M.frail.contains i = true) (h : ObC X pl Fs i o F)
    (hn : ChainX X M K (i + 1) (F :: Fs) rest pls) [hs : StabG F] : ChainX X M K i Fs (o :: rest) (pl :: pls) :=
  ⟨F, hs, .inr (.inl hf), fun ρ w h0 => by
    have : wantedBy X.ops o ρ = true := by simp [wantedBy, hg]
    rw [if_pos this]; simp only [Mix.rel, hc, if_true]; exact h.of ρ w h0, hn⟩
theorem chg {K : List Fct → Prop} {o : Oper} {rest : List Oper} {pls : List (List Tmp × List Nat)} {F : Fct} {j : Nat} {want b : Bool} {d : Tmp} (hg : o.guard = some (j, want))
    (hd : (X.ops[j]?).bind (·.dst) = some d) (hb : ArgOK X pl Fs i (.tmp d) (Is (.bool b)))
    (h : b = want → Ob X pl Fs i o F) (hn : Chain X K (i + 1) (When (b = want) F :: Fs) rest pls) [hs : StabG F] : Chain X K i Fs (o :: rest) (pl :: pls) :=
  ⟨When (b = want) F, inferInstance, .inl rfl, fun ρ w h0 => by
    simp only [rel_nil]
    have hb' : ρ (.tmp d) = .bool b := hb ρ w h0
    have e : wantedBy X.ops o ρ = (b == want) := by simp [wantedBy, hg, hd, hb']
    rw [e]
    by_cases hbw : b = want
    · rw [if_pos (by simp [hbw])]
      have := (h hbw).of ρ w h0
      revert this
      generalize (execOp ρ o).run Tryz.prog w = r
      cases r with
      | ok n w' =>
        cases n <;> simp only [givesOf] <;> intro hh
        case value v => exact ⟨hh.1, fun _ => hh.2, fun hc => absurd hbw hc⟩
        case skip => exact ⟨hh.1, fun _ => hh.2, fun hc => absurd hbw hc⟩
        case enter f args => exact hh.mono fun e w'' ⟨v, he, h1, h2⟩ => ⟨v, he, h1, fun _ => h2, fun hc => absurd hbw hc⟩
        all_goals exact hh
      | halt x w' => exact id
    · rw [if_neg (by simpa using hbw)]
      exact ⟨fun hc => absurd hc hbw, fun _ => rfl⟩, hn⟩
theorem chgn {K : List Fct → Prop} {o : Oper} {rest : List Oper} {pls : List (List Tmp × List Nat)} {F : Fct} {j : Nat} {want b : Bool} {d : Tmp} {c : Prop} (hg : o.guard = some (j, want))
    (hd : (X.ops[j]?).bind (·.dst) = some d) (hb : ArgOK X pl Fs i (.tmp d) (When c (Is (.bool b))))
    (h : c ∧ b = want → Ob X pl Fs i o F) (hn : Chain X K (i + 1) (When (c ∧ b = want) F :: Fs) rest pls) [hs : StabG F] : Chain X K i Fs (o :: rest) (pl :: pls) :=
  ⟨When (c ∧ b = want) F, inferInstance, .inl rfl, fun ρ w h0 => by
    simp only [rel_nil]
    by_cases hc : c
    · have hb' : ρ (.tmp d) = .bool b := (hb ρ w h0).1 hc
      have e : wantedBy X.ops o ρ = (b == want) := by simp [wantedBy, hg, hd, hb']
      rw [e]
      by_cases hbw : b = want
      · rw [if_pos (by simp [hbw])]
        have := (h ⟨hc, hbw⟩).of ρ w h0
        revert this
        generalize (execOp ρ o).run Tryz.prog w = r
        cases r with
        | ok n w' =>
          cases n <;> simp only [givesOf] <;> intro hh
          case value v => exact ⟨hh.1, fun _ => hh.2, fun hn => absurd ⟨hc, hbw⟩ hn⟩
          case skip => exact ⟨hh.1, fun _ => hh.2, fun hn => absurd ⟨hc, hbw⟩ hn⟩
          case enter f args => exact hh.mono fun e w'' ⟨v, he, h1, h2⟩ => ⟨v, he, h1, fun _ => h2, fun hn => absurd ⟨hc, hbw⟩ hn⟩
          all_goals exact hh
        | halt x w' => exact id
      · rw [if_neg (by simpa using hbw)]
        exact ⟨fun hh => absurd hh.2 hbw, fun _ => rfl⟩
    · have hb' : ρ (.tmp d) = undef := (hb ρ w h0).2 hc
      have e : wantedBy X.ops o ρ = false := by simp [wantedBy, hg, hd, hb', undef]
      rw [e, if_neg (by simp)]
      exact ⟨fun hh => absurd hh.1 hc, fun _ => rfl⟩, hn⟩
theorem ch_nil {M : Mix} {K : List Fct → Prop} {pls : List (List Tmp × List Nat)} (h : K Fs) : ChainX X M K i Fs [] pls := h
end
def News (l : List Oper) (n : Nat) (Fs : List Fct) (a : Act) (w : World) : Prop := ∀ j k F, k + 1 + j = n → Fs[k]? = some F → Holds F (tmpVal a.eval (l.getD j default)) w
theorem News.at {l : List Oper} {n : Nat} {Fs : List Fct} {a : Act} {w : World} (h : News l n Fs a w) (j k : Nat) {F : Fct} {d : Tmp} (hF : Fs[k]? = some F) (hn : k + 1 + j = n)
    (hd : (l.getD j default).dst = some d) : Holds F (a.eval (.tmp d)) w := by
  have := h j k F hn hF
  unfold tmpVal at this
  rw [hd] at this
  exact this
def NewsX (M : Mix) (l : List Oper) (n : Nat) (Fs : List Fct) (a : Act) (w : World) : Prop := ∀ j k F, k + 1 + j = n → (M.dead.all fun d => !d.contains j) = true → Fs[k]? = some F → Holds F (tmpVal a.eval (l.getD j default)) w
theorem NewsX.at {M : Mix} {l : List Oper} {n : Nat} {Fs : List Fct} {a : Act} {w : World} (h : NewsX M l n Fs a w) (j k : Nat) {F : Fct} {d : Tmp} (hF : Fs[k]? = some F) (hn : k + 1 + j = n)
    (hd : (l.getD j default).dst = some d) (hM : (M.dead.all fun d => !d.contains j) = true := by rfl) : Holds F (a.eval (.tmp d)) w := by
  have := h j k F hn hM hF
  unfold tmpVal at this
  rw [hd] at this
  exact this
theorem Chain.out {X : Reg} {M : Mix} {K : List Fct → Prop} : ∀ (r : List Oper) (i : Nat) (Fs : List Fct) (pls : List (List Tmp × List Nat)), ChainX X M K i Fs r pls → Fs.length = i →
    ∃ Gs : List Fct, Gs.length = i + r.length ∧ K Gs ∧ (∀ k, k < i → Gs[Gs.length - 1 - k]? = Fs[i - 1 - k]?) ∧
      (∀ F ∈ Gs, F ∈ Fs ∨ StabG F) ∧
      ∀ k o, r[k]? = some o → ∃ pl F, pls[k]? = some pl ∧ Gs[Gs.length - 1 - (i + k)]? = some F ∧ (M.chain = [] ∨ M.frail.contains (i + k) = true ∨ StabB X.w0.heap.size F) ∧
        ∃ Es : List Fct, Es.length = i + k ∧ (∀ m, m < i + k → Es[i + k - 1 - m]? = Gs[Gs.length - 1 - m]?) ∧
        (∀ ρ w, Sit X pl Es (i + k) ρ w → if wantedBy X.ops o ρ then givesOf Tryz.prog (fun v w' => M.rel X.w0.heap.size (i + k) w w' ∧ Holds F (keepV o v) w') ((execOp ρ o).run Tryz.prog w) else Holds F undef w)
  | [], i, Fs, pls, h, hl => ⟨Fs, by simpa using hl, h, fun k hk => by rw [hl], fun F hF => .inl hF, fun k o hk => by simp at hk⟩
  | o :: r, i, Fs, [], h, _ => h.elim
  | o :: r, i, Fs, pl :: pls, h, hl => by
    obtain ⟨F, hs, hsb, hob, hrest⟩ := h
    obtain ⟨Gs, g1, g2, g3, g4, g5⟩ := Chain.out r (i + 1) (F :: Fs) pls hrest (by simp [hl])
    refine ⟨Gs, by simp; omega, g2, fun k hk => ?_, fun G hG => ?_, fun k o' hk => ?_⟩
    · rw [g3 k (by omega)]
      have : i + 1 - 1 - k = (i - 1 - k) + 1 := by omega
      rw [this]; simp
    · rcases g4 G hG with h | h
      · rcases List.mem_cons.1 h with rfl | h
        · exact .inr hs
        · exact .inl h
      · exact .inr h
    · cases k with
      | zero =>
        simp at hk; subst hk
        refine ⟨pl, F, by simp, ?_, by simpa using hsb, Fs, by simpa using hl, fun m hm => ?_, by simpa using hob⟩
        · have := g3 i (by omega)
          simp at this
          simpa using this
        · have := g3 m (by omega)
          rw [this]
          have e : i + 1 - 1 - m = (i - 1 - m) + 1 := by simp at hm; omega
          rw [e]; simp
      | succ k =>
        obtain ⟨pl', F', h1, h2, h2b, Es, h3, h4, h5⟩ := g5 k o' (by simpa using hk)
        have e : i + 1 + k = i + (k + 1) := by omega
        rw [e] at h2 h2b h3 h4 h5
        exact ⟨pl', F', by simpa using h1, h2, h2b, Es, h3, h4, h5⟩
def planX (l : List Oper) (m : Nat) (A : List Nat) (M : Mix) (plan : List (List Tmp × List Nat)) (kept : List Tmp) (size : Nat) : Bool :=
  plan.length == m && checks l m A (fun i => M.dead.getD i []) size &&
  ((l.take m).zip plan).zipIdx.all (fun ((o, pl), i) =>
    (pl.1.all fun t => (frees l A i o).contains t) && pl.2.all fun j => (direct o).contains j) &&
  kept.all (fun t => (l.take m).all fun o => o.dst != some t) &&
  M.chain.all (fun i => M.frail.all fun k => (M.dead.getD i []).contains k || isAnc A i k || i == k)
theorem puts_eval_ne {l : List Oper} {vs : Nat → Value} {a : Act} {t : Tmp} (h : ∀ (k : Nat) (o : Oper), l[k]? = some o → o.dst ≠ some t) : (puts l 0 vs a).eval (.tmp t) = a.eval (.tmp t) := by
  have := (puts_get l 0 vs a).2.2.1 t h
  simp only [Act.eval, Array.getD_eq_getD_getElem?, this]
theorem wp_calmx {id : Nat} {l1 l2 : List Oper} {Q : Exit → Act → World → Prop} {a : Act} {w : World} {n : Nat} (M : Mix) (A : List Nat) (plan : List (List Tmp × List Nat)) (ts : List Tmp) (lo : Nat) {L : List (Tmp × Fct)} [hL : StabL L]
    (hf : Fr n a) (hlo : lo ≤ w.heap.size) (hk : planX (l1 ++ l2) l1.length A M plan ts n = true) (hb : Bund L a w)
    (h : ∀ w0, Grow w w0 → w0.heap = w.heap → ChainX { ops := (l1 ++ l2).toArray, l := l1, a, L, w0, lo } M (fun Fs => ∀ a' w', Fr n a' → Grow w w' → Keep ts a a' → NewsX M l1 l1.length Fs a' w' → wpList Tryz.prog (l1 ++ l2).toArray Q l2 a' w') 0 [] l1 plan) :
    (Code.region id (l1 ++ l2).toArray true).wp Tryz.prog Q a w := by
  have hg0 : Grow w { w with drawn := w.drawn + 1 } := Grow.drew w
  obtain ⟨Gs, g1, g2, _, g4, g5⟩ := Chain.out l1 0 [] plan (h _ hg0 rfl) rfl
  unfold planX at hk
  simp only [Bool.and_eq_true, beq_iff_eq] at hk
  obtain ⟨⟨⟨⟨hlen, hchk⟩, hpl⟩, hkept⟩, hmix⟩ := hk
  have htk : (l1 ++ l2).take l1.length = l1 := by simp
  have hdr : (l1 ++ l2).drop l1.length = l2 := by simp
  rw [htk] at hpl hkept
  have hin1 : ∀ (k : Nat) (o : Oper), l1[k]? = some o → (l1 ++ l2)[k]? = some o := fun k o hk => by
    rw [List.getElem?_append_left (List.getElem?_eq_some_iff.1 hk).1]; exact hk
  have hst : ∀ F ∈ Gs, StabG F := fun F hF => (g4 F hF).resolve_left (by simp)
  have hkept' : ∀ t, ts.contains t = true → ∀ (k : Nat) (o : Oper), l1[k]? = some o → o.dst ≠ some t := fun t ht k o hk hd => by
    simp only [List.all_eq_true, bne_iff_ne] at hkept
    exact hkept t (by simpa using ht) o (List.mem_of_getElem? hk) hd
  have hplan : ∀ (i : Nat) (o : Oper) (pl : List Tmp × List Nat), l1[i]? = some o → plan[i]? = some pl → (∀ t ∈ pl.1, t ∈ frees (l1 ++ l2) A i o) ∧ ∀ j ∈ pl.2, j ∈ direct o := fun i o pl ho hp => by
    simp only [List.all_eq_true, Prod.forall, List.mem_zipIdx_iff_getElem?, Bool.and_eq_true] at hpl
    have := hpl o pl.1 pl.2 i (by simp [List.getElem?_zip_eq_some, ho, hp])
    exact ⟨fun t ht => by simpa using this.1 t ht, fun j hj => by simpa using this.2 j hj⟩
  have hlow : ∀ (i : Nat) (o : Oper), l1[i]? = some o → ∀ j ∈ direct o, j < i := fun i o ho j hj => by
    have hchk' := hchk
    unfold checks at hchk'
    simp only [Bool.and_eq_true, beq_iff_eq, List.all_eq_true, Bool.or_eq_true, bne_iff_ne, decide_eq_true_eq, Prod.forall, List.mem_zipIdx_iff_getElem?] at hchk'
    exact hchk'.1.1.1.2 o i (hin1 i o ho) j hj
  refine Calm.wp_region_calm (C := fun w' => Grow w w' ∧ Grow { w with drawn := w.drawn + 1 } w' ∧ ∀ p ∈ L, Holds p.2 (a.eval (.tmp p.1)) w') (S := fun i => M.rel w.heap.size i) (F := fun k => (Gs[Gs.length - 1 - k]?).getD Any) (dead := fun i => M.dead.getD i []) (show Tryz.prog.follows .mixedOrders = true by kernel_rfl) (m := l1.length) (A := A)
    (by rw [hf.size]; exact hchk) ⟨hg0, Grow.refl _, fun p hp => (hL.up p hp).up _ _ _ hg0 (hb.mem p hp)⟩ ?_ ?_ ?_
  · intro i k him hkm hkd hki hanc w1 w2 v hC hg hF
    cases hq : Gs[Gs.length - 1 - k]? with
    | none => simp [Any]
    | some F =>
      simp only [hq, Option.getD_some] at hF ⊢
      unfold Mix.rel at hg
      split at hg
      · rename_i hch
        obtain ⟨pl, F', _, h2, h2b, _⟩ := g5 k (l1[k]'hkm) (List.getElem?_eq_getElem hkm)
        simp only [Nat.zero_add] at h2 h2b
        rw [hq] at h2
        cases h2
        rcases h2b with h3 | h3 | h3
        · rw [h3] at hch; simp at hch
        · simp only [List.all_eq_true, Bool.or_eq_true, beq_iff_eq] at hmix
          rcases hmix i (by simpa using hch) k (by simpa using h3) with (h4 | h4) | h4
          · exact absurd (by simpa using h4) hkd
          · rw [hanc] at h4; cases h4
          · exact absurd h4.symm hki
        · exact h3.up v w1 w2 hC.1.size hg hF
      · exact (hst F (List.mem_of_getElem? hq)).up _ _ _ hg hF
  · rw [htk]
    have key : ∀ (i : Nat) (o : Oper), l1[i]? = some o → Calm.Obl Tryz.prog (l1 ++ l2) A a (fun w' => Grow w w' ∧ Grow { w with drawn := w.drawn + 1 } w' ∧ ∀ p ∈ L, Holds p.2 (a.eval (.tmp p.1)) w') (fun i => M.rel w.heap.size i) (fun k => (Gs[Gs.length - 1 - k]?).getD Any) i o := by
      intro i o ho ρ w1 hbase hC hfr hnd
      obtain ⟨pl, F, h1, h2, _, Es, h3, h4, h5⟩ := g5 i o ho
      obtain ⟨p1, p2⟩ := hplan i o pl ho h1
      simp only [Nat.zero_add] at h2 h3 h4 h5
      have hi : i < l1.length := (List.getElem?_eq_some_iff.1 ho).1
      have hsit : Sit { ops := (l1 ++ l2).toArray, l := l1, a, L, w0 := { w with drawn := w.drawn + 1 }, lo } pl Es i ρ w1 := by
        refine ⟨hbase, hC.2.1, Nat.le_trans hlo hC.1.size, hC.2.2, fun t ht => hfr t (p1 t ht), fun j hj k hk G hG => ?_⟩
        have h6 : ((Gs[Gs.length - 1 - j]?).getD Any) (tmpVal ρ ((l1 ++ l2).getD j o)) w1 := hnd j (p2 j hj)
        have hji : j < i := by omega
        have e : k = i - 1 - j := by omega
        rw [e, h4 j hji] at hG
        rw [hG] at h6
        have ej : (l1 ++ l2).getD j o = l1.getD j default := by
          rw [List.getD_eq_getElem?_getD, List.getD_eq_getElem?_getD, List.getElem?_append_left (by omega), List.getElem?_eq_getElem (by omega)]; rfl
        rw [← ej]
        exact h6
      have h7 := h5 ρ w1 hsit
      have eF : (Gs[Gs.length - 1 - i]?).getD Any = F := by rw [h2]; rfl
      simp only [eF]
      split
      · rename_i hw
        rw [if_pos hw] at h7
        revert h7
        have up : ∀ w2, M.rel w.heap.size i w1 w2 → (Grow w w2 ∧ Grow { w with drawn := w.drawn + 1 } w2 ∧ ∀ p ∈ L, Holds p.2 (a.eval (.tmp p.1)) w2) := fun w2 hg => by
          have hb1 : Below w.heap.size w1 w2 := by
            unfold Mix.rel at hg
            split at hg
            · exact hg
            · exact Below.mono hg hC.1.size
          have k1 : Grow w w2 := Below.trans hC.1 hb1
          have k2 : Grow { w with drawn := w.drawn + 1 } w2 := Below.trans hC.2.1 hb1
          exact ⟨k1, k2, fun p hp => (hL.up p hp).up _ _ _ k1 (hb.mem p hp)⟩
        generalize (execOp ρ o).run Tryz.prog w1 = r
        cases r with
        | ok n w' =>
          cases n <;> simp only [givesOf] <;> intro hh
          case value v => exact ⟨up _ hh.1, hh.1, hh.2⟩
          case skip => exact ⟨up _ hh.1, hh.1, hh.2⟩
          case enter f args => exact hh.mono fun e w'' ⟨v, he, k1, k2⟩ => ⟨v, he, up _ k1, k1, k2⟩
          all_goals exact hh
        | halt x w' => exact fun hh => hh.elim
      · rename_i hw
        rw [if_neg hw] at h7
        exact h7
    have all : ∀ (r : List Oper) (i : Nat), (∀ k o, r[k]? = some o → l1[i + k]? = some o) → Calm.OblsFrom Tryz.prog (l1 ++ l2) A a (fun w' => Grow w w' ∧ Grow { w with drawn := w.drawn + 1 } w' ∧ ∀ p ∈ L, Holds p.2 (a.eval (.tmp p.1)) w') (fun i => M.rel w.heap.size i) (fun k => (Gs[Gs.length - 1 - k]?).getD Any) i r := by
      intro r
      induction r with
      | nil => intro i _; trivial
      | cons o r ih =>
        intro i hr
        exact ⟨key i o (by simpa using hr 0 o (by simp)), ih (i + 1) fun k o' hk => by have := hr (k + 1) o' (by simpa using hk); rwa [show i + (k + 1) = i + 1 + k by omega] at this⟩
    exact all l1 0 fun k o hk => by simpa using hk
  · intro vs w' hC hN hF
    rw [htk, hdr]
    obtain ⟨q1, q2, q3, q4⟩ := puts_get l1 0 vs a
    unfold checks at hchk
    simp only [Bool.and_eq_true, beq_iff_eq, List.all_eq_true, Bool.or_eq_true, bne_iff_ne, decide_eq_true_eq, Prod.forall, List.mem_zipIdx_iff_getElem?] at hchk
    obtain ⟨⟨⟨_, hdst⟩, hin⟩, _⟩ := hchk
    refine g2 _ _ ⟨q2.trans hf.size, q1.trans hf.defers⟩ hC.1 (fun t ht => puts_eval_ne (hkept' t ht)) fun j k F hj hM hkF => ?_
    · have hjl : j < l1.length := by omega
      have hlj : l1[j]? = some l1[j] := by simp [hjl]
      have h8 : ((Gs[Gs.length - 1 - j]?).getD Any) (vs j) w' := hF j hjl (fun i _ hd => by
        simp only [List.all_eq_true, Bool.not_eq_true'] at hM
        rw [List.getD_eq_getElem?_getD] at hd
        cases hq : M.dead[i]? with
        | none => rw [hq] at hd; simp at hd
        | some d =>
          rw [hq] at hd
          have := hM d (List.mem_of_getElem? hq)
          simp at hd this
          exact this hd)
      have e : Gs[Gs.length - 1 - j]? = some F := by rw [← hkF]; congr 1; simp at g1; omega
      rw [e] at h8
      simp only [Option.getD_some] at h8
      rw [List.getD_eq_getElem?_getD, hlj]
      simp only [Option.getD_some]
      unfold tmpVal
      cases hd : l1[j].dst with
      | none =>
        rw [hN j _ hjl (hin1 j _ hlj) hd] at h8
        exact h8
      | some d =>
        have hlt : d < a.tmps.size := by
          rw [hf.size]
          have := hin l1[j] (by simp)
          rw [hd] at this; simpa using this
        have := q4 d j l1[j] hlj hd (fun k' o' hk' hd' => by
          refine Classical.byContradiction fun hne => ?_
          rcases hdst o' k' (hin1 k' o' hk') l1[j] j (hin1 j _ hlj) with (h | h) | h
          · exact hne h
          · rw [hd'] at h; cases h
          · exact h (by rw [hd', hd])) hlt
        simp only [Act.eval, Array.getD_eq_getD_getElem?, this, Nat.zero_add, Option.getD_some]
        exact h8
theorem wp_calm {id : Nat} {l : List Oper} {Q : Exit → Act → World → Prop} {a : Act} {w : World} {n : Nat} (A : List Nat) (plan : List (List Tmp × List Nat)) (ts : List Tmp) (lo : Nat) {L : List (Tmp × Fct)} [hL : StabL L]
    (hf : Fr n a) (hlo : lo ≤ w.heap.size) (hk : planX l l.length A {} plan ts n = true) (hb : Bund L a w)
    (h : ∀ w0, Grow w w0 → Chain { ops := l.toArray, l, a, L, w0, lo } (fun Fs => ∀ a' w', Fr n a' → Grow w w' → Keep ts a a' → NewsX {} l l.length Fs a' w' → Q .normal a' w') 0 [] l plan) :
    (Code.region id l.toArray true).wp Tryz.prog Q a w := by
  have hl : l ++ [] = l := List.append_nil l
  have := wp_calmx (id := id) (l1 := l) (l2 := []) (Q := Q) {} A plan ts lo hf hlo (by rw [hl]; exact hk) hb (fun w0 h1 _ => by rw [hl]; exact h w0 h1)
  rwa [hl] at this
theorem wp_calm_tail {id : Nat} {l1 l2 : List Oper} {Q : Exit → Act → World → Prop} {a : Act} {w : World} {n : Nat} (A : List Nat) (plan : List (List Tmp × List Nat)) (ts : List Tmp) (lo : Nat) {L : List (Tmp × Fct)} [hL : StabL L]
    (hf : Fr n a) (hlo : lo ≤ w.heap.size) (hk : planX (l1 ++ l2) l1.length A {} plan ts n = true) (hb : Bund L a w)
    (h : ∀ w0, Grow w w0 → Chain { ops := (l1 ++ l2).toArray, l := l1, a, L, w0, lo } (fun Fs => ∀ a' w', Fr n a' → Grow w w' → Keep ts a a' → NewsX {} l1 l1.length Fs a' w' → wpList Tryz.prog (l1 ++ l2).toArray Q l2 a' w') 0 [] l1 plan) :
    (Code.region id (l1 ++ l2).toArray true).wp Tryz.prog Q a w :=
  wp_calmx (id := id) {} A plan ts lo hf hlo hk hb (fun w0 h1 _ => h w0 h1)
def planSeg (l : List Oper) (plan : List (List Tmp × List Nat)) (kept : List Tmp) (size : Nat) : Bool :=
  plan.length == l.length &&
  l.zipIdx.all (fun (o, i) => l.zipIdx.all fun (o', j) => i == j || o.dst == none || o.dst != o'.dst) &&
  l.all (fun o => match o.dst with | some d => d < size | none => true) &&
  (l.zip plan).zipIdx.all (fun ((_, pl), i) =>
    (pl.1.all fun t => l.zipIdx.all fun (o', j) => o'.dst != some t || i ≤ j) && pl.2.all fun j => j < i) &&
  kept.all (fun t => l.all fun o => o.dst != some t)
theorem getD_put_of {a : Act} {o : Oper} {v : Value} {t : Tmp} (h : o.dst ≠ some t) : (a.put o.dst v).eval (.tmp t) = a.eval (.tmp t) :=
  Act.eval_put fun d hd e => by cases e; exact h hd
theorem wp_seg {ops : Array Oper} {l1 l2 : List Oper} {Q : Exit → Act → World → Prop} {a : Act} {w : World} {n : Nat} (plan : List (List Tmp × List Nat)) (ts : List Tmp) (lo : Nat) {L : List (Tmp × Fct)} [hL : StabL L]
    (hf : Fr n a) (hlo : lo ≤ w.heap.size) (hk : planSeg l1 plan ts n = true) (hb : Bund L a w)
    (h : Chain { ops, l := l1, a, L, w0 := w, lo } (fun Fs => ∀ a' w', Fr n a' → Grow w w' → Keep ts a a' → News l1 l1.length Fs a' w' → wpList Tryz.prog ops Q l2 a' w') 0 [] l1 plan) :
    wpList Tryz.prog ops Q (l1 ++ l2) a w := by
  unfold planSeg at hk
  simp only [Bool.and_eq_true, beq_iff_eq, List.all_eq_true, Bool.or_eq_true, bne_iff_ne, decide_eq_true_eq, Prod.forall, List.mem_zipIdx_iff_getElem?] at hk
  obtain ⟨⟨⟨⟨hlen, hdst⟩, hin⟩, hpl⟩, hkept⟩ := hk
  have hdst' : ∀ (i : Nat) (o : Oper) (j : Nat) (o' : Oper), l1[i]? = some o → l1[j]? = some o' → i ≠ j → o.dst ≠ none → o.dst ≠ o'.dst := fun i o j o' hi hj hne hn => by
    rcases hdst o i hi o' j hj with (h | h) | h
    · exact absurd h hne
    · exact absurd h hn
    · exact h
  have hin' : ∀ (j : Nat) (o : Oper) (d : Nat), l1[j]? = some o → o.dst = some d → d < n := fun j o d hj hd => by
    have := hin o (List.mem_of_getElem? hj)
    rw [hd] at this; simpa using this
  have go : ∀ (r : List Oper) (i : Nat) (Fs : List Fct) (pls : List (List Tmp × List Nat)) (ai : Act) (wi : World), (∀ (k : Nat) (o : Oper), r[k]? = some o → l1[i + k]? = some o) → i + r.length = l1.length →
      (∀ k, pls[k]? = plan[i + k]?) → Fs.length = i → (∀ F ∈ Fs, StabG F) →
      Chain { ops, l := l1, a, L, w0 := w, lo } (fun Fs => ∀ a' w', Fr n a' → Grow w w' → Keep ts a a' → News l1 l1.length Fs a' w' → wpList Tryz.prog ops Q l2 a' w') i Fs r pls →
      Fr n ai → Grow w wi → (∀ t, (∀ (j : Nat) (o : Oper), j < i → l1[j]? = some o → o.dst ≠ some t) → ai.eval (.tmp t) = a.eval (.tmp t)) →
      (∀ j k F, k + 1 + j = i → Fs[k]? = some F → Holds F (tmpVal ai.eval (l1.getD j default)) wi) → wpList Tryz.prog ops Q (r ++ l2) ai wi := by
    intro r
    induction r with
    | nil =>
      intro i Fs pls ai wi _ hil _ _ _ hch hfr hg hfree hnews
      simp only [List.length_nil, Nat.add_zero] at hil
      exact hch ai wi hfr hg (fun t ht => hfree t fun j o _ hj hd => hkept t (by simpa using ht) o (List.mem_of_getElem? hj) hd) fun j k F hjk hF => hnews j k F (by omega) hF
    | cons o r ih =>
      intro i Fs pls ai wi hr hil hps hFl hFs hch hfr hg hfree hnews
      have ho : l1[i]? = some o := by simpa using hr 0 o (by simp)
      cases pls with
      | nil => exact hch.elim
      | cons pl pls =>
        have hpli : plan[i]? = some pl := by simpa using (hps 0).symm
        obtain ⟨F, hs, _, hob, hrest⟩ := hch
        have hp2 := hpl o pl.1 pl.2 i (by simp [List.getElem?_zip_eq_some, ho, hpli])
        have hsit : Sit { ops, l := l1, a, L, w0 := w, lo } pl Fs i ai.eval wi := by
          refine ⟨base_eval ai, hg, Nat.le_trans hlo hg.size, fun p hp => (hL.up p hp).up _ _ _ hg (hb.mem p hp), fun t ht => hfree t fun j o' hj hlj hd => ?_, fun j _ k hk G hG => hnews j k G hk hG⟩
          rcases hp2.1 t ht o' j hlj with h | h
          · exact h hd
          · omega
        have h7 := hob ai.eval wi hsit
        simp only [rel_nil] at h7
        have next : ∀ v w', Grow wi w' → Holds F (keepV o v) w' → wpList Tryz.prog ops Q (r ++ l2) (ai.put o.dst v) w' := by
          intro v w' hg' hF
          have ps : (ai.put o.dst v).tmps.size = ai.tmps.size := by cases hd : o.dst <;> simp [Act.put]
          have pd : (ai.put o.dst v).defers = ai.defers := by cases hd : o.dst <;> rfl
          refine ih (i + 1) (F :: Fs) pls _ w' (fun k o' hk => by have := hr (k + 1) o' (by simpa using hk); rwa [show i + (k + 1) = i + 1 + k by omega] at this) (by simp at hil; omega)
            (fun k => by have := hps (k + 1); simp only [List.getElem?_cons_succ] at this; rwa [show i + (k + 1) = i + 1 + k by omega] at this) (by simp [hFl]) (fun G hG => by
              rcases List.mem_cons.1 hG with rfl | h
              · exact hs
              · exact hFs G h) hrest ⟨ps.trans hfr.size, pd.trans hfr.defers⟩ (hg.trans hg') (fun t ht => ?_) fun j k G hjk hG => ?_
          · rw [getD_put_of (ht i o (by omega) ho)]
            exact hfree t fun j o' hj hlj => ht j o' (by omega) hlj
          · cases k with
            | zero =>
              simp at hG; subst hG
              have : j = i := by omega
              subst this
              rw [List.getD_eq_getElem?_getD, ho]
              simp only [Option.getD_some]
              have : tmpVal (ai.put o.dst v).eval o = keepV o v := by
                unfold tmpVal keepV
                cases hd : o.dst with
                | none => rfl
                | some d =>
                  have := hin' j o d ho hd
                  simp [Act.put, Act.eval, hfr.size, this]
              rw [this]; exact hF
            | succ k =>
              have h0 := hnews j k G (by omega) (by simpa using hG)
              have hjl : j < l1.length := by have := (List.getElem?_eq_some_iff.1 ho).1; omega
              have hlj : l1[j]? = some l1[j] := by simp [hjl]
              rw [List.getD_eq_getElem?_getD, hlj] at h0 ⊢
              simp only [Option.getD_some] at h0 ⊢
              have : tmpVal (ai.put o.dst v).eval l1[j] = tmpVal ai.eval l1[j] := by
                unfold tmpVal
                cases hd : l1[j].dst with
                | none => rfl
                | some d =>
                  refine getD_put_of fun e => ?_
                  exact hdst' j l1[j] i o hlj ho (by omega) (by rw [hd]; simp) (by rw [hd, e])
              rw [this]
              exact (hFs G (List.mem_of_getElem? (by simpa using hG))).up _ _ _ hg' h0
        show wpList Tryz.prog ops Q (o :: (r ++ l2)) ai wi
        unfold wpList
        rw [wanted_eq]
        split
        · rename_i hw
          rw [if_pos hw] at h7
          refine .inl ?_
          unfold Oper.wp
          revert h7
          show givesOf Tryz.prog (fun v w' => Grow wi w' ∧ Holds F (keepV o v) w') ((execOp ai.eval o).run Tryz.prog wi) → _
          generalize (execOp ai.eval o).run Tryz.prog wi = rr
          cases rr with
          | ok n w' =>
            cases n <;> simp only [givesOf] <;> intro hh <;> simp only [Oper.upon]
            case value v => exact next v w' hh.1 hh.2
            case skip => exact next _ w' hh.1 hh.2
            case enter f args => exact hh.mono fun e w'' ⟨v, he, k1, k2⟩ => by subst he; exact next v w'' k1 k2
            all_goals exact hh.elim
          | halt x w' => exact fun hh => hh.elim
        · rename_i hw
          rw [if_neg hw] at h7
          have hk0 : Holds F (keepV o undef) wi := by unfold keepV; split <;> exact h7
          exact next undef wi (Grow.refl _) hk0
  exact go l1 0 [] plan a w (fun k o hk => by simpa using hk) (by simp) (fun k => by simp) rfl (fun _ h => by cases h) h hf (Grow.refl _) (fun _ _ => rfl) (fun j k F hjk hF => by simp at hF)
theorem bund_nil {a : Act} {w : World} : Bund [] a w := trivial
theorem bund_cons {t : Tmp} {F : Fct} {L : List (Tmp × Fct)} {a : Act} {w : World} (h : Holds F (a.eval (.tmp t)) w) (r : Bund L a w) : Bund ((t, F) :: L) a w := ⟨h, r⟩
theorem wp_all {ops : Array Oper} {l1 : List Oper} {Q : Exit → Act → World → Prop} {a : Act} {w : World} {n : Nat} (plan : List (List Tmp × List Nat)) (ts : List Tmp) (lo : Nat) {L : List (Tmp × Fct)} [StabL L]
    (hf : Fr n a) (hlo : lo ≤ w.heap.size) (hk : planSeg l1 plan ts n = true) (hb : Bund L a w)
    (h : Chain { ops, l := l1, a, L, w0 := w, lo } (fun Fs => ∀ a' w', Fr n a' → Grow w w' → Keep ts a a' → News l1 l1.length Fs a' w' → Q .normal a' w') 0 [] l1 plan) :
    wpList Tryz.prog ops Q l1 a w := by
  have := wp_seg (l2 := []) plan ts lo hf hlo hk hb h
  rwa [List.append_nil] at this
end Ex
end Go.Proofs.YtnmfiiejhoafnaaGreat
