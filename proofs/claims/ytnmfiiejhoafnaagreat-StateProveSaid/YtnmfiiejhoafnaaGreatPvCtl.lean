/- Calls, the flow of control, what a function returns. -/
import Derived.Test.YtnmfiiejhoafnaaGreatPvMem
import Derived.DeepKeys
import Derived.Laws.StructEq
set_option linter.unusedSimpArgs false
set_option linter.unusedVariables false
namespace Go.Proofs.YtnmfiiejhoafnaaGreat
namespace Ex
open Go Calm Go.RowKit
def Ret (w0 : World) (F : Fct) : Ending → World → Prop := fun e w' => ∃ v, e = .returned v ∧ Grow w0 w' ∧ Holds F v w'
noncomputable def callable (f : FuncId) : Bool := match Tryz.prog.funcs[f]? with
  | some fn => fn.name != "runtime.NumGoroutine" && fn.body.isSome
  | none => false
theorem run_call {d : Option Tmp} {f : FuncId} {args : Array Operand} {ats : Array TypeId} {ty : TypeId} {pos : String} {af : Array Edge} {g : Option (Nat × Bool)} {ρ : Operand → Value} {w : World}
    (hf : callable f = true) (hb : Base ρ) : (execOp ρ ⟨d, .call { callee := .value (.func f), args, argTypes := ats }, ty, pos, af, g⟩).run Tryz.prog w = .ok (.enter f (args.map ρ)) w := by
  unfold execOp
  simp only [resolve, hb.func, Deferred.ofValue, Sem.run_bind, Sem.run_pure, Result.andThen_ok, invoke, Array.empty_append, Array.append_empty]
  unfold callFunc
  unfold callable at hf
  cases h : Tryz.prog.funcs[f]? with
  | none => simp [h] at hf
  | some fn =>
    simp only [h, Bool.and_eq_true, bne_iff_ne] at hf
    have h2 : fn.body ≠ none := by intro e; rw [e] at hf; simp at hf
    simp [program, Sem.run, h, hf.1, h2]
def Con0 (f : FuncId) (F : Nat → Fct) : Prop := ∀ lo w, lo ≤ w.heap.size → Calls Tryz.prog f #[] w (Ret w (F lo))
def Con1 (f : FuncId) (G : Fct) (F : Nat → Fct) : Prop := ∀ lo v w, lo ≤ w.heap.size → Holds G v w → Calls Tryz.prog f #[v] w (Ret w (F lo))
def Con2 (f : FuncId) (G1 G2 : Fct) (F : Nat → Fct) : Prop := ∀ lo v1 v2 w, lo ≤ w.heap.size → Holds G1 v1 w → Holds G2 v2 w → Calls Tryz.prog f #[v1, v2] w (Ret w (F lo))
def Con3 (f : FuncId) (G1 G2 G3 : Fct) (F : Nat → Fct) : Prop := ∀ lo v1 v2 v3 w, lo ≤ w.heap.size → Holds G1 v1 w → Holds G2 v2 w → Holds G3 v3 w → Calls Tryz.prog f #[v1, v2, v3] w (Ret w (F lo))
def Con4 (f : FuncId) (G1 G2 G3 G4 : Fct) (F : Nat → Fct) : Prop := ∀ lo v1 v2 v3 v4 w, lo ≤ w.heap.size → Holds G1 v1 w → Holds G2 v2 w → Holds G3 v3 w → Holds G4 v4 w → Calls Tryz.prog f #[v1, v2, v3, v4] w (Ret w (F lo))
def Con5 (f : FuncId) (G1 G2 G3 G4 G5 : Fct) (F : Nat → Fct) : Prop := ∀ lo v1 v2 v3 v4 v5 w, lo ≤ w.heap.size → Holds G1 v1 w → Holds G2 v2 w → Holds G3 v3 w → Holds G4 v4 w → Holds G5 v5 w → Calls Tryz.prog f #[v1, v2, v3, v4, v5] w (Ret w (F lo))
section
variable {X : Reg} {pl : List Tmp × List Nat} {Fs : List Fct} {i : Nat} {d : Tmp} {ty : TypeId} {pos : String} {af : Array Edge} {g : Option (Nat × Bool)} {ats : Array TypeId} {f : FuncId} {F : Nat → Fct}
theorem ob_callN {args : Array Operand} {lo : Nat} (hf : callable f = true) (h : ∀ ρ w, Sit X pl Fs i ρ w → Calls Tryz.prog f (args.map ρ) w (Ret w (F lo))) :
    Ob X pl Fs i ⟨some d, .call { callee := .value (.func f), args, argTypes := ats }, ty, pos, af, g⟩ (F lo) := by
  constructor
  intro ρ w hs
  rw [run_call hf hs.base]
  exact (h ρ w hs).mono fun e w' ⟨v, he, h1, h2⟩ => ⟨v, he, h1, h2⟩
theorem ob_call0 (hf : callable f = true) (hc : Con0 f F) : Ob X pl Fs i ⟨some d, .call { callee := .value (.func f), args := #[], argTypes := ats }, ty, pos, af, g⟩ (F X.lo) :=
  ob_callN hf fun ρ w hs => by
    rw [show (#[] : Array Operand).map ρ = #[] by simp]; exact hc _ w (lo_le hs)
theorem ob_call1 {x : Operand} {G : Fct} (hf : callable f = true) (hc : Con1 f G F) (hx : ArgOK X pl Fs i x G) :
    Ob X pl Fs i ⟨some d, .call { callee := .value (.func f), args := #[x], argTypes := ats }, ty, pos, af, g⟩ (F X.lo) :=
  ob_callN hf fun ρ w hs => by
    rw [show (#[x] : Array Operand).map ρ = #[ρ x] by simp]; exact hc _ _ w (lo_le hs) (hx ρ w hs)
theorem ob_call2 {x y : Operand} {G1 G2 : Fct} (hf : callable f = true) (hc : Con2 f G1 G2 F) (hx : ArgOK X pl Fs i x G1) (hy : ArgOK X pl Fs i y G2) :
    Ob X pl Fs i ⟨some d, .call { callee := .value (.func f), args := #[x, y], argTypes := ats }, ty, pos, af, g⟩ (F X.lo) :=
  ob_callN hf fun ρ w hs => by
    rw [show (#[x, y] : Array Operand).map ρ = #[ρ x, ρ y] by simp]; exact hc _ _ _ w (lo_le hs) (hx ρ w hs) (hy ρ w hs)
theorem ob_call3 {x y z : Operand} {G1 G2 G3 : Fct} (hf : callable f = true) (hc : Con3 f G1 G2 G3 F) (hx : ArgOK X pl Fs i x G1) (hy : ArgOK X pl Fs i y G2) (hz : ArgOK X pl Fs i z G3) :
    Ob X pl Fs i ⟨some d, .call { callee := .value (.func f), args := #[x, y, z], argTypes := ats }, ty, pos, af, g⟩ (F X.lo) :=
  ob_callN hf fun ρ w hs => by
    rw [show (#[x, y, z] : Array Operand).map ρ = #[ρ x, ρ y, ρ z] by simp]; exact hc _ _ _ _ w (lo_le hs) (hx ρ w hs) (hy ρ w hs) (hz ρ w hs)
theorem ob_call4 {x y z u : Operand} {G1 G2 G3 G4 : Fct} (hf : callable f = true) (hc : Con4 f G1 G2 G3 G4 F) (hx : ArgOK X pl Fs i x G1) (hy : ArgOK X pl Fs i y G2) (hz : ArgOK X pl Fs i z G3) (hu : ArgOK X pl Fs i u G4) :
    Ob X pl Fs i ⟨some d, .call { callee := .value (.func f), args := #[x, y, z, u], argTypes := ats }, ty, pos, af, g⟩ (F X.lo) :=
  ob_callN hf fun ρ w hs => by
    rw [show (#[x, y, z, u] : Array Operand).map ρ = #[ρ x, ρ y, ρ z, ρ u] by simp]; exact hc _ _ _ _ _ w (lo_le hs) (hx ρ w hs) (hy ρ w hs) (hz ρ w hs) (hu ρ w hs)
theorem ob_call5 {x y z u v : Operand} {G1 G2 G3 G4 G5 : Fct} (hf : callable f = true) (hc : Con5 f G1 G2 G3 G4 G5 F) (hx : ArgOK X pl Fs i x G1) (hy : ArgOK X pl Fs i y G2) (hz : ArgOK X pl Fs i z G3) (hu : ArgOK X pl Fs i u G4) (hv : ArgOK X pl Fs i v G5) :
    Ob X pl Fs i ⟨some d, .call { callee := .value (.func f), args := #[x, y, z, u, v], argTypes := ats }, ty, pos, af, g⟩ (F X.lo) :=
  ob_callN hf fun ρ w hs => by
    rw [show (#[x, y, z, u, v] : Array Operand).map ρ = #[ρ x, ρ y, ρ z, ρ u, ρ v] by simp]; exact hc _ _ _ _ _ _ w (lo_le hs) (hx ρ w hs) (hy ρ w hs) (hz ρ w hs) (hu ρ w hs) (hv ρ w hs)
end
theorem frame_fr {args : Array Value} {n : Nat} (h : args.size ≤ n) : Fr n { tmps := args ++ Array.replicate (n - args.size) undef, defers := [] } := ⟨by simp; omega, rfl⟩
theorem frame_arg {args : Array Value} {n k : Nat} {v : Value} (h : args[k]? = some v) : ({ tmps := args ++ Array.replicate (n - args.size) undef, defers := [] } : Act).eval (.tmp k) = v := by
  have hk : k < args.size := (Array.getElem?_eq_some_iff.1 h).1
  simp only [Act.eval, Array.getD_eq_getD_getElem?]
  rw [Array.getElem?_append_left hk, h]; rfl
theorem enter {f : FuncId} {fn : Func} {c : Code} {args : Array Value} {w : World} {R : Ending → World → Prop} (hf : Tryz.prog.funcs[f]? = some fn) (hb : fn.body = some c) {n : Nat} (hn : fn.ntmps = n) (hs : args.size ≤ n)
    (h : ∀ a, Fr n a → (∀ (k : Nat) (v : Value), args[k]? = some v → a.eval (.tmp k) = v) → c.wp Tryz.prog (bodyPost Tryz.prog fn R) a w) : Calls Tryz.prog f args w R := by
  refine calls_of_wp hf hb ?_
  rw [hn]
  exact h _ (frame_fr hs) fun k v hk => frame_arg hk
theorem arg_holds {args : Array Value} {a : Act} (ha : ∀ (k : Nat) (v : Value), args[k]? = some v → a.eval (.tmp k) = v) {k : Nat} {v : Value} {F : Fct} {w : World} (h : args[k]? = some v) (hv : Holds F v w) : Holds F (a.eval (.tmp k)) w := by
  rw [ha k v h]; exact hv
theorem cond_norm : (∀ (p : Prop) [Decidable p], (decide p = true) = p) ∧ (∀ (p : Prop) [Decidable p], (decide p = false) = ¬p) ∧ (∀ a b : Bool, ((a || b) = true) = (a = true ∨ b = true)) ∧ (∀ a b : Bool, ((a || b) = false) = (a = false ∧ b = false)) ∧
    (∀ a b : Bool, ((a && b) = true) = (a = true ∧ b = true)) ∧ (∀ a b : Bool, ((a && b) = false) = (a = false ∨ b = false)) ∧ (∀ a : Bool, ((!a) = true) = (a = false)) ∧ (∀ a : Bool, ((!a) = false) = (a = true)) ∧ ((true = false) = False) ∧ ((false = true) = False) ∧
    (∀ (α : Type) (a b : α), (a ≠ b) = ¬ (a = b)) ∧ (∀ (p : Prop) [Decidable p], (¬¬p) = p) := by
  refine ⟨fun p _ => by simp, fun p _ => by simp, fun a b => by simp, fun a b => by simp, fun a b => by simp, fun a b => by cases a <;> cases b <;> simp, fun a => by simp, fun a => by simp, by simp, by simp, fun _ _ _ => rfl, fun p _ => by simp⟩
section
variable {Q : Exit → Act → World → Prop} {a : Act} {w : World}
theorem then_ {K : Act → World → Prop} (h : K a w) : Exit.then K Q .normal a w := h
theorem thenX {K : Act → World → Prop} {id : Nat} (h : Q (.exit id) a w) : Exit.then K Q (.exit id) a w := h
theorem thenR {K : Act → World → Prop} (h : Q .ret a w) : Exit.then K Q .ret a w := h
theorem blockN {id : Nat} (h : Q .normal a w) : Exit.inBlock id Q .normal a w := h
theorem blockX {id : Nat} (h : Q .normal a w) : Exit.inBlock id Q (.exit id) a w := by simp [Exit.inBlock, h]
theorem blockR {id : Nat} (h : Q .ret a w) : Exit.inBlock id Q .ret a w := h
theorem wp_if {c : Operand} {x y : Code} {b : Bool} (hc : Holds (Is (.bool b)) (a.eval c) w) (h1 : b = true → x.wp Tryz.prog Q a w) (h2 : b = false → y.wp Tryz.prog Q a w) : (Code.cond c x y).wp Tryz.prog Q a w :=
  wp_cond_split (t := b) hc h1 h2
theorem wp_loopL {α : Type} {c : Code} (I : α → Act → World → Prop) (m : α → Nat) (x0 : α) (h0 : I x0 a w)
    (round : ∀ x a w, I x a w → c.wp Tryz.prog (Exit.then (fun a' w' => ∃ y, m y < m x ∧ I y a' w') Q) a w) : (Code.loop c).wp Tryz.prog Q a w := by
  intro b k cs
  have key : ∀ n x a w, m x = n → I x a w → ∃ e a' w', Q e a' w' ∧ Arrives Tryz.prog (lone (b.at a (.code c :: .inLoop c :: k)) cs w) b k cs e a' w' := by
    intro n
    induction n using Nat.strongRecOn with
    | _ n ih =>
      intro x a w hn hI
      obtain ⟨e, a₁, w₁, hq, harr⟩ := round x a w hI b (.inLoop c :: k) cs
      cases e with
      | normal =>
        obtain ⟨y, hlt, hI₁⟩ := hq
        obtain ⟨e₂, a₂, w₂, hq₂, harr₂⟩ := ih (m y) (hn ▸ hlt) y a₁ w₁ rfl hI₁
        exact ⟨e₂, a₂, w₂, hq₂, .of_steps (Steps.trans harr (.one step_inLoop)) harr₂⟩
      | exit id => exact ⟨_, a₁, w₁, hq, .pass (x := .inLoop c) rfl (fun _ _ => .inl (by simp)) harr⟩
      | goto l => exact ⟨_, a₁, w₁, hq, .pass (x := .inLoop c) rfl (fun _ _ => .inl (by simp)) harr⟩
      | ret => exact ⟨_, a₁, w₁, hq, .pass (x := .inLoop c) rfl (fun _ _ => .inl (by simp)) harr⟩
      | panic ch => exact ⟨_, a₁, w₁, hq, .pass (x := .inLoop c) rfl (fun _ _ => .inl (by simp)) harr⟩
      | outgrown => exact ⟨_, a₁, w₁, hq, .pass (x := .inLoop c) rfl (fun _ _ => .inl (by simp)) harr⟩
  obtain ⟨e, a', w', hq, harr⟩ := key _ x0 a w rfl h0
  exact ⟨e, a', w', hq, .of_steps (.one step_loop) harr⟩
variable {n : Nat} {fn : Func} {w0 : World} {F G : Fct}
theorem ret_tmp {t : Tmp} (hr : fn.results = #[.tmp t]) (hf : Fr n a) (hg : Grow w0 w) (h : Holds F (a.eval (.tmp t)) w) : bodyPost Tryz.prog fn (Ret w0 F) .ret a w :=
  ⟨hf.defers, _, results_tmp hr _ _ _, _, rfl, hg, h⟩
theorem ret_tmp2 {t u : Tmp} (hr : fn.results = #[.tmp t, .tmp u]) (hf : Fr n a) (hg : Grow w0 w) (h : Holds F (a.eval (.tmp t)) w) (h' : Holds G (a.eval (.tmp u)) w) : bodyPost Tryz.prog fn (Ret w0 (Two F G)) .ret a w :=
  ⟨hf.defers, _, results_tmp2 hr _ _ _, _, rfl, hg, _, _, rfl, h, h'⟩
theorem ret_cell {t : Tmp} {ty : TypeId} {dsc : TypeDesc} {cs : List Value} (hr : fn.results = #[.cell t ty]) (hu : Tryz.prog.underlying ty = some dsc) (hd : aggD dsc = true) (hi : (Tryz.prog.info? ty).map (·.size) = some cs.length)
    (hf : Fr n a) (hg : Grow w0 w) (hp : Holds (PtrC cs) (a.eval (.tmp t)) w) (h : Holds F (.agg cs.toArray) w) : bodyPost Tryz.prog fn (Ret w0 F) .ret a w := by
  obtain ⟨b, o, h1, h2⟩ := hp
  refine ⟨hf.defers, .agg cs.toArray, ?_, _, rfl, hg, h⟩
  have h1' : a.tmps[t]?.getD undef = .pointer (some ⟨b, o, none⟩) := by simpa [Act.eval] using h1
  simp [results, hr, h1', asAddr, run_load_agg hu hd hi h2]
theorem ret_cell_tmp {t u : Tmp} {ty : TypeId} {dsc : TypeDesc} {cs : List Value} (hr : fn.results = #[.cell t ty, .tmp u]) (hu : Tryz.prog.underlying ty = some dsc) (hd : aggD dsc = true) (hi : (Tryz.prog.info? ty).map (·.size) = some cs.length)
    (hf : Fr n a) (hg : Grow w0 w) (hp : Holds (PtrC cs) (a.eval (.tmp t)) w) (h : Holds F (.agg cs.toArray) w) (h' : Holds G (a.eval (.tmp u)) w) : bodyPost Tryz.prog fn (Ret w0 (Two F G)) .ret a w := by
  obtain ⟨b, o, h1, h2⟩ := hp
  refine ⟨hf.defers, .tuple #[.agg cs.toArray, a.eval (.tmp u)], ?_, _, rfl, hg, _, _, rfl, h, h'⟩
  have h1' : a.tmps[t]?.getD undef = .pointer (some ⟨b, o, none⟩) := by simpa [Act.eval] using h1
  simp [results, hr, h1', asAddr, run_load_agg hu hd hi h2, Act.eval]
end
theorem setRow_below {w : World} {g lo : Nat} {cs : Array Value} (h : lo ≤ g) : Below lo w (w.setRow g cs) :=
  ⟨rfl, rfl, rfl, by simp, fun k hk => setRow_other w g k cs (by omega)⟩
theorem run_eq_key {t : TypeId} {m D D' : Nat} {xs ys : Array Value} {la lb : List Lit} {b : Bool} (hk : Tryz.prog.keyTypeAt m t = true) (hm : m ≤ 10000) (fx : (Value.agg xs).formed Tryz.prog t = true) (fy : (Value.agg ys).formed Tryz.prog t = true)
    (hx : Tryz.prog.keyLits D t xs.toList = some la) (hy : Tryz.prog.keyLits D' t ys.toList = some lb) (hb : b = true ↔ la = lb) (w : World) : (Op.equalIn 10000 t (.agg xs) (.agg ys)).run Tryz.prog w = .ok b w := by
  obtain ⟨r, hr, hiff⟩ := run_equalIn_deep (P := Tryz.prog) (10000 - m) m t hk w D D' (.agg xs) (.agg ys) la lb fx fy hx hy
  rw [Nat.sub_add_cancel hm] at hr
  have : r = b := by rw [Bool.eq_iff_iff, hiff, hb]
  rw [← this, hr]
theorem eqGuard_agg {op : BinOp} {t : TypeId} {x y : Operand} {xs ys : Array Value} (h : Tryz.prog.eqGuardType Tryz.prog.depth t = false) (w : World) : (eqGuard op t x y (.agg xs) (.agg ys)).run Tryz.prog w = .ok () w := by
  cases op <;> simp [eqGuard, program, Sem.run, h]
section
variable {X : Reg} {pl : List Tmp × List Nat} {Fs : List Fct} {i : Nat} {d : Tmp} {ty : TypeId} {pos : String} {af : Array Edge} {g : Option (Nat × Bool)}
theorem ob_eqkey {t yt : TypeId} {x y : Operand} {m D D' : Nat} {xs ys : Array Value} {la lb : List Lit} {b : Bool} (hx : ArgOK X pl Fs i x (Is (.agg xs))) (hy : ArgOK X pl Fs i y (Is (.agg ys)))
    (hk : Tryz.prog.keyTypeAt m t = true) (hm : m ≤ 10000) (hgd : Tryz.prog.eqGuardType Tryz.prog.depth t = false) (fx : (Value.agg xs).formed Tryz.prog t = true) (fy : (Value.agg ys).formed Tryz.prog t = true)
    (h1 : Tryz.prog.keyLits D t xs.toList = some la) (h2 : Tryz.prog.keyLits D' t ys.toList = some lb) (hb : b = true ↔ la = lb) :
    Ob X pl Fs i ⟨some d, .binOp .eql t x y yt, ty, pos, af, g⟩ (Is (.bool b)) := by
  refine ob_same ?_
  intro ρ w hs
  have e1 : ρ x = .agg xs := hx ρ w hs
  have e2 : ρ y = .agg ys := hy ρ w hs
  refine ⟨_, ?_, rfl⟩
  unfold execOp
  refine exec_v _ _ _ _ _ ?_
  rw [e1, e2, Sem.run_bind, eqGuard_agg hgd, Result.andThen_ok, run_eql_struct, run_eq_key hk hm fx fy h1 h2 hb]; rfl
theorem ob_neqkey {t yt : TypeId} {x y : Operand} {m D D' : Nat} {xs ys : Array Value} {la lb : List Lit} {b : Bool} (hx : ArgOK X pl Fs i x (Is (.agg xs))) (hy : ArgOK X pl Fs i y (Is (.agg ys)))
    (hk : Tryz.prog.keyTypeAt m t = true) (hm : m ≤ 10000) (hgd : Tryz.prog.eqGuardType Tryz.prog.depth t = false) (fx : (Value.agg xs).formed Tryz.prog t = true) (fy : (Value.agg ys).formed Tryz.prog t = true)
    (h1 : Tryz.prog.keyLits D t xs.toList = some la) (h2 : Tryz.prog.keyLits D' t ys.toList = some lb) (hb : b = true ↔ la = lb) :
    Ob X pl Fs i ⟨some d, .binOp .neq t x y yt, ty, pos, af, g⟩ (Is (.bool !b)) := by
  refine ob_same ?_
  intro ρ w hs
  have e1 : ρ x = .agg xs := hx ρ w hs
  have e2 : ρ y = .agg ys := hy ρ w hs
  refine ⟨_, ?_, rfl⟩
  unfold execOp
  refine exec_v _ _ _ _ _ ?_
  rw [e1, e2, Sem.run_bind, eqGuard_agg hgd, Result.andThen_ok, run_neq_struct, run_eq_key hk hm fx fy h1 h2 hb]; rfl
end
end Ex
end Go.Proofs.YtnmfiiejhoafnaaGreat
