/- Calls that write into a row, in a caller's walk. -/
import Derived.Test.YtnmfiiejhoafnaaGreatPvRow4
import Derived.Test.YtnmfiiejhoafnaaGreatPvState3
set_option linter.unusedSimpArgs false
set_option linter.unusedVariables false
namespace Go.Proofs.YtnmfiiejhoafnaaGreat
namespace Ex
open Go Calm Go.RowKit
theorem wl_callI {α : Type} {T : El α} {ops : Array Oper} {rest : List Oper} {Q : Exit → Act → World → Prop} {a : Act} {wl wm w : World} {d n f : Nat} {x y z : Operand} {ats : Array TypeId} {ty : TypeId} {pos : String} {af : Array Edge} {l m r : List α} {v yv : Value}
    (ts : List Tmp) (hf : Fr n a) (hd : decide (d < n) = true) (hts : ts.contains d = false) (hc : callable f = true) (con : ConI f T l yv m r) (hs : wl.heap.size ≤ wm.heap.size) (hx : Holds (Is v) (a.eval x) w) (hv : Holds (OwnS wl.heap.size T l) v wm) (hg : Grow wm w) (hy : Holds (Is yv) (a.eval y) w) (hz : Holds (OwnS wm.heap.size T m) (a.eval z) w)
    (h : ∀ a' w', Fr n a' → Wr wl.heap.size T.tid w w' → Keep ts a a' → Holds (OwnS wl.heap.size T r) (a'.eval (.tmp d)) w' → wpList Tryz.prog ops Q rest a' w') :
    wpList Tryz.prog ops Q (⟨some d, .call { callee := .value (.func f), args := #[x, y, z], argTypes := ats }, ty, pos, af, none⟩ :: rest) a w := by
  have e1 : a.eval x = v := hx
  have e2 : a.eval y = yv := hy
  have hd' : d < n := of_decide_eq_true hd
  unfold wpList
  rw [if_pos (by simp [Region.wanted])]
  refine .inl ?_
  unfold Oper.wp
  rw [run_call hc (base_eval a), show (#[x, y, z] : Array Operand).map a.eval = #[a.eval x, a.eval y, a.eval z] by simp, e1, e2]
  refine (con wl wm v _ w hs hv hg hz).mono fun e w' ⟨u, he, h1, h2⟩ => ?_
  subst he
  exact h _ w' (fr_put hf) h1 (fun u hu => eval_put_ne fun e => (by subst e; rw [hts] at hu; cases hu)) (by rw [eval_put_eq hf hd']; exact h2)
theorem wl_callD {α : Type} {T : El α} {ops : Array Oper} {rest : List Oper} {Q : Exit → Act → World → Prop} {a : Act} {wl w : World} {d n f : Nat} {x y z : Operand} {ats : Array TypeId} {ty : TypeId} {pos : String} {af : Array Edge} {l r : List α} {v yv zv : Value}
    (ts : List Tmp) (hf : Fr n a) (hd : decide (d < n) = true) (hts : ts.contains d = false) (hc : callable f = true) (con : ConD f T l yv zv r) (hs : wl.heap.size ≤ w.heap.size) (hx : Holds (Is v) (a.eval x) w) (hv : Holds (OwnS wl.heap.size T l) v w) (hy : Holds (Is yv) (a.eval y) w) (hz : Holds (Is zv) (a.eval z) w)
    (h : ∀ a' w', Fr n a' → Wr wl.heap.size T.tid w w' → Keep ts a a' → Holds (OwnS wl.heap.size T r) (a'.eval (.tmp d)) w' → wpList Tryz.prog ops Q rest a' w') :
    wpList Tryz.prog ops Q (⟨some d, .call { callee := .value (.func f), args := #[x, y, z], argTypes := ats }, ty, pos, af, none⟩ :: rest) a w := by
  have e1 : a.eval x = v := hx
  have e2 : a.eval y = yv := hy
  have e3 : a.eval z = zv := hz
  have hd' : d < n := of_decide_eq_true hd
  unfold wpList
  rw [if_pos (by simp [Region.wanted])]
  refine .inl ?_
  unfold Oper.wp
  rw [run_call hc (base_eval a), show (#[x, y, z] : Array Operand).map a.eval = #[a.eval x, a.eval y, a.eval z] by simp, e1, e2, e3]
  refine (con wl v w hs hv).mono fun e w' ⟨u, he, h1, h2⟩ => ?_
  subst he
  exact h _ w' (fr_put hf) h1 (fun u hu => eval_put_ne fun e => (by subst e; rw [hts] at hu; cases hu)) (by rw [eval_put_eq hf hd']; exact h2)
theorem bef_le {α : Type} {c : α → α → Int} {l : List α} {x : α} : 0 ≤ bef c l x ∧ bef c l x ≤ (l.length : Int) := by
  unfold bef
  split
  · next h => exact ⟨h, by have := (idx_lt h).1; omega⟩
  · omega
end Ex
end Go.Proofs.YtnmfiiejhoafnaaGreat
