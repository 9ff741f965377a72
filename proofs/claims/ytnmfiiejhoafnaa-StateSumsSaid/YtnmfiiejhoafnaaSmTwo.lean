/- Regions whose order is left open, that make two variables of their own, or in which an operation may come up beside the first store. -/
import Derived.Test.YtnmfiiejhoafnaaSmCalm2
import Derived.Test.YtnmfiiejhoafnaaSmApp
set_option linter.unusedSimpArgs false
set_option linter.unusedVariables false
namespace Go.Proofs.Ytnmfiiejhoafnaa
namespace Ex
open Go Calm Go.RowKit
def Apart (l : List Oper) (al : List Nat) (a : Act) : Prop := ∀ i k, al.contains i = true → al.contains k = true → i ≠ k → tmpVal a.eval (l.getD i default) ≠ tmpVal a.eval (l.getD k default)
theorem Apart.at {l : List Oper} {al : List Nat} {a : Act} (h : Apart l al a) (i k : Nat) {d e : Tmp} (hi : al.contains i = true) (hk : al.contains k = true) (hne : (i == k) = false) (hd : (l.getD i default).dst = some d) (he : (l.getD k default).dst = some e) {w w' : World} {x y : Nat}
    (hx : Holds (Is (PtrV x)) (a.eval (.tmp d)) w) (hy : Holds (Is (PtrV y)) (a.eval (.tmp e)) w') : x ≠ y := by
  have h0 := h i k hi hk (by simpa using hne)
  unfold tmpVal at h0
  rw [hd, he] at h0
  simp only at h0
  intro hxy
  subst hxy
  have h1 : a.eval (.tmp d) = PtrV x := hx
  have h2 : a.eval (.tmp e) = PtrV x := hy
  rw [h1, h2] at h0
  exact h0 rfl
def NewsBut (b : Nat) (l : List Oper) (n : Nat) (Fs : List Fct) (a : Act) (w : World) : Prop := ∀ j k F, k + 1 + j = n → (j == b) = false → Fs[k]? = some F → Holds F (tmpVal a.eval (l.getD j default)) w
theorem NewsBut.at {b : Nat} {l : List Oper} {n : Nat} {Fs : List Fct} {a : Act} {w : World} (h : NewsBut b l n Fs a w) (j k : Nat) {F : Fct} {d : Tmp} (hF : Fs[k]? = some F) (hn : k + 1 + j = n)
    (hd : (l.getD j default).dst = some d) (hb : (j == b) = false := by rfl) : Holds F (a.eval (.tmp d)) w := by
  have := h j k F hn hb hF
  unfold tmpVal at this
  rw [hd] at this
  exact this
end Ex
end Go.Proofs.Ytnmfiiejhoafnaa
