/- The rule for regions whose order is left open, widened: how the values stand to each other; one operation that may come up beside the first of the tail. -/
import Derived.Test.YtnmfiiejhoafnaaSmCalm
set_option linter.unusedSimpArgs false
set_option linter.unusedVariables false
namespace Go.Proofs.Ytnmfiiejhoafnaa
namespace Calm
open Go
def Obl2 (P : Program) (l : List Oper) (A : List Nat) (a0 : Act) (C : World → Prop) (S : Nat → World → World → Prop) (F : Nat → Fct) (R : Nat → Nat → Value → Value → Prop) (i : Nat) (o : Oper) : Prop :=
  ∀ (ρ : Operand → Value) (w : World), Base ρ → C w → (∀ t ∈ frees l A i o, ρ (.tmp t) = a0.eval (.tmp t)) →
    (∀ j ∈ direct o, F j (tmpVal ρ (l.getD j o)) w) →
    if wantedBy l.toArray o ρ then givesOf P (fun v w' => C w' ∧ S i w w' ∧ F i (keepV o v) w' ∧ ∀ k vk, F k vk w → R i k (keepV o v) vk) ((execOp ρ o).run P w) else F i undef w ∧ ∀ k vk, F k vk w → R i k undef vk
def Obl2sFrom (P : Program) (l : List Oper) (A : List Nat) (a0 : Act) (C : World → Prop) (S : Nat → World → World → Prop) (F : Nat → Fct) (R : Nat → Nat → Value → Value → Prop) : Nat → List Oper → Prop
  | _, [] => True
  | i, o :: rest => Obl2 P l A a0 C S F R i o ∧ Obl2sFrom P l A a0 C S F R (i + 1) rest
theorem Obl2sFrom.at {P : Program} {l : List Oper} {A : List Nat} {a0 : Act} {C : World → Prop} {S : Nat → World → World → Prop} {F : Nat → Fct} {R : Nat → Nat → Value → Value → Prop} :
    ∀ (r : List Oper) (i : Nat), Obl2sFrom P l A a0 C S F R i r → ∀ k o, r[k]? = some o → Obl2 P l A a0 C S F R (i + k) o
  | [], _, _, k, o, h => by simp at h
  | o :: r, i, h, 0, o', hk => by simp at hk; subst hk; exact h.1
  | o :: r, i, h, k + 1, o', hk => by
    have := Obl2sFrom.at r (i + 1) h.2 k o' (by simpa using hk)
    rwa [Nat.add_assoc, Nat.add_comm 1 k] at this
end Calm
end Go.Proofs.Ytnmfiiejhoafnaa
