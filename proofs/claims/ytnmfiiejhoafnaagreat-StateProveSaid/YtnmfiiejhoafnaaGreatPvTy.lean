/- The values that the program handles: names, cells, entries, locks; slices of them; pointers to them; and what a list of them looks like in memory. -/
import Derived.Test.YtnmfiiejhoafnaaGreatPvEx
set_option linter.unusedSimpArgs false
set_option linter.unusedVariables false
namespace Go.Proofs.YtnmfiiejhoafnaaGreat
namespace Ex
open Go Calm Go.RowKit
abbrev intV (n : Int) : Value := .int .i64 n
def u64V (x : UInt64) : Value := .int .u64 (x.toNat : Int)
def byteV (x : UInt8) : Value := .int .u8 (x.toNat : Int)
def nb (n : UInt64) (i : Nat) : UInt8 := UInt8.ofNat (n.toNat / 2 ^ (56 - 8 * i))
def nmBytes (n : UInt64) : List UInt8 := [nb n 0, nb n 1, nb n 2, nb n 3, nb n 4, nb n 5, nb n 6, nb n 7]
def nmCells (n : UInt64) : List Value := [byteV (nb n 0), byteV (nb n 1), byteV (nb n 2), byteV (nb n 3), byteV (nb n 4), byteV (nb n 5), byteV (nb n 6), byteV (nb n 7)]
def nmV (n : UInt64) : Value := .agg (nmCells n).toArray
structure GCell where
  kind : Int64
  id : Int64
  lock : UInt64
  deriving DecidableEq
def cellCells (c : GCell) : List Value := [intV c.kind.toInt, intV c.id.toInt, byteV (nb c.lock 0), byteV (nb c.lock 1), byteV (nb c.lock 2), byteV (nb c.lock 3), byteV (nb c.lock 4), byteV (nb c.lock 5), byteV (nb c.lock 6), byteV (nb c.lock 7)]
def cellV (c : GCell) : Value := .agg (cellCells c).toArray
structure GDelta where
  cell : GCell
  amount : Int64
  deriving DecidableEq
def deltaCells (d : GDelta) : List Value := cellCells d.cell ++ [intV d.amount.toInt]
def deltaV (d : GDelta) : Value := .agg (deltaCells d).toArray
structure GLock where
  name : UInt64
  hash : UInt64
  owner : Int64
  to : Int64
  till : Int64
  deriving DecidableEq
def lockCells (k : GLock) : List Value := nmCells k.name ++ (nmCells k.hash ++ [intV k.owner.toInt, intV k.to.toInt, intV k.till.toInt])
def lockV (k : GLock) : Value := .agg (lockCells k).toArray
structure El (α : Type) where
  tid : TypeId
  size : Nat
  bytes : Nat
  cells : α → List Value
  agg : Bool
  len : ∀ x, (cells x).length = size
  one : ∀ x, ∀ v ∈ cells x, v.oneCell' = true
  pos : 0 < size
def El.val {α : Type} (T : El α) (x : α) : Value := if T.agg then .agg (T.cells x).toArray else (T.cells x).headD undef
def elNm : El UInt64 := { tid := 30, size := 8, bytes := 8, cells := nmCells, agg := true, len := fun _ => rfl, one := fun x v hv => by simp [nmCells, byteV] at hv; rcases hv with rfl | rfl | rfl | rfl | rfl | rfl | rfl | rfl <;> rfl, pos := by decide }
def elInt : El Int := { tid := 3, size := 1, bytes := 8, cells := fun n => [intV n], agg := false, len := fun _ => rfl, one := fun x v hv => by simp at hv; subst hv; rfl, pos := by decide }
def elByte : El UInt8 := { tid := 5, size := 1, bytes := 1, cells := fun n => [byteV n], agg := false, len := fun _ => rfl, one := fun x v hv => by simp at hv; subst hv; rfl, pos := by decide }
theorem one_delta (x : GDelta) (v : Value) (hv : v ∈ deltaCells x) : v.oneCell' = true := by
  simp [deltaCells, cellCells, byteV] at hv
  rcases hv with rfl | rfl | rfl | rfl | rfl | rfl | rfl | rfl | rfl | rfl | rfl <;> rfl
theorem one_lock (x : GLock) (v : Value) (hv : v ∈ lockCells x) : v.oneCell' = true := by
  simp [lockCells, nmCells, byteV] at hv
  rcases hv with rfl | rfl | rfl | rfl | rfl | rfl | rfl | rfl | rfl | rfl | rfl | rfl | rfl | rfl | rfl | rfl | rfl | rfl | rfl <;> rfl
def elDelta : El GDelta := { tid := 54, size := 11, bytes := 32, cells := deltaCells, agg := true, len := fun _ => rfl, one := one_delta, pos := by decide }
def elLock : El GLock := { tid := 32, size := 19, bytes := 40, cells := lockCells, agg := true, len := fun _ => rfl, one := one_lock, pos := by decide }
def Cells (b o : Nat) (cs : List Value) (w : World) : Prop := ∀ j x, cs[j]? = some x → w.cell? ⟨b, o + j, none⟩ = some x
theorem Cells.up {b o : Nat} {cs : List Value} {w w' : World} (hg : Grow w w') (h : Cells b o cs w) : Cells b o cs w' := fun j x hj => hg.cell (h j x hj)
theorem Cells.sub {b o : Nat} {cs ds : List Value} {w : World} (h : Cells b o cs w) (k : Nat) (hs : ∀ j x, ds[j]? = some x → cs[k + j]? = some x) : Cells b (o + k) ds w := fun j x hj => by
  rw [Nat.add_assoc]; exact h (k + j) x (hs j x hj)
def PtrC (cs : List Value) : Fct := fun v w => ∃ b o, v = .pointer (some ⟨b, o, none⟩) ∧ Cells b o cs w
instance {cs : List Value} : StabG (PtrC cs) := stabG (fun _ _ _ hg ⟨b, o, e, h⟩ => ⟨b, o, e, h.up hg⟩)
def OwnB (lo : Nat) (cs : List Value) : Fct := fun v w => ∃ g e, lo ≤ g ∧ v = .pointer (some ⟨g, 0, none⟩) ∧ w.heap[g]? = some (.cells cs.toArray e (0, 0))
instance {lo : Nat} {cs : List Value} : StabG (OwnB lo cs) := stabG (fun _ _ _ hg ⟨g, e, hl, hv, h⟩ => ⟨g, e, hl, hv, (hg.block (Array.getElem?_eq_some_iff.1 h).1).trans h⟩)
theorem OwnB.ptr {lo : Nat} {cs : List Value} {v : Value} {w : World} (h : Holds (OwnB lo cs) v w) : Holds (PtrC cs) v w := by
  obtain ⟨g, e, _, hv, h⟩ := h
  refine ⟨g, 0, hv, fun j x hj => ?_⟩
  rw [Nat.zero_add, cell_of_row w g j cs.toArray e (0, 0) h]
  simpa using hj
def Sl {α : Type} (T : El α) (l : List α) : Fct := fun v w => ∃ (a : Option (Nat × Nat)) (c : Nat), v = .slice (a.map fun p => ⟨p.1, p.2, none⟩) l.length c ∧ l.length ≤ c ∧ (a = none → l = [] ∧ c = 0) ∧
  ∀ p, a = some p → ∀ i x, l[i]? = some x → Cells p.1 (p.2 + i * T.size) (T.cells x) w
instance {α : Type} {T : El α} {l : List α} : StabG (Sl T l) := stabG (fun _ _ _ hg ⟨a, c, hv, h1, h2, h3⟩ => ⟨a, c, hv, h1, h2, fun p hp i x hi => (h3 p hp i x hi).up hg⟩)
def OwnS {α : Type} (lo : Nat) (T : El α) (l : List α) : Fct := fun v w => w.ownsRow lo T.tid T.size v l.length (l.flatMap T.cells)
theorem grown_of_grow {w w' : World} (h : Grow w w') : w.grownBy w' none := ⟨h.os, h.tape, h.output, h.size, fun _ hk _ => h.block hk⟩
instance {α : Type} {lo : Nat} {T : El α} {l : List α} : StabG (OwnS lo T l) := stabG (fun v _ _ hg h => World.ownsRow.kept h (grown_of_grow hg) (by cases hv : v.ownBlock <;> simp))
theorem flatMap_len {α : Type} (T : El α) : ∀ (l : List α), (l.flatMap T.cells).length = l.length * T.size
  | [] => by simp
  | a :: l => by rw [List.flatMap_cons, List.length_append, T.len, flatMap_len T l, List.length_cons, Nat.add_mul]; omega
theorem flatMap_at {α : Type} (T : El α) (l : List α) (k : Nat) (y : Value) (h : (l.flatMap T.cells)[k]? = some y) : ∃ i x j, l[i]? = some x ∧ (T.cells x)[j]? = some y ∧ k = i * T.size + j := by
  induction l generalizing k with
  | nil => simp at h
  | cons a l ih =>
    rw [List.flatMap_cons] at h
    by_cases hk : k < (T.cells a).length
    · rw [List.getElem?_append_left hk] at h
      exact ⟨0, a, k, by simp, h, by simp⟩
    · rw [List.getElem?_append_right (by omega)] at h
      obtain ⟨i, x, j, h1, h2, h3⟩ := ih _ h
      refine ⟨i + 1, x, j, by simpa using h1, h2, ?_⟩
      rw [T.len] at h3 hk
      rw [Nat.add_mul]
      omega
theorem flatMap_get {α : Type} (T : El α) : ∀ (l : List α) (i : Nat) (x : α) (j : Nat) (y : Value), l[i]? = some x → (T.cells x)[j]? = some y → (l.flatMap T.cells)[i * T.size + j]? = some y
  | a :: l, 0, x, j, y, hi, hj => by
    simp at hi; subst hi
    rw [List.flatMap_cons, Nat.zero_mul, Nat.zero_add, List.getElem?_append_left (List.getElem?_eq_some_iff.1 hj).1]; exact hj
  | a :: l, i + 1, x, j, y, hi, hj => by
    have := flatMap_get T l i x j y (by simpa using hi) hj
    rw [List.flatMap_cons, List.getElem?_append_right (by rw [T.len, Nat.add_mul]; omega), T.len]
    rw [show (i + 1) * T.size + j - T.size = i * T.size + j by rw [Nat.add_mul]; omega]
    exact this
theorem OwnS.sl {α : Type} {lo : Nat} {T : El α} {l : List α} {v : Value} {w : World} (h : Holds (OwnS lo T l) v w) : Holds (Sl T l) v w := by
  have h0 : w.ownsRow lo T.tid T.size v l.length (l.flatMap T.cells) := h
  rcases h0.2 with ⟨rfl, hn⟩ | ⟨g, cap, cur, rfl, hb, hg, hc, _, hcs, htake⟩
  · have : l = [] := List.eq_nil_of_length_eq_zero hn
    subst this
    exact ⟨none, 0, rfl, Nat.le_refl _, fun _ => ⟨rfl, rfl⟩, fun p hp => by cases hp⟩
  · refine ⟨some (g, 0), cap, rfl, hc, fun hp => (by cases hp), fun p hp i x hi j y hj => ?_⟩
    cases hp
    have := flatMap_get T l i x j y hi hj
    rw [cell_of_row w g _ cur T.tid (0, 0) hg]
    rw [← htake, List.getElem?_take] at this
    split at this
    · rw [show 0 + i * T.size + j = i * T.size + j by omega]; simpa using this
    · cases this
structure ElP {α : Type} (T : El α) (inf : TypeInfo) (z : α) : Prop where
  hinfo : Tryz.prog.info? T.tid = some inf
  hzero : inf.zero = some (El.val T z)
  hsize : inf.size = T.size
  hbytes : inf.bytes = T.bytes
  hzcells : (El.val T z).cells = (T.cells z).toArray
  hagg : (match Tryz.prog.underlying T.tid with | some (.struct _) | some (.array _ _) => true | _ => false) = T.agg
  hsome : (Tryz.prog.underlying T.tid).isSome = true
end Ex
end Go.Proofs.YtnmfiiejhoafnaaGreat
