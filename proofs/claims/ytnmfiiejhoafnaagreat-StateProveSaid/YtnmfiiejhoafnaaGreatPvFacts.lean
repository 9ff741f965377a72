/- What the closing of every statement asks of the whole program: written by facts.py. -/
import Derived.Test.YtnmfiiejhoafnaaGreatRows
import Derived.ProofKit
set_option linter.unusedSimpArgs false
set_option linter.unusedVariables false
namespace Go.Proofs.YtnmfiiejhoafnaaGreat
namespace Ex
open Go
set_option maxRecDepth 100000
def ioL : List Char := [Char.ofNat 104, Char.ofNat 97, Char.ofNat 114, Char.ofNat 110, Char.ofNat 101, Char.ofNat 115, Char.ofNat 115, Char.ofNat 32, Char.ofNat 57, Char.ofNat 54, Char.ofNat 55, Char.ofNat 52, Char.ofNat 102, Char.ofNat 101, Char.ofNat 54, Char.ofNat 48, Char.ofNat 101, Char.ofNat 99, Char.ofNat 98, Char.ofNat 48, Char.ofNat 101, Char.ofNat 55, Char.ofNat 52, Char.ofNat 50, Char.ofNat 49, Char.ofNat 101, Char.ofNat 99, Char.ofNat 48, Char.ofNat 98, Char.ofNat 48, Char.ofNat 57, Char.ofNat 99, Char.ofNat 54, Char.ofNat 57, Char.ofNat 55, Char.ofNat 49, Char.ofNat 99, Char.ofNat 97, Char.ofNat 54, Char.ofNat 54, Char.ofNat 56, Char.ofNat 56, Char.ofNat 50, Char.ofNat 102, Char.ofNat 99, Char.ofNat 98, Char.ofNat 49, Char.ofNat 48, Char.ofNat 97, Char.ofNat 55, Char.ofNat 100, Char.ofNat 51, Char.ofNat 57, Char.ofNat 98, Char.ofNat 48, Char.ofNat 50, Char.ofNat 55, Char.ofNat 49, Char.ofNat 56, Char.ofNat 55, Char.ofNat 99, Char.ofNat 52, Char.ofNat 97, Char.ofNat 56, Char.ofNat 99, Char.ofNat 51, Char.ofNat 54, Char.ofNat 48, Char.ofNat 52, Char.ofNat 54, Char.ofNat 101, Char.ofNat 97, Char.ofNat 32, Char.ofNat 99, Char.ofNat 117, Char.ofNat 116, Char.ofNat 32, Char.ofNat 97, Char.ofNat 116, Char.ofNat 32, Char.ofNat 102, Char.ofNat 111, Char.ofNat 114, Char.ofNat 107, Char.ofNat 108, Char.ofNat 101, Char.ofNat 100, Char.ofNat 103, Char.ofNat 101, Char.ofNat 114, Char.ofNat 47, Char.ofNat 102, Char.ofNat 111, Char.ofNat 114, Char.ofNat 107, Char.ofNat 108, Char.ofNat 101, Char.ofNat 100, Char.ofNat 103, Char.ofNat 101, Char.ofNat 114, Char.ofNat 108, Char.ofNat 97, Char.ofNat 119, Char.ofNat 50, Char.ofNat 49, Char.ofNat 46, Char.ofNat 83, Char.ofNat 116, Char.ofNat 97, Char.ofNat 116, Char.ofNat 101, Char.ofNat 76, Char.ofNat 111, Char.ofNat 99, Char.ofNat 107, Char.ofNat 115, Char.ofNat 32, Char.ofNat 102, Char.ofNat 111, Char.ofNat 114, Char.ofNat 107, Char.ofNat 108, Char.ofNat 101, Char.ofNat 100, Char.ofNat 103, Char.ofNat 101, Char.ofNat 114, Char.ofNat 47, Char.ofNat 102, Char.ofNat 111, Char.ofNat 114, Char.ofNat 107, Char.ofNat 108, Char.ofNat 101, Char.ofNat 100, Char.ofNat 103, Char.ofNat 101, Char.ofNat 114, Char.ofNat 108, Char.ofNat 97, Char.ofNat 119, Char.ofNat 50, Char.ofNat 49, Char.ofNat 46, Char.ofNat 83, Char.ofNat 116, Char.ofNat 97, Char.ofNat 116, Char.ofNat 101, Char.ofNat 80, Char.ofNat 114, Char.ofNat 111, Char.ofNat 118, Char.ofNat 101]
theorem io_eq : Tryz.prog.initOrder.toList = ioL := by
  have h : Tryz.prog.initOrder = String.ofList ioL := by kernel_rfl
  rw [h, String.toList_ofList]
theorem io_words : behindMainWord (wordsSigns Tryz.prog.initOrder.toList) = [Char.ofNat 99, Char.ofNat 117, Char.ofNat 116] :: (behindMainWord (wordsSigns ioL)).tail := by
  rw [io_eq]
  kernel_rfl
theorem strip_cut (r : List (List Char)) : stripLifts liftWords ([Char.ofNat 99, Char.ofNat 117, Char.ofNat 116] :: r) = ([], [Char.ofNat 99, Char.ofNat 117, Char.ofNat 116] :: r) := by kernel_rfl
theorem not_lays : Tryz.prog.laysLater = false := by kernel_rfl
theorem not_reflect : Tryz.prog.bearsReflect = false := by kernel_rfl
theorem door_rows : Tryz.prog.doorRows = [] := by kernel_rfl
theorem door_fits : Tryz.prog.doorFits [] = true := by
  unfold Program.doorFits
  rw [door_rows]
  rfl
theorem cut_eq : "cut".toList = [Char.ofNat 99, Char.ofNat 117, Char.ofNat 116] := by kernel_rfl
theorem lifts_of (P : Program) (r : List (List Char)) (h : behindMainWord (wordsSigns P.initOrder.toList) = [Char.ofNat 99, Char.ofNat 117, Char.ofNat 116] :: r) : P.headLifts = [] := by
  unfold Program.headLifts
  rw [h, strip_cut]
  simp
theorem may_of (P : Program) (r : List (List Char)) (h : behindMainWord (wordsSigns P.initOrder.toList) = [Char.ofNat 99, Char.ofNat 117, Char.ofNat 116] :: r) (hl : P.laysLater = false) (hb : P.bearsReflect = false) (hd : P.doorFits [] = true) : P.mayEnter = true := by
  unfold Program.mayEnter
  rw [h]
  simp only [strip_cut, cut_eq, hl, hb, hd]
  simp
theorem final_of (P : Program) (r : List (List Char)) (h : behindMainWord (wordsSigns P.initOrder.toList) = [Char.ofNat 99, Char.ofNat 117, Char.ofNat 116] :: r) : P.liftsFinal = false := by
  unfold Program.liftsFinal
  rw [h, lifts_of P r h]
  simp
theorem make_of (P : Program) (r : List (List Char)) (h : behindMainWord (wordsSigns P.initOrder.toList) = [Char.ofNat 99, Char.ofNat 117, Char.ofNat 116] :: r) : P.make = some .cut := by
  unfold Program.make
  rw [h]
  simp
theorem may_enter : Tryz.prog.mayEnter = true := may_of _ _ io_words not_lays not_reflect door_fits
theorem lifts_final : Tryz.prog.liftsFinal = false := final_of _ _ io_words
theorem make_cut : Tryz.prog.make = some .cut := make_of _ _ io_words
theorem facts_of {f : FuncId} {fn : Func} {s : ChangeSpec} {c : OpenClaim} (hlift : c.lifted = false) (hmake : c.make = .cut) (h1 : (c.wf (OpenSpec.ofChange s) && laidOutB Tryz.prog && mapsRowed Tryz.prog && fn.params.all (Tryz.prog.readableRec ·) && namedTie Tryz.prog c.named s.vars && (c.stops == []) && (Tryz.prog.stops == []) && (c.knobs == []) && (Tryz.prog.stopKnobs == [])) = true)
    (h2 : ((c.inPlace == Tryz.prog.inPlace f) && (c.unfollowed == Tryz.prog.unfollowed f) && (c.recurses == Tryz.prog.recurses f) && (c.named == Tryz.prog.varsNamed f)) = true)
    (h3 : ((c.maps == (fn.params.toList ++ s.plain.varTypes Tryz.prog).any (Tryz.prog.mapsRec ·)) && (c.ifaces == (fn.params.toList ++ s.plain.varTypes Tryz.prog).any (Tryz.prog.ifacesRec ·)) && (c.mapsOut == Tryz.prog.mapsAmong fn.resultTypes.toList) &&
      (c.loops == (fn.params.toList ++ s.plain.varTypes Tryz.prog).any (Tryz.prog.loopsFrom ·)) && (c.wideKeys == (fn.params.toList ++ s.plain.varTypes Tryz.prog ++ fn.resultTypes.toList).any (Tryz.prog.wideKeysFrom ·)) &&
      s.vars.all (Tryz.prog.varReadable ·) && fn.resultTypes.all (fun t => Tryz.prog.readableRec t && decide (t < Tryz.prog.types.size)) && (c.ifacesOut == fn.resultTypes.toList.any (Tryz.prog.ifacesRec ·)) && (c.loopsOut == fn.resultTypes.toList.any (Tryz.prog.loopsFrom ·)) && (c.plainKeys == Tryz.prog.plainKeys) && c.shortTexts.isNone && Tryz.prog.stopsHeard) = true)
    (h4 : ((c.kinds == (if c.domain.isEmpty then [] else fn.params.toList.map fun t => match Tryz.prog.underlying t with | some (.int k) => some k | _ => none)) && (c.pinned == c.pinnedBy) &&
      (c.veiled == (fn.params.toList ++ s.plain.varTypes Tryz.prog ++ fn.resultTypes.toList).any (Tryz.prog.veiledRec ·)) && c.veiledFits Tryz.prog fn.params.toList (fn.params.toList ++ s.plain.varTypes Tryz.prog ++ fn.resultTypes.toList)) = true) :
    joinedFacts Tryz.prog f fn s c = true := by
  unfold joinedFacts
  simp only [Bool.and_eq_true, and_assoc] at h1 h2 h3 h4 ⊢
  obtain ⟨a1, a2, a3, a4, a5, a6, a7, a8, a9⟩ := h1
  obtain ⟨b1, b2, b3, b4⟩ := h2
  obtain ⟨c1, c2, c3, c4, c5, c6, c7, c8, c9, c10, c11, c12⟩ := h3
  obtain ⟨d1, d2, d3, d4⟩ := h4
  exact ⟨a1, a2, a3, a4, a5, a6, a7, a8, a9, b1, b2, b3, b4, c1, c2, c3, c4, c5, c6, c7, c8, c9, c10, c11, c12, may_enter, by rw [hlift, lifts_final]; rfl, by rw [hmake, make_cut]; rfl, d1, d2, d3, d4⟩
end Ex
end Go.Proofs.YtnmfiiejhoafnaaGreat
