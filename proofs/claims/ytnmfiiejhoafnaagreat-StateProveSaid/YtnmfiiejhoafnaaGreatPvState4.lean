/- The leaves of a state: of the program and of the reference. -/
import Derived.Test.YtnmfiiejhoafnaaGreatPvState3
import Derived.Test.YtnmfiiejhoafnaaGreatPvRow2
import Derived.Test.YtnmfiiejhoafnaaGreatPvMerkle2
set_option linter.unusedSimpArgs false
set_option linter.unusedVariables false
namespace Go.Proofs.YtnmfiiejhoafnaaGreat
namespace Ex
open Go Calm Go.RowKit
def byU (v : UInt64) (j : Nat) : UInt8 := (v >>> UInt64.ofNat (8 * j)).toUInt8
def beK (v : UInt64) (n : Nat) : Nat → List UInt8
  | 0 => []
  | k + 1 => beK v n k ++ [byU v (n - 1 - k)]
def be (v : UInt64) (n : Nat) : List UInt8 := beK v n n
theorem beK_len (v : UInt64) (n : Nat) : ∀ k, (beK v n k).length = k
  | 0 => rfl
  | k + 1 => by rw [beK, List.length_append, beK_len v n k]; rfl
theorem be_len (v : UInt64) (n : Nat) : (be v n).length = n := beK_len v n n
def i2u (x : Int) : UInt64 := UInt64.ofNat (x % 18446744073709551616).toNat
theorem i2u_eq (x : Int) : x % 18446744073709551616 = ((i2u x).toNat : Int) := by
  unfold i2u
  rw [UInt64.toNat_ofNat']
  omega
def i2b (x : Int) : UInt8 := UInt8.ofNat (x % 256).toNat
theorem i2b_eq (x : Int) : x % 256 = ((i2b x).toNat : Int) := by
  unfold i2b
  rw [UInt8.toNat_ofNat']
  omega
theorem be_one (x : Int) : be (i2u x) 1 = [i2b x] := by
  show [byU (i2u x) 0] = [i2b x]
  congr 1
  apply UInt8.toNat_inj.1
  unfold byU
  have h1 := i2u_eq x
  have h2 := i2b_eq x
  have h3 : ((i2u x >>> UInt64.ofNat (8 * 0)).toUInt8).toNat = (i2u x).toNat % 256 := by
    rw [UInt64.toNat_toUInt8, UInt64.toNat_shiftRight]
    simp
  rw [h3]
  omega
theorem be_step {l : List UInt8} {v : UInt64} {n k : Nat} : (l ++ beK v n k) ++ [(v >>> UInt64.ofNat (8 * (n - 1 - k))).toUInt8] = l ++ beK v n (k + 1) := by
  rw [List.append_assoc]; rfl
theorem be_stepR {l : List UInt8} {v : UInt64} {n k : Nat} (h : n ≤ 8) : (l ++ beK v n k) ++ [(v >>> UInt64.ofNat (UInt64.ofNat (8 * (n - 1 - k))).toNat).toUInt8] = l ++ beK v n (k + 1) := by
  rw [UInt64.toNat_ofNat', Nat.mod_eq_of_lt (by omega), be_step]
theorem sh_eq {n k : Nat} (h : n ≤ 8) (hk : k < n) : (8 * ((n : Int) - 1 - (k : Int))) % 18446744073709551616 = ((UInt64.ofNat (8 * (n - 1 - k))).toNat : Int) := by
  rw [UInt64.toNat_ofNat']
  omega
theorem sh_lt {n k : Nat} (h : n ≤ 8) (hk : k < n) : (UInt64.ofNat (8 * (n - 1 - k))).toNat < 64 := by
  rw [UInt64.toNat_ofNat']
  omega
theorem ext_eq (l : List UInt8) : (List.replicate l.length (0 : UInt8)).take 0 ++ l.take (List.replicate l.length (0 : UInt8)).length ++ (List.replicate l.length (0 : UInt8)).drop (0 + min l.length (List.replicate l.length (0 : UInt8)).length) = l := by
  simp
def cellBytes (d : GDelta) : List UInt8 := ([i2b d.cell.kind.toInt, i2b d.cell.id.toInt] ++ nmBytes d.cell.lock) ++ be (i2u d.amount.toInt) 8
def leafC (d : GDelta) : UInt64 := tagged 82 (cellBytes d)
def leafA (n : UInt64) : UInt64 := tagged 85 (nmBytes n)
def lockBytes (k : GLock) : List UInt8 := ((nmBytes k.name ++ nmBytes k.hash) ++ [i2b k.owner.toInt, i2b k.to.toInt]) ++ be (i2u k.till.toInt) 2
def leafK (k : GLock) : UInt64 := tagged 84 (lockBytes k)
def leafG (g : Int) : UInt64 := tagged 86 (be (i2u g) 2)
def seqLf (l : List Int) : Nat → List UInt64
  | 0 => []
  | k + 1 => seqLf l k ++ [tagged 83 [i2b (k : Int), i2b (l.getD k default)]]
theorem seqLf_len (l : List Int) : ∀ k, (seqLf l k).length = k
  | 0 => rfl
  | k + 1 => by rw [seqLf, List.length_append, seqLf_len l k]; rfl
def leaves (s : GState) : List UInt64 := (((s.cells.map leafC ++ seqLf s.seqs s.seqs.length) ++ s.locks.map leafK) ++ s.applied.map leafA) ++ [leafG s.guilty.toInt]
theorem leaves_len (s : GState) : (leaves s).length = s.cells.length + s.seqs.length + s.locks.length + s.applied.length + 1 := by
  simp only [leaves, List.length_append, List.length_map, seqLf_len, List.length_cons, List.length_nil]
theorem map_step {α β : Type} [Inhabited α] {f : α → β} {l : List α} {i : Nat} {p : List β} (h : i < l.length) : (p ++ (l.take i).map f) ++ [f (l.getD i default)] = p ++ (l.take (i + 1)).map f := by
  rw [List.append_assoc, List.take_add_one, List.getElem?_eq_getElem h, List.getD_eq_getElem?_getD, List.getElem?_eq_getElem h]
  simp only [Option.toList_some, List.map_append, List.map_cons, List.map_nil, Option.getD_some]
theorem cell_bytes2 (d : GDelta) : ((be (i2u d.cell.kind.toInt) 1 ++ be (i2u d.cell.id.toInt) 1) ++ nmBytes d.cell.lock) ++ be (i2u d.amount.toInt) 8 = cellBytes d := by
  rw [be_one, be_one]; rfl
set_option maxRecDepth 100000 in
theorem c_extended {l : List UInt8} {z : Int} (n : Nat) (hz : z = (n : Int)) (hw : n ≤ 8) (hl : l.length ≤ 1000000) : Con2 107 (Sl elByte l) (Is (intV z)) (fun lo => OwnS lo elByte l) := by
  intro lo v0 v1 w0 hlo hv0 hv1
  refine enter Tryz.func107 rfl Tryz.ntmps107 (by simp) ?_
  intro a0 hf0 ha
  have h00 : Holds (Is v0) (a0.eval (.tmp 0)) w0 := arg_holds ha rfl rfl
  have h01 : Holds _ (a0.eval (.tmp 1)) w0 := arg_holds ha rfl hv1
  clear ha
  have g0 : Grow w0 w0 := Grow.refl _
  refine wp_seq ?_
  refine wp_region_lit ?_
  refine wp_all [([], [])] [0, 1] w0.heap.size hf0 g0.size (by kernel_rfl) bund_nil ?_
  refine ch rfl (ob_assign (arg_cg (G := Any) (fun w => trivial))) ?_
  refine ch_nil ?_
  intro a1 w2 hf3 hg4 hk5 hn6
  have h7 := hk5.holds rfl h00
  have h8 := hk5.holds rfl h01
  have g9 := g0.trans hg4
  clear h00 h01 g0 hf0 hk5 hn6
  refine then_ ?_
  refine wp_seq ?_
  have g10 : Grow w2 w2 := Grow.refl _
  have hz11 : w0.heap.size ≤ w2.heap.size := g9.size
  refine wp_region_lit ?_
  refine wp_all [([0], []), ([], [0]), ([0], []), ([], [2]), ([1], []), ([], [3, 4]), ([], [1, 5]), ([], [6])] [0] w2.heap.size hf3 g10.size (by kernel_rfl) (bund_cons (is_any h7) (bund_cons (is_any h8) bund_nil)) ?_
  refine ch rfl (ob_move (arg_free 0 rfl rfl)) ?_
  refine ch rfl (ob_len (ArgOK.val (arg_op 0 0 rfl rfl rfl rfl) (hv0.up g9)) Tryz.underlying99) ?_
  refine ch rfl (ob_move (arg_free 0 rfl rfl)) ?_
  refine ch rfl (ob_len (ArgOK.val (arg_op 2 0 rfl rfl rfl rfl) (hv0.up g9)) Tryz.underlying99) ?_
  refine ch rfl (ob_move (arg_free 1 rfl rfl)) ?_
  first
    | (refine ch rfl (ob_add' (arg_op 3 1 rfl rfl rfl rfl) (arg_op 4 0 rfl rfl rfl rfl) ?_) ?_; · omega)
    | refine ch rfl (ob_add (arg_op 3 1 rfl rfl rfl rfl) (arg_op 4 0 rfl rfl rfl rfl)) ?_
  refine ch rfl (ob_makeR elByteP (n := l.length) (c := l.length + n) Tryz.underlying99 (arg_op 1 4 rfl rfl rfl rfl) (arg_op 5 0 rfl rfl rfl rfl) ?_ ?_ ?_ ?_ ?_) ?_
  · rfl
  · omega
  · omega
  · (simp only [elByte, elInt, elNm]; omega)
  · (simp only [maxLen]; omega)
  refine ch rfl (ob_assign (arg_op 6 0 rfl rfl rfl rfl)) ?_
  refine ch_nil ?_
  intro a12 w13 hf14 hg15 hk16 hn17
  have h18 : Holds (OwnS w2.heap.size _ _) (a12.eval (.tmp 5)) w13 := hn17.at 7 0 rfl rfl rfl
  have h19 := hk16.holds rfl h7
  have g20 := g9.trans hg15
  have g21 := g10.trans hg15
  clear h7 g9 g10 hf3 hk16 hn17
  obtain ⟨V22, h23, hV24⟩ := nameV h18
  clear h18
  refine then_ ?_
  refine wp_seq ?_
  have g25 : Grow w13 w13 := Grow.refl _
  have hz26 : w2.heap.size ≤ w13.heap.size := g21.size
  refine wp_region_lit ?_
  refine wp_seg (l1 := [_, _]) [([5], []), ([0], [])] [5] w13.heap.size hf14 g25.size (by kernel_rfl) (bund_cons h23 (bund_cons (is_any h19) bund_nil)) ?_
  refine ch rfl (ob_move (arg_free 0 rfl rfl)) ?_
  refine ch rfl (ob_move (arg_free 1 rfl rfl)) ?_
  refine ch_nil ?_
  intro a27 w28 hf29 hg30 hk31 hn32
  have h33 : Holds _ (a27.eval (.tmp 13)) w28 := hn32.at 0 1 rfl rfl rfl
  have h34 : Holds _ (a27.eval (.tmp 14)) w28 := hn32.at 1 0 rfl rfl rfl
  have h35 := hk31.holds rfl h23
  have g36 := g20.trans hg30
  have g37 := g21.trans hg30
  have g38 := g25.trans hg30
  clear h23 g20 g21 g25 hf14 hk31 hn32
  refine wl_copyO (T := elByte) [5] hf29 (by kernel_rfl) rfl Tryz.underlying99 szByte (hV24.up g38) (sub_self h33 (hV24.up g38)) (unV h34 (hv0.up g36)) ?_ g37.size ?_
  · (simp only [List.length_replicate, List.length_append, List.length_take, List.length_drop, List.length_cons, List.length_nil]; omega)
  intro a39 w40 hf41 hw42 hk43 hV44 h45
  have g46 : Grow w0 w40 := g36.wr hw42 (by omega)
  have g47 : Grow w2 w40 := g37.wr hw42 (by omega)
  have h48 : Holds _ (a39.eval (.tmp 5)) w40 := is_any (hk43.holds rfl h35)
  have hV49 : Holds (OwnS _ elByte (l)) V22 w40 := cast_own (ext_eq l) hV44
  have h50 : Holds _ (a39.eval (.tmp 5)) w40 := is_any (hk43.holds rfl h35)
  refine wpList_nil ?_
  refine then_ ?_
  refine wp_seq ?_
  refine wp_region_lit ?_
  refine wp_all [([5], []), ([], [0])] [] w2.heap.size hf41 g47.size (by kernel_rfl) (bund_cons h50 bund_nil) ?_
  refine ch rfl (ob_move (arg_free 0 rfl rfl)) ?_
  refine ch rfl (ob_assign (arg_op 0 0 rfl rfl rfl rfl)) ?_
  refine ch_nil ?_
  intro a51 w52 hf53 hg54 hk55 hn56
  have h57 : Holds _ (a51.eval (.tmp 4)) w52 := hn56.at 1 0 rfl rfl rfl
  have g58 := g46.trans hg54
  have g59 := g47.trans hg54
  have hV60 := hV49.up hg54
  clear g46 g47 hf41 hk55 hn56 hg54 hV49
  refine then_ ?_
  refine wp_ret ?_
  exact ret_tmp rfl hf53 g58 (OwnS.mono (unV h57 hV60) (by omega))
set_option maxRecDepth 100000 in
theorem c_AppendUint {l : List UInt8} {v : UInt64} {z : Int} (n : Nat) (hz : z = (n : Int)) (hw : n ≤ 8) (hl : l.length ≤ 1000000) : Con3 71 (Sl elByte l) (Is (u64V v)) (Is (intV z)) (fun lo => OwnS lo elByte (l ++ be v n)) := by
  intro lo v0 v1 v2 w0 hlo hv0 hv1 hv2
  refine enter Tryz.func71 rfl Tryz.ntmps71 (by simp) ?_
  intro a0 hf0 ha
  have h00 : Holds (Is v0) (a0.eval (.tmp 0)) w0 := arg_holds ha rfl rfl
  have h01 : Holds _ (a0.eval (.tmp 1)) w0 := arg_holds ha rfl hv1
  have h02 : Holds _ (a0.eval (.tmp 2)) w0 := arg_holds ha rfl hv2
  clear ha
  have g0 : Grow w0 w0 := Grow.refl _
  refine wp_seq ?_
  refine wp_region_lit ?_
  refine wp_all [([], [])] [0, 1, 2] w0.heap.size hf0 g0.size (by kernel_rfl) bund_nil ?_
  refine ch rfl (ob_assign (arg_cg (G := Any) (fun w => trivial))) ?_
  refine ch_nil ?_
  intro a1 w2 hf3 hg4 hk5 hn6
  have h7 := hk5.holds rfl h00
  have h8 := hk5.holds rfl h01
  have h9 := hk5.holds rfl h02
  have g10 := g0.trans hg4
  clear h00 h01 h02 g0 hf0 hk5 hn6
  refine then_ ?_
  refine wp_seq ?_
  have g11 : Grow w2 w2 := Grow.refl _
  have hz12 : w0.heap.size ≤ w2.heap.size := g10.size
  refine wp_region_lit ?_
  refine wp_all [([2], []), ([], [0]), ([], [1]), ([], [2])] [0, 1] w2.heap.size hf3 g11.size (by kernel_rfl) (bund_cons (is_any h9) bund_nil) ?_
  refine ch rfl (ob_move (arg_free 0 rfl rfl)) ?_
  first
    | (refine ch rfl (ob_maxL (arg_op 0 0 rfl rfl rfl rfl) arg_c ?_) ?_; · omega)
    | (refine ch rfl (ob_maxR (arg_op 0 0 rfl rfl rfl rfl) arg_c ?_) ?_; · omega)
  refine ch rfl (ob_minL (arg_op 1 0 rfl rfl rfl rfl) arg_c ?_) ?_
  · omega
  refine ch rfl (ob_assign (arg_op 2 0 rfl rfl rfl rfl)) ?_
  refine ch_nil ?_
  intro a13 w14 hf15 hg16 hk17 hn18
  have h19 : Holds _ (a13.eval (.tmp 2)) w14 := hn18.at 3 0 rfl rfl rfl
  have h20 := hk17.holds rfl h7
  have h21 := hk17.holds rfl h8
  have g22 := g10.trans hg16
  have g23 := g11.trans hg16
  clear h7 h8 g10 g11 hf3 hk17 hn18
  refine then_ ?_
  refine wp_seq ?_
  have g24 : Grow w14 w14 := Grow.refl _
  have hz25 : w2.heap.size ≤ w14.heap.size := g23.size
  refine wp_region_lit ?_
  refine wp_all [([0], []), ([2], []), ([], [0, 1]), ([], [2])] [1, 2] w14.heap.size hf15 g24.size (by kernel_rfl) (bund_cons (is_any h20) (bund_cons h19 bund_nil)) ?_
  refine ch rfl (ob_move (arg_free 0 rfl rfl)) ?_
  refine ch rfl (ob_move (arg_free 1 rfl rfl)) ?_
  refine ch rfl (ob_call2 (by kernel_rfl) (c_extended n ?_ ?_ ?_) (ArgOK.val (arg_op 0 1 rfl rfl rfl rfl) (hv0.up g22)) (arg_op 1 0 rfl rfl rfl rfl)) ?_
  · omega
  · omega
  · omega
  refine ch rfl (ob_assign (arg_op 2 0 rfl rfl rfl rfl)) ?_
  refine ch_nil ?_
  intro a26 w27 hf28 hg29 hk30 hn31
  have h32 : Holds (OwnS w14.heap.size _ _) (a26.eval (.tmp 7)) w27 := hn31.at 3 0 rfl rfl rfl
  have h33 := hk30.holds rfl h19
  have h34 := hk30.holds rfl h21
  have g35 := g22.trans hg29
  have g36 := g23.trans hg29
  have g37 := g24.trans hg29
  clear h19 h21 g22 g23 g24 hf15 hk30 hn31
  obtain ⟨V38, h39, hV40⟩ := nameV h32
  clear h32
  refine then_ ?_
  refine wp_seq ?_
  refine wp_seq ?_
  refine wp_region_lit ?_
  refine wp_all [([2], []), ([], [0]), ([], [1])] [1, 7] w14.heap.size hf28 g37.size (by kernel_rfl) (bund_cons (is_any h33) bund_nil) ?_
  refine ch rfl (ob_move (arg_free 0 rfl rfl)) ?_
  first
    | (refine ch rfl (ob_sub' (arg_op 0 0 rfl rfl rfl rfl) arg_c ?_) ?_; · omega)
    | refine ch rfl (ob_sub (arg_op 0 0 rfl rfl rfl rfl) arg_c) ?_
  refine ch rfl (ob_assign (arg_op 1 0 rfl rfl rfl rfl)) ?_
  refine ch_nil ?_
  intro a41 w42 hf43 hg44 hk45 hn46
  have h47 : Holds _ (a41.eval (.tmp 8)) w42 := hn46.at 2 0 rfl rfl rfl
  have h48 := hk45.holds rfl (h39.up hg44)
  have h49 := hk45.holds rfl h34
  have g50 := g35.trans hg44
  have g51 := g36.trans hg44
  have g52 := g37.trans hg44
  have hV53 := hV40.up hg44
  clear h39 h34 g35 g36 g37 hf28 hk45 hn46 hg44 hV40
  refine then_ ?_
  refine wp_block ?_
  refine wp_loopL (α := Nat) (fun k a' w' => Fr 30 a' ∧ (k ≤ n) ∧ Grow w0 w' ∧ Grow w2 w' ∧ Grow w14 w' ∧ Keep [1] a41 a' ∧ Holds (OwnS w14.heap.size elByte (l ++ beK v n k)) (a'.eval (.tmp 7)) w' ∧ Holds (Is (intV ((n : Int) - 1 - (k : Int)))) (a'.eval (.tmp 8)) w') (fun k => n - k) (0) ⟨hf43, (by ((try dsimp only); omega)), g50, g51, g52, Keep.refl _ _, (cast_own (by simp [beK]) (unV h48 hV53)), (is_cast h47 (by first | rfl | (refine congrArg intV ?_; (try dsimp only); omega)))⟩ ?_
  intro k a54 w55 ⟨hf56, hi58, g59, g60, g61, kk57, h62, h63⟩
  have h64 := kk57.holds rfl h49
  obtain ⟨V65, h66, hV67⟩ := nameV h62
  clear h62
  refine wp_seq ?_
  refine wp_seq ?_
  refine wp_region_lit ?_
  refine wp_all [([8], []), ([], [0])] [1, 7, 8] w14.heap.size hf56 g61.size (by kernel_rfl) (bund_cons h63 bund_nil) ?_
  refine ch rfl (ob_move (arg_free 0 rfl rfl)) ?_
  refine ch rfl (ob_geq (arg_op 0 0 rfl rfl rfl rfl) arg_c) ?_
  refine ch_nil ?_
  intro a68 w69 hf70 hg71 hk72 hn73
  have h74 : Holds _ (a68.eval (.tmp 18)) w69 := hn73.at 1 0 rfl rfl rfl
  have h75 := hk72.holds rfl (h66.up hg71)
  have h76 := hk72.holds rfl (h63.up hg71)
  have h77 := hk72.holds rfl h64
  have g78 := g59.trans hg71
  have g79 := g60.trans hg71
  have g80 := g61.trans hg71
  have kk81 : Keep _ a41 a68 := kk57.trans hk72 rfl
  have hV82 := hV67.up hg71
  clear h66 h63 h64 g59 g60 g61 kk57 hf56 hk72 hn73 hg71 hV67
  refine then_ ?_
  refine wp_if h74 ?_ ?_
  · intro hc83
    try simp only [cond_norm] at hc83
    refine wp_skip ?_
    refine then_ ?_
    refine wp_seq ?_
    refine wp_block ?_
    have g84 : Grow w69 w69 := Grow.refl _
    have hz85 : w14.heap.size ≤ w69.heap.size := g80.size
    refine wp_region_lit ?_
    refine wp_seg (l1 := [_, _, _, _, _, _, _]) [([7], []), ([1], []), ([8], []), ([], [2]), ([], [1, 3]), ([], [4]), ([], [5])] [1, 7, 8] w69.heap.size hf70 g84.size (by kernel_rfl) (bund_cons h75 (bund_cons (is_any h77) (bund_cons h76 bund_nil))) ?_
    refine ch rfl (ob_move (arg_free 0 rfl rfl)) ?_
    refine ch rfl (ob_move (arg_free 1 rfl rfl)) ?_
    refine ch rfl (ob_move (arg_free 2 rfl rfl)) ?_
    first
      | (refine ch rfl (ob_mul' arg_c (arg_op 2 0 rfl rfl rfl rfl) ?_) ?_; · omega)
      | refine ch rfl (ob_mul arg_c (arg_op 2 0 rfl rfl rfl rfl)) ?_
    refine ch rfl (ob_shru (s := 8 * (n - 1 - k)) (arg_op 1 2 rfl rfl rfl rfl) (arg_op 3 0 rfl rfl rfl rfl) (by omega) ?_) ?_
    · omega
    refine ch rfl (ob_u64byte (arg_op 4 0 rfl rfl rfl rfl) Tryz.underlying102 Tryz.underlying5) ?_
    refine ch rfl (ob_bs1_byte (arg_op 5 0 rfl rfl rfl rfl)) ?_
    refine ch_nil ?_
    intro a86 w87 hf88 hg89 hk90 hn91
    have h92 : Holds _ (a86.eval (.tmp 21)) w87 := hn91.at 0 6 rfl rfl rfl
    have h93 : Holds (OwnF w69.heap.size _ _) (a86.eval (.tmp 27)) w87 := hn91.at 6 0 rfl rfl rfl
    have h94 := hk90.holds rfl h75
    have h95 := hk90.holds rfl h76
    have h96 := hk90.holds rfl h77
    have g97 := g78.trans hg89
    have g98 := g79.trans hg89
    have g99 := g80.trans hg89
    have g100 := g84.trans hg89
    have kk101 : Keep _ a41 a86 := kk81.trans hk90 rfl
    clear h75 h76 h77 g78 g79 g80 g84 kk81 hf70 hk90 hn91
    obtain ⟨V102, h103, hV104⟩ := nameV h93
    clear h93
    refine wl_appendW elByteP [1, 7, 8] hf88 (by kernel_rfl) rfl Tryz.underlying99 (unV h92 (hV82.up g100)) (OwnS.sl (OwnF.own (unV h103 hV104))) ?_ ?_ g99.size ?_
    · (simp only [List.length_append, List.length_cons, List.length_nil, beK_len, maxLen, elByte]; omega)
    · (simp only [List.length_append, List.length_cons, List.length_nil, beK_len, maxLen, elByte]; omega)
    intro a105 w106 hf107 hw108 hk109 h110
    have g111 : Grow w0 w106 := g97.wr hw108 (by omega)
    have g112 : Grow w2 w106 := g98.wr hw108 (by omega)
    have g113 : Grow w14 w106 := g99.wr hw108 (by omega)
    have g114 : Siz w69 w106 := Siz.below g100.size hw108.below
    have h115 : Holds _ (a105.eval (.tmp 7)) w106 := is_any (hk109.holds rfl h94)
    have h116 : Holds _ (a105.eval (.tmp 8)) w106 := is_any (hk109.holds rfl h95)
    have h117 : Holds _ (a105.eval (.tmp 1)) w106 := is_any (hk109.holds rfl h96)
    have kk118 : Keep _ a41 a105 := kk101.trans hk109 rfl
    obtain ⟨V119, h120, hV121⟩ := nameV h110
    clear h110
    refine wp_all [([28], [])] [1, 8] w69.heap.size hf107 g114.size (by kernel_rfl) (bund_cons h120 bund_nil) ?_
    refine ch rfl (ob_assign (arg_free 0 rfl rfl)) ?_
    refine ch_nil ?_
    intro a122 w123 hf124 hg125 hk126 hn127
    have h128 : Holds _ (a122.eval (.tmp 7)) w123 := hn127.at 0 0 rfl rfl rfl
    have h129 := hk126.holds rfl (h116.up hg125)
    have h130 := hk126.holds rfl (h117.up hg125)
    have g131 := g111.trans hg125
    have g132 := g112.trans hg125
    have g133 := g113.trans hg125
    have g134 : Siz w69 w123 := g114.trans hg125
    have kk135 : Keep _ a41 a122 := kk118.trans hk126 rfl
    have hV136 := hV121.up hg125
    clear h116 h117 g111 g112 g113 g114 kk118 hf107 hk126 hn127 hg125 hV121
    refine blockN ?_
    refine then_ ?_
    refine wp_region_lit ?_
    refine wp_all [([8], []), ([], [0]), ([], [1])] [1, 7] w69.heap.size hf124 g134.size (by kernel_rfl) (bund_cons h129 bund_nil) ?_
    refine ch rfl (ob_move (arg_free 0 rfl rfl)) ?_
    first
      | (refine ch rfl (ob_sub' (arg_op 0 0 rfl rfl rfl rfl) arg_c ?_) ?_; · omega)
      | refine ch rfl (ob_sub (arg_op 0 0 rfl rfl rfl rfl) arg_c) ?_
    refine ch rfl (ob_assign (arg_op 1 0 rfl rfl rfl rfl)) ?_
    refine ch_nil ?_
    intro a137 w138 hf139 hg140 hk141 hn142
    have h143 : Holds _ (a137.eval (.tmp 8)) w138 := hn142.at 2 0 rfl rfl rfl
    have h144 := hk141.holds rfl (h128.up hg140)
    have h145 := hk141.holds rfl (h130.up hg140)
    have g146 := g131.trans hg140
    have g147 := g132.trans hg140
    have g148 := g133.trans hg140
    have g149 : Siz w69 w138 := g134.trans hg140
    have kk150 : Keep _ a41 a137 := kk135.trans hk141 rfl
    have hV151 := hV136.up hg140
    clear h128 h130 g131 g132 g133 g134 kk135 hf124 hk141 hn142 hg140 hV136
    refine then_ ?_
    exact ⟨(k + 1), (by ((try dsimp only); omega)), hf139, (by ((try dsimp only); omega)), g146, g147, g148, kk150, (cast_own be_step (unV h144 hV151)), (is_cast h143 (by first | rfl | (refine congrArg intV ?_; (try dsimp only); omega)))⟩
  · intro hc83
    try simp only [cond_norm] at hc83
    obtain rfl : k = n := by omega
    refine wp_exit ?_
    refine thenX ?_
    refine thenX ?_
    refine blockX ?_
    refine then_ ?_
    refine wp_seq ?_
    refine wp_region_lit ?_
    refine wp_all [([7], []), ([], [0])] [] w14.heap.size hf70 g80.size (by kernel_rfl) (bund_cons h75 bund_nil) ?_
    refine ch rfl (ob_move (arg_free 0 rfl rfl)) ?_
    refine ch rfl (ob_assign (arg_op 0 0 rfl rfl rfl rfl)) ?_
    refine ch_nil ?_
    intro a152 w153 hf154 hg155 hk156 hn157
    have h158 : Holds _ (a152.eval (.tmp 6)) w153 := hn157.at 1 0 rfl rfl rfl
    have g159 := g78.trans hg155
    have g160 := g79.trans hg155
    have g161 := g80.trans hg155
    have hV162 := hV82.up hg155
    clear g78 g79 g80 hf70 hk156 hn157 hg155 hV82
    refine then_ ?_
    refine wp_ret ?_
    exact ret_tmp rfl hf154 g159 (OwnS.mono (unV h158 hV162) (by omega))
set_option maxRecDepth 100000 in
theorem c_rAppendUint {l : List UInt8} {v : UInt64} {z : Int} (n : Nat) (hz : z = (n : Int)) (hw : n ≤ 8) (hl : l.length ≤ 1000000) : Con3 113 (Sl elByte l) (Is (u64V v)) (Is (intV z)) (fun lo => OwnS lo elByte (l ++ be v n)) := by
  intro lo v0 v1 v2 w0 hlo hv0 hv1 hv2
  refine enter Tryz.func113 rfl Tryz.ntmps113 (by simp) ?_
  intro a0 hf0 ha
  have h00 : Holds (Is v0) (a0.eval (.tmp 0)) w0 := arg_holds ha rfl rfl
  have h01 : Holds _ (a0.eval (.tmp 1)) w0 := arg_holds ha rfl hv1
  have h02 : Holds _ (a0.eval (.tmp 2)) w0 := arg_holds ha rfl hv2
  clear ha
  have g0 : Grow w0 w0 := Grow.refl _
  refine wp_seq ?_
  refine wp_region_lit ?_
  refine wp_all [([], [])] [0, 1, 2] w0.heap.size hf0 g0.size (by kernel_rfl) bund_nil ?_
  refine ch rfl (ob_assign (arg_cg (G := Any) (fun w => trivial))) ?_
  refine ch_nil ?_
  intro a1 w2 hf3 hg4 hk5 hn6
  have h7 := hk5.holds rfl h00
  have h8 := hk5.holds rfl h01
  have h9 := hk5.holds rfl h02
  have g10 := g0.trans hg4
  clear h00 h01 h02 g0 hf0 hk5 hn6
  refine then_ ?_
  refine wp_seq ?_
  have g11 : Grow w2 w2 := Grow.refl _
  have hz12 : w0.heap.size ≤ w2.heap.size := g10.size
  refine wp_region_lit ?_
  refine wp_all [([], []), ([0], []), ([], [0, 1]), ([], [2])] [1, 2] w2.heap.size hf3 g11.size (by kernel_rfl) (bund_cons (is_any h7) bund_nil) ?_
  refine ch rfl (ob_bs0_byte ) ?_
  refine ch rfl (ob_move (arg_free 0 rfl rfl)) ?_
  refine ch rfl (ob_append_fresh elByteP Tryz.underlying99 (arg_op 0 1 rfl rfl rfl rfl) (ArgOK.val (arg_op 1 0 rfl rfl rfl rfl) (hv0.up g10)) ?_) ?_
  · (refine ⟨?_, ?_⟩ <;> ((try simp only [List.length_append, List.length_cons, List.length_nil, nmBytes_len, elByte, elNm, elInt, maxLen]); omega))
  refine ch rfl (ob_assign (arg_op 2 0 rfl rfl rfl rfl)) ?_
  refine ch_nil ?_
  intro a13 w14 hf15 hg16 hk17 hn18
  have h19 : Holds (OwnS w2.heap.size _ _) (a13.eval (.tmp 7)) w14 := hn18.at 3 0 rfl rfl rfl
  have h20 := hk17.holds rfl h8
  have h21 := hk17.holds rfl h9
  have g22 := g10.trans hg16
  have g23 := g11.trans hg16
  clear h8 h9 g10 g11 hf3 hk17 hn18
  obtain ⟨V24, h25, hV26⟩ := nameV h19
  clear h19
  refine then_ ?_
  refine wp_seq ?_
  refine wp_seq ?_
  have g27 : Grow w14 w14 := Grow.refl _
  have hz28 : w2.heap.size ≤ w14.heap.size := g23.size
  refine wp_region_lit ?_
  refine wp_all [([2], []), ([], [0]), ([], [1]), ([], [2]), ([], [3])] [1, 7] w14.heap.size hf15 g27.size (by kernel_rfl) (bund_cons (is_any h21) bund_nil) ?_
  refine ch rfl (ob_move (arg_free 0 rfl rfl)) ?_
  refine ch rfl (ob_minL (arg_op 0 0 rfl rfl rfl rfl) arg_c ?_) ?_
  · omega
  first
    | (refine ch rfl (ob_maxL arg_c (arg_op 1 0 rfl rfl rfl rfl) ?_) ?_; · omega)
    | (refine ch rfl (ob_maxR arg_c (arg_op 1 0 rfl rfl rfl rfl) ?_) ?_; · omega)
  first
    | (refine ch rfl (ob_sub' (arg_op 2 0 rfl rfl rfl rfl) arg_c ?_) ?_; · omega)
    | refine ch rfl (ob_sub (arg_op 2 0 rfl rfl rfl rfl) arg_c) ?_
  refine ch rfl (ob_assign (arg_op 3 0 rfl rfl rfl rfl)) ?_
  refine ch_nil ?_
  intro a29 w30 hf31 hg32 hk33 hn34
  have h35 : Holds _ (a29.eval (.tmp 8)) w30 := hn34.at 4 0 rfl rfl rfl
  have h36 := hk33.holds rfl h25
  have h37 := hk33.holds rfl h20
  have g38 := g22.trans hg32
  have g39 := g23.trans hg32
  have g40 := g27.trans hg32
  clear h25 h20 g22 g23 g27 hf15 hk33 hn34
  refine then_ ?_
  refine wp_block ?_
  refine wp_loopL (α := Nat) (fun k a' w' => Fr 30 a' ∧ (k ≤ n) ∧ Grow w0 w' ∧ Grow w2 w' ∧ Keep [1] a29 a' ∧ Holds (OwnS w2.heap.size elByte (l ++ beK v n k)) (a'.eval (.tmp 7)) w' ∧ Holds (Is (intV ((n : Int) - 1 - (k : Int)))) (a'.eval (.tmp 8)) w') (fun k => n - k) (0) ⟨hf31, (by ((try dsimp only); omega)), g38, g39, Keep.refl _ _, (cast_own (by simp [beK]) (unV h36 (hV26.up g40))), (is_cast h35 (by first | rfl | (refine congrArg intV ?_; (try dsimp only); omega)))⟩ ?_
  intro k a41 w42 ⟨hf43, hi45, g46, g47, kk44, h48, h49⟩
  have h50 := kk44.holds rfl h37
  obtain ⟨V51, h52, hV53⟩ := nameV h48
  clear h48
  refine wp_seq ?_
  refine wp_seq ?_
  refine wp_region_lit ?_
  refine wp_all [([8], []), ([], [0])] [1, 7, 8] w2.heap.size hf43 g47.size (by kernel_rfl) (bund_cons h49 bund_nil) ?_
  refine ch rfl (ob_move (arg_free 0 rfl rfl)) ?_
  refine ch rfl (ob_geq (arg_op 0 0 rfl rfl rfl rfl) arg_c) ?_
  refine ch_nil ?_
  intro a54 w55 hf56 hg57 hk58 hn59
  have h60 : Holds _ (a54.eval (.tmp 17)) w55 := hn59.at 1 0 rfl rfl rfl
  have h61 := hk58.holds rfl (h52.up hg57)
  have h62 := hk58.holds rfl (h49.up hg57)
  have h63 := hk58.holds rfl h50
  have g64 := g46.trans hg57
  have g65 := g47.trans hg57
  have kk66 : Keep _ a29 a54 := kk44.trans hk58 rfl
  have hV67 := hV53.up hg57
  clear h52 h49 h50 g46 g47 kk44 hf43 hk58 hn59 hg57 hV53
  refine then_ ?_
  refine wp_if h60 ?_ ?_
  · intro hc68
    try simp only [cond_norm] at hc68
    refine wp_skip ?_
    refine then_ ?_
    refine wp_seq ?_
    refine wp_block ?_
    have g69 : Grow w55 w55 := Grow.refl _
    have hz70 : w2.heap.size ≤ w55.heap.size := g65.size
    refine wp_region_lit ?_
    refine wp_seg (l1 := [_, _, _, _, _, _, _, _]) [([7], []), ([1], []), ([8], []), ([], [2]), ([], [3]), ([], [1, 4]), ([], [5]), ([], [6])] [1, 7, 8] w55.heap.size hf56 g69.size (by kernel_rfl) (bund_cons h61 (bund_cons (is_any h63) (bund_cons h62 bund_nil))) ?_
    refine ch rfl (ob_move (arg_free 0 rfl rfl)) ?_
    refine ch rfl (ob_move (arg_free 1 rfl rfl)) ?_
    refine ch rfl (ob_move (arg_free 2 rfl rfl)) ?_
    first
      | (refine ch rfl (ob_mul' arg_c (arg_op 2 0 rfl rfl rfl rfl) ?_) ?_; · omega)
      | refine ch rfl (ob_mul arg_c (arg_op 2 0 rfl rfl rfl rfl)) ?_
    refine ch rfl (ob_intu64 (m := UInt64.ofNat (8 * (n - 1 - k))) (arg_op 3 0 rfl rfl rfl rfl) Tryz.underlying3 Tryz.underlying129 ?_) ?_
    · exact sh_eq (by omega) (by omega)
    refine ch rfl (ob_shruv (arg_op 1 3 rfl rfl rfl rfl) (arg_op 4 0 rfl rfl rfl rfl) ?_) ?_
    · exact sh_lt (by omega) (by omega)
    refine ch rfl (ob_u64byte (arg_op 5 0 rfl rfl rfl rfl) Tryz.underlying102 Tryz.underlying5) ?_
    refine ch rfl (ob_bs1_byte (arg_op 6 0 rfl rfl rfl rfl)) ?_
    refine ch_nil ?_
    intro a71 w72 hf73 hg74 hk75 hn76
    have h77 : Holds _ (a71.eval (.tmp 20)) w72 := hn76.at 0 7 rfl rfl rfl
    have h78 : Holds (OwnF w55.heap.size _ _) (a71.eval (.tmp 27)) w72 := hn76.at 7 0 rfl rfl rfl
    have h79 := hk75.holds rfl h61
    have h80 := hk75.holds rfl h62
    have h81 := hk75.holds rfl h63
    have g82 := g64.trans hg74
    have g83 := g65.trans hg74
    have g84 := g69.trans hg74
    have kk85 : Keep _ a29 a71 := kk66.trans hk75 rfl
    clear h61 h62 h63 g64 g65 g69 kk66 hf56 hk75 hn76
    obtain ⟨V86, h87, hV88⟩ := nameV h78
    clear h78
    refine wl_appendW elByteP [1, 7, 8] hf73 (by kernel_rfl) rfl Tryz.underlying99 (unV h77 (hV67.up g84)) (OwnS.sl (OwnF.own (unV h87 hV88))) ?_ ?_ g83.size ?_
    · (simp only [List.length_append, List.length_cons, List.length_nil, beK_len, maxLen, elByte]; omega)
    · (simp only [List.length_append, List.length_cons, List.length_nil, beK_len, maxLen, elByte]; omega)
    intro a89 w90 hf91 hw92 hk93 h94
    have g95 : Grow w0 w90 := g82.wr hw92 (by omega)
    have g96 : Grow w2 w90 := g83.wr hw92 (by omega)
    have g97 : Siz w55 w90 := Siz.below g84.size hw92.below
    have h98 : Holds _ (a89.eval (.tmp 7)) w90 := is_any (hk93.holds rfl h79)
    have h99 : Holds _ (a89.eval (.tmp 8)) w90 := is_any (hk93.holds rfl h80)
    have h100 : Holds _ (a89.eval (.tmp 1)) w90 := is_any (hk93.holds rfl h81)
    have kk101 : Keep _ a29 a89 := kk85.trans hk93 rfl
    obtain ⟨V102, h103, hV104⟩ := nameV h94
    clear h94
    refine wp_all [([28], [])] [1, 8] w55.heap.size hf91 g97.size (by kernel_rfl) (bund_cons h103 bund_nil) ?_
    refine ch rfl (ob_assign (arg_free 0 rfl rfl)) ?_
    refine ch_nil ?_
    intro a105 w106 hf107 hg108 hk109 hn110
    have h111 : Holds _ (a105.eval (.tmp 7)) w106 := hn110.at 0 0 rfl rfl rfl
    have h112 := hk109.holds rfl (h99.up hg108)
    have h113 := hk109.holds rfl (h100.up hg108)
    have g114 := g95.trans hg108
    have g115 := g96.trans hg108
    have g116 : Siz w55 w106 := g97.trans hg108
    have kk117 : Keep _ a29 a105 := kk101.trans hk109 rfl
    have hV118 := hV104.up hg108
    clear h99 h100 g95 g96 g97 kk101 hf91 hk109 hn110 hg108 hV104
    refine blockN ?_
    refine then_ ?_
    refine wp_region_lit ?_
    refine wp_all [([8], []), ([], [0]), ([], [1])] [1, 7] w55.heap.size hf107 g116.size (by kernel_rfl) (bund_cons h112 bund_nil) ?_
    refine ch rfl (ob_move (arg_free 0 rfl rfl)) ?_
    first
      | (refine ch rfl (ob_sub' (arg_op 0 0 rfl rfl rfl rfl) arg_c ?_) ?_; · omega)
      | refine ch rfl (ob_sub (arg_op 0 0 rfl rfl rfl rfl) arg_c) ?_
    refine ch rfl (ob_assign (arg_op 1 0 rfl rfl rfl rfl)) ?_
    refine ch_nil ?_
    intro a119 w120 hf121 hg122 hk123 hn124
    have h125 : Holds _ (a119.eval (.tmp 8)) w120 := hn124.at 2 0 rfl rfl rfl
    have h126 := hk123.holds rfl (h111.up hg122)
    have h127 := hk123.holds rfl (h113.up hg122)
    have g128 := g114.trans hg122
    have g129 := g115.trans hg122
    have g130 : Siz w55 w120 := g116.trans hg122
    have kk131 : Keep _ a29 a119 := kk117.trans hk123 rfl
    have hV132 := hV118.up hg122
    clear h111 h113 g114 g115 g116 kk117 hf107 hk123 hn124 hg122 hV118
    refine then_ ?_
    exact ⟨(k + 1), (by ((try dsimp only); omega)), hf121, (by ((try dsimp only); omega)), g128, g129, kk131, (cast_own (be_stepR (by omega)) (unV h126 hV132)), (is_cast h125 (by first | rfl | (refine congrArg intV ?_; (try dsimp only); omega)))⟩
  · intro hc68
    try simp only [cond_norm] at hc68
    obtain rfl : k = n := by omega
    refine wp_exit ?_
    refine thenX ?_
    refine thenX ?_
    refine blockX ?_
    refine then_ ?_
    refine wp_seq ?_
    refine wp_region_lit ?_
    refine wp_all [([7], []), ([], [0])] [] w2.heap.size hf56 g65.size (by kernel_rfl) (bund_cons h61 bund_nil) ?_
    refine ch rfl (ob_move (arg_free 0 rfl rfl)) ?_
    refine ch rfl (ob_assign (arg_op 0 0 rfl rfl rfl rfl)) ?_
    refine ch_nil ?_
    intro a133 w134 hf135 hg136 hk137 hn138
    have h139 : Holds _ (a133.eval (.tmp 6)) w134 := hn138.at 1 0 rfl rfl rfl
    have g140 := g64.trans hg136
    have g141 := g65.trans hg136
    have hV142 := hV67.up hg136
    clear g64 g65 hf56 hk137 hn138 hg136 hV67
    refine then_ ?_
    refine wp_ret ?_
    exact ret_tmp rfl hf135 g140 (OwnS.mono (unV h139 hV142) (by omega))
set_option maxRecDepth 100000 in
theorem c_num {l : List UInt8} {x z : Int} (n : Nat) (hz : z = (n : Int)) (hw : n ≤ 8) (hl : l.length ≤ 1000000) : Con3 92 (Sl elByte l) (Is (intV x)) (Is (intV z)) (fun lo => OwnS lo elByte (l ++ be (i2u x) n)) := by
  intro lo v0 v1 v2 w0 hlo hv0 hv1 hv2
  refine enter Tryz.func92 rfl Tryz.ntmps92 (by simp) ?_
  intro a0 hf0 ha
  have h00 : Holds (Is v0) (a0.eval (.tmp 0)) w0 := arg_holds ha rfl rfl
  have h01 : Holds _ (a0.eval (.tmp 1)) w0 := arg_holds ha rfl hv1
  have h02 : Holds _ (a0.eval (.tmp 2)) w0 := arg_holds ha rfl hv2
  clear ha
  have g0 : Grow w0 w0 := Grow.refl _
  refine wp_seq ?_
  refine wp_region_lit ?_
  refine wp_all [([], [])] [0, 1, 2] w0.heap.size hf0 g0.size (by kernel_rfl) bund_nil ?_
  refine ch rfl (ob_assign (arg_cg (G := Any) (fun w => trivial))) ?_
  refine ch_nil ?_
  intro a1 w2 hf3 hg4 hk5 hn6
  have h7 := hk5.holds rfl h00
  have h8 := hk5.holds rfl h01
  have h9 := hk5.holds rfl h02
  have g10 := g0.trans hg4
  clear h00 h01 h02 g0 hf0 hk5 hn6
  refine then_ ?_
  refine wp_seq ?_
  have g11 : Grow w2 w2 := Grow.refl _
  have hz12 : w0.heap.size ≤ w2.heap.size := g10.size
  refine wp_region_lit ?_
  refine wp_all [([0], []), ([1], []), ([], [1]), ([2], []), ([], [0, 2, 3]), ([], [4])] [] w2.heap.size hf3 g11.size (by kernel_rfl) (bund_cons (is_any h7) (bund_cons (is_any h8) (bund_cons (is_any h9) bund_nil))) ?_
  refine ch rfl (ob_move (arg_free 0 rfl rfl)) ?_
  refine ch rfl (ob_move (arg_free 1 rfl rfl)) ?_
  refine ch rfl (ob_intu64 (m := i2u x) (arg_op 1 0 rfl rfl rfl rfl) Tryz.underlying3 Tryz.underlying102 ?_) ?_
  · exact i2u_eq x
  refine ch rfl (ob_move (arg_free 2 rfl rfl)) ?_
  refine ch rfl (ob_call3 (by kernel_rfl) (c_rAppendUint n ?_ ?_ ?_) (ArgOK.val (arg_op 0 3 rfl rfl rfl rfl) (hv0.up g10)) (arg_op 2 1 rfl rfl rfl rfl) (arg_op 3 0 rfl rfl rfl rfl)) ?_
  · assumption
  · assumption
  · assumption
  refine ch rfl (ob_assign (arg_op 4 0 rfl rfl rfl rfl)) ?_
  refine ch_nil ?_
  intro a13 w14 hf15 hg16 hk17 hn18
  have h19 : Holds (OwnS w2.heap.size _ _) (a13.eval (.tmp 6)) w14 := hn18.at 5 0 rfl rfl rfl
  have g20 := g10.trans hg16
  have g21 := g11.trans hg16
  clear g10 g11 hf3 hk17 hn18
  obtain ⟨V22, h23, hV24⟩ := nameV h19
  clear h19
  refine then_ ?_
  refine wp_ret ?_
  exact ret_tmp rfl hf15 g20 (OwnS.mono (unV h23 hV24) (by omega))
set_option maxRecDepth 100000 in
theorem c_name {l : List UInt8} {x : UInt64} (hl : l.length ≤ 1000000) : Con2 93 (Sl elByte l) (Is (nmV x)) (fun lo => OwnS lo elByte (l ++ nmBytes x)) := by
  intro lo v0 v1 w0 hlo hv0 hv1
  refine enter Tryz.func93 rfl Tryz.ntmps93 (by simp) ?_
  intro a0 hf0 ha
  have h00 : Holds (Is v0) (a0.eval (.tmp 0)) w0 := arg_holds ha rfl rfl
  have h01 : Holds _ (a0.eval (.tmp 1)) w0 := arg_holds ha rfl hv1
  clear ha
  have g0 : Grow w0 w0 := Grow.refl _
  refine wp_seq ?_
  refine wp_region_lit ?_
  refine wp_all [([1], []), ([], [])] [0] w0.heap.size hf0 g0.size (by kernel_rfl) (bund_cons h01 bund_nil) ?_
  refine ch rfl (ob_box_nm (arg_free 0 rfl rfl)) ?_
  refine ch rfl (ob_assign (arg_cg (G := Any) (fun w => trivial))) ?_
  refine ch_nil ?_
  intro a1 w2 hf3 hg4 hk5 hn6
  have h7 : Holds _ (a1.eval (.tmp 3)) w2 := hn6.at 0 1 rfl rfl rfl
  have h8 := hk5.holds rfl h00
  have g9 := g0.trans hg4
  obtain ⟨bk10, hl11, hv12, hb13⟩ := OwnB.blk (lo := w0.heap.size) h7
  clear h00 g0 hf0 hk5 hn6
  refine then_ ?_
  refine wp_seq ?_
  have g14 : Grow w2 w2 := Grow.refl _
  have hl15 : bk10 < w2.heap.size := hb13.lt
  have hz16 : w0.heap.size ≤ w2.heap.size := g9.size
  refine wp_calm_tail (l1 := [_, _, _, _]) [0, 0, 3, 0, 15, 31] [([], []), ([0], []), ([], [0, 1]), ([3], [])] [] w2.heap.size hf3 g14.size (by kernel_rfl) (bund_cons (is_any h8) (bund_cons (hb13.ownp hv12) bund_nil)) ?_
  intro ws17 hs18
  refine ch rfl (ob_bs0_byte ) ?_
  refine ch rfl (ob_move (arg_free 0 rfl rfl)) ?_
  refine ch rfl (ob_append_fresh elByteP Tryz.underlying99 (arg_op 0 1 rfl rfl rfl rfl) (ArgOK.val (arg_op 1 0 rfl rfl rfl rfl) ((hv0.up g9).up hs18)) ?_) ?_
  · (refine ⟨?_, ?_⟩ <;> ((try simp only [List.length_append, List.length_cons, List.length_nil, nmBytes_len, elByte, elNm, elInt, maxLen]); omega))
  refine ch rfl (ob_slice_nmF (ArgOK.ownp (arg_free 1 rfl rfl))) ?_
  refine ch_nil ?_
  intro a19 w20 hf21 hg22 hk23 hn24
  have h25 : Holds (OwnS w2.heap.size _ _) (a19.eval (.tmp 7)) w20 := hn24.at 2 1 rfl rfl rfl
  have h26 : Holds _ (a19.eval (.tmp 8)) w20 := hn24.at 3 0 rfl rfl rfl
  have g27 := g9.trans hg22
  have g28 := g14.trans hg22
  clear g9 g14 hf3 hk23 hn24
  obtain ⟨V29, h30, hV31⟩ := nameV h25
  clear h25
  obtain ⟨V32, h33, hV34⟩ := nameV h26
  clear h26
  refine wl_appendW elByteP [] hf21 (by kernel_rfl) rfl Tryz.underlying99 (unV h30 hV31) (SlF.sl (unV h33 hV34)) ?_ ?_ g28.size ?_
  · ((try simp only [List.length_append, List.length_cons, List.length_nil, nmBytes_len, elByte, elNm, elInt, maxLen]); omega)
  · ((try simp only [List.length_append, List.length_cons, List.length_nil, nmBytes_len, elByte, elNm, elInt, maxLen]); omega)
  intro a35 w36 hf37 hw38 hk39 h40
  have g41 : Grow w0 w36 := g27.wr hw38 (by omega)
  have g42 : Grow w2 w36 := g28.wr hw38 (by omega)
  obtain ⟨V43, h44, hV45⟩ := nameV h40
  clear h40
  refine wp_all [([9], [])] [] w2.heap.size hf37 g42.size (by kernel_rfl) (bund_cons h44 bund_nil) ?_
  refine ch rfl (ob_assign (arg_free 0 rfl rfl)) ?_
  refine ch_nil ?_
  intro a46 w47 hf48 hg49 hk50 hn51
  have h52 : Holds _ (a46.eval (.tmp 4)) w47 := hn51.at 0 0 rfl rfl rfl
  have g53 := g41.trans hg49
  have g54 := g42.trans hg49
  have hV55 := hV45.up hg49
  clear g41 g42 hf37 hk50 hn51 hg49 hV45
  refine then_ ?_
  refine wp_ret ?_
  exact ret_tmp rfl hf48 g53 (OwnS.mono (unV h52 hV55) (by omega))
set_option maxRecDepth 100000 in
theorem c_leafCell {d : GDelta} : Con1 52 (Is (deltaV d)) (fun _ => Is (nmV (leafC d))) := by
  intro lo v0 w0 hlo hv0
  refine enter Tryz.func52 rfl Tryz.ntmps52 (by simp) ?_
  intro a0 hf0 ha
  have h00 : Holds _ (a0.eval (.tmp 0)) w0 := arg_holds ha rfl hv0
  clear ha
  have g0 : Grow w0 w0 := Grow.refl _
  refine wp_seq ?_
  refine wp_region_lit ?_
  refine wp_seg (l1 := [_]) [([0], [])] [] w0.heap.size hf0 g0.size (by kernel_rfl) (bund_cons h00 bund_nil) ?_
  refine ch rfl (ob_box_delta (arg_free 0 rfl rfl)) ?_
  refine ch_nil ?_
  intro a1 w2 hf3 hg4 hk5 hn6
  have h7 : Holds _ (a1.eval (.tmp 1)) w2 := hn6.at 0 0 rfl rfl rfl
  have g8 := g0.trans hg4
  obtain ⟨bk9, hl10, hv11, hb12⟩ := OwnB.blk (lo := w0.heap.size) h7
  clear g0 hf0 hk5 hn6
  have g13 : Grow w2 w2 := Grow.refl _
  have hl14 : bk9 < w2.heap.size := hb12.lt
  have hz15 : w0.heap.size ≤ w2.heap.size := g8.size
  refine wp_all [([], [])] [1] w2.heap.size hf3 g13.size (by kernel_rfl) bund_nil ?_
  refine ch rfl (ob_alloc_nm) ?_
  refine ch_nil ?_
  intro a16 w17 hf18 hg19 hk20 hn21
  have h22 : Holds _ (a16.eval (.tmp 2)) w17 := hn21.at 0 0 rfl rfl rfl
  have hv23 : Holds (Is (PtrV bk9)) (a16.eval (.tmp 1)) w17 := is_any (hk20.holds rfl hv11)
  have hb24 := hb12.up hg19
  have g25 := g8.trans hg19
  have g26 := g13.trans hg19
  obtain ⟨bk27, hl28, hv29, hb30⟩ := OwnB.blk (lo := w2.heap.size) h22
  clear hv11 hb12 g8 g13 hf3 hk20 hn21
  refine then_ ?_
  refine wp_seq ?_
  have g31 : Grow w17 w17 := Grow.refl _
  have hl32 : bk9 < w17.heap.size := hb24.lt
  have hl33 : bk27 < w17.heap.size := hb30.lt
  have hz34 : w2.heap.size ≤ w17.heap.size := g26.size
  refine wp_region_lit ?_
  refine wp_all [([1], []), ([], [0]), ([], [1]), ([], [2]), ([1], []), ([], [4]), ([], [5]), ([], [6]), ([], [3, 7]), ([], [8])] [1, 2] w17.heap.size hf18 g31.size (by kernel_rfl) (bund_cons (hb24.ownp hv23) bund_nil) ?_
  refine ch rfl (ob_fa_delta0 (ArgOK.ownp (arg_free 0 rfl rfl))) ?_
  refine ch rfl (ob_fa_cell0 (arg_op 0 0 rfl rfl rfl rfl)) ?_
  refine ch rfl (ob_load1 (arg_op 1 0 rfl rfl rfl rfl) Tryz.underlying3 rfl) ?_
  refine ch rfl (ob_intbyte (m := i2b d.cell.kind.toInt) (arg_op 2 0 rfl rfl rfl rfl) Tryz.underlying3 Tryz.underlying5 ?_) ?_
  · exact i2b_eq _
  refine ch rfl (ob_fa_delta0 (ArgOK.ownp (arg_free 0 rfl rfl))) ?_
  refine ch rfl (ob_fa_cell1 (arg_op 4 0 rfl rfl rfl rfl)) ?_
  refine ch rfl (ob_load1 (arg_op 5 0 rfl rfl rfl rfl) Tryz.underlying3 rfl) ?_
  refine ch rfl (ob_intbyte (m := i2b d.cell.id.toInt) (arg_op 6 0 rfl rfl rfl rfl) Tryz.underlying3 Tryz.underlying5 ?_) ?_
  · exact i2b_eq _
  refine ch rfl (ob_bs2_byte (arg_op 3 4 rfl rfl rfl rfl) (arg_op 7 0 rfl rfl rfl rfl)) ?_
  refine ch rfl (ob_assign (arg_op 8 0 rfl rfl rfl rfl)) ?_
  refine ch_nil ?_
  intro a35 w36 hf37 hg38 hk39 hn40
  have h41 : Holds (OwnF w17.heap.size _ _) (a35.eval (.tmp 3)) w36 := hn40.at 9 0 rfl rfl rfl
  have hv42 : Holds (Is (PtrV bk9)) (a35.eval (.tmp 1)) w36 := is_any (hk39.holds rfl hv23)
  have hb43 := hb24.up hg38
  have hv44 : Holds (Is (PtrV bk27)) (a35.eval (.tmp 2)) w36 := is_any (hk39.holds rfl hv29)
  have hb45 := hb30.up hg38
  have g46 := g25.trans hg38
  have g47 := g26.trans hg38
  have g48 := g31.trans hg38
  clear hv23 hb24 hv29 hb30 g25 g26 g31 hf18 hk39 hn40
  obtain ⟨V49, h50, hV51⟩ := nameV h41
  clear h41
  refine then_ ?_
  refine wp_seq ?_
  have g52 : Grow w36 w36 := Grow.refl _
  have hl53 : bk9 < w36.heap.size := hb43.lt
  have hl54 : bk27 < w36.heap.size := hb45.lt
  have hz55 : w17.heap.size ≤ w36.heap.size := g48.size
  refine wp_region_lit ?_
  refine wp_seg (l1 := [_, _, _, _]) [([3], []), ([1], []), ([], [1]), ([], [2])] [1, 2, 3] w36.heap.size hf37 g52.size (by kernel_rfl) (bund_cons h50 (bund_cons (hb43.ownp hv42) bund_nil)) ?_
  refine ch rfl (ob_move (arg_free 0 rfl rfl)) ?_
  refine ch rfl (ob_fa_delta0 (ArgOK.ownp (arg_free 1 rfl rfl))) ?_
  refine ch rfl (ob_fa_cell2 (arg_op 1 0 rfl rfl rfl rfl)) ?_
  refine ch rfl (ob_slice_nmF (arg_op 2 0 rfl rfl rfl rfl)) ?_
  refine ch_nil ?_
  intro a56 w57 hf58 hg59 hk60 hn61
  have h62 : Holds _ (a56.eval (.tmp 13)) w57 := hn61.at 0 3 rfl rfl rfl
  have h63 : Holds _ (a56.eval (.tmp 16)) w57 := hn61.at 3 0 rfl rfl rfl
  have h64 := hk60.holds rfl h50
  have hv65 : Holds (Is (PtrV bk9)) (a56.eval (.tmp 1)) w57 := is_any (hk60.holds rfl hv42)
  have hb66 := hb43.up hg59
  have hv67 : Holds (Is (PtrV bk27)) (a56.eval (.tmp 2)) w57 := is_any (hk60.holds rfl hv44)
  have hb68 := hb45.up hg59
  have g69 := g46.trans hg59
  have g70 := g47.trans hg59
  have g71 := g48.trans hg59
  have g72 := g52.trans hg59
  clear h50 hv42 hb43 hv44 hb45 g46 g47 g48 g52 hf37 hk60 hn61
  obtain ⟨V73, h74, hV75⟩ := nameV h63
  clear h63
  refine wl_appendW elByteP [1, 2, 3] hf58 (by kernel_rfl) rfl Tryz.underlying99 (OwnF.own (unV h62 (hV51.up g72))) (SlF.sl (unV h74 hV75)) ?_ ?_ g71.size ?_
  · ((try simp only [List.length_append, List.length_cons, List.length_nil, nmBytes_len, elByte, elNm, elInt, maxLen]); omega)
  · ((try simp only [List.length_append, List.length_cons, List.length_nil, nmBytes_len, elByte, elNm, elInt, maxLen]); omega)
  intro a76 w77 hf78 hw79 hk80 h81
  have g82 : Grow w0 w77 := g69.wr hw79 (by omega)
  have g83 : Grow w2 w77 := g70.wr hw79 (by omega)
  have g84 : Grow w17 w77 := g71.wr hw79 (by omega)
  have g85 : Siz w36 w77 := Siz.below g72.size hw79.below
  have h86 : Holds _ (a76.eval (.tmp 3)) w77 := is_any (hk80.holds rfl h64)
  have hv87 : Holds (Is (PtrV bk9)) (a76.eval (.tmp 1)) w77 := is_any (hk80.holds rfl hv65)
  have hb88 : Blk bk9 _ w77 := hb66.wr hw79 (by omega)
  have hv89 : Holds (Is (PtrV bk27)) (a76.eval (.tmp 2)) w77 := is_any (hk80.holds rfl hv67)
  have hb90 : Blk bk27 _ w77 := hb68.wr hw79 (by omega)
  obtain ⟨V91, h92, hV93⟩ := nameV h81
  clear h81
  refine wp_all [([17], [])] [1, 2] w36.heap.size hf78 g85.size (by kernel_rfl) (bund_cons h92 bund_nil) ?_
  refine ch rfl (ob_assign (arg_free 0 rfl rfl)) ?_
  refine ch_nil ?_
  intro a94 w95 hf96 hg97 hk98 hn99
  have h100 : Holds _ (a94.eval (.tmp 3)) w95 := hn99.at 0 0 rfl rfl rfl
  have hv101 : Holds (Is (PtrV bk9)) (a94.eval (.tmp 1)) w95 := is_any (hk98.holds rfl hv87)
  have hb102 := hb88.up hg97
  have hv103 : Holds (Is (PtrV bk27)) (a94.eval (.tmp 2)) w95 := is_any (hk98.holds rfl hv89)
  have hb104 := hb90.up hg97
  have g105 := g82.trans hg97
  have g106 := g83.trans hg97
  have g107 := g84.trans hg97
  have g108 : Siz w36 w95 := g85.trans hg97
  have hV109 := hV93.up hg97
  clear hv87 hb88 hv89 hb90 g82 g83 g84 g85 hf78 hk98 hn99 hg97 hV93
  refine then_ ?_
  refine wp_seq ?_
  have g110 : Grow w95 w95 := Grow.refl _
  have hl111 : bk9 < w95.heap.size := hb102.lt
  have hl112 : bk27 < w95.heap.size := hb104.lt
  have hz113 : w36.heap.size ≤ w95.heap.size := g108.size
  refine wp_region_lit ?_
  refine wp_seg (l1 := [_, _, _, _, _, _]) [([3], []), ([1], []), ([], [1]), ([], [2]), ([], [0, 3]), ([], [4])] [2] w95.heap.size hf96 g110.size (by kernel_rfl) (bund_cons h100 (bund_cons (hb102.ownp hv101) bund_nil)) ?_
  refine ch rfl (ob_move (arg_free 0 rfl rfl)) ?_
  refine ch rfl (ob_fa_delta1 (ArgOK.ownp (arg_free 1 rfl rfl))) ?_
  refine ch rfl (ob_load1 (arg_op 1 0 rfl rfl rfl rfl) Tryz.underlying3 rfl) ?_
  refine ch rfl (ob_intu64 (m := i2u d.amount.toInt) (arg_op 2 0 rfl rfl rfl rfl) Tryz.underlying3 Tryz.underlying102 ?_) ?_
  · exact i2u_eq _
  refine ch rfl (ob_call3 (by kernel_rfl) (c_AppendUint 8 ?_ ?_ ?_) (ArgOK.sl (ArgOK.val (arg_op 0 3 rfl rfl rfl rfl) hV109)) (arg_op 3 0 rfl rfl rfl rfl) arg_c) ?_
  · rfl
  · decide
  · (simp only [List.length_append, List.length_cons, List.length_nil, nmBytes_len, be_len]; omega)
  refine ch rfl (ob_call2 (by kernel_rfl) (c_Tagged ?_) (arg_cb 82 rfl) (ArgOK.sl (arg_op 4 0 rfl rfl rfl rfl))) ?_
  · (simp only [List.length_append, List.length_cons, List.length_nil, nmBytes_len, be_len]; omega)
  refine ch_nil ?_
  intro a114 w115 hf116 hg117 hk118 hn119
  have h120 : Holds _ (a114.eval (.tmp 23)) w115 := hn119.at 5 0 rfl rfl rfl
  have hv121 : Holds (Is (PtrV bk27)) (a114.eval (.tmp 2)) w115 := is_any (hk118.holds rfl hv103)
  have hb122 := hb104.up hg117
  have g123 := g105.trans hg117
  have g124 := g106.trans hg117
  have g125 := g107.trans hg117
  have g126 : Siz w36 w115 := g108.trans hg117
  have g127 := g110.trans hg117
  clear hv103 hb104 g105 g106 g107 g108 g110 hf96 hk118 hn119
  refine wl_store_nm hv121 hb122 rfl h120 ?_
  intro w128 ho129 hb130
  have g131 : Grow w0 w128 := g123.only ho129 (by omega)
  have g132 : Grow w2 w128 := g124.only ho129 (by omega)
  have hv136 : Holds (Is (PtrV bk27)) (a114.eval (.tmp 2)) w128 := is_any hv121
  refine wpList_nil ?_
  refine then_ ?_
  refine wp_ret ?_
  refine ret_cell rfl Tryz.underlying30 rfl (by kernel_rfl) hf116 g131 (hb130.ptr hv136) ?_
  exact rfl
set_option maxRecDepth 100000 in
theorem c_rCellLeaf {d : GDelta} : Con1 91 (Is (deltaV d)) (fun _ => Is (nmV (leafC d))) := by
  intro lo v0 w0 hlo hv0
  refine enter Tryz.func91 rfl Tryz.ntmps91 (by simp) ?_
  intro a0 hf0 ha
  have h00 : Holds _ (a0.eval (.tmp 0)) w0 := arg_holds ha rfl hv0
  clear ha
  have g0 : Grow w0 w0 := Grow.refl _
  refine wp_seq ?_
  refine wp_region_lit ?_
  refine wp_seg (l1 := [_]) [([0], [])] [] w0.heap.size hf0 g0.size (by kernel_rfl) (bund_cons h00 bund_nil) ?_
  refine ch rfl (ob_box_delta (arg_free 0 rfl rfl)) ?_
  refine ch_nil ?_
  intro a1 w2 hf3 hg4 hk5 hn6
  have h7 : Holds _ (a1.eval (.tmp 1)) w2 := hn6.at 0 0 rfl rfl rfl
  have g8 := g0.trans hg4
  obtain ⟨bk9, hl10, hv11, hb12⟩ := OwnB.blk (lo := w0.heap.size) h7
  clear g0 hf0 hk5 hn6
  have g13 : Grow w2 w2 := Grow.refl _
  have hl14 : bk9 < w2.heap.size := hb12.lt
  have hz15 : w0.heap.size ≤ w2.heap.size := g8.size
  refine wp_all [([], [])] [1] w2.heap.size hf3 g13.size (by kernel_rfl) bund_nil ?_
  refine ch rfl (ob_alloc_nm) ?_
  refine ch_nil ?_
  intro a16 w17 hf18 hg19 hk20 hn21
  have h22 : Holds _ (a16.eval (.tmp 2)) w17 := hn21.at 0 0 rfl rfl rfl
  have hv23 : Holds (Is (PtrV bk9)) (a16.eval (.tmp 1)) w17 := is_any (hk20.holds rfl hv11)
  have hb24 := hb12.up hg19
  have g25 := g8.trans hg19
  have g26 := g13.trans hg19
  obtain ⟨bk27, hl28, hv29, hb30⟩ := OwnB.blk (lo := w2.heap.size) h22
  clear hv11 hb12 g8 g13 hf3 hk20 hn21
  refine then_ ?_
  refine wp_seq ?_
  have g31 : Grow w17 w17 := Grow.refl _
  have hl32 : bk9 < w17.heap.size := hb24.lt
  have hl33 : bk27 < w17.heap.size := hb30.lt
  have hz34 : w2.heap.size ≤ w17.heap.size := g26.size
  refine wp_calm_tail (l1 := [_, _, _, _, _, _, _, _, _, _, _, _, _, _, _, _]) [0, 1, 3, 7, 0, 16, 48, 127, 0, 256, 768, 2047, 0, 4096, 16383, 32767, 65535] [([1], []), ([], [0]), ([], [1]), ([], [2]), ([1], []), ([], [4]), ([], [5]), ([], [3, 6]), ([1], []), ([], [8]), ([], [9]), ([], [7, 10]), ([1], []), ([], [12]), ([], [11, 13]), ([], [14])] [2] w17.heap.size hf18 g31.size (by kernel_rfl) (bund_cons (hb24.ownp hv23) bund_nil) ?_
  intro ws35 hs36
  refine ch rfl (ob_fa_delta0 (ArgOK.ownp (arg_free 0 rfl rfl))) ?_
  refine ch rfl (ob_fa_cell0 (arg_op 0 0 rfl rfl rfl rfl)) ?_
  refine ch rfl (ob_load1 (arg_op 1 0 rfl rfl rfl rfl) Tryz.underlying3 rfl) ?_
  refine ch rfl (ob_call3 (by kernel_rfl) (c_num 1 ?_ ?_ ?_) (arg_cg (fun w => sl_nil)) (arg_op 2 0 rfl rfl rfl rfl) arg_c) ?_
  · rfl
  · decide
  · (simp only [List.length_append, List.length_cons, List.length_nil, nmBytes_len, be_len]; omega)
  refine ch rfl (ob_fa_delta0 (ArgOK.ownp (arg_free 0 rfl rfl))) ?_
  refine ch rfl (ob_fa_cell1 (arg_op 4 0 rfl rfl rfl rfl)) ?_
  refine ch rfl (ob_load1 (arg_op 5 0 rfl rfl rfl rfl) Tryz.underlying3 rfl) ?_
  refine ch rfl (ob_call3 (by kernel_rfl) (c_num 1 ?_ ?_ ?_) (ArgOK.sl (arg_op 3 3 rfl rfl rfl rfl)) (arg_op 6 0 rfl rfl rfl rfl) arg_c) ?_
  · rfl
  · decide
  · (simp only [List.length_append, List.length_cons, List.length_nil, nmBytes_len, be_len]; omega)
  refine ch rfl (ob_fa_delta0 (ArgOK.ownp (arg_free 0 rfl rfl))) ?_
  refine ch rfl (ob_fa_cell2 (arg_op 8 0 rfl rfl rfl rfl)) ?_
  refine ch rfl (ob_load_nm (arg_op 9 0 rfl rfl rfl rfl)) ?_
  refine ch rfl (ob_call2 (by kernel_rfl) (c_name ?_) (ArgOK.sl (arg_op 7 3 rfl rfl rfl rfl)) (arg_op 10 0 rfl rfl rfl rfl)) ?_
  · (simp only [List.length_append, List.length_cons, List.length_nil, nmBytes_len, be_len]; omega)
  refine ch rfl (ob_fa_delta1 (ArgOK.ownp (arg_free 0 rfl rfl))) ?_
  refine ch rfl (ob_load1 (arg_op 12 0 rfl rfl rfl rfl) Tryz.underlying3 rfl) ?_
  refine ch rfl (ob_call3 (by kernel_rfl) (c_num 8 ?_ ?_ ?_) (ArgOK.sl (arg_op 11 2 rfl rfl rfl rfl)) (arg_op 13 0 rfl rfl rfl rfl) arg_c) ?_
  · rfl
  · decide
  · (simp only [List.length_append, List.length_cons, List.length_nil, nmBytes_len, be_len]; omega)
  refine ch rfl (ob_call2 (by kernel_rfl) (c_rTagged ?_) (arg_cb 82 rfl) (ArgOK.sl (arg_op 14 0 rfl rfl rfl rfl))) ?_
  · (simp only [List.length_append, List.length_cons, List.length_nil, nmBytes_len, be_len]; omega)
  refine ch_nil ?_
  intro a37 w38 hf39 hg40 hk41 hn42
  have h43 : Holds _ (a37.eval (.tmp 18)) w38 := hn42.at 15 0 rfl rfl rfl
  have hv44 : Holds (Is (PtrV bk27)) (a37.eval (.tmp 2)) w38 := is_any (hk41.holds rfl hv29)
  have hb45 := hb30.up hg40
  have g46 := g25.trans hg40
  have g47 := g26.trans hg40
  have g48 := g31.trans hg40
  clear hv29 hb30 g25 g26 g31 hf18 hk41 hn42
  refine wl_store_nm hv44 hb45 rfl h43 ?_
  intro w49 ho50 hb51
  have g52 : Grow w0 w49 := g46.only ho50 (by omega)
  have g53 : Grow w2 w49 := g47.only ho50 (by omega)
  have hv55 : Holds (Is (PtrV bk27)) (a37.eval (.tmp 2)) w49 := is_any hv44
  refine wpList_nil ?_
  refine then_ ?_
  refine wp_ret ?_
  refine ret_cell rfl Tryz.underlying30 rfl (by kernel_rfl) hf39 g52 (hb51.ptr hv55) ?_
  exact congrArg (fun b => nmV (tagged 82 b)) (by rw [List.nil_append]; exact cell_bytes2 d)
set_option maxRecDepth 100000 in
theorem c_leafApplied {x : UInt64} : Con1 53 (Is (nmV x)) (fun _ => Is (nmV (leafA x))) := by
  intro lo v0 w0 hlo hv0
  refine enter Tryz.func53 rfl Tryz.ntmps53 (by simp) ?_
  intro a0 hf0 ha
  have h00 : Holds _ (a0.eval (.tmp 0)) w0 := arg_holds ha rfl hv0
  clear ha
  have g0 : Grow w0 w0 := Grow.refl _
  refine wp_seq ?_
  refine wp_region_lit ?_
  refine wp_seg (l1 := [_]) [([0], [])] [] w0.heap.size hf0 g0.size (by kernel_rfl) (bund_cons h00 bund_nil) ?_
  refine ch rfl (ob_box_nm (arg_free 0 rfl rfl)) ?_
  refine ch_nil ?_
  intro a1 w2 hf3 hg4 hk5 hn6
  have h7 : Holds _ (a1.eval (.tmp 1)) w2 := hn6.at 0 0 rfl rfl rfl
  have g8 := g0.trans hg4
  obtain ⟨bk9, hl10, hv11, hb12⟩ := OwnB.blk (lo := w0.heap.size) h7
  clear g0 hf0 hk5 hn6
  have g13 : Grow w2 w2 := Grow.refl _
  have hl14 : bk9 < w2.heap.size := hb12.lt
  have hz15 : w0.heap.size ≤ w2.heap.size := g8.size
  refine wp_all [([], [])] [1] w2.heap.size hf3 g13.size (by kernel_rfl) bund_nil ?_
  refine ch rfl (ob_alloc_nm) ?_
  refine ch_nil ?_
  intro a16 w17 hf18 hg19 hk20 hn21
  have h22 : Holds _ (a16.eval (.tmp 2)) w17 := hn21.at 0 0 rfl rfl rfl
  have hv23 : Holds (Is (PtrV bk9)) (a16.eval (.tmp 1)) w17 := is_any (hk20.holds rfl hv11)
  have hb24 := hb12.up hg19
  have g25 := g8.trans hg19
  have g26 := g13.trans hg19
  obtain ⟨bk27, hl28, hv29, hb30⟩ := OwnB.blk (lo := w2.heap.size) h22
  clear hv11 hb12 g8 g13 hf3 hk20 hn21
  refine then_ ?_
  refine wp_seq ?_
  have g31 : Grow w17 w17 := Grow.refl _
  have hl32 : bk9 < w17.heap.size := hb24.lt
  have hl33 : bk27 < w17.heap.size := hb30.lt
  have hz34 : w2.heap.size ≤ w17.heap.size := g26.size
  refine wp_region_lit ?_
  refine wp_seg (l1 := [_, _]) [([1], []), ([], [0])] [2] w17.heap.size hf18 g31.size (by kernel_rfl) (bund_cons (hb24.ownp hv23) bund_nil) ?_
  refine ch rfl (ob_slice_nmF (ArgOK.ownp (arg_free 0 rfl rfl))) ?_
  refine ch rfl (ob_call2 (by kernel_rfl) (c_Tagged ?_) (arg_cb 85 rfl) (ArgOK.fsl (arg_op 0 0 rfl rfl rfl rfl))) ?_
  · ((try simp only [List.length_append, List.length_cons, List.length_nil, nmBytes_len, List.length_take, List.length_drop, flat_len]); omega)
  refine ch_nil ?_
  intro a35 w36 hf37 hg38 hk39 hn40
  have h41 : Holds _ (a35.eval (.tmp 4)) w36 := hn40.at 1 0 rfl rfl rfl
  have hv42 : Holds (Is (PtrV bk27)) (a35.eval (.tmp 2)) w36 := is_any (hk39.holds rfl hv29)
  have hb43 := hb30.up hg38
  have g44 := g25.trans hg38
  have g45 := g26.trans hg38
  have g46 := g31.trans hg38
  clear hv29 hb30 g25 g26 g31 hf18 hk39 hn40
  refine wl_store_nm hv42 hb43 rfl h41 ?_
  intro w47 ho48 hb49
  have g50 : Grow w0 w47 := g44.only ho48 (by omega)
  have g51 : Grow w2 w47 := g45.only ho48 (by omega)
  have hv53 : Holds (Is (PtrV bk27)) (a35.eval (.tmp 2)) w47 := is_any hv42
  refine wpList_nil ?_
  refine then_ ?_
  refine wp_ret ?_
  refine ret_cell rfl Tryz.underlying30 rfl (by kernel_rfl) hf37 g50 (hb49.ptr hv53) ?_
  exact rfl
set_option maxRecDepth 100000 in
theorem c_rAppliedLeaf {x : UInt64} : Con1 94 (Is (nmV x)) (fun _ => Is (nmV (leafA x))) := by
  intro lo v0 w0 hlo hv0
  refine enter Tryz.func94 rfl Tryz.ntmps94 (by simp) ?_
  intro a0 hf0 ha
  have h00 : Holds _ (a0.eval (.tmp 0)) w0 := arg_holds ha rfl hv0
  clear ha
  have g0 : Grow w0 w0 := Grow.refl _
  refine wp_seq ?_
  refine wp_region_lit ?_
  refine wp_seg (l1 := [_]) [([0], [])] [] w0.heap.size hf0 g0.size (by kernel_rfl) (bund_cons h00 bund_nil) ?_
  refine ch rfl (ob_box_nm (arg_free 0 rfl rfl)) ?_
  refine ch_nil ?_
  intro a1 w2 hf3 hg4 hk5 hn6
  have h7 : Holds _ (a1.eval (.tmp 1)) w2 := hn6.at 0 0 rfl rfl rfl
  have g8 := g0.trans hg4
  obtain ⟨bk9, hl10, hv11, hb12⟩ := OwnB.blk (lo := w0.heap.size) h7
  clear g0 hf0 hk5 hn6
  have g13 : Grow w2 w2 := Grow.refl _
  have hl14 : bk9 < w2.heap.size := hb12.lt
  have hz15 : w0.heap.size ≤ w2.heap.size := g8.size
  refine wp_all [([], [])] [1] w2.heap.size hf3 g13.size (by kernel_rfl) bund_nil ?_
  refine ch rfl (ob_alloc_nm) ?_
  refine ch_nil ?_
  intro a16 w17 hf18 hg19 hk20 hn21
  have h22 : Holds _ (a16.eval (.tmp 2)) w17 := hn21.at 0 0 rfl rfl rfl
  have hv23 : Holds (Is (PtrV bk9)) (a16.eval (.tmp 1)) w17 := is_any (hk20.holds rfl hv11)
  have hb24 := hb12.up hg19
  have g25 := g8.trans hg19
  have g26 := g13.trans hg19
  obtain ⟨bk27, hl28, hv29, hb30⟩ := OwnB.blk (lo := w2.heap.size) h22
  clear hv11 hb12 g8 g13 hf3 hk20 hn21
  refine then_ ?_
  refine wp_seq ?_
  have g31 : Grow w17 w17 := Grow.refl _
  have hl32 : bk9 < w17.heap.size := hb24.lt
  have hl33 : bk27 < w17.heap.size := hb30.lt
  have hz34 : w2.heap.size ≤ w17.heap.size := g26.size
  refine wp_region_lit ?_
  refine wp_seg (l1 := [_, _, _]) [([1], []), ([], [0]), ([], [1])] [2] w17.heap.size hf18 g31.size (by kernel_rfl) (bund_cons (hb24.ownp hv23) bund_nil) ?_
  refine ch rfl (ob_load_nm (ArgOK.ownp (arg_free 0 rfl rfl))) ?_
  refine ch rfl (ob_call2 (by kernel_rfl) (c_name ?_) (arg_cg (fun w => sl_nil)) (arg_op 0 0 rfl rfl rfl rfl)) ?_
  · (simp only [List.length_append, List.length_cons, List.length_nil, nmBytes_len, be_len]; omega)
  refine ch rfl (ob_call2 (by kernel_rfl) (c_rTagged ?_) (arg_cb 85 rfl) (ArgOK.sl (arg_op 1 0 rfl rfl rfl rfl))) ?_
  · (simp only [List.length_append, List.length_cons, List.length_nil, nmBytes_len, be_len]; omega)
  refine ch_nil ?_
  intro a35 w36 hf37 hg38 hk39 hn40
  have h41 : Holds _ (a35.eval (.tmp 5)) w36 := hn40.at 2 0 rfl rfl rfl
  have hv42 : Holds (Is (PtrV bk27)) (a35.eval (.tmp 2)) w36 := is_any (hk39.holds rfl hv29)
  have hb43 := hb30.up hg38
  have g44 := g25.trans hg38
  have g45 := g26.trans hg38
  have g46 := g31.trans hg38
  clear hv29 hb30 g25 g26 g31 hf18 hk39 hn40
  refine wl_store_nm hv42 hb43 rfl h41 ?_
  intro w47 ho48 hb49
  have g50 : Grow w0 w47 := g44.only ho48 (by omega)
  have g51 : Grow w2 w47 := g45.only ho48 (by omega)
  have hv53 : Holds (Is (PtrV bk27)) (a35.eval (.tmp 2)) w47 := is_any hv42
  refine wpList_nil ?_
  refine then_ ?_
  refine wp_ret ?_
  refine ret_cell rfl Tryz.underlying30 rfl (by kernel_rfl) hf37 g50 (hb49.ptr hv53) ?_
  exact rfl
set_option maxRecDepth 100000 in
theorem c_leafLock {k : GLock} : Con1 70 (Is (lockV k)) (fun _ => Is (nmV (leafK k))) := by
  intro lo v0 w0 hlo hv0
  refine enter Tryz.func70 rfl Tryz.ntmps70 (by simp) ?_
  intro a0 hf0 ha
  have h00 : Holds _ (a0.eval (.tmp 0)) w0 := arg_holds ha rfl hv0
  clear ha
  have g0 : Grow w0 w0 := Grow.refl _
  refine wp_seq ?_
  refine wp_region_lit ?_
  refine wp_seg (l1 := [_]) [([0], [])] [] w0.heap.size hf0 g0.size (by kernel_rfl) (bund_cons h00 bund_nil) ?_
  refine ch rfl (ob_box_lock (arg_free 0 rfl rfl)) ?_
  refine ch_nil ?_
  intro a1 w2 hf3 hg4 hk5 hn6
  have h7 : Holds _ (a1.eval (.tmp 1)) w2 := hn6.at 0 0 rfl rfl rfl
  have g8 := g0.trans hg4
  obtain ⟨bk9, hl10, hv11, hb12⟩ := OwnB.blk (lo := w0.heap.size) h7
  clear g0 hf0 hk5 hn6
  have g13 : Grow w2 w2 := Grow.refl _
  have hl14 : bk9 < w2.heap.size := hb12.lt
  have hz15 : w0.heap.size ≤ w2.heap.size := g8.size
  refine wp_all [([], [])] [1] w2.heap.size hf3 g13.size (by kernel_rfl) bund_nil ?_
  refine ch rfl (ob_alloc_nm) ?_
  refine ch_nil ?_
  intro a16 w17 hf18 hg19 hk20 hn21
  have h22 : Holds _ (a16.eval (.tmp 2)) w17 := hn21.at 0 0 rfl rfl rfl
  have hv23 : Holds (Is (PtrV bk9)) (a16.eval (.tmp 1)) w17 := is_any (hk20.holds rfl hv11)
  have hb24 := hb12.up hg19
  have g25 := g8.trans hg19
  have g26 := g13.trans hg19
  obtain ⟨bk27, hl28, hv29, hb30⟩ := OwnB.blk (lo := w2.heap.size) h22
  clear hv11 hb12 g8 g13 hf3 hk20 hn21
  refine then_ ?_
  refine wp_seq ?_
  have g31 : Grow w17 w17 := Grow.refl _
  have hl32 : bk9 < w17.heap.size := hb24.lt
  have hl33 : bk27 < w17.heap.size := hb30.lt
  have hz34 : w2.heap.size ≤ w17.heap.size := g26.size
  refine wp_calmx (l1 := [_, _, _, _, _, _]) (l2 := [_]) { chain := [2, 5], frail := [2, 5], dead := [[], [], [], [], [], [2]] } [0, 1, 3, 0, 8, 31, 63] [([1], []), ([], [0]), ([], [1]), ([1], []), ([], [3]), ([], [2, 4])] [1, 2] w17.heap.size hf18 g31.size (by kernel_rfl) (bund_cons (hb24.ownp hv23) bund_nil) ?_
  intro ws35 hs36 hq37
  refine chx rfl rfl (ob_faI (n := 7) (arg_free 0 rfl rfl) Tryz.underlying32 rfl szNm) ?_
  refine chx rfl rfl (ob_slice_ownI (arg_op 0 0 rfl rfl rfl rfl)) ?_
  refine chxc rfl rfl rfl (ob_appendC elByteP (hlo_of hq37) Tryz.underlying99 (arg_cg (G := OwnS w17.heap.size elByte []) (fun w => own_nil)) (ArgOK.val (arg_op 1 0 rfl rfl rfl rfl) (arr_slO (hb24.up hs36) (lock_nm0 _))) ?_) ?_
  · (refine ⟨?_, ?_⟩ <;> ((try simp only [List.length_append, List.length_cons, List.length_nil, nmBytes_len, elByte, elNm, elInt, maxLen]); omega))
  refine chx rfl rfl (ob_faI (n := 7) (arg_free 0 rfl rfl) Tryz.underlying32 rfl szNm) ?_
  refine chx rfl rfl (ob_slice_ownI (arg_op 3 0 rfl rfl rfl rfl)) ?_
  refine chxc rfl rfl rfl (ob_appendC elByteP (hlo_of hq37) Tryz.underlying99 (arg_op 2 2 rfl rfl rfl rfl) (ArgOK.val (arg_op 4 0 rfl rfl rfl rfl) (arr_slO (hb24.up hs36) (lock_nm1 _))) ?_) ?_
  · (refine ⟨?_, ?_⟩ <;> ((try simp only [List.length_append, List.length_cons, List.length_nil, nmBytes_len, elByte, elNm, elInt, maxLen]); omega))
  refine ch_nil ?_
  intro a38 w39 hf40 hg41 hk42 hn43
  have h44 : Holds (OwnS w17.heap.size _ _) (a38.eval (.tmp 9)) w39 := hn43.at 5 0 rfl rfl rfl
  have hv45 : Holds (Is (PtrV bk9)) (a38.eval (.tmp 1)) w39 := is_any (hk42.holds rfl hv23)
  have hb46 := hb24.up hg41
  have hv47 : Holds (Is (PtrV bk27)) (a38.eval (.tmp 2)) w39 := is_any (hk42.holds rfl hv29)
  have hb48 := hb30.up hg41
  have g49 := g25.trans hg41
  have g50 := g26.trans hg41
  have g51 := g31.trans hg41
  clear hv23 hb24 hv29 hb30 g25 g26 g31 hf18 hk42 hn43
  obtain ⟨V52, h53, hV54⟩ := nameV h44
  clear h44
  refine wp_all [([9], [])] [1, 2] w17.heap.size hf40 g51.size (by kernel_rfl) (bund_cons h53 bund_nil) ?_
  refine ch rfl (ob_assign (arg_free 0 rfl rfl)) ?_
  refine ch_nil ?_
  intro a55 w56 hf57 hg58 hk59 hn60
  have h61 : Holds _ (a55.eval (.tmp 3)) w56 := hn60.at 0 0 rfl rfl rfl
  have hv62 : Holds (Is (PtrV bk9)) (a55.eval (.tmp 1)) w56 := is_any (hk59.holds rfl hv45)
  have hb63 := hb46.up hg58
  have hv64 : Holds (Is (PtrV bk27)) (a55.eval (.tmp 2)) w56 := is_any (hk59.holds rfl hv47)
  have hb65 := hb48.up hg58
  have g66 := g49.trans hg58
  have g67 := g50.trans hg58
  have g68 := g51.trans hg58
  have hV69 := hV54.up hg58
  clear hv45 hb46 hv47 hb48 g49 g50 g51 hf40 hk59 hn60 hg58 hV54
  refine then_ ?_
  refine wp_seq ?_
  have g70 : Grow w56 w56 := Grow.refl _
  have hl71 : bk9 < w56.heap.size := hb63.lt
  have hl72 : bk27 < w56.heap.size := hb65.lt
  have hz73 : w17.heap.size ≤ w56.heap.size := g68.size
  refine wp_region_lit ?_
  refine wp_seg (l1 := [_, _, _, _, _, _, _, _]) [([3], []), ([1], []), ([], [1]), ([], [2]), ([1], []), ([], [4]), ([], [5]), ([], [3, 6])] [1, 2, 3] w56.heap.size hf57 g70.size (by kernel_rfl) (bund_cons h61 (bund_cons (hb63.ownp hv62) bund_nil)) ?_
  refine ch rfl (ob_move (arg_free 0 rfl rfl)) ?_
  refine ch rfl (ob_fa_lock2 (ArgOK.ownp (arg_free 1 rfl rfl))) ?_
  refine ch rfl (ob_load1 (arg_op 1 0 rfl rfl rfl rfl) Tryz.underlying3 rfl) ?_
  refine ch rfl (ob_intbyte (m := i2b k.owner.toInt) (arg_op 2 0 rfl rfl rfl rfl) Tryz.underlying3 Tryz.underlying5 ?_) ?_
  · exact i2b_eq _
  refine ch rfl (ob_fa_lock3 (ArgOK.ownp (arg_free 1 rfl rfl))) ?_
  refine ch rfl (ob_load1 (arg_op 4 0 rfl rfl rfl rfl) Tryz.underlying3 rfl) ?_
  refine ch rfl (ob_intbyte (m := i2b k.to.toInt) (arg_op 5 0 rfl rfl rfl rfl) Tryz.underlying3 Tryz.underlying5 ?_) ?_
  · exact i2b_eq _
  refine ch rfl (ob_bs2_byte (arg_op 3 3 rfl rfl rfl rfl) (arg_op 6 0 rfl rfl rfl rfl)) ?_
  refine ch_nil ?_
  intro a74 w75 hf76 hg77 hk78 hn79
  have h80 : Holds _ (a74.eval (.tmp 10)) w75 := hn79.at 0 7 rfl rfl rfl
  have h81 : Holds (OwnF w56.heap.size _ _) (a74.eval (.tmp 17)) w75 := hn79.at 7 0 rfl rfl rfl
  have h82 := hk78.holds rfl h61
  have hv83 : Holds (Is (PtrV bk9)) (a74.eval (.tmp 1)) w75 := is_any (hk78.holds rfl hv62)
  have hb84 := hb63.up hg77
  have hv85 : Holds (Is (PtrV bk27)) (a74.eval (.tmp 2)) w75 := is_any (hk78.holds rfl hv64)
  have hb86 := hb65.up hg77
  have g87 := g66.trans hg77
  have g88 := g67.trans hg77
  have g89 := g68.trans hg77
  have g90 := g70.trans hg77
  clear h61 hv62 hb63 hv64 hb65 g66 g67 g68 g70 hf57 hk78 hn79
  obtain ⟨V91, h92, hV93⟩ := nameV h81
  clear h81
  refine wl_appendW elByteP [1, 2, 3] hf76 (by kernel_rfl) rfl Tryz.underlying99 (unV h80 (hV69.up g90)) (OwnS.sl (OwnF.own (unV h92 hV93))) ?_ ?_ g89.size ?_
  · ((try simp only [List.length_append, List.length_cons, List.length_nil, nmBytes_len, elByte, elNm, elInt, maxLen]); omega)
  · ((try simp only [List.length_append, List.length_cons, List.length_nil, nmBytes_len, elByte, elNm, elInt, maxLen]); omega)
  intro a94 w95 hf96 hw97 hk98 h99
  have g100 : Grow w0 w95 := g87.wr hw97 (by omega)
  have g101 : Grow w2 w95 := g88.wr hw97 (by omega)
  have g102 : Grow w17 w95 := g89.wr hw97 (by omega)
  have g103 : Siz w56 w95 := Siz.below g90.size hw97.below
  have h104 : Holds _ (a94.eval (.tmp 3)) w95 := is_any (hk98.holds rfl h82)
  have hv105 : Holds (Is (PtrV bk9)) (a94.eval (.tmp 1)) w95 := is_any (hk98.holds rfl hv83)
  have hb106 : Blk bk9 _ w95 := hb84.wr hw97 (by omega)
  have hv107 : Holds (Is (PtrV bk27)) (a94.eval (.tmp 2)) w95 := is_any (hk98.holds rfl hv85)
  have hb108 : Blk bk27 _ w95 := hb86.wr hw97 (by omega)
  obtain ⟨V109, h110, hV111⟩ := nameV h99
  clear h99
  refine wp_all [([18], [])] [1, 2] w56.heap.size hf96 g103.size (by kernel_rfl) (bund_cons h110 bund_nil) ?_
  refine ch rfl (ob_assign (arg_free 0 rfl rfl)) ?_
  refine ch_nil ?_
  intro a112 w113 hf114 hg115 hk116 hn117
  have h118 : Holds _ (a112.eval (.tmp 3)) w113 := hn117.at 0 0 rfl rfl rfl
  have hv119 : Holds (Is (PtrV bk9)) (a112.eval (.tmp 1)) w113 := is_any (hk116.holds rfl hv105)
  have hb120 := hb106.up hg115
  have hv121 : Holds (Is (PtrV bk27)) (a112.eval (.tmp 2)) w113 := is_any (hk116.holds rfl hv107)
  have hb122 := hb108.up hg115
  have g123 := g100.trans hg115
  have g124 := g101.trans hg115
  have g125 := g102.trans hg115
  have g126 : Siz w56 w113 := g103.trans hg115
  have hV127 := hV111.up hg115
  clear hv105 hb106 hv107 hb108 g100 g101 g102 g103 hf96 hk116 hn117 hg115 hV111
  refine then_ ?_
  refine wp_seq ?_
  have g128 : Grow w113 w113 := Grow.refl _
  have hl129 : bk9 < w113.heap.size := hb120.lt
  have hl130 : bk27 < w113.heap.size := hb122.lt
  have hz131 : w56.heap.size ≤ w113.heap.size := g126.size
  refine wp_region_lit ?_
  refine wp_seg (l1 := [_, _, _, _, _, _]) [([3], []), ([1], []), ([], [1]), ([], [2]), ([], [0, 3]), ([], [4])] [2] w113.heap.size hf114 g128.size (by kernel_rfl) (bund_cons h118 (bund_cons (hb120.ownp hv119) bund_nil)) ?_
  refine ch rfl (ob_move (arg_free 0 rfl rfl)) ?_
  refine ch rfl (ob_fa_lock4 (ArgOK.ownp (arg_free 1 rfl rfl))) ?_
  refine ch rfl (ob_load1 (arg_op 1 0 rfl rfl rfl rfl) Tryz.underlying3 rfl) ?_
  refine ch rfl (ob_intu64 (m := i2u k.till.toInt) (arg_op 2 0 rfl rfl rfl rfl) Tryz.underlying3 Tryz.underlying102 ?_) ?_
  · exact i2u_eq _
  refine ch rfl (ob_call3 (by kernel_rfl) (c_AppendUint 2 ?_ ?_ ?_) (ArgOK.sl (ArgOK.val (arg_op 0 3 rfl rfl rfl rfl) hV127)) (arg_op 3 0 rfl rfl rfl rfl) arg_c) ?_
  · rfl
  · decide
  · (simp only [List.length_append, List.length_cons, List.length_nil, nmBytes_len, be_len]; omega)
  refine ch rfl (ob_call2 (by kernel_rfl) (c_Tagged ?_) (arg_cb 84 rfl) (ArgOK.sl (arg_op 4 0 rfl rfl rfl rfl))) ?_
  · (simp only [List.length_append, List.length_cons, List.length_nil, nmBytes_len, be_len]; omega)
  refine ch_nil ?_
  intro a132 w133 hf134 hg135 hk136 hn137
  have h138 : Holds _ (a132.eval (.tmp 24)) w133 := hn137.at 5 0 rfl rfl rfl
  have hv139 : Holds (Is (PtrV bk27)) (a132.eval (.tmp 2)) w133 := is_any (hk136.holds rfl hv121)
  have hb140 := hb122.up hg135
  have g141 := g123.trans hg135
  have g142 := g124.trans hg135
  have g143 := g125.trans hg135
  have g144 : Siz w56 w133 := g126.trans hg135
  have g145 := g128.trans hg135
  clear hv121 hb122 g123 g124 g125 g126 g128 hf114 hk136 hn137
  refine wl_store_nm hv139 hb140 rfl h138 ?_
  intro w146 ho147 hb148
  have g149 : Grow w0 w146 := g141.only ho147 (by omega)
  have g150 : Grow w2 w146 := g142.only ho147 (by omega)
  have hv154 : Holds (Is (PtrV bk27)) (a132.eval (.tmp 2)) w146 := is_any hv139
  refine wpList_nil ?_
  refine then_ ?_
  refine wp_ret ?_
  refine ret_cell rfl Tryz.underlying30 rfl (by kernel_rfl) hf134 g149 (hb148.ptr hv154) ?_
  exact rfl
end Ex
end Go.Proofs.YtnmfiiejhoafnaaGreat
