/- Paths share no memory. -/
import Derived.Test.YtnmfiiejhoafnaaMerkle2
namespace Go.Proofs.Ytnmfiiejhoafnaa
namespace Ex
open Go Calm Go.RowKit

/-- the first places, overwritten -/
def sets (p : List UInt64) : Nat → List UInt64
  | 0 => p
  | x + 1 => (sets p x).set x 7
theorem sets_len (p : List UInt64) : ∀ x, (sets p x).length = p.length
  | 0 => rfl
  | x + 1 => by rw [sets, List.length_set, sets_len p x]
theorem ver_all {L : List UInt64} {r : Nat} (h : r < L.length) : verB (root L) (L.getD r default) (r : Int) (L.length : Int) (pathV L (r : Int)) = true := by
  have h1 := inc_all h
  simp only [Bool.and_eq_true] at h1
  exact h1.1.2
theorem own_lt {α : Type} {T : El α} {lo : Nat} {l : List α} {v : Value} {w : World} (h : Holds (OwnS lo T l) v w) : ∀ g, v.ownBlock = some g → g < w.heap.size := fun g hg => by
  have h0 : w.ownsRow lo T.tid T.size v l.length (l.flatMap T.cells) := h
  exact (h0.lt g hg).2

set_option maxRecDepth 100000 in
theorem c_MerkleShares {l : List UInt64} {i k : Int64} : Con3 22 (Sl elNm l) (Is (intV i.toInt)) (Is (intV k.toInt)) (fun _ => Is (.bool true)) := by
  intro lo v0 v1 v2 w0 hlo hv0 hv1 hv2
  refine enter Try.func22 rfl Try.ntmps22 (by simp) ?_
  intro a0 hf0 ha
  have h00 : Holds (Is v0) (a0.eval (.tmp 0)) w0 := arg_holds ha rfl rfl
  have h01 : Holds _ (a0.eval (.tmp 1)) w0 := arg_holds ha rfl hv1
  have h02 : Holds _ (a0.eval (.tmp 2)) w0 := arg_holds ha rfl hv2
  clear ha
  have g0 : Grow w0 w0 := Grow.refl _
  have hi1 := i.le_toInt
  have hi2 := i.toInt_lt
  have hk1 := k.le_toInt
  have hk2 := k.toInt_lt
  have h300 := take300 l
  refine wp_seq ?_
  refine wp_region_lit ?_
  refine wp_all [([], [])] [0, 1, 2] w0.heap.size hf0 g0.size (by kernel_rfl) bund_nil ?_
  refine ch rfl (ob_assign arg_c) ?_
  refine ch_nil ?_
  intro a1 w2 hf3 hg4 hk5 hn6
  have h7 : Holds _ (a1.eval (.tmp 0)) w0 := hk5.holds rfl h00
  have h8 : Holds _ (a1.eval (.tmp 1)) w0 := hk5.holds rfl h01
  have h9 : Holds _ (a1.eval (.tmp 2)) w0 := hk5.holds rfl h02
  have g10 : Grow w0 w2 := g0.trans hg4
  clear h00 h01 h02 g0 hf0 hk5 hn6
  refine then_ ?_
  refine wp_seq ?_
  have g11 : Grow w2 w2 := Grow.refl _
  have hz12 : w0.heap.size ≤ w2.heap.size := g10.size
  refine wp_region_lit ?_
  refine wp_all [([0], []), ([], [0]), ([], [1])] [1, 2] w2.heap.size hf3 g11.size (by kernel_rfl) (bund_cons (is_any h7) bund_nil) ?_
  refine ch rfl (ob_move (arg_free 0 rfl rfl)) ?_
  refine ch rfl (ob_call1 (by kernel_rfl) (c_cut) (ArgOK.val (arg_op 0 0 rfl rfl rfl rfl) (hv0.up g10))) ?_
  refine ch rfl (ob_assign (arg_op 1 0 rfl rfl rfl rfl)) ?_
  refine ch_nil ?_
  intro a13 w14 hf15 hg16 hk17 hn18
  have h19 : Holds _ (a13.eval (.tmp 0)) w14 := hn18.at 2 0 rfl rfl rfl
  have h20 : Holds _ (a13.eval (.tmp 1)) w0 := hk17.holds rfl h8
  have h21 : Holds _ (a13.eval (.tmp 2)) w0 := hk17.holds rfl h9
  have g22 : Grow w0 w14 := g10.trans hg16
  have g23 : Grow w2 w14 := g11.trans hg16
  clear h8 h9 g10 g11 hf3 hk17 hn18
  obtain ⟨V24, h25, hV26⟩ := nameV h19
  clear h19
  refine then_ ?_
  refine wp_seq ?_
  refine wp_seq ?_
  refine wp_region_lit ?_
  refine wp_all [([0], []), ([], [0]), ([], [1])] [0, 1, 2] w2.heap.size hf15 g23.size (by kernel_rfl) (bund_cons h25 bund_nil) ?_
  refine ch rfl (ob_move (arg_free 0 rfl rfl)) ?_
  refine ch rfl (ob_len (ArgOK.val (arg_op 0 0 rfl rfl rfl rfl) hV26) Try.underlying39) ?_
  refine ch rfl (ob_eql (arg_op 1 0 rfl rfl rfl rfl) arg_c) ?_
  refine ch_nil ?_
  intro a27 w28 hf29 hg30 hk31 hn32
  have h33 : Holds _ (a27.eval (.tmp 18)) w28 := hn32.at 2 0 rfl rfl rfl
  have h34 : Holds _ (a27.eval (.tmp 0)) w28 := hk31.holds rfl (h25.up hg30)
  have h35 : Holds _ (a27.eval (.tmp 1)) w0 := hk31.holds rfl h20
  have h36 : Holds _ (a27.eval (.tmp 2)) w0 := hk31.holds rfl h21
  have g37 : Grow w0 w28 := g22.trans hg30
  have g38 : Grow w2 w28 := g23.trans hg30
  have hV39 : Holds _ V24 w28 := hV26.up hg30
  clear h25 h20 h21 g22 g23 hf15 hk31 hn32 hg30 hV26
  refine then_ ?_
  refine wp_if h33 ?_ ?_
  · intro hc40
    try simp only [sets_len, cond_norm] at hc40
    refine wp_seq ?_
    have g41 : Grow w28 w28 := Grow.refl _
    have hz42 : w2.heap.size ≤ w28.heap.size := g38.size
    refine wp_region_lit ?_
    refine wp_all [([], []), ([], [0])] [] w28.heap.size hf29 g41.size (by kernel_rfl) bund_nil ?_
    refine ch rfl (ob_call0 (by kernel_rfl) (c_awake3) ) ?_
    refine ch rfl (ob_assign (arg_op 0 0 rfl rfl rfl rfl)) ?_
    refine ch_nil ?_
    intro a43 w44 hf45 hg46 hk47 hn48
    have h49 : Holds _ (a43.eval (.tmp 6)) w44 := hn48.at 1 0 rfl rfl rfl
    have g50 : Grow w0 w44 := g37.trans hg46
    have g51 : Grow w2 w44 := g38.trans hg46
    have g52 : Grow w28 w44 := g41.trans hg46
    clear g37 g38 g41 hf29 hk47 hn48
    refine then_ ?_
    refine wp_ret ?_
    refine thenR ?_
    exact ret_tmp rfl hf45 g50 (is_cast h49 (congrArg Value.bool (by first | rfl | (rw [ver_all hK]; simp))))
  · intro hc40
    try simp only [sets_len, cond_norm] at hc40
    refine wp_skip ?_
    refine then_ ?_
    refine wp_seq ?_
    have g53 : Grow w28 w28 := Grow.refl _
    have hz54 : w2.heap.size ≤ w28.heap.size := g38.size
    refine wp_region_lit ?_
    refine wp_all [([], []), ([0], []), ([], [0, 1]), ([], [2])] [0, 1, 2] w28.heap.size hf29 g53.size (by kernel_rfl) (bund_cons h34 bund_nil) ?_
    refine ch rfl (ob_bs0_nm ) ?_
    refine ch rfl (ob_move (arg_free 0 rfl rfl)) ?_
    refine ch rfl (ob_append_fresh elNmP Try.underlying39 (arg_op 0 1 rfl rfl rfl rfl) (ArgOK.val (arg_op 1 0 rfl rfl rfl rfl) hV39) ?_) ?_
    · (refine ⟨?_, ?_⟩ <;> ((try simp only [List.length_append, List.length_cons, List.length_nil, nmBytes_len, elByte, elNm, elInt, maxLen]); omega))
    refine ch rfl (ob_assign (arg_op 2 0 rfl rfl rfl rfl)) ?_
    refine ch_nil ?_
    intro a55 w56 hf57 hg58 hk59 hn60
    have h61 : Holds (OwnS w28.heap.size _ _) (a55.eval (.tmp 7)) w56 := hn60.at 3 0 rfl rfl rfl
    have h62 : Holds _ (a55.eval (.tmp 0)) w28 := hk59.holds rfl h34
    have h63 : Holds _ (a55.eval (.tmp 1)) w0 := hk59.holds rfl h35
    have h64 : Holds _ (a55.eval (.tmp 2)) w0 := hk59.holds rfl h36
    have g65 : Grow w0 w56 := g37.trans hg58
    have g66 : Grow w2 w56 := g38.trans hg58
    have g67 : Grow w28 w56 := g53.trans hg58
    clear h34 h35 h36 g37 g38 g53 hf29 hk59 hn60
    obtain ⟨V68, h69, hV70⟩ := nameV h61
    clear h61
    refine then_ ?_
    refine wp_seq ?_
    refine wp_calm [0, 1, 0, 4, 12, 31, 63, 0, 128, 0, 512, 1536, 3968, 8064, 127, 32767] [([1], []), ([], [0]), ([0], []), ([], [2]), ([], [3]), ([], [1, 4]), ([], [5]), ([2], []), ([], [7]), ([0], []), ([], [9]), ([], [10]), ([], [8, 11]), ([], [12]), ([], [6]), ([], [13])] [0, 7] w28.heap.size hf57 g67.size (by kernel_rfl) (bund_cons (is_any h63) (bund_cons (is_any h62) (bund_cons (is_any h64) bund_nil))) ?_
    intro ws71 hs72
    refine ch rfl (ob_move (arg_free 0 rfl rfl)) ?_
    refine ch rfl (ob_intu64 (m := UInt64.ofNat (i.toInt % 18446744073709551616).toNat) (arg_op 0 0 rfl rfl rfl rfl) Try.underlying3 Try.underlying29 ?_) ?_
    · exact int_u64 _
    refine ch rfl (ob_move (arg_free 1 rfl rfl)) ?_
    refine ch rfl (ob_len (ArgOK.val (arg_op 2 0 rfl rfl rfl rfl) ((hV39.up g67).up hs72)) Try.underlying39) ?_
    refine ch rfl (ob_intu64 (m := UInt64.ofNat (l.take 300).length) (arg_op 3 0 rfl rfl rfl rfl) Try.underlying3 Try.underlying29 ?_) ?_
    · exact len_u64 (by omega)
    refine ch rfl (ob_remu (arg_op 1 3 rfl rfl rfl rfl) (arg_op 4 0 rfl rfl rfl rfl) ?_) ?_
    · (rw [UInt64.toNat_ofNat']; omega)
    refine ch rfl (ob_u64int (arg_op 5 0 rfl rfl rfl rfl) Try.underlying29 Try.underlying3) ?_
    refine ch rfl (ob_move (arg_free 2 rfl rfl)) ?_
    refine ch rfl (ob_intu64 (m := UInt64.ofNat (k.toInt % 18446744073709551616).toNat) (arg_op 7 0 rfl rfl rfl rfl) Try.underlying3 Try.underlying29 ?_) ?_
    · exact int_u64 _
    refine ch rfl (ob_move (arg_free 1 rfl rfl)) ?_
    refine ch rfl (ob_len (ArgOK.val (arg_op 9 0 rfl rfl rfl rfl) ((hV39.up g67).up hs72)) Try.underlying39) ?_
    refine ch rfl (ob_intu64 (m := UInt64.ofNat (l.take 300).length) (arg_op 10 0 rfl rfl rfl rfl) Try.underlying3 Try.underlying29 ?_) ?_
    · exact len_u64 (by omega)
    refine ch rfl (ob_remu (arg_op 8 3 rfl rfl rfl rfl) (arg_op 11 0 rfl rfl rfl rfl) ?_) ?_
    · (rw [UInt64.toNat_ofNat']; omega)
    refine ch rfl (ob_u64int (arg_op 12 0 rfl rfl rfl rfl) Try.underlying29 Try.underlying3) ?_
    refine ch rfl (ob_assign (arg_op 6 7 rfl rfl rfl rfl)) ?_
    refine ch rfl (ob_assign (arg_op 13 1 rfl rfl rfl rfl)) ?_
    refine ch_nil ?_
    intro a73 w74 hf75 hg76 hk77 hn78
    have h79 : Holds _ (a73.eval (.tmp 1)) w74 := hn78.at 14 1 rfl rfl rfl
    have h80 : Holds _ (a73.eval (.tmp 2)) w74 := hn78.at 15 0 rfl rfl rfl
    have h81 : Holds _ (a73.eval (.tmp 7)) w74 := hk77.holds rfl (h69.up hg76)
    have h82 : Holds _ (a73.eval (.tmp 0)) w28 := hk77.holds rfl h62
    have g83 : Grow w0 w74 := g65.trans hg76
    have g84 : Grow w2 w74 := g66.trans hg76
    have g85 : Grow w28 w74 := g67.trans hg76
    have hV86 : Holds _ V68 w74 := hV70.up hg76
    clear h69 h62 g65 g66 g67 hf57 hk77 hn78 hg76 hV70
    refine then_ ?_
    refine wp_seq ?_
    have hR : (UInt64.ofNat (i.toInt % 18446744073709551616).toNat % UInt64.ofNat (l.take 300).length).toNat < (l.take 300).length := mod_len i.toInt (by omega)
    have hK : (UInt64.ofNat (k.toInt % 18446744073709551616).toNat % UInt64.ofNat (l.take 300).length).toNat < (l.take 300).length := mod_len k.toInt (by omega)
    have h87 : Holds (Is (intV ((UInt64.ofNat (i.toInt % 18446744073709551616).toNat % UInt64.ofNat (l.take 300).length).toNat : Int))) (a73.eval (.tmp 1)) w74 := is_cast h79 ((congrArg intV (wrap_in (by omega))))
    have h88 : Holds (Is (intV ((UInt64.ofNat (k.toInt % 18446744073709551616).toNat % UInt64.ofNat (l.take 300).length).toNat : Int))) (a73.eval (.tmp 2)) w74 := is_cast h80 ((congrArg intV (wrap_in (by omega))))
    have g89 : Grow w74 w74 := Grow.refl _
    have hz90 : w28.heap.size ≤ w74.heap.size := g85.size
    refine wp_region_lit ?_
    refine wp_all [([0], []), ([1], []), ([], [0, 1]), ([], [2]), ([], [3]), ([], [3]), ([], [4]), ([], [5])] [0, 2, 7] w74.heap.size hf75 g89.size (by kernel_rfl) (bund_cons (is_any h82) (bund_cons h87 bund_nil)) ?_
    refine ch rfl (ob_move (arg_free 0 rfl rfl)) ?_
    refine ch rfl (ob_move (arg_free 1 rfl rfl)) ?_
    refine ch rfl (ob_call2 (by kernel_rfl) (c_Path ?_ ?_) (ArgOK.val (arg_op 0 1 rfl rfl rfl rfl) (hV39.up g85)) (arg_op 1 0 rfl rfl rfl rfl)) ?_
    · ((try simp only [List.length_take, List.length_drop, List.length_cons, List.length_nil]); omega)
    · omega
    refine ch rfl (ob_move (arg_op 2 0 rfl rfl rfl rfl)) ?_
    refine ch rfl (ob_extract0 (arg_op 3 0 rfl rfl rfl rfl)) ?_
    refine ch rfl (ob_extract1 (arg_op 3 1 rfl rfl rfl rfl)) ?_
    refine ch rfl (ob_assign (arg_op 4 1 rfl rfl rfl rfl)) ?_
    refine ch rfl (ob_assign (arg_op 5 1 rfl rfl rfl rfl)) ?_
    refine ch_nil ?_
    intro a91 w92 hf93 hg94 hk95 hn96
    have h97 : Holds (OwnS w74.heap.size _ _) (a91.eval (.tmp 8)) w92 := hn96.at 6 1 rfl rfl rfl
    have h98 : Holds _ (a91.eval (.tmp 2)) w74 := hk95.holds rfl h88
    have h99 : Holds _ (a91.eval (.tmp 7)) w74 := hk95.holds rfl h81
    have h100 : Holds _ (a91.eval (.tmp 0)) w28 := hk95.holds rfl h82
    have g101 : Grow w0 w92 := g83.trans hg94
    have g102 : Grow w2 w92 := g84.trans hg94
    have g103 : Grow w28 w92 := g85.trans hg94
    have g104 : Grow w74 w92 := g89.trans hg94
    clear h88 h81 h82 g83 g84 g85 g89 hf75 hk95 hn96
    obtain ⟨V105, h106, hV107⟩ := nameV h97
    clear h97
    refine then_ ?_
    refine wp_seq ?_
    have hlt8 := own_lt hV107
    have g108 : Grow w92 w92 := Grow.refl _
    have hz109 : w74.heap.size ≤ w92.heap.size := g104.size
    refine wp_region_lit ?_
    refine wp_all [([0], []), ([2], []), ([], [0, 1]), ([], [2]), ([], [3]), ([], [3]), ([], [4]), ([], [5])] [0, 2, 7, 8] w92.heap.size hf93 g108.size (by kernel_rfl) (bund_cons (is_any h100) (bund_cons (is_any h98) bund_nil)) ?_
    refine ch rfl (ob_move (arg_free 0 rfl rfl)) ?_
    refine ch rfl (ob_move (arg_free 1 rfl rfl)) ?_
    refine ch rfl (ob_call2 (by kernel_rfl) (c_Path ?_ ?_) (ArgOK.val (arg_op 0 1 rfl rfl rfl rfl) (hV39.up g103)) (arg_op 1 0 rfl rfl rfl rfl)) ?_
    · ((try simp only [List.length_take, List.length_drop, List.length_cons, List.length_nil]); omega)
    · omega
    refine ch rfl (ob_move (arg_op 2 0 rfl rfl rfl rfl)) ?_
    refine ch rfl (ob_extract0 (arg_op 3 0 rfl rfl rfl rfl)) ?_
    refine ch rfl (ob_extract1 (arg_op 3 1 rfl rfl rfl rfl)) ?_
    refine ch rfl (ob_assign (arg_op 4 1 rfl rfl rfl rfl)) ?_
    refine ch rfl (ob_assign (arg_op 5 1 rfl rfl rfl rfl)) ?_
    refine ch_nil ?_
    intro a110 w111 hf112 hg113 hk114 hn115
    have h116 : Holds (OwnS w92.heap.size _ _) (a110.eval (.tmp 10)) w111 := hn115.at 6 1 rfl rfl rfl
    have h117 : Holds _ (a110.eval (.tmp 8)) w92 := hk114.holds rfl h106
    have h118 : Holds _ (a110.eval (.tmp 2)) w74 := hk114.holds rfl h98
    have h119 : Holds _ (a110.eval (.tmp 7)) w74 := hk114.holds rfl h99
    have h120 : Holds _ (a110.eval (.tmp 0)) w28 := hk114.holds rfl h100
    have g121 : Grow w0 w111 := g101.trans hg113
    have g122 : Grow w2 w111 := g102.trans hg113
    have g123 : Grow w28 w111 := g103.trans hg113
    have g124 : Grow w74 w111 := g104.trans hg113
    have g125 : Grow w92 w111 := g108.trans hg113
    clear h106 h98 h99 h100 g101 g102 g103 g104 g108 hf93 hk114 hn115
    obtain ⟨V126, h127, hV128⟩ := nameV h116
    clear h116
    refine then_ ?_
    refine wp_seq ?_
    have g129 : Grow w111 w111 := Grow.refl _
    have hz130 : w92.heap.size ≤ w111.heap.size := g125.size
    refine wp_region_lit ?_
    refine wp_all [([], []), ([10], []), ([], [0, 1]), ([], [2])] [0, 2, 7, 8, 10] w111.heap.size hf112 g129.size (by kernel_rfl) (bund_cons h127 bund_nil) ?_
    refine ch rfl (ob_bs0_nm ) ?_
    refine ch rfl (ob_move (arg_free 0 rfl rfl)) ?_
    refine ch rfl (ob_append_fresh elNmP Try.underlying39 (arg_op 0 1 rfl rfl rfl rfl) (ArgOK.sl (ArgOK.val (arg_op 1 0 rfl rfl rfl rfl) hV128)) ?_) ?_
    · (have hpk := pathV_le (l.take 300) ((UInt64.ofNat (k.toInt % 18446744073709551616).toNat % UInt64.ofNat (l.take 300).length).toNat : Int); refine ⟨?_, ?_⟩ <;> simp only [List.length_nil, elNm] <;> omega)
    refine ch rfl (ob_assign (arg_op 2 0 rfl rfl rfl rfl)) ?_
    refine ch_nil ?_
    intro a131 w132 hf133 hg134 hk135 hn136
    have h137 : Holds (OwnS w111.heap.size _ _) (a131.eval (.tmp 12)) w132 := hn136.at 3 0 rfl rfl rfl
    have h138 : Holds _ (a131.eval (.tmp 10)) w111 := hk135.holds rfl h127
    have h139 : Holds _ (a131.eval (.tmp 8)) w92 := hk135.holds rfl h117
    have h140 : Holds _ (a131.eval (.tmp 2)) w74 := hk135.holds rfl h118
    have h141 : Holds _ (a131.eval (.tmp 7)) w74 := hk135.holds rfl h119
    have h142 : Holds _ (a131.eval (.tmp 0)) w28 := hk135.holds rfl h120
    have g143 : Grow w0 w132 := g121.trans hg134
    have g144 : Grow w2 w132 := g122.trans hg134
    have g145 : Grow w28 w132 := g123.trans hg134
    have g146 : Grow w74 w132 := g124.trans hg134
    have g147 : Grow w92 w132 := g125.trans hg134
    have g148 : Grow w111 w132 := g129.trans hg134
    clear h127 h117 h118 h119 h120 g121 g122 g123 g124 g125 g129 hf112 hk135 hn136
    obtain ⟨V149, h150, hV151⟩ := nameV h137
    clear h137
    refine then_ ?_
    refine wp_seq ?_
    refine wp_seq ?_
    refine wp_region_lit ?_
    refine wp_all [([], [])] [0, 2, 7, 8, 10, 12] w111.heap.size hf133 g148.size (by kernel_rfl) bund_nil ?_
    refine ch rfl (ob_assign arg_c) ?_
    refine ch_nil ?_
    intro a152 w153 hf154 hg155 hk156 hn157
    have h158 : Holds _ (a152.eval (.tmp 13)) w153 := hn157.at 0 0 rfl rfl rfl
    have h159 : Holds _ (a152.eval (.tmp 12)) w153 := hk156.holds rfl (h150.up hg155)
    have h160 : Holds _ (a152.eval (.tmp 10)) w111 := hk156.holds rfl h138
    have h161 : Holds _ (a152.eval (.tmp 8)) w92 := hk156.holds rfl h139
    have h162 : Holds _ (a152.eval (.tmp 2)) w74 := hk156.holds rfl h140
    have h163 : Holds _ (a152.eval (.tmp 7)) w74 := hk156.holds rfl h141
    have h164 : Holds _ (a152.eval (.tmp 0)) w28 := hk156.holds rfl h142
    have g165 : Grow w0 w153 := g143.trans hg155
    have g166 : Grow w2 w153 := g144.trans hg155
    have g167 : Grow w28 w153 := g145.trans hg155
    have g168 : Grow w74 w153 := g146.trans hg155
    have g169 : Grow w92 w153 := g147.trans hg155
    have g170 : Grow w111 w153 := g148.trans hg155
    have hV171 : Holds _ V149 w153 := hV151.up hg155
    clear h150 h138 h139 h140 h141 h142 g143 g144 g145 g146 g147 g148 hf133 hk156 hn157 hg155 hV151
    refine then_ ?_
    refine wp_block ?_
    refine wp_loopL (α := Nat) (fun x a' w' => Fr 86 a' ∧ (x ≤ (pathV (l.take 300) ((UInt64.ofNat (i.toInt % 18446744073709551616).toNat % UInt64.ofNat (l.take 300).length).toNat : Int)).length) ∧ Grow w0 w' ∧ Grow w2 w' ∧ Grow w28 w' ∧ Grow w74 w' ∧ Keep [0, 2, 7, 8, 10, 12] a152 a' ∧ Holds (Is (intV (x : Int))) (a'.eval (.tmp 13)) w' ∧ Holds (OwnS w74.heap.size elNm (sets (pathV (l.take 300) ((UInt64.ofNat (i.toInt % 18446744073709551616).toNat % UInt64.ofNat (l.take 300).length).toNat : Int)) x)) V105 w' ∧ Holds (OwnS w92.heap.size elNm (pathV (l.take 300) ((UInt64.ofNat (k.toInt % 18446744073709551616).toNat % UInt64.ofNat (l.take 300).length).toNat : Int))) V126 w' ∧ Holds (OwnS w111.heap.size elNm ([] ++ pathV (l.take 300) ((UInt64.ofNat (k.toInt % 18446744073709551616).toNat % UInt64.ofNat (l.take 300).length).toNat : Int))) V149 w') (fun x => (pathV (l.take 300) ((UInt64.ofNat (i.toInt % 18446744073709551616).toNat % UInt64.ofNat (l.take 300).length).toNat : Int)).length - x) (0) ⟨hf154, (by ((try dsimp only); omega)), g165, g166, g167, g168, Keep.refl _ _, (is_cast h158 (by first | rfl | (refine congrArg intV ?_; (try dsimp only); omega))), (hV107.up g169), (hV128.up g170), hV171⟩ ?_
    intro x a172 w173 ⟨hf174, hi176, g177, g178, g179, g180, kk175, h181, hV182, hV183, hV184⟩
    have h185 : Holds _ (a172.eval (.tmp 12)) w173 := is_any (kk175.holds rfl h159)
    have h186 : Holds _ (a172.eval (.tmp 10)) w173 := is_any (kk175.holds rfl h160)
    have h187 : Holds _ (a172.eval (.tmp 8)) w173 := is_any (kk175.holds rfl h161)
    have h188 : Holds _ (a172.eval (.tmp 2)) w74 := kk175.holds rfl h162
    have h189 : Holds _ (a172.eval (.tmp 7)) w74 := kk175.holds rfl h163
    have h190 : Holds _ (a172.eval (.tmp 0)) w28 := kk175.holds rfl h164
    have hpi := pathV_le (l.take 300) ((UInt64.ofNat (i.toInt % 18446744073709551616).toNat % UInt64.ofNat (l.take 300).length).toNat : Int)
    refine wp_seq ?_
    refine wp_seq ?_
    refine wp_region_lit ?_
    refine wp_all [([13], []), ([8], []), ([], [1]), ([], [0, 2])] [0, 2, 7, 8, 10, 12, 13] w74.heap.size hf174 g180.size (by kernel_rfl) (bund_cons h181 (bund_cons h187 bund_nil)) ?_
    refine ch rfl (ob_move (arg_free 0 rfl rfl)) ?_
    refine ch rfl (ob_move (arg_free 1 rfl rfl)) ?_
    refine ch rfl (ob_len (ArgOK.sl (ArgOK.val (arg_op 1 0 rfl rfl rfl rfl) hV182)) Try.underlying39) ?_
    refine ch rfl (ob_lss (arg_op 0 2 rfl rfl rfl rfl) (arg_op 2 0 rfl rfl rfl rfl)) ?_
    refine ch_nil ?_
    intro a191 w192 hf193 hg194 hk195 hn196
    have h197 : Holds _ (a191.eval (.tmp 55)) w192 := hn196.at 3 0 rfl rfl rfl
    have h198 : Holds _ (a191.eval (.tmp 13)) w192 := hk195.holds rfl (h181.up hg194)
    have h199 : Holds _ (a191.eval (.tmp 12)) w192 := hk195.holds rfl (h185.up hg194)
    have h200 : Holds _ (a191.eval (.tmp 10)) w192 := hk195.holds rfl (h186.up hg194)
    have h201 : Holds _ (a191.eval (.tmp 8)) w192 := hk195.holds rfl (h187.up hg194)
    have h202 : Holds _ (a191.eval (.tmp 2)) w74 := hk195.holds rfl h188
    have h203 : Holds _ (a191.eval (.tmp 7)) w74 := hk195.holds rfl h189
    have h204 : Holds _ (a191.eval (.tmp 0)) w28 := hk195.holds rfl h190
    have g205 : Grow w0 w192 := g177.trans hg194
    have g206 : Grow w2 w192 := g178.trans hg194
    have g207 : Grow w28 w192 := g179.trans hg194
    have g208 : Grow w74 w192 := g180.trans hg194
    have kk209 : Keep _ a152 a191 := kk175.trans hk195 rfl
    have hV210 : Holds _ V105 w192 := hV182.up hg194
    have hV211 : Holds _ V126 w192 := hV183.up hg194
    have hV212 : Holds _ V149 w192 := hV184.up hg194
    clear h181 h185 h186 h187 h188 h189 h190 g177 g178 g179 g180 kk175 hf174 hk195 hn196 hg194 hV182 hV183 hV184
    refine then_ ?_
    refine wp_if h197 ?_ ?_
    · intro hc213
      try simp only [sets_len, cond_norm] at hc213
      refine wp_skip ?_
      refine then_ ?_
      refine wp_seq ?_
      refine wp_block ?_
      have g214 : Grow w192 w192 := Grow.refl _
      have hz215 : w74.heap.size ≤ w192.heap.size := g208.size
      refine wp_region_lit ?_
      refine wp_seg (l1 := [_, _, _, _]) [([8], []), ([13], []), ([], []), ([], [0, 1])] [0, 2, 7, 8, 10, 12, 13] w192.heap.size hf193 g214.size (by kernel_rfl) (bund_cons h201 (bund_cons h198 bund_nil)) ?_
      refine ch rfl (ob_move (arg_free 0 rfl rfl)) ?_
      refine ch rfl (ob_move (arg_free 1 rfl rfl)) ?_
      refine ch rfl (ob_call1 (by kernel_rfl) (c_Of) (arg_cu 7 rfl)) ?_
      refine ch rfl (ob_ixv (arg_op 0 2 rfl rfl rfl rfl) (OwnS.sl hV210) (arg_op 1 1 rfl rfl rfl rfl) (rfl) ?_ Try.underlying39 szNm) ?_
      · (rw [sets_len]; omega)
      refine ch_nil ?_
      intro a216 w217 hf218 hg219 hk220 hn221
      have h222 : Holds _ (a216.eval (.tmp 60)) w217 := hn221.at 2 1 rfl rfl rfl
      have h223 : Holds _ (a216.eval (.tmp 61)) w217 := hn221.at 3 0 rfl rfl rfl
      have h224 : Holds _ (a216.eval (.tmp 13)) w192 := hk220.holds rfl h198
      have h225 : Holds _ (a216.eval (.tmp 12)) w192 := hk220.holds rfl h199
      have h226 : Holds _ (a216.eval (.tmp 10)) w192 := hk220.holds rfl h200
      have h227 : Holds _ (a216.eval (.tmp 8)) w192 := hk220.holds rfl h201
      have h228 : Holds _ (a216.eval (.tmp 2)) w74 := hk220.holds rfl h202
      have h229 : Holds _ (a216.eval (.tmp 7)) w74 := hk220.holds rfl h203
      have h230 : Holds _ (a216.eval (.tmp 0)) w28 := hk220.holds rfl h204
      have g231 : Grow w0 w217 := g205.trans hg219
      have g232 : Grow w2 w217 := g206.trans hg219
      have g233 : Grow w28 w217 := g207.trans hg219
      have g234 : Grow w74 w217 := g208.trans hg219
      have g235 : Grow w192 w217 := g214.trans hg219
      have kk236 : Keep _ a152 a216 := kk209.trans hk220 rfl
      clear h198 h199 h200 h201 h202 h203 h204 g205 g206 g207 g208 g214 kk209 hf193 hk220 hn221
      refine wl_store_elNm h223 (hV210.up g235) g234.size ?_ h222 ?_
      · (rw [sets_len]; omega)
      intro w237 hw238 ho239 hV240
      have g241 : Grow w0 w237 := g231.wr hw238 (by omega)
      have g242 : Grow w2 w237 := g232.wr hw238 (by omega)
      have g243 : Grow w28 w237 := g233.wr hw238 (by omega)
      have g244 : Grow w74 w237 := g234.wr hw238 (by omega)
      have h245 : Holds _ (a216.eval (.tmp 13)) w237 := is_any h224
      have h246 : Holds _ (a216.eval (.tmp 12)) w237 := is_any h225
      have h247 : Holds _ (a216.eval (.tmp 10)) w237 := is_any h226
      have h248 : Holds _ (a216.eval (.tmp 8)) w237 := is_any h227
      have h249 : Holds _ (a216.eval (.tmp 2)) w237 := is_any h228
      have h250 : Holds _ (a216.eval (.tmp 7)) w237 := is_any h229
      have h251 : Holds _ (a216.eval (.tmp 0)) w237 := is_any h230
      have hV252 : Holds _ V126 w237 := OwnS.apart (hV211.up g235) ho239 (fun g hg => (by have := hlt8 g hg; omega))
      have hV253 : Holds _ V149 w237 := OwnS.apart (hV212.up g235) ho239 (fun g hg => (by have := hlt8 g hg; omega))
      have h254 : Holds _ (a216.eval (.tmp 8)) w237 := is_any h227
      refine wpList_nil ?_
      refine blockN ?_
      refine then_ ?_
      refine wp_region_lit ?_
      refine wp_all [([13], []), ([], [0]), ([], [1])] [0, 2, 7, 8, 10, 12] w74.heap.size hf218 g244.size (by kernel_rfl) (bund_cons h245 bund_nil) ?_
      refine ch rfl (ob_move (arg_free 0 rfl rfl)) ?_
      first
        | (refine ch rfl (ob_add' (arg_op 0 0 rfl rfl rfl rfl) arg_c ?_) ?_; · omega)
        | refine ch rfl (ob_add (arg_op 0 0 rfl rfl rfl rfl) arg_c) ?_
      refine ch rfl (ob_assign (arg_op 1 0 rfl rfl rfl rfl)) ?_
      refine ch_nil ?_
      intro a255 w256 hf257 hg258 hk259 hn260
      have h261 : Holds _ (a255.eval (.tmp 13)) w256 := hn260.at 2 0 rfl rfl rfl
      have h262 : Holds _ (a255.eval (.tmp 12)) w256 := hk259.holds rfl (h246.up hg258)
      have h263 : Holds _ (a255.eval (.tmp 10)) w256 := hk259.holds rfl (h247.up hg258)
      have h264 : Holds _ (a255.eval (.tmp 2)) w256 := hk259.holds rfl (h249.up hg258)
      have h265 : Holds _ (a255.eval (.tmp 7)) w256 := hk259.holds rfl (h250.up hg258)
      have h266 : Holds _ (a255.eval (.tmp 0)) w256 := hk259.holds rfl (h251.up hg258)
      have h267 : Holds _ (a255.eval (.tmp 8)) w256 := hk259.holds rfl (h254.up hg258)
      have g268 : Grow w0 w256 := g241.trans hg258
      have g269 : Grow w2 w256 := g242.trans hg258
      have g270 : Grow w28 w256 := g243.trans hg258
      have g271 : Grow w74 w256 := g244.trans hg258
      have kk272 : Keep _ a152 a255 := kk236.trans hk259 rfl
      have hV273 : Holds _ V126 w256 := hV252.up hg258
      have hV274 : Holds _ V149 w256 := hV253.up hg258
      have hV275 : Holds _ V105 w256 := hV240.up hg258
      clear h246 h247 h249 h250 h251 h254 g241 g242 g243 g244 kk236 hf218 hk259 hn260 hg258 hV252 hV253 hV240
      refine then_ ?_
      exact ⟨(x + 1), (by ((try dsimp only); omega)), hf257, (by ((try dsimp only); omega)), g268, g269, g270, g271, kk272, (is_cast h261 (by first | rfl | (refine congrArg intV ?_; (try dsimp only); omega))), hV275, hV273, hV274⟩
    · intro hc213
      try simp only [sets_len, cond_norm] at hc213
      refine wp_exit ?_
      refine thenX ?_
      refine thenX ?_
      refine blockX ?_
      refine then_ ?_
      refine wp_seq ?_
      have g276 : Grow w192 w192 := Grow.refl _
      have hz277 : w74.heap.size ≤ w192.heap.size := g208.size
      refine wp_calm [0, 0, 3, 7, 15, 15, 63, 127, 255, 511, 1023, 511, 511, 6655, 14847, 511, 511, 66047, 511, 524287, 1048575, 2097151, 4194303, 8388607, 16777215] [([0], []), ([7], []), ([], [0, 1]), ([], [2]), ([10], [3]), ([12], [3]), ([], [4, 5, 3]), ([], [3, 6]), ([], [7]), ([0], [8]), ([], [9, 8]), ([0], [8]), ([2], [8]), ([], [11, 12, 8]), ([], [13, 8]), ([2], [8]), ([0], [8]), ([], [16, 8]), ([10], [8]), ([], [10, 14, 15, 17, 18, 8]), ([], [8, 19]), ([], [20]), ([], [21]), ([], [21, 22]), ([], [23])] [] w192.heap.size hf193 g276.size (by kernel_rfl) (bund_cons (is_any h204) (bund_cons (is_any h203) (bund_cons h200 (bund_cons h199 (bund_cons (is_any h202) bund_nil))))) ?_
      intro ws278 hs279
      refine ch rfl (ob_move (arg_free 0 rfl rfl)) ?_
      refine ch rfl (ob_move (arg_free 1 rfl rfl)) ?_
      refine ch rfl (ob_call2 (by kernel_rfl) (c_same3 ?_) (ArgOK.val (arg_op 0 1 rfl rfl rfl rfl) ((hV39.up g207).up hs279)) (ArgOK.sl (ArgOK.val (arg_op 1 0 rfl rfl rfl rfl) ((hV86.up g208).up hs279)))) ?_
      · first | omega | (have hpk := pathV_le (l.take 300) ((UInt64.ofNat (k.toInt % 18446744073709551616).toNat % UInt64.ofNat (l.take 300).length).toNat : Int); omega)
      refine ch rfl (ob_move (arg_op 2 0 rfl rfl rfl rfl)) ?_
      refine chg (b := _) rfl rfl (arg_op 3 0 rfl rfl rfl rfl) (fun hb3 => ob_move (arg_free 2 rfl rfl)) ?_
      refine chg (b := _) rfl rfl (arg_op 3 1 rfl rfl rfl rfl) (fun hb3 => ob_move (arg_free 3 rfl rfl)) ?_
      refine chg (b := _) rfl rfl (arg_op 3 2 rfl rfl rfl rfl) (fun hb3 => ob_call2 (by kernel_rfl) (c_same3 ?_) (ArgOK.sl (ArgOK.val (ArgOK.when (arg_op 4 1 rfl rfl rfl rfl) hb3) (hV211.up hs279))) (ArgOK.sl (ArgOK.val (ArgOK.when (arg_op 5 0 rfl rfl rfl rfl) hb3) (hV212.up hs279)))) ?_
      · first | omega | (have hpk := pathV_le (l.take 300) ((UInt64.ofNat (k.toInt % 18446744073709551616).toNat % UInt64.ofNat (l.take 300).length).toNat : Int); omega)
      refine ch rfl (ob_and (arg_op 3 3 rfl rfl rfl rfl) (arg_op 6 0 rfl rfl rfl rfl)) ?_
      refine ch rfl (ob_move (arg_op 7 0 rfl rfl rfl rfl)) ?_
      refine chg (b := _) rfl rfl (arg_op 8 0 rfl rfl rfl rfl) (fun hb8 => ob_move (arg_free 0 rfl rfl)) ?_
      refine chg (b := _) rfl rfl (arg_op 8 1 rfl rfl rfl rfl) (fun hb8 => ob_call1 (by kernel_rfl) (c_Root ?_) (ArgOK.val (ArgOK.when (arg_op 9 0 rfl rfl rfl rfl) hb8) ((hV39.up g207).up hs279))) ?_
      · ((try simp only [List.length_take, List.length_drop, List.length_cons, List.length_nil]); omega)
      refine chg (b := _) rfl rfl (arg_op 8 2 rfl rfl rfl rfl) (fun hb8 => ob_move (arg_free 0 rfl rfl)) ?_
      refine chg (b := _) rfl rfl (arg_op 8 3 rfl rfl rfl rfl) (fun hb8 => ob_move (arg_free 4 rfl rfl)) ?_
      refine chg (b := _) rfl rfl (arg_op 8 4 rfl rfl rfl rfl) (fun hb8 => ob_ix (ArgOK.val (ArgOK.when (arg_op 11 1 rfl rfl rfl rfl) hb8) ((hV39.up g207).up hs279)) (ArgOK.when (arg_op 12 0 rfl rfl rfl rfl) hb8) (rfl) ?_ Try.underlying39 szNm) ?_
      · omega
      refine chg (b := _) rfl rfl (arg_op 8 5 rfl rfl rfl rfl) (fun hb8 => ob_load_nm (ArgOK.when (arg_op 13 0 rfl rfl rfl rfl) hb8)) ?_
      refine chg (b := _) rfl rfl (arg_op 8 6 rfl rfl rfl rfl) (fun hb8 => ob_move (arg_free 4 rfl rfl)) ?_
      refine chg (b := _) rfl rfl (arg_op 8 7 rfl rfl rfl rfl) (fun hb8 => ob_move (arg_free 0 rfl rfl)) ?_
      refine chg (b := _) rfl rfl (arg_op 8 8 rfl rfl rfl rfl) (fun hb8 => ob_len (ArgOK.val (ArgOK.when (arg_op 16 0 rfl rfl rfl rfl) hb8) ((hV39.up g207).up hs279)) Try.underlying39) ?_
      refine chg (b := _) rfl rfl (arg_op 8 9 rfl rfl rfl rfl) (fun hb8 => ob_move (arg_free 2 rfl rfl)) ?_
      refine chg (b := _) rfl rfl (arg_op 8 10 rfl rfl rfl rfl) (fun hb8 => ob_call5 (by kernel_rfl) (c_Verify ?_ ?_) (ArgOK.when (arg_op 10 8 rfl rfl rfl rfl) hb8) (ArgOK.when (arg_op 14 4 rfl rfl rfl rfl) hb8) (ArgOK.when (arg_op 15 3 rfl rfl rfl rfl) hb8) (ArgOK.when (arg_op 17 1 rfl rfl rfl rfl) hb8) (ArgOK.sl (ArgOK.val (ArgOK.when (arg_op 18 0 rfl rfl rfl rfl) hb8) (hV211.up hs279)))) ?_
      · omega
      · omega
      refine ch rfl (ob_and (arg_op 8 11 rfl rfl rfl rfl) (arg_op 19 0 rfl rfl rfl rfl)) ?_
      refine ch rfl (ob_move (arg_op 20 0 rfl rfl rfl rfl)) ?_
      refine chg (b := _) rfl rfl (arg_op 21 0 rfl rfl rfl rfl) (fun hb21 => ob_call0 (by kernel_rfl) (c_awake3) ) ?_
      refine ch rfl (ob_and (arg_op 21 1 rfl rfl rfl rfl) (arg_op 22 0 rfl rfl rfl rfl)) ?_
      refine ch rfl (ob_assign (arg_op 23 0 rfl rfl rfl rfl)) ?_
      refine ch_nil ?_
      intro a280 w281 hf282 hg283 hk284 hn285
      have h286 : Holds _ (a280.eval (.tmp 6)) w281 := hn285.at 24 0 rfl rfl rfl
      have g287 : Grow w0 w281 := g205.trans hg283
      have g288 : Grow w2 w281 := g206.trans hg283
      have g289 : Grow w28 w281 := g207.trans hg283
      have g290 : Grow w74 w281 := g208.trans hg283
      have g291 : Grow w192 w281 := g276.trans hg283
      clear g205 g206 g207 g208 g276 hf193 hk284 hn285
      refine then_ ?_
      refine wp_ret ?_
      exact ret_tmp rfl hf282 g287 (is_cast h286 (congrArg Value.bool (by first | rfl | (rw [ver_all hK]; simp))))


end Ex
end Go.Proofs.Ytnmfiiejhoafnaa
