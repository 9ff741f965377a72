/- The statement on locks, walked. -/
import Derived.Test.YtnmfiiejhoafnaaGreatLkState21
set_option linter.unusedSimpArgs false
set_option linter.unusedVariables false
namespace Go.Proofs.YtnmfiiejhoafnaaGreat
namespace Ex
open Go Calm Go.RowKit
theorem open_ok {s : GState} {k : GLock} (h : s.cells.length ≤ 100 ∧ s.seqs.length ≤ 100 ∧ s.locks.length ≤ 100 ∧ s.applied.length ≤ 100) : stOK (openS s k) := by
  unfold openS
  split
  · exact small_ok h
  · refine ⟨by simp only; omega, by simp only; omega, ?_, by simp only; omega⟩
    unfold insL
    simp only [List.length_append, List.length_cons, List.length_take, List.length_drop]
    omega
theorem close_ok {s : GState} {n : UInt64} (h : s.cells.length ≤ 100 ∧ s.seqs.length ≤ 100 ∧ s.locks.length ≤ 100 ∧ s.applied.length ≤ 100) : stOK (closeS s n) := by
  unfold closeS
  split
  · refine ⟨by simp only; omega, by simp only; omega, ?_, by simp only; omega⟩
    simp only [List.length_append, List.length_take, List.length_drop]
    omega
  · exact small_ok h
theorem locks_no {a b : GState} {x : GLock} {c : Bool} : (((!decide (a = a) || !decide (b = b)) || !decide (x = x)) || !(c == c)) = false := by simp
theorem locks_yes {s : GState} {k : GLock} : ((lkB (openS s k).locks k.name && ((lkB s.locks k.name && decide (lkV (openS s k).locks k.name = lkV s.locks k.name)) || (!(lkB s.locks k.name) && decide (lkV (openS s k).locks k.name = k)))) && true) = true := by
  obtain ⟨h1, h2, h3⟩ := lock_law s k
  rw [h1]
  cases h : lkB s.locks k.name with
  | true => rw [decide_eq_true (h2 h)]; rfl
  | false => rw [decide_eq_true (h3 h)]; rfl
set_option maxRecDepth 100000 in
set_option maxHeartbeats 4000000 in
theorem c_StateLocks {s : GState} {k : GLock} {n : UInt64} : Con3 3 (StF s) (Is (lockV k)) (Is (nmV n)) (fun _ => Is (.bool true)) := by
  intro lo v0 v1 v2 w0 hlo hv0 hv1 hv2
  refine enter Tryz.func3 rfl Tryz.ntmps3 (by simp) ?_
  intro a0 hf0 ha
  obtain ⟨va0, vb0, vc0, vd0, he0, hva0, hvb0, hvc0, hvd0⟩ := openF hv0
  have h00 : Holds (Is _) (a0.eval (.tmp 0)) w0 := arg_holds ha rfl he0
  have h01 : Holds _ (a0.eval (.tmp 1)) w0 := arg_holds ha rfl hv1
  have h02 : Holds _ (a0.eval (.tmp 2)) w0 := arg_holds ha rfl hv2
  clear ha
  have g0 : Grow w0 w0 := Grow.refl _
  refine wp_seq ?_
  refine wp_region_lit ?_
  refine wp_seg (l1 := [_]) [([0], [])] [1, 2] w0.heap.size hf0 g0.size (by kernel_rfl) (bund_cons h00 bund_nil) ?_
  refine ch rfl (ob_box_state (arg_free 0 rfl rfl)) ?_
  refine ch_nil ?_
  intro a1 w2 hf3 hg4 hk5 hn6
  have h7 : Holds _ (a1.eval (.tmp 3)) w2 := hn6.at 0 0 rfl rfl rfl
  have h8 := hk5.holds rfl h01
  have h9 := hk5.holds rfl h02
  have g10 := g0.trans hg4
  obtain ⟨bk11, hl12, hv13, hb14⟩ := OwnB.blk (lo := w0.heap.size) h7
  clear h01 h02 g0 hf0 hk5 hn6
  have g15 : Grow w2 w2 := Grow.refl _
  have hl16 : bk11 < w2.heap.size := hb14.lt
  have hz17 : w0.heap.size ≤ w2.heap.size := g10.size
  refine wp_seg (l1 := [_]) [([1], [])] [2, 3] w2.heap.size hf3 g15.size (by kernel_rfl) (bund_cons (is_any h8) bund_nil) ?_
  refine ch rfl (ob_box_lock (arg_free 0 rfl rfl)) ?_
  refine ch_nil ?_
  intro a18 w19 hf20 hg21 hk22 hn23
  have h24 : Holds _ (a18.eval (.tmp 4)) w19 := hn23.at 0 0 rfl rfl rfl
  have h25 := hk22.holds rfl h9
  have hv26 : Holds (Is (PtrV bk11)) (a18.eval (.tmp 3)) w19 := is_any (hk22.holds rfl hv13)
  have hb27 := hb14.up hg21
  have g28 := g10.trans hg21
  have g29 := g15.trans hg21
  obtain ⟨bk30, hl31, hv32, hb33⟩ := OwnB.blk (lo := w2.heap.size) h24
  clear h9 hv13 hb14 g10 g15 hf3 hk22 hn23
  have g34 : Grow w19 w19 := Grow.refl _
  have hl35 : bk11 < w19.heap.size := hb27.lt
  have hl36 : bk30 < w19.heap.size := hb33.lt
  have hz37 : w2.heap.size ≤ w19.heap.size := g29.size
  refine wp_all [([2], []), ([], [])] [3, 4] w19.heap.size hf20 g34.size (by kernel_rfl) (bund_cons (is_any h25) bund_nil) ?_
  refine ch rfl (ob_box_nm (arg_free 0 rfl rfl)) ?_
  refine ch rfl (ob_assign arg_c) ?_
  refine ch_nil ?_
  intro a38 w39 hf40 hg41 hk42 hn43
  have h44 : Holds _ (a38.eval (.tmp 5)) w39 := hn43.at 0 1 rfl rfl rfl
  have hv45 : Holds (Is (PtrV bk11)) (a38.eval (.tmp 3)) w39 := is_any (hk42.holds rfl hv26)
  have hb46 := hb27.up hg41
  have hv47 : Holds (Is (PtrV bk30)) (a38.eval (.tmp 4)) w39 := is_any (hk42.holds rfl hv32)
  have hb48 := hb33.up hg41
  have g49 := g28.trans hg41
  have g50 := g29.trans hg41
  have g51 := g34.trans hg41
  obtain ⟨bk52, hl53, hv54, hb55⟩ := OwnB.blk (lo := w19.heap.size) h44
  clear hv26 hb27 hv32 hb33 g28 g29 g34 hf20 hk42 hn43
  refine then_ ?_
  refine wp_seq ?_
  refine wp_seq ?_
  have g56 : Grow w39 w39 := Grow.refl _
  have hl57 : bk11 < w39.heap.size := hb46.lt
  have hl58 : bk30 < w39.heap.size := hb48.lt
  have hl59 : bk52 < w39.heap.size := hb55.lt
  have hz60 : w19.heap.size ≤ w39.heap.size := g51.size
  refine wp_region_lit ?_
  refine wp_all [([3], []), ([], [0])] [3, 4, 5] w39.heap.size hf40 g56.size (by kernel_rfl) (bund_cons (hb46.ownp hv45) bund_nil) ?_
  refine ch rfl (ob_load_state (ArgOK.ownp (arg_free 0 rfl rfl))) ?_
  refine ch rfl (ob_call1 (by kernel_rfl) (c_large) (ArgOK.val (arg_op 0 0 rfl rfl rfl rfl) (mkFs (s := s) (hva0.up g49) (hvb0.up g49) (hvc0.up g49) (hvd0.up g49)))) ?_
  refine ch_nil ?_
  intro a61 w62 hf63 hg64 hk65 hn66
  have h67 : Holds _ (a61.eval (.tmp 18)) w62 := hn66.at 1 0 rfl rfl rfl
  have hv68 : Holds (Is (PtrV bk11)) (a61.eval (.tmp 3)) w62 := is_any (hk65.holds rfl hv45)
  have hb69 := hb46.up hg64
  have hv70 : Holds (Is (PtrV bk30)) (a61.eval (.tmp 4)) w62 := is_any (hk65.holds rfl hv47)
  have hb71 := hb48.up hg64
  have hv72 : Holds (Is (PtrV bk52)) (a61.eval (.tmp 5)) w62 := is_any (hk65.holds rfl hv54)
  have hb73 := hb55.up hg64
  have g74 := g49.trans hg64
  have g75 := g50.trans hg64
  have g76 := g51.trans hg64
  have g77 := g56.trans hg64
  clear hv45 hb46 hv47 hb48 hv54 hb55 g49 g50 g51 g56 hf40 hk65 hn66
  refine then_ ?_
  refine wp_if h67 ?_ ?_
  · intro hc78
    refine wp_seq ?_
    have g79 : Grow w62 w62 := Grow.refl _
    have hl80 : bk11 < w62.heap.size := hb69.lt
    have hl81 : bk30 < w62.heap.size := hb71.lt
    have hl82 : bk52 < w62.heap.size := hb73.lt
    have hz83 : w39.heap.size ≤ w62.heap.size := g77.size
    refine wp_region_lit ?_
    refine wp_all [([], []), ([], [0])] [] w62.heap.size hf63 g79.size (by kernel_rfl) bund_nil ?_
    refine ch rfl (ob_call0 (by kernel_rfl) (c_awake21) ) ?_
    refine ch rfl (ob_assign (arg_op 0 0 rfl rfl rfl rfl)) ?_
    refine ch_nil ?_
    intro a84 w85 hf86 hg87 hk88 hn89
    have h90 : Holds _ (a84.eval (.tmp 6)) w85 := hn89.at 1 0 rfl rfl rfl
    have g91 := g74.trans hg87
    have g92 := g75.trans hg87
    have g93 := g76.trans hg87
    have g94 := g77.trans hg87
    have g95 := g79.trans hg87
    clear g74 g75 g76 g77 g79 hf63 hk88 hn89
    refine then_ ?_
    refine wp_ret ?_
    refine thenR ?_
    exact ret_tmp rfl hf86 g91 (is_cast h90 (congrArg Value.bool (by first | rfl | exact locks_yes)))
  · intro hc78
    have hb := big_no hc78; have hs := small_ok hb; have ho := open_ok (k := k) hb; have hc := close_ok (n := n) hb
    refine wp_skip ?_
    refine then_ ?_
    refine wp_seq ?_
    have g96 : Grow w62 w62 := Grow.refl _
    have hl97 : bk11 < w62.heap.size := hb69.lt
    have hl98 : bk30 < w62.heap.size := hb71.lt
    have hl99 : bk52 < w62.heap.size := hb73.lt
    have hz100 : w39.heap.size ≤ w62.heap.size := g77.size
    refine wp_calm2 (l1 := [_, _, _, _, _, _, _, _]) (l2 := [_, _]) [6, 7] (none) [0, 0, 3, 0, 0, 31, 0, 0, 255, 511] [([3], []), ([4], []), ([], [0, 1]), ([3], []), ([5], []), ([], [3, 4]), ([], []), ([], [])] [3, 4, 5] w62.heap.size hf63 g96.size (by kernel_rfl) (bund_cons (hb69.ownp hv68) (bund_cons (hb71.ownp hv70) (bund_cons (hb73.ownp hv72) bund_nil))) ?_
    intro ws101 hs102
    refine ch rfl (ob_load_state (ArgOK.ownp (arg_free 0 rfl rfl))) ?_
    refine ch rfl (ob_load_lock (ArgOK.ownp (arg_free 1 rfl rfl))) ?_
    refine ch rfl (ob_call2 (by kernel_rfl) (c_Open ?_) (ArgOK.val (arg_op 0 1 rfl rfl rfl rfl) (mkFs (s := s) ((hva0.up g74).up hs102) ((hvb0.up g74).up hs102) ((hvc0.up g74).up hs102) ((hvd0.up g74).up hs102))) (arg_op 1 0 rfl rfl rfl rfl)) ?_
    · assumption
    refine ch rfl (ob_load_state (ArgOK.ownp (arg_free 0 rfl rfl))) ?_
    refine ch rfl (ob_load_nm (ArgOK.ownp (arg_free 2 rfl rfl))) ?_
    refine ch rfl (ob_call2 (by kernel_rfl) (c_Close ?_) (ArgOK.val (arg_op 3 1 rfl rfl rfl rfl) (mkFs (s := s) ((hva0.up g74).up hs102) ((hvb0.up g74).up hs102) ((hvc0.up g74).up hs102) ((hvd0.up g74).up hs102))) (arg_op 4 0 rfl rfl rfl rfl)) ?_
    · assumption
    refine ch rfl (ob_allocT_state) ?_
    refine ch rfl (ob_allocT_state) ?_
    refine ch_nil ?_
    refine ⟨ptrokT2 rfl rfl, ?_, ?_⟩
    · intro a104 w105 hf106 hg107 hk108 hn109 hap103
      have h110 : Holds (StO w62.heap.size _) (a104.eval (.tmp 22)) w105 := hn109.at 2 5 rfl rfl rfl
      have h111 : Holds (StO w62.heap.size _) (a104.eval (.tmp 25)) w105 := hn109.at 5 2 rfl rfl rfl
      have h112 : Holds _ (a104.eval (.tmp 7)) w105 := hn109.at 6 1 rfl rfl rfl
      have h113 : Holds _ (a104.eval (.tmp 8)) w105 := hn109.at 7 0 rfl rfl rfl
      have hv114 : Holds (Is (PtrV bk11)) (a104.eval (.tmp 3)) w105 := is_any (hk108.holds rfl hv68)
      have hb115 := hb69.up hg107
      have hv116 : Holds (Is (PtrV bk30)) (a104.eval (.tmp 4)) w105 := is_any (hk108.holds rfl hv70)
      have hb117 := hb71.up hg107
      have hv118 : Holds (Is (PtrV bk52)) (a104.eval (.tmp 5)) w105 := is_any (hk108.holds rfl hv72)
      have hb119 := hb73.up hg107
      have g120 := g74.trans hg107
      have g121 := g75.trans hg107
      have g122 := g76.trans hg107
      have g123 := g77.trans hg107
      have g124 := g96.trans hg107
      obtain ⟨bk125, hl126, hv127, hb128, ht129⟩ := OwnBT.blk (lo := w62.heap.size) h112
      obtain ⟨bk130, hl131, hv132, hb133, ht134⟩ := OwnBT.blk (lo := w62.heap.size) h113
      have hne135 : bk125 ≠ bk130 := Apart.at hap103 6 7 rfl rfl rfl rfl rfl hv127 hv132
      clear hv68 hb69 hv70 hb71 hv72 hb73 g74 g75 g76 g77 g96 hf63 hk108 hn109
      obtain ⟨V136, V137, V138, V139, h140, hV141, hV142, hV143, hV144⟩ := openO h110
      obtain ⟨V145, V146, V147, V148, h149, hV150, hV151, hV152, hV153⟩ := openO h111
      have hne154 := own_ne hV141 ht129 (by decide)
      have hne155 := own_ne hV141 ht134 (by decide)
      have hne156 := own_ne hV142 ht129 (by decide)
      have hne157 := own_ne hV142 ht134 (by decide)
      have hne158 := own_ne hV143 ht129 (by decide)
      have hne159 := own_ne hV143 ht134 (by decide)
      have hne160 := own_ne hV144 ht129 (by decide)
      have hne161 := own_ne hV144 ht134 (by decide)
      have hne162 := own_ne hV150 ht129 (by decide)
      have hne163 := own_ne hV150 ht134 (by decide)
      have hne164 := own_ne hV151 ht129 (by decide)
      have hne165 := own_ne hV151 ht134 (by decide)
      have hne166 := own_ne hV152 ht129 (by decide)
      have hne167 := own_ne hV152 ht134 (by decide)
      have hne168 := own_ne hV153 ht129 (by decide)
      have hne169 := own_ne hV153 ht134 (by decide)
      refine wl_store_state hv127 hb128 rfl h140 (st_oneS (OwnS.sl hV141) (OwnS.sl hV142) (OwnS.sl hV143) (OwnS.sl hV144)) ?_
      intro w170 ho171 hb172
      have g173 : Grow w0 w170 := g120.only ho171 (by omega)
      have g174 : Grow w2 w170 := g121.only ho171 (by omega)
      have g175 : Grow w19 w170 := g122.only ho171 (by omega)
      have g176 : Grow w39 w170 := g123.only ho171 (by omega)
      have g177 : Grow w62 w170 := g124.only ho171 (by omega)
      have h178 : Holds _ (a104.eval (.tmp 25)) w170 := is_any h149
      have hv179 : Holds (Is (PtrV bk11)) (a104.eval (.tmp 3)) w170 := is_any hv114
      have hb180 : Blk bk11 _ w170 := hb115.only ho171 (by omega)
      have hv181 : Holds (Is (PtrV bk30)) (a104.eval (.tmp 4)) w170 := is_any hv116
      have hb182 : Blk bk30 _ w170 := hb117.only ho171 (by omega)
      have hv183 : Holds (Is (PtrV bk52)) (a104.eval (.tmp 5)) w170 := is_any hv118
      have hb184 : Blk bk52 _ w170 := hb119.only ho171 (by omega)
      have hv185 : Holds (Is (PtrV bk125)) (a104.eval (.tmp 7)) w170 := is_any hv127
      have hv186 : Holds (Is (PtrV bk130)) (a104.eval (.tmp 8)) w170 := is_any hv132
      have hb187 : Blk bk130 _ w170 := hb133.only ho171 (by omega)
      have hV188 : Holds _ V136 w170 := OwnS.onlyN hV141 ho171 hne154
      have hV189 : Holds _ V137 w170 := OwnS.onlyN hV142 ho171 hne156
      have hV190 : Holds _ V138 w170 := OwnS.onlyN hV143 ho171 hne158
      have hV191 : Holds _ V139 w170 := OwnS.onlyN hV144 ho171 hne160
      have hV192 : Holds _ V145 w170 := OwnS.onlyN hV150 ho171 hne162
      have hV193 : Holds _ V146 w170 := OwnS.onlyN hV151 ho171 hne164
      have hV194 : Holds _ V147 w170 := OwnS.onlyN hV152 ho171 hne166
      have hV195 : Holds _ V148 w170 := OwnS.onlyN hV153 ho171 hne168
      refine wl_store_state hv186 hb187 rfl h178 (st_oneS (OwnS.sl hV192) (OwnS.sl hV193) (OwnS.sl hV194) (OwnS.sl hV195)) ?_
      intro w196 ho197 hb198
      have g199 : Grow w0 w196 := g173.only ho197 (by omega)
      have g200 : Grow w2 w196 := g174.only ho197 (by omega)
      have g201 : Grow w19 w196 := g175.only ho197 (by omega)
      have g202 : Grow w39 w196 := g176.only ho197 (by omega)
      have g203 : Grow w62 w196 := g177.only ho197 (by omega)
      have hv204 : Holds (Is (PtrV bk11)) (a104.eval (.tmp 3)) w196 := is_any hv179
      have hb205 : Blk bk11 _ w196 := hb180.only ho197 (by omega)
      have hv206 : Holds (Is (PtrV bk30)) (a104.eval (.tmp 4)) w196 := is_any hv181
      have hb207 : Blk bk30 _ w196 := hb182.only ho197 (by omega)
      have hv208 : Holds (Is (PtrV bk52)) (a104.eval (.tmp 5)) w196 := is_any hv183
      have hb209 : Blk bk52 _ w196 := hb184.only ho197 (by omega)
      have hv210 : Holds (Is (PtrV bk125)) (a104.eval (.tmp 7)) w196 := is_any hv185
      have hb211 : Blk bk125 _ w196 := hb172.only ho197 (by omega)
      have hv212 : Holds (Is (PtrV bk130)) (a104.eval (.tmp 8)) w196 := is_any hv186
      have hV213 : Holds _ V136 w196 := OwnS.onlyN hV188 ho197 hne155
      have hV214 : Holds _ V137 w196 := OwnS.onlyN hV189 ho197 hne157
      have hV215 : Holds _ V138 w196 := OwnS.onlyN hV190 ho197 hne159
      have hV216 : Holds _ V139 w196 := OwnS.onlyN hV191 ho197 hne161
      have hV217 : Holds _ V145 w196 := OwnS.onlyN hV192 ho197 hne163
      have hV218 : Holds _ V146 w196 := OwnS.onlyN hV193 ho197 hne165
      have hV219 : Holds _ V147 w196 := OwnS.onlyN hV194 ho197 hne167
      have hV220 : Holds _ V148 w196 := OwnS.onlyN hV195 ho197 hne169
      refine wpList_nil ?_
      refine then_ ?_
      refine wp_seq ?_
      have g221 : Grow w196 w196 := Grow.refl _
      have hl222 : bk11 < w196.heap.size := hb205.lt
      have hl223 : bk30 < w196.heap.size := hb207.lt
      have hl224 : bk52 < w196.heap.size := hb209.lt
      have hl225 : bk125 < w196.heap.size := hb211.lt
      have hl226 : bk130 < w196.heap.size := hb198.lt
      have hz227 : w62.heap.size ≤ w196.heap.size := g203.size
      refine wp_region_lit ?_
      refine wp_seg (l1 := [_, _, _, _, _, _]) [([3], []), ([5], []), ([], [0, 1]), ([], [2]), ([], [3]), ([], [3])] [3, 4, 5, 7, 8] w196.heap.size hf106 g221.size (by kernel_rfl) (bund_cons (hb205.ownp hv204) (bund_cons (hb209.ownp hv208) bund_nil)) ?_
      refine ch rfl (ob_load_state (ArgOK.ownp (arg_free 0 rfl rfl))) ?_
      refine ch rfl (ob_load_nm (ArgOK.ownp (arg_free 1 rfl rfl))) ?_
      refine ch rfl (ob_call2 (by kernel_rfl) (c_Lock ?_) (ArgOK.val (arg_op 0 1 rfl rfl rfl rfl) (mkFs (s := s) (hva0.up g199) (hvb0.up g199) (hvc0.up g199) (hvd0.up g199))) (arg_op 1 0 rfl rfl rfl rfl)) ?_
      · assumption
      refine ch rfl (ob_move (arg_op 2 0 rfl rfl rfl rfl)) ?_
      refine ch rfl (ob_extract0 (arg_op 3 0 rfl rfl rfl rfl)) ?_
      refine ch rfl (ob_extract1 (arg_op 3 1 rfl rfl rfl rfl)) ?_
      refine ch_nil ?_
      intro a228 w229 hf230 hg231 hk232 hn233
      have h234 : Holds _ (a228.eval (.tmp 30)) w229 := hn233.at 4 1 rfl rfl rfl
      have h235 : Holds _ (a228.eval (.tmp 31)) w229 := hn233.at 5 0 rfl rfl rfl
      have hv236 : Holds (Is (PtrV bk11)) (a228.eval (.tmp 3)) w229 := is_any (hk232.holds rfl hv204)
      have hb237 := hb205.up hg231
      have hv238 : Holds (Is (PtrV bk30)) (a228.eval (.tmp 4)) w229 := is_any (hk232.holds rfl hv206)
      have hb239 := hb207.up hg231
      have hv240 : Holds (Is (PtrV bk52)) (a228.eval (.tmp 5)) w229 := is_any (hk232.holds rfl hv208)
      have hb241 := hb209.up hg231
      have hv242 : Holds (Is (PtrV bk125)) (a228.eval (.tmp 7)) w229 := is_any (hk232.holds rfl hv210)
      have hb243 := hb211.up hg231
      have hv244 : Holds (Is (PtrV bk130)) (a228.eval (.tmp 8)) w229 := is_any (hk232.holds rfl hv212)
      have hb245 := hb198.up hg231
      have g246 := g199.trans hg231
      have g247 := g200.trans hg231
      have g248 := g201.trans hg231
      have g249 := g202.trans hg231
      have g250 := g203.trans hg231
      have g251 := g221.trans hg231
      clear hv204 hb205 hv206 hb207 hv208 hb209 hv210 hb211 hv212 hb198 g199 g200 g201 g202 g203 g221 hf106 hk232 hn233
      have g252 : Grow w229 w229 := Grow.refl _
      have hl253 : bk11 < w229.heap.size := hb237.lt
      have hl254 : bk30 < w229.heap.size := hb239.lt
      have hl255 : bk52 < w229.heap.size := hb241.lt
      have hl256 : bk125 < w229.heap.size := hb243.lt
      have hl257 : bk130 < w229.heap.size := hb245.lt
      have hz258 : w196.heap.size ≤ w229.heap.size := g251.size
      refine wp_seg (l1 := [_]) [([], [])] [3, 4, 5, 7, 8, 30, 31] w229.heap.size hf230 g252.size (by kernel_rfl) bund_nil ?_
      refine ch rfl (ob_alloc_lock) ?_
      refine ch_nil ?_
      intro a259 w260 hf261 hg262 hk263 hn264
      have h265 : Holds _ (a259.eval (.tmp 9)) w260 := hn264.at 0 0 rfl rfl rfl
      have h266 := hk263.holds rfl h234
      have h267 := hk263.holds rfl h235
      have hv268 : Holds (Is (PtrV bk11)) (a259.eval (.tmp 3)) w260 := is_any (hk263.holds rfl hv236)
      have hb269 := hb237.up hg262
      have hv270 : Holds (Is (PtrV bk30)) (a259.eval (.tmp 4)) w260 := is_any (hk263.holds rfl hv238)
      have hb271 := hb239.up hg262
      have hv272 : Holds (Is (PtrV bk52)) (a259.eval (.tmp 5)) w260 := is_any (hk263.holds rfl hv240)
      have hb273 := hb241.up hg262
      have hv274 : Holds (Is (PtrV bk125)) (a259.eval (.tmp 7)) w260 := is_any (hk263.holds rfl hv242)
      have hb275 := hb243.up hg262
      have hv276 : Holds (Is (PtrV bk130)) (a259.eval (.tmp 8)) w260 := is_any (hk263.holds rfl hv244)
      have hb277 := hb245.up hg262
      have g278 := g246.trans hg262
      have g279 := g247.trans hg262
      have g280 := g248.trans hg262
      have g281 := g249.trans hg262
      have g282 := g250.trans hg262
      have g283 := g251.trans hg262
      have g284 := g252.trans hg262
      obtain ⟨bk285, hl286, hv287, hb288⟩ := OwnB.blk (lo := w229.heap.size) h265
      clear h234 h235 hv236 hb237 hv238 hb239 hv240 hb241 hv242 hb243 hv244 hb245 g246 g247 g248 g249 g250 g251 g252 hf230 hk263 hn264
      refine wl_store_lock hv287 hb288 rfl (is_any h266) ?_
      intro w289 ho290 hb291
      have g292 : Grow w0 w289 := g278.only ho290 (by omega)
      have g293 : Grow w2 w289 := g279.only ho290 (by omega)
      have g294 : Grow w19 w289 := g280.only ho290 (by omega)
      have g295 : Grow w39 w289 := g281.only ho290 (by omega)
      have g296 : Grow w62 w289 := g282.only ho290 (by omega)
      have g297 : Grow w196 w289 := g283.only ho290 (by omega)
      have g298 : Grow w229 w289 := g284.only ho290 (by omega)
      have hv299 : Holds (Is (PtrV bk11)) (a259.eval (.tmp 3)) w289 := is_any hv268
      have hb300 : Blk bk11 _ w289 := hb269.only ho290 (by omega)
      have hv301 : Holds (Is (PtrV bk30)) (a259.eval (.tmp 4)) w289 := is_any hv270
      have hb302 : Blk bk30 _ w289 := hb271.only ho290 (by omega)
      have hv303 : Holds (Is (PtrV bk52)) (a259.eval (.tmp 5)) w289 := is_any hv272
      have hb304 : Blk bk52 _ w289 := hb273.only ho290 (by omega)
      have hv305 : Holds (Is (PtrV bk125)) (a259.eval (.tmp 7)) w289 := is_any hv274
      have hb306 : Blk bk125 _ w289 := hb275.only ho290 (by omega)
      have hv307 : Holds (Is (PtrV bk130)) (a259.eval (.tmp 8)) w289 := is_any hv276
      have hb308 : Blk bk130 _ w289 := hb277.only ho290 (by omega)
      have hv309 : Holds (Is (PtrV bk285)) (a259.eval (.tmp 9)) w289 := is_any hv287
      refine wp_all [([31], [])] [3, 4, 5, 7, 8, 9] w229.heap.size hf261 g298.size (by kernel_rfl) (bund_cons (is_any h267) bund_nil) ?_
      refine ch rfl (ob_assign (arg_free 0 rfl rfl)) ?_
      refine ch_nil ?_
      intro a310 w311 hf312 hg313 hk314 hn315
      have h316 : Holds _ (a310.eval (.tmp 10)) w311 := hn315.at 0 0 rfl rfl rfl
      have hv317 : Holds (Is (PtrV bk11)) (a310.eval (.tmp 3)) w311 := is_any (hk314.holds rfl hv299)
      have hb318 := hb300.up hg313
      have hv319 : Holds (Is (PtrV bk30)) (a310.eval (.tmp 4)) w311 := is_any (hk314.holds rfl hv301)
      have hb320 := hb302.up hg313
      have hv321 : Holds (Is (PtrV bk52)) (a310.eval (.tmp 5)) w311 := is_any (hk314.holds rfl hv303)
      have hb322 := hb304.up hg313
      have hv323 : Holds (Is (PtrV bk125)) (a310.eval (.tmp 7)) w311 := is_any (hk314.holds rfl hv305)
      have hb324 := hb306.up hg313
      have hv325 : Holds (Is (PtrV bk130)) (a310.eval (.tmp 8)) w311 := is_any (hk314.holds rfl hv307)
      have hb326 := hb308.up hg313
      have hv327 : Holds (Is (PtrV bk285)) (a310.eval (.tmp 9)) w311 := is_any (hk314.holds rfl hv309)
      have hb328 := hb291.up hg313
      have g329 := g292.trans hg313
      have g330 := g293.trans hg313
      have g331 := g294.trans hg313
      have g332 := g295.trans hg313
      have g333 := g296.trans hg313
      have g334 := g297.trans hg313
      have g335 := g298.trans hg313
      clear hv299 hb300 hv301 hb302 hv303 hb304 hv305 hb306 hv307 hb308 hv309 hb291 g292 g293 g294 g295 g296 g297 g298 hf261 hk314 hn315 hg313
      refine then_ ?_
      refine wp_seq ?_
      have g336 : Grow w311 w311 := Grow.refl _
      have hl337 : bk11 < w311.heap.size := hb318.lt
      have hl338 : bk30 < w311.heap.size := hb320.lt
      have hl339 : bk52 < w311.heap.size := hb322.lt
      have hl340 : bk125 < w311.heap.size := hb324.lt
      have hl341 : bk130 < w311.heap.size := hb326.lt
      have hl342 : bk285 < w311.heap.size := hb328.lt
      have hz343 : w229.heap.size ≤ w311.heap.size := g335.size
      refine wp_region_lit ?_
      refine wp_seg (l1 := [_, _, _, _, _, _]) [([3], []), ([5], []), ([], [0, 1]), ([], [2]), ([], [3]), ([], [3])] [3, 4, 5, 7, 8, 9, 10] w311.heap.size hf312 g336.size (by kernel_rfl) (bund_cons (hb318.ownp hv317) (bund_cons (hb322.ownp hv321) bund_nil)) ?_
      refine ch rfl (ob_load_state (ArgOK.ownp (arg_free 0 rfl rfl))) ?_
      refine ch rfl (ob_load_nm (ArgOK.ownp (arg_free 1 rfl rfl))) ?_
      refine ch rfl (ob_call2 (by kernel_rfl) (c_rFindLock ?_) (ArgOK.val (arg_op 0 1 rfl rfl rfl rfl) (mkFs (s := s) (hva0.up g329) (hvb0.up g329) (hvc0.up g329) (hvd0.up g329))) (arg_op 1 0 rfl rfl rfl rfl)) ?_
      · assumption
      refine ch rfl (ob_move (arg_op 2 0 rfl rfl rfl rfl)) ?_
      refine ch rfl (ob_extract0 (arg_op 3 0 rfl rfl rfl rfl)) ?_
      refine ch rfl (ob_extract1 (arg_op 3 1 rfl rfl rfl rfl)) ?_
      refine ch_nil ?_
      intro a344 w345 hf346 hg347 hk348 hn349
      have h350 : Holds _ (a344.eval (.tmp 36)) w345 := hn349.at 4 1 rfl rfl rfl
      have h351 : Holds _ (a344.eval (.tmp 37)) w345 := hn349.at 5 0 rfl rfl rfl
      have h352 := hk348.holds rfl h316
      have hv353 : Holds (Is (PtrV bk11)) (a344.eval (.tmp 3)) w345 := is_any (hk348.holds rfl hv317)
      have hb354 := hb318.up hg347
      have hv355 : Holds (Is (PtrV bk30)) (a344.eval (.tmp 4)) w345 := is_any (hk348.holds rfl hv319)
      have hb356 := hb320.up hg347
      have hv357 : Holds (Is (PtrV bk52)) (a344.eval (.tmp 5)) w345 := is_any (hk348.holds rfl hv321)
      have hb358 := hb322.up hg347
      have hv359 : Holds (Is (PtrV bk125)) (a344.eval (.tmp 7)) w345 := is_any (hk348.holds rfl hv323)
      have hb360 := hb324.up hg347
      have hv361 : Holds (Is (PtrV bk130)) (a344.eval (.tmp 8)) w345 := is_any (hk348.holds rfl hv325)
      have hb362 := hb326.up hg347
      have hv363 : Holds (Is (PtrV bk285)) (a344.eval (.tmp 9)) w345 := is_any (hk348.holds rfl hv327)
      have hb364 := hb328.up hg347
      have g365 := g329.trans hg347
      have g366 := g330.trans hg347
      have g367 := g331.trans hg347
      have g368 := g332.trans hg347
      have g369 := g333.trans hg347
      have g370 := g334.trans hg347
      have g371 := g335.trans hg347
      have g372 := g336.trans hg347
      clear h316 hv317 hb318 hv319 hb320 hv321 hb322 hv323 hb324 hv325 hb326 hv327 hb328 g329 g330 g331 g332 g333 g334 g335 g336 hf312 hk348 hn349
      have g373 : Grow w345 w345 := Grow.refl _
      have hl374 : bk11 < w345.heap.size := hb354.lt
      have hl375 : bk30 < w345.heap.size := hb356.lt
      have hl376 : bk52 < w345.heap.size := hb358.lt
      have hl377 : bk125 < w345.heap.size := hb360.lt
      have hl378 : bk130 < w345.heap.size := hb362.lt
      have hl379 : bk285 < w345.heap.size := hb364.lt
      have hz380 : w311.heap.size ≤ w345.heap.size := g372.size
      refine wp_seg (l1 := [_]) [([], [])] [3, 4, 5, 7, 8, 9, 10, 36, 37] w345.heap.size hf346 g373.size (by kernel_rfl) bund_nil ?_
      refine ch rfl (ob_alloc_lock) ?_
      refine ch_nil ?_
      intro a381 w382 hf383 hg384 hk385 hn386
      have h387 : Holds _ (a381.eval (.tmp 11)) w382 := hn386.at 0 0 rfl rfl rfl
      have h388 := hk385.holds rfl h350
      have h389 := hk385.holds rfl h351
      have h390 := hk385.holds rfl h352
      have hv391 : Holds (Is (PtrV bk11)) (a381.eval (.tmp 3)) w382 := is_any (hk385.holds rfl hv353)
      have hb392 := hb354.up hg384
      have hv393 : Holds (Is (PtrV bk30)) (a381.eval (.tmp 4)) w382 := is_any (hk385.holds rfl hv355)
      have hb394 := hb356.up hg384
      have hv395 : Holds (Is (PtrV bk52)) (a381.eval (.tmp 5)) w382 := is_any (hk385.holds rfl hv357)
      have hb396 := hb358.up hg384
      have hv397 : Holds (Is (PtrV bk125)) (a381.eval (.tmp 7)) w382 := is_any (hk385.holds rfl hv359)
      have hb398 := hb360.up hg384
      have hv399 : Holds (Is (PtrV bk130)) (a381.eval (.tmp 8)) w382 := is_any (hk385.holds rfl hv361)
      have hb400 := hb362.up hg384
      have hv401 : Holds (Is (PtrV bk285)) (a381.eval (.tmp 9)) w382 := is_any (hk385.holds rfl hv363)
      have hb402 := hb364.up hg384
      have g403 := g365.trans hg384
      have g404 := g366.trans hg384
      have g405 := g367.trans hg384
      have g406 := g368.trans hg384
      have g407 := g369.trans hg384
      have g408 := g370.trans hg384
      have g409 := g371.trans hg384
      have g410 := g372.trans hg384
      have g411 := g373.trans hg384
      obtain ⟨bk412, hl413, hv414, hb415⟩ := OwnB.blk (lo := w345.heap.size) h387
      clear h350 h351 h352 hv353 hb354 hv355 hb356 hv357 hb358 hv359 hb360 hv361 hb362 hv363 hb364 g365 g366 g367 g368 g369 g370 g371 g372 g373 hf346 hk385 hn386
      refine wl_store_lock hv414 hb415 rfl (is_any h388) ?_
      intro w416 ho417 hb418
      have g419 : Grow w0 w416 := g403.only ho417 (by omega)
      have g420 : Grow w2 w416 := g404.only ho417 (by omega)
      have g421 : Grow w19 w416 := g405.only ho417 (by omega)
      have g422 : Grow w39 w416 := g406.only ho417 (by omega)
      have g423 : Grow w62 w416 := g407.only ho417 (by omega)
      have g424 : Grow w196 w416 := g408.only ho417 (by omega)
      have g425 : Grow w229 w416 := g409.only ho417 (by omega)
      have g426 : Grow w311 w416 := g410.only ho417 (by omega)
      have g427 : Grow w345 w416 := g411.only ho417 (by omega)
      have hv428 : Holds (Is (PtrV bk11)) (a381.eval (.tmp 3)) w416 := is_any hv391
      have hb429 : Blk bk11 _ w416 := hb392.only ho417 (by omega)
      have hv430 : Holds (Is (PtrV bk30)) (a381.eval (.tmp 4)) w416 := is_any hv393
      have hb431 : Blk bk30 _ w416 := hb394.only ho417 (by omega)
      have hv432 : Holds (Is (PtrV bk52)) (a381.eval (.tmp 5)) w416 := is_any hv395
      have hb433 : Blk bk52 _ w416 := hb396.only ho417 (by omega)
      have hv434 : Holds (Is (PtrV bk125)) (a381.eval (.tmp 7)) w416 := is_any hv397
      have hb435 : Blk bk125 _ w416 := hb398.only ho417 (by omega)
      have hv436 : Holds (Is (PtrV bk130)) (a381.eval (.tmp 8)) w416 := is_any hv399
      have hb437 : Blk bk130 _ w416 := hb400.only ho417 (by omega)
      have hv438 : Holds (Is (PtrV bk285)) (a381.eval (.tmp 9)) w416 := is_any hv401
      have hb439 : Blk bk285 _ w416 := hb402.only ho417 (by omega)
      have hv440 : Holds (Is (PtrV bk412)) (a381.eval (.tmp 11)) w416 := is_any hv414
      refine wp_all [([37], [])] [3, 4, 5, 7, 8, 9, 10, 11] w345.heap.size hf383 g427.size (by kernel_rfl) (bund_cons (is_any h389) bund_nil) ?_
      refine ch rfl (ob_assign (arg_free 0 rfl rfl)) ?_
      refine ch_nil ?_
      intro a441 w442 hf443 hg444 hk445 hn446
      have h447 : Holds _ (a441.eval (.tmp 12)) w442 := hn446.at 0 0 rfl rfl rfl
      have h448 := hk445.holds rfl h390
      have hv449 : Holds (Is (PtrV bk11)) (a441.eval (.tmp 3)) w442 := is_any (hk445.holds rfl hv428)
      have hb450 := hb429.up hg444
      have hv451 : Holds (Is (PtrV bk30)) (a441.eval (.tmp 4)) w442 := is_any (hk445.holds rfl hv430)
      have hb452 := hb431.up hg444
      have hv453 : Holds (Is (PtrV bk52)) (a441.eval (.tmp 5)) w442 := is_any (hk445.holds rfl hv432)
      have hb454 := hb433.up hg444
      have hv455 : Holds (Is (PtrV bk125)) (a441.eval (.tmp 7)) w442 := is_any (hk445.holds rfl hv434)
      have hb456 := hb435.up hg444
      have hv457 : Holds (Is (PtrV bk130)) (a441.eval (.tmp 8)) w442 := is_any (hk445.holds rfl hv436)
      have hb458 := hb437.up hg444
      have hv459 : Holds (Is (PtrV bk285)) (a441.eval (.tmp 9)) w442 := is_any (hk445.holds rfl hv438)
      have hb460 := hb439.up hg444
      have hv461 : Holds (Is (PtrV bk412)) (a441.eval (.tmp 11)) w442 := is_any (hk445.holds rfl hv440)
      have hb462 := hb418.up hg444
      have g463 := g419.trans hg444
      have g464 := g420.trans hg444
      have g465 := g421.trans hg444
      have g466 := g422.trans hg444
      have g467 := g423.trans hg444
      have g468 := g424.trans hg444
      have g469 := g425.trans hg444
      have g470 := g426.trans hg444
      have g471 := g427.trans hg444
      clear h390 hv428 hb429 hv430 hb431 hv432 hb433 hv434 hb435 hv436 hb437 hv438 hb439 hv440 hb418 g419 g420 g421 g422 g423 g424 g425 g426 g427 hf383 hk445 hn446 hg444
      refine then_ ?_
      refine wp_seq ?_
      refine wp_seq ?_
      have g472 : Grow w442 w442 := Grow.refl _
      have hl473 : bk11 < w442.heap.size := hb450.lt
      have hl474 : bk30 < w442.heap.size := hb452.lt
      have hl475 : bk52 < w442.heap.size := hb454.lt
      have hl476 : bk125 < w442.heap.size := hb456.lt
      have hl477 : bk130 < w442.heap.size := hb458.lt
      have hl478 : bk285 < w442.heap.size := hb460.lt
      have hl479 : bk412 < w442.heap.size := hb462.lt
      have hz480 : w345.heap.size ≤ w442.heap.size := g471.size
      refine wp_calm [0, 0, 0, 6, 15, 31, 63, 127, 127, 127, 895, 2047, 4095, 8191, 16383, 32767, 32767, 131071, 262143, 524287, 1048575, 1048575, 4194303, 8388607] [([7], []), ([3], []), ([4], []), ([], [1, 2]), ([], [0, 3]), ([], [4]), ([], [5]), ([8], [6]), ([3], [6]), ([5], [6]), ([], [8, 9, 6]), ([], [7, 10, 6]), ([], [11, 6]), ([], [6, 12]), ([], [13]), ([9], [14]), ([11], [14]), ([], [15, 16, 14]), ([], [14, 17]), ([], [18]), ([10], [19]), ([12], [19]), ([], [20, 21, 19]), ([], [19, 22])] [3, 4, 7] w442.heap.size hf443 g472.size (by kernel_rfl) (bund_cons (hb456.ownp hv455) (bund_cons (hb450.ownp hv449) (bund_cons (hb452.ownp hv451) (bund_cons (hb458.ownp hv457) (bund_cons (hb454.ownp hv453) (bund_cons (hb460.ownp hv459) (bund_cons (hb462.ownp hv461) (bund_cons (is_any h448) (bund_cons h447 bund_nil))))))))) ?_
      intro ws481 hs482
      refine ch rfl (ob_load_state (ArgOK.ownp (arg_free 0 rfl rfl))) ?_
      refine ch rfl (ob_load_state (ArgOK.ownp (arg_free 1 rfl rfl))) ?_
      refine ch rfl (ob_load_lock (ArgOK.ownp (arg_free 2 rfl rfl))) ?_
      refine ch rfl (ob_call2 (by kernel_rfl) (c_rOpen ?_) (ArgOK.val (arg_op 1 1 rfl rfl rfl rfl) (mkFs (s := s) ((hva0.up g463).up hs482) ((hvb0.up g463).up hs482) ((hvc0.up g463).up hs482) ((hvd0.up g463).up hs482))) (arg_op 2 0 rfl rfl rfl rfl)) ?_
      · assumption
      refine ch rfl (ob_call2 (by kernel_rfl) (c_sameS ?_) (ArgOK.val (arg_op 0 3 rfl rfl rfl rfl) (mkF ((OwnS.sl (hV213.up g468)).up hs482) ((OwnS.sl (hV214.up g468)).up hs482) ((OwnS.sl (hV215.up g468)).up hs482) ((OwnS.sl (hV216.up g468)).up hs482))) (ArgOK.ofstate (arg_op 3 0 rfl rfl rfl rfl))) ?_
      · assumption
      refine ch rfl (ob_not (arg_op 4 0 rfl rfl rfl rfl)) ?_
      refine ch rfl (ob_move (arg_op 5 0 rfl rfl rfl rfl)) ?_
      refine chg (b := _) rfl rfl (arg_op 6 0 rfl rfl rfl rfl) (fun hb6 => ob_load_state (ArgOK.ownp (arg_free 3 rfl rfl))) ?_
      refine chg (b := _) rfl rfl (arg_op 6 1 rfl rfl rfl rfl) (fun hb6 => ob_load_state (ArgOK.ownp (arg_free 1 rfl rfl))) ?_
      refine chg (b := _) rfl rfl (arg_op 6 2 rfl rfl rfl rfl) (fun hb6 => ob_load_nm (ArgOK.ownp (arg_free 4 rfl rfl))) ?_
      refine chg (b := _) rfl rfl (arg_op 6 3 rfl rfl rfl rfl) (fun hb6 => ob_call2 (by kernel_rfl) (c_rClose ?_) (ArgOK.val (ArgOK.when (arg_op 8 1 rfl rfl rfl rfl) hb6) (mkFs (s := s) ((hva0.up g463).up hs482) ((hvb0.up g463).up hs482) ((hvc0.up g463).up hs482) ((hvd0.up g463).up hs482))) (ArgOK.when (arg_op 9 0 rfl rfl rfl rfl) hb6)) ?_
      · assumption
      refine chg (b := _) rfl rfl (arg_op 6 4 rfl rfl rfl rfl) (fun hb6 => ob_call2 (by kernel_rfl) (c_sameS ?_) (ArgOK.val (ArgOK.when (arg_op 7 3 rfl rfl rfl rfl) hb6) (mkF ((OwnS.sl (hV217.up g468)).up hs482) ((OwnS.sl (hV218.up g468)).up hs482) ((OwnS.sl (hV219.up g468)).up hs482) ((OwnS.sl (hV220.up g468)).up hs482))) (ArgOK.ofstate (ArgOK.when (arg_op 10 0 rfl rfl rfl rfl) hb6))) ?_
      · assumption
      refine chg (b := _) rfl rfl (arg_op 6 5 rfl rfl rfl rfl) (fun hb6 => ob_not (ArgOK.when (arg_op 11 0 rfl rfl rfl rfl) hb6)) ?_
      refine ch rfl (ob_or (arg_op 6 6 rfl rfl rfl rfl) (arg_op 12 0 rfl rfl rfl rfl)) ?_
      refine ch rfl (ob_move (arg_op 13 0 rfl rfl rfl rfl)) ?_
      refine chg (b := _) rfl rfl (arg_op 14 0 rfl rfl rfl rfl) (fun hb14 => ob_load_lock (ArgOK.ownp (arg_free 5 rfl rfl))) ?_
      refine chg (b := _) rfl rfl (arg_op 14 1 rfl rfl rfl rfl) (fun hb14 => ob_load_lock (ArgOK.ownp (arg_free 6 rfl rfl))) ?_
      refine chg (b := _) rfl rfl (arg_op 14 2 rfl rfl rfl rfl) (fun hb14 => ob_neqlock (ArgOK.when (arg_op 15 1 rfl rfl rfl rfl) hb14) (ArgOK.when (arg_op 16 0 rfl rfl rfl rfl) hb14)) ?_
      refine ch rfl (ob_or (arg_op 14 3 rfl rfl rfl rfl) (arg_op 17 0 rfl rfl rfl rfl)) ?_
      refine ch rfl (ob_move (arg_op 18 0 rfl rfl rfl rfl)) ?_
      refine chg (b := _) rfl rfl (arg_op 19 0 rfl rfl rfl rfl) (fun hb19 => ob_move (arg_free 7 rfl rfl)) ?_
      refine chg (b := _) rfl rfl (arg_op 19 1 rfl rfl rfl rfl) (fun hb19 => ob_move (arg_free 8 rfl rfl)) ?_
      refine chg (b := _) rfl rfl (arg_op 19 2 rfl rfl rfl rfl) (fun hb19 => ob_neqbool (ArgOK.when (arg_op 20 1 rfl rfl rfl rfl) hb19) (ArgOK.when (arg_op 21 0 rfl rfl rfl rfl) hb19) Tryz.underlying4) ?_
      refine ch rfl (ob_or (arg_op 19 3 rfl rfl rfl rfl) (arg_op 22 0 rfl rfl rfl rfl)) ?_
      refine ch_nil ?_
      intro a483 w484 hf485 hg486 hk487 hn488
      have h489 : Holds _ (a483.eval (.tmp 61)) w484 := hn488.at 23 0 rfl rfl rfl
      have hv490 : Holds (Is (PtrV bk11)) (a483.eval (.tmp 3)) w484 := is_any (hk487.holds rfl hv449)
      have hb491 := hb450.up hg486
      have hv492 : Holds (Is (PtrV bk30)) (a483.eval (.tmp 4)) w484 := is_any (hk487.holds rfl hv451)
      have hb493 := hb452.up hg486
      have hv494 : Holds (Is (PtrV bk125)) (a483.eval (.tmp 7)) w484 := is_any (hk487.holds rfl hv455)
      have hb495 := hb456.up hg486
      have g496 := g463.trans hg486
      have g497 := g464.trans hg486
      have g498 := g465.trans hg486
      have g499 := g466.trans hg486
      have g500 := g467.trans hg486
      have g501 := g468.trans hg486
      have g502 := g469.trans hg486
      have g503 := g470.trans hg486
      have g504 := g471.trans hg486
      have g505 := g472.trans hg486
      clear hv449 hb450 hv451 hb452 hv455 hb456 g463 g464 g465 g466 g467 g468 g469 g470 g471 g472 hf443 hk487 hn488
      refine then_ ?_
      refine wp_if h489 ?_ ?_
      · intro hc506
        exact absurd (locks_no.symm.trans hc506) (by decide)
      · intro hc506
        refine wp_skip ?_
        refine then_ ?_
        refine wp_seq ?_
        have g507 : Grow w484 w484 := Grow.refl _
        have hl508 : bk11 < w484.heap.size := hb491.lt
        have hl509 : bk30 < w484.heap.size := hb493.lt
        have hl510 : bk125 < w484.heap.size := hb495.lt
        have hz511 : w442.heap.size ≤ w484.heap.size := g505.size
        refine wp_region_lit ?_
        refine wp_seg (l1 := [_, _, _, _, _, _, _]) [([3], []), ([4], []), ([], [1]), ([], [0, 2]), ([], [3]), ([], [4]), ([], [4])] [4, 7] w484.heap.size hf485 g507.size (by kernel_rfl) (bund_cons (hb491.ownp hv490) (bund_cons (hb493.ownp hv492) bund_nil)) ?_
        refine ch rfl (ob_load_state (ArgOK.ownp (arg_free 0 rfl rfl))) ?_
        refine ch rfl (ob_fa_lock0 (ArgOK.ownp (arg_free 1 rfl rfl))) ?_
        refine ch rfl (ob_load_nm (arg_op 1 0 rfl rfl rfl rfl)) ?_
        refine ch rfl (ob_call2 (by kernel_rfl) (c_Lock ?_) (ArgOK.val (arg_op 0 2 rfl rfl rfl rfl) (mkFs (s := s) (hva0.up g496) (hvb0.up g496) (hvc0.up g496) (hvd0.up g496))) (arg_op 2 0 rfl rfl rfl rfl)) ?_
        · assumption
        refine ch rfl (ob_move (arg_op 3 0 rfl rfl rfl rfl)) ?_
        refine ch rfl (ob_extract0 (arg_op 4 0 rfl rfl rfl rfl)) ?_
        refine ch rfl (ob_extract1 (arg_op 4 1 rfl rfl rfl rfl)) ?_
        refine ch_nil ?_
        intro a512 w513 hf514 hg515 hk516 hn517
        have h518 : Holds _ (a512.eval (.tmp 67)) w513 := hn517.at 5 1 rfl rfl rfl
        have h519 : Holds _ (a512.eval (.tmp 68)) w513 := hn517.at 6 0 rfl rfl rfl
        have hv520 : Holds (Is (PtrV bk30)) (a512.eval (.tmp 4)) w513 := is_any (hk516.holds rfl hv492)
        have hb521 := hb493.up hg515
        have hv522 : Holds (Is (PtrV bk125)) (a512.eval (.tmp 7)) w513 := is_any (hk516.holds rfl hv494)
        have hb523 := hb495.up hg515
        have g524 := g496.trans hg515
        have g525 := g497.trans hg515
        have g526 := g498.trans hg515
        have g527 := g499.trans hg515
        have g528 := g500.trans hg515
        have g529 := g501.trans hg515
        have g530 := g502.trans hg515
        have g531 := g503.trans hg515
        have g532 := g504.trans hg515
        have g533 := g505.trans hg515
        have g534 := g507.trans hg515
        clear hv492 hb493 hv494 hb495 g496 g497 g498 g499 g500 g501 g502 g503 g504 g505 g507 hf485 hk516 hn517
        have g535 : Grow w513 w513 := Grow.refl _
        have hl536 : bk30 < w513.heap.size := hb521.lt
        have hl537 : bk125 < w513.heap.size := hb523.lt
        have hz538 : w484.heap.size ≤ w513.heap.size := g534.size
        refine wp_seg (l1 := [_]) [([], [])] [4, 7, 67, 68] w513.heap.size hf514 g535.size (by kernel_rfl) bund_nil ?_
        refine ch rfl (ob_alloc_lock) ?_
        refine ch_nil ?_
        intro a539 w540 hf541 hg542 hk543 hn544
        have h545 : Holds _ (a539.eval (.tmp 13)) w540 := hn544.at 0 0 rfl rfl rfl
        have h546 := hk543.holds rfl h518
        have h547 := hk543.holds rfl h519
        have hv548 : Holds (Is (PtrV bk30)) (a539.eval (.tmp 4)) w540 := is_any (hk543.holds rfl hv520)
        have hb549 := hb521.up hg542
        have hv550 : Holds (Is (PtrV bk125)) (a539.eval (.tmp 7)) w540 := is_any (hk543.holds rfl hv522)
        have hb551 := hb523.up hg542
        have g552 := g524.trans hg542
        have g553 := g525.trans hg542
        have g554 := g526.trans hg542
        have g555 := g527.trans hg542
        have g556 := g528.trans hg542
        have g557 := g529.trans hg542
        have g558 := g530.trans hg542
        have g559 := g531.trans hg542
        have g560 := g532.trans hg542
        have g561 := g533.trans hg542
        have g562 := g534.trans hg542
        have g563 := g535.trans hg542
        obtain ⟨bk564, hl565, hv566, hb567⟩ := OwnB.blk (lo := w513.heap.size) h545
        clear h518 h519 hv520 hb521 hv522 hb523 g524 g525 g526 g527 g528 g529 g530 g531 g532 g533 g534 g535 hf514 hk543 hn544
        refine wl_store_lock hv566 hb567 rfl (is_any h546) ?_
        intro w568 ho569 hb570
        have g571 : Grow w0 w568 := g552.only ho569 (by omega)
        have g572 : Grow w2 w568 := g553.only ho569 (by omega)
        have g573 : Grow w19 w568 := g554.only ho569 (by omega)
        have g574 : Grow w39 w568 := g555.only ho569 (by omega)
        have g575 : Grow w62 w568 := g556.only ho569 (by omega)
        have g576 : Grow w196 w568 := g557.only ho569 (by omega)
        have g577 : Grow w229 w568 := g558.only ho569 (by omega)
        have g578 : Grow w311 w568 := g559.only ho569 (by omega)
        have g579 : Grow w345 w568 := g560.only ho569 (by omega)
        have g580 : Grow w442 w568 := g561.only ho569 (by omega)
        have g581 : Grow w484 w568 := g562.only ho569 (by omega)
        have g582 : Grow w513 w568 := g563.only ho569 (by omega)
        have hv583 : Holds (Is (PtrV bk30)) (a539.eval (.tmp 4)) w568 := is_any hv548
        have hb584 : Blk bk30 _ w568 := hb549.only ho569 (by omega)
        have hv585 : Holds (Is (PtrV bk125)) (a539.eval (.tmp 7)) w568 := is_any hv550
        have hb586 : Blk bk125 _ w568 := hb551.only ho569 (by omega)
        have hv587 : Holds (Is (PtrV bk564)) (a539.eval (.tmp 13)) w568 := is_any hv566
        refine wp_all [([68], [])] [4, 7, 13] w513.heap.size hf541 g582.size (by kernel_rfl) (bund_cons (is_any h547) bund_nil) ?_
        refine ch rfl (ob_assign (arg_free 0 rfl rfl)) ?_
        refine ch_nil ?_
        intro a588 w589 hf590 hg591 hk592 hn593
        have h594 : Holds _ (a588.eval (.tmp 14)) w589 := hn593.at 0 0 rfl rfl rfl
        have hv595 : Holds (Is (PtrV bk30)) (a588.eval (.tmp 4)) w589 := is_any (hk592.holds rfl hv583)
        have hb596 := hb584.up hg591
        have hv597 : Holds (Is (PtrV bk125)) (a588.eval (.tmp 7)) w589 := is_any (hk592.holds rfl hv585)
        have hb598 := hb586.up hg591
        have hv599 : Holds (Is (PtrV bk564)) (a588.eval (.tmp 13)) w589 := is_any (hk592.holds rfl hv587)
        have hb600 := hb570.up hg591
        have g601 := g571.trans hg591
        have g602 := g572.trans hg591
        have g603 := g573.trans hg591
        have g604 := g574.trans hg591
        have g605 := g575.trans hg591
        have g606 := g576.trans hg591
        have g607 := g577.trans hg591
        have g608 := g578.trans hg591
        have g609 := g579.trans hg591
        have g610 := g580.trans hg591
        have g611 := g581.trans hg591
        have g612 := g582.trans hg591
        clear hv583 hb584 hv585 hb586 hv587 hb570 g571 g572 g573 g574 g575 g576 g577 g578 g579 g580 g581 g582 hf541 hk592 hn593 hg591
        refine then_ ?_
        refine wp_seq ?_
        have g613 : Grow w589 w589 := Grow.refl _
        have hl614 : bk30 < w589.heap.size := hb596.lt
        have hl615 : bk125 < w589.heap.size := hb598.lt
        have hl616 : bk564 < w589.heap.size := hb600.lt
        have hz617 : w513.heap.size ≤ w589.heap.size := g612.size
        refine wp_region_lit ?_
        refine wp_seg (l1 := [_, _, _, _, _, _, _]) [([7], []), ([4], []), ([], [1]), ([], [0, 2]), ([], [3]), ([], [4]), ([], [4])] [4, 13, 14] w589.heap.size hf590 g613.size (by kernel_rfl) (bund_cons (hb598.ownp hv597) (bund_cons (hb596.ownp hv595) bund_nil)) ?_
        refine ch rfl (ob_load_state (ArgOK.ownp (arg_free 0 rfl rfl))) ?_
        refine ch rfl (ob_fa_lock0 (ArgOK.ownp (arg_free 1 rfl rfl))) ?_
        refine ch rfl (ob_load_nm (arg_op 1 0 rfl rfl rfl rfl)) ?_
        refine ch rfl (ob_call2 (by kernel_rfl) (c_Lock ?_) (ArgOK.val (arg_op 0 2 rfl rfl rfl rfl) (mkF (OwnS.sl (hV213.up g606)) (OwnS.sl (hV214.up g606)) (OwnS.sl (hV215.up g606)) (OwnS.sl (hV216.up g606)))) (arg_op 2 0 rfl rfl rfl rfl)) ?_
        · assumption
        refine ch rfl (ob_move (arg_op 3 0 rfl rfl rfl rfl)) ?_
        refine ch rfl (ob_extract0 (arg_op 4 0 rfl rfl rfl rfl)) ?_
        refine ch rfl (ob_extract1 (arg_op 4 1 rfl rfl rfl rfl)) ?_
        refine ch_nil ?_
        intro a618 w619 hf620 hg621 hk622 hn623
        have h624 : Holds _ (a618.eval (.tmp 74)) w619 := hn623.at 5 1 rfl rfl rfl
        have h625 : Holds _ (a618.eval (.tmp 75)) w619 := hn623.at 6 0 rfl rfl rfl
        have h626 := hk622.holds rfl h594
        have hv627 : Holds (Is (PtrV bk30)) (a618.eval (.tmp 4)) w619 := is_any (hk622.holds rfl hv595)
        have hb628 := hb596.up hg621
        have hv629 : Holds (Is (PtrV bk564)) (a618.eval (.tmp 13)) w619 := is_any (hk622.holds rfl hv599)
        have hb630 := hb600.up hg621
        have g631 := g601.trans hg621
        have g632 := g602.trans hg621
        have g633 := g603.trans hg621
        have g634 := g604.trans hg621
        have g635 := g605.trans hg621
        have g636 := g606.trans hg621
        have g637 := g607.trans hg621
        have g638 := g608.trans hg621
        have g639 := g609.trans hg621
        have g640 := g610.trans hg621
        have g641 := g611.trans hg621
        have g642 := g612.trans hg621
        have g643 := g613.trans hg621
        clear h594 hv595 hb596 hv599 hb600 g601 g602 g603 g604 g605 g606 g607 g608 g609 g610 g611 g612 g613 hf590 hk622 hn623
        have g644 : Grow w619 w619 := Grow.refl _
        have hl645 : bk30 < w619.heap.size := hb628.lt
        have hl646 : bk564 < w619.heap.size := hb630.lt
        have hz647 : w589.heap.size ≤ w619.heap.size := g643.size
        refine wp_seg (l1 := [_]) [([], [])] [4, 13, 14, 74, 75] w619.heap.size hf620 g644.size (by kernel_rfl) bund_nil ?_
        refine ch rfl (ob_alloc_lock) ?_
        refine ch_nil ?_
        intro a648 w649 hf650 hg651 hk652 hn653
        have h654 : Holds _ (a648.eval (.tmp 15)) w649 := hn653.at 0 0 rfl rfl rfl
        have h655 := hk652.holds rfl h624
        have h656 := hk652.holds rfl h625
        have h657 := hk652.holds rfl h626
        have hv658 : Holds (Is (PtrV bk30)) (a648.eval (.tmp 4)) w649 := is_any (hk652.holds rfl hv627)
        have hb659 := hb628.up hg651
        have hv660 : Holds (Is (PtrV bk564)) (a648.eval (.tmp 13)) w649 := is_any (hk652.holds rfl hv629)
        have hb661 := hb630.up hg651
        have g662 := g631.trans hg651
        have g663 := g632.trans hg651
        have g664 := g633.trans hg651
        have g665 := g634.trans hg651
        have g666 := g635.trans hg651
        have g667 := g636.trans hg651
        have g668 := g637.trans hg651
        have g669 := g638.trans hg651
        have g670 := g639.trans hg651
        have g671 := g640.trans hg651
        have g672 := g641.trans hg651
        have g673 := g642.trans hg651
        have g674 := g643.trans hg651
        have g675 := g644.trans hg651
        obtain ⟨bk676, hl677, hv678, hb679⟩ := OwnB.blk (lo := w619.heap.size) h654
        clear h624 h625 h626 hv627 hb628 hv629 hb630 g631 g632 g633 g634 g635 g636 g637 g638 g639 g640 g641 g642 g643 g644 hf620 hk652 hn653
        refine wl_store_lock hv678 hb679 rfl (is_any h655) ?_
        intro w680 ho681 hb682
        have g683 : Grow w0 w680 := g662.only ho681 (by omega)
        have g684 : Grow w2 w680 := g663.only ho681 (by omega)
        have g685 : Grow w19 w680 := g664.only ho681 (by omega)
        have g686 : Grow w39 w680 := g665.only ho681 (by omega)
        have g687 : Grow w62 w680 := g666.only ho681 (by omega)
        have g688 : Grow w196 w680 := g667.only ho681 (by omega)
        have g689 : Grow w229 w680 := g668.only ho681 (by omega)
        have g690 : Grow w311 w680 := g669.only ho681 (by omega)
        have g691 : Grow w345 w680 := g670.only ho681 (by omega)
        have g692 : Grow w442 w680 := g671.only ho681 (by omega)
        have g693 : Grow w484 w680 := g672.only ho681 (by omega)
        have g694 : Grow w513 w680 := g673.only ho681 (by omega)
        have g695 : Grow w589 w680 := g674.only ho681 (by omega)
        have g696 : Grow w619 w680 := g675.only ho681 (by omega)
        have hv697 : Holds (Is (PtrV bk30)) (a648.eval (.tmp 4)) w680 := is_any hv658
        have hb698 : Blk bk30 _ w680 := hb659.only ho681 (by omega)
        have hv699 : Holds (Is (PtrV bk564)) (a648.eval (.tmp 13)) w680 := is_any hv660
        have hb700 : Blk bk564 _ w680 := hb661.only ho681 (by omega)
        have hv701 : Holds (Is (PtrV bk676)) (a648.eval (.tmp 15)) w680 := is_any hv678
        refine wp_all [([75], [])] [4, 13, 14, 15] w619.heap.size hf650 g696.size (by kernel_rfl) (bund_cons (is_any h656) bund_nil) ?_
        refine ch rfl (ob_assign (arg_free 0 rfl rfl)) ?_
        refine ch_nil ?_
        intro a702 w703 hf704 hg705 hk706 hn707
        have h708 : Holds _ (a702.eval (.tmp 16)) w703 := hn707.at 0 0 rfl rfl rfl
        have h709 := hk706.holds rfl h657
        have hv710 : Holds (Is (PtrV bk30)) (a702.eval (.tmp 4)) w703 := is_any (hk706.holds rfl hv697)
        have hb711 := hb698.up hg705
        have hv712 : Holds (Is (PtrV bk564)) (a702.eval (.tmp 13)) w703 := is_any (hk706.holds rfl hv699)
        have hb713 := hb700.up hg705
        have hv714 : Holds (Is (PtrV bk676)) (a702.eval (.tmp 15)) w703 := is_any (hk706.holds rfl hv701)
        have hb715 := hb682.up hg705
        have g716 := g683.trans hg705
        have g717 := g684.trans hg705
        have g718 := g685.trans hg705
        have g719 := g686.trans hg705
        have g720 := g687.trans hg705
        have g721 := g688.trans hg705
        have g722 := g689.trans hg705
        have g723 := g690.trans hg705
        have g724 := g691.trans hg705
        have g725 := g692.trans hg705
        have g726 := g693.trans hg705
        have g727 := g694.trans hg705
        have g728 := g695.trans hg705
        have g729 := g696.trans hg705
        clear h657 hv697 hb698 hv699 hb700 hv701 hb682 g683 g684 g685 g686 g687 g688 g689 g690 g691 g692 g693 g694 g695 g696 hf650 hk706 hn707 hg705
        refine then_ ?_
        refine wp_seq ?_
        have g730 : Grow w703 w703 := Grow.refl _
        have hl731 : bk30 < w703.heap.size := hb711.lt
        have hl732 : bk564 < w703.heap.size := hb713.lt
        have hl733 : bk676 < w703.heap.size := hb715.lt
        have hz734 : w619.heap.size ≤ w703.heap.size := g729.size
        refine wp_region_lit ?_
        refine wp_all [([16], []), ([], [0]), ([14], [1]), ([], [2, 1]), ([15], [3]), ([13], [3]), ([], [4, 5, 3]), ([], [3, 6, 1]), ([], [7, 1]), ([14], [8]), ([], [9, 8]), ([], [10, 8]), ([15], [11]), ([4], [11]), ([], [12, 13, 11]), ([], [11, 14, 8]), ([], [8, 15, 1]), ([], [1, 16]), ([], [17]), ([], [18]), ([], [18, 19]), ([], [20])] [] w703.heap.size hf704 g730.size (by kernel_rfl) (bund_cons h708 (bund_cons (is_any h709) (bund_cons (hb715.ownp hv714) (bund_cons (hb713.ownp hv712) (bund_cons (hb711.ownp hv710) bund_nil))))) ?_
        refine ch rfl (ob_move (arg_free 0 rfl rfl)) ?_
        refine ch rfl (ob_move (arg_op 0 0 rfl rfl rfl rfl)) ?_
        refine chg (b := _) rfl rfl (arg_op 1 0 rfl rfl rfl rfl) (fun hb1 => ob_move (arg_free 1 rfl rfl)) ?_
        refine chg (b := _) rfl rfl (arg_op 1 1 rfl rfl rfl rfl) (fun hb1 => ob_move (ArgOK.when (arg_op 2 0 rfl rfl rfl rfl) hb1)) ?_
        refine chgn (b := _) rfl rfl (arg_op 3 0 rfl rfl rfl rfl) (fun ⟨hb1, hb3⟩ => ob_load_lock (ArgOK.ownp (arg_free 2 rfl rfl))) ?_
        refine chgn (b := _) rfl rfl (arg_op 3 1 rfl rfl rfl rfl) (fun ⟨hb1, hb3⟩ => ob_load_lock (ArgOK.ownp (arg_free 3 rfl rfl))) ?_
        refine chgn (b := _) rfl rfl (arg_op 3 2 rfl rfl rfl rfl) (fun ⟨hb1, hb3⟩ => ob_eqlock (ArgOK.when (arg_op 4 1 rfl rfl rfl rfl) ⟨hb1, hb3⟩) (ArgOK.when (arg_op 5 0 rfl rfl rfl rfl) ⟨hb1, hb3⟩)) ?_
        refine chg (b := _) rfl rfl (arg_op 1 5 rfl rfl rfl rfl) (fun hb1 => ob_and (ArgOK.when (arg_op 3 3 rfl rfl rfl rfl) hb1) (ArgOK.whenAnd (arg_op 6 0 rfl rfl rfl rfl) hb1)) ?_
        refine chg (b := _) rfl rfl (arg_op 1 6 rfl rfl rfl rfl) (fun hb1 => ob_move (ArgOK.when (arg_op 7 0 rfl rfl rfl rfl) hb1)) ?_
        refine chgn (b := _) rfl rfl (arg_op 8 0 rfl rfl rfl rfl) (fun ⟨hb1, hb8⟩ => ob_move (arg_free 1 rfl rfl)) ?_
        refine chgn (b := _) rfl rfl (arg_op 8 1 rfl rfl rfl rfl) (fun ⟨hb1, hb8⟩ => ob_not (ArgOK.when (arg_op 9 0 rfl rfl rfl rfl) ⟨hb1, hb8⟩)) ?_
        refine chgn (b := _) rfl rfl (arg_op 8 2 rfl rfl rfl rfl) (fun ⟨hb1, hb8⟩ => ob_move (ArgOK.when (arg_op 10 0 rfl rfl rfl rfl) ⟨hb1, hb8⟩)) ?_
        refine chgn (b := _) rfl rfl (arg_op 11 0 rfl rfl rfl rfl) (fun ⟨⟨hb1, hb8⟩, hb11⟩ => ob_load_lock (ArgOK.ownp (arg_free 2 rfl rfl))) ?_
        refine chgn (b := _) rfl rfl (arg_op 11 1 rfl rfl rfl rfl) (fun ⟨⟨hb1, hb8⟩, hb11⟩ => ob_load_lock (ArgOK.ownp (arg_free 4 rfl rfl))) ?_
        refine chgn (b := _) rfl rfl (arg_op 11 2 rfl rfl rfl rfl) (fun ⟨⟨hb1, hb8⟩, hb11⟩ => ob_eqlock (ArgOK.when (arg_op 12 1 rfl rfl rfl rfl) ⟨⟨hb1, hb8⟩, hb11⟩) (ArgOK.when (arg_op 13 0 rfl rfl rfl rfl) ⟨⟨hb1, hb8⟩, hb11⟩)) ?_
        refine chgn (b := _) rfl rfl (arg_op 8 6 rfl rfl rfl rfl) (fun ⟨hb1, hb8⟩ => ob_and (ArgOK.when (arg_op 11 3 rfl rfl rfl rfl) ⟨hb1, hb8⟩) (ArgOK.whenAnd (arg_op 14 0 rfl rfl rfl rfl) ⟨hb1, hb8⟩)) ?_
        refine chg (b := _) rfl rfl (arg_op 1 14 rfl rfl rfl rfl) (fun hb1 => ob_or (ArgOK.when (arg_op 8 7 rfl rfl rfl rfl) hb1) (ArgOK.whenAnd (arg_op 15 0 rfl rfl rfl rfl) hb1)) ?_
        refine ch rfl (ob_and (arg_op 1 15 rfl rfl rfl rfl) (arg_op 16 0 rfl rfl rfl rfl)) ?_
        refine ch rfl (ob_move (arg_op 17 0 rfl rfl rfl rfl)) ?_
        refine chg (b := _) rfl rfl (arg_op 18 0 rfl rfl rfl rfl) (fun hb18 => ob_call0 (by kernel_rfl) (c_awake21) ) ?_
        refine ch rfl (ob_and (arg_op 18 1 rfl rfl rfl rfl) (arg_op 19 0 rfl rfl rfl rfl)) ?_
        refine ch rfl (ob_assign (arg_op 20 0 rfl rfl rfl rfl)) ?_
        refine ch_nil ?_
        intro a735 w736 hf737 hg738 hk739 hn740
        have h741 : Holds _ (a735.eval (.tmp 6)) w736 := hn740.at 21 0 rfl rfl rfl
        have g742 := g716.trans hg738
        have g743 := g717.trans hg738
        have g744 := g718.trans hg738
        have g745 := g719.trans hg738
        have g746 := g720.trans hg738
        have g747 := g721.trans hg738
        have g748 := g722.trans hg738
        have g749 := g723.trans hg738
        have g750 := g724.trans hg738
        have g751 := g725.trans hg738
        have g752 := g726.trans hg738
        have g753 := g727.trans hg738
        have g754 := g728.trans hg738
        have g755 := g729.trans hg738
        have g756 := g730.trans hg738
        clear g716 g717 g718 g719 g720 g721 g722 g723 g724 g725 g726 g727 g728 g729 g730 hf704 hk739 hn740
        refine then_ ?_
        refine wp_ret ?_
        exact ret_tmp rfl hf737 g742 (is_cast h741 (congrArg Value.bool (by first | rfl | exact locks_yes)))
    · intro dd hdd
      cases hdd
end Ex
end Go.Proofs.YtnmfiiejhoafnaaGreat
