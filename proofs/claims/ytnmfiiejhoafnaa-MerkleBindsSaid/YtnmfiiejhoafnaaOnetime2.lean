/- One-time keys: chains, signatures, public names; of the program and of the reference. -/
import Derived.Test.YtnmfiiejhoafnaaHash3
import Derived.Test.YtnmfiiejhoafnaaOnetime1
namespace Go.Proofs.Ytnmfiiejhoafnaa
namespace Ex
open Go Calm Go.RowKit

/-- a step of a chain -/
def stepN (v : UInt64) (c p : UInt8) : UInt64 := tagged 33 (nmBytes v ++ [c, p])
/-- k steps on chain c, from position p -/
def walkN (c p : Nat) (v : UInt64) : Nat → UInt64
  | 0 => v
  | k + 1 => stepN (walkN c p v k) (UInt8.ofNat c) (UInt8.ofNat (p + k))
theorem walkN_add (c p : Nat) (v : UInt64) (j : Nat) : ∀ k, walkN c (p + j) (walkN c p v j) k = walkN c p v (j + k)
  | 0 => rfl
  | k + 1 => by
    rw [← Nat.add_assoc]
    simp only [walkN]
    rw [walkN_add c p v j k, Nat.add_assoc]
def startN (seed : UInt64) (c : Nat) : UInt64 := tagged 32 (nmBytes seed ++ [UInt8.ofNat c])
def endsN (l : List UInt64) : UInt64 := tagged 34 (l.flatMap nmBytes)
/-- digit c as a number -/
def dgN (m : UInt64) (c : Nat) : Nat := (dg m c).toNat
theorem dgN_eq (m : UInt64) {c : Nat} (h : c < 18) : dg m c = (dgN m c : Int) ∧ dgN m c ≤ 15 := by
  have := dg_bound m c h
  unfold dgN
  omega
theorem dgD (m : UInt64) {c : Nat} (h : c < 18) : (digits m).getD c default = (dgN m c : Int) ∧ dgN m c ≤ 15 := dgN_eq m h
def pubF (seed : UInt64) (c : Nat) : UInt64 := walkN c 0 (startN seed c) 15
def sigF (seed m : UInt64) (c : Nat) : UInt64 := walkN c 0 (startN seed c) (dgN m c)
def recF (m : UInt64) (sig : List UInt64) (c : Nat) : UInt64 := walkN c (dgN m c) (sig.getD c default) (15 - dgN m c)
/-- the first n values of f -/
def vals (f : Nat → UInt64) (n : Nat) : List UInt64 := (List.range n).map f
theorem vals_len (f : Nat → UInt64) (n : Nat) : (vals f n).length = n := by simp [vals]
theorem vals_succ (f : Nat → UInt64) (n : Nat) : vals f n ++ [f n] = vals f (n + 1) := by simp [vals, List.range_succ]
theorem vals_get (f : Nat → UInt64) {n c : Nat} (h : c < n) : (vals f n).getD c default = f c := by
  unfold vals
  rw [List.getD_eq_getElem?_getD, List.getElem?_map, List.getElem?_range h]; rfl
/-- .. the others zero -/
def upTo (f : Nat → UInt64) (n i : Nat) : List UInt64 := vals f i ++ List.replicate (n - i) 0
theorem upTo_len {f : Nat → UInt64} {n i : Nat} (h : i ≤ n) : (upTo f n i).length = n := by
  unfold upTo
  rw [List.length_append, vals_len, List.length_replicate]
  omega
theorem upTo_full (f : Nat → UInt64) (n : Nat) : upTo f n n = vals f n := by simp [upTo]
theorem upTo_set {f : Nat → UInt64} {n i : Nat} (h : i < n) : (upTo f n i).set i (f i) = upTo f n (i + 1) := by
  unfold upTo
  obtain ⟨k, rfl⟩ : ∃ k, n = i + (k + 1) := ⟨n - i - 1, by omega⟩
  rw [show i + (k + 1) - i = k + 1 by omega, show i + (k + 1) - (i + 1) = k by omega, List.set_append_right (h := by rw [vals_len]; omega), vals_len, Nat.sub_self, List.replicate_succ, List.set_cons_zero, ← vals_succ, List.append_assoc]; rfl
theorem rec_sig (seed m : UInt64) : vals (recF m (vals (sigF seed m) 18)) 18 = vals (pubF seed) 18 := by
  unfold vals
  refine List.map_congr_left fun c hc => ?_
  have h18 : c < 18 := by simpa using hc
  have e := vals_get (sigF seed m) h18
  unfold vals at e
  unfold recF pubF
  rw [e]
  unfold sigF
  have h := (dgN_eq m h18).2
  have h2 := walkN_add c 0 (startN seed c) (dgN m c) (15 - dgN m c)
  rw [Nat.zero_add] at h2
  rw [h2, show dgN m c + (15 - dgN m c) = 15 by omega]
theorem byte_nat (c : Nat) : (c : Int) % 256 = ((UInt8.ofNat c).toNat : Int) := by
  rw [UInt8.toNat_ofNat']
  omega
theorem byte_add (p j : Nat) : ((p : Int) + (j : Int)) % 256 = ((UInt8.ofNat (p + j)).toNat : Int) := by
  rw [← byte_nat]
  rfl
theorem flat_len (l : List UInt64) : (l.flatMap nmBytes).length = 8 * l.length := by
  induction l with
  | nil => rfl
  | cons a l ih => rw [List.flatMap_cons, List.length_append, nmBytes_len, ih, List.length_cons]; omega
theorem flat_step {l : List UInt64} {i : Nat} (h : i < l.length) : (l.take i).flatMap nmBytes ++ nmBytes (l.getD i default) = (l.take (i + 1)).flatMap nmBytes := by
  rw [List.take_add_one, List.flatMap_append, List.getD_eq_getElem?_getD, List.getElem?_eq_getElem h]
  simp
theorem cast_own {α : Type} {T : El α} {lo : Nat} {l m : List α} {v : Value} {w : World} (e : l = m) (h : Holds (OwnS lo T l) v w) : Holds (OwnS lo T m) v w := by subst e; exact h
def recV (m : UInt64) (sig : List UInt64) : UInt64 := if sig.length = 18 then endsN (vals (recF m sig) 18) else 0
theorem recV_no {m : UInt64} {sig : List UInt64} (h : sig.length ≠ 18) : recV m sig = 0 := by rw [recV, if_neg h]
theorem recV_yes {m : UInt64} {sig : List UInt64} (h : sig.length = 18) : recV m sig = endsN (vals (recF m sig) 18) := by rw [recV, if_pos h]
/-- lists of names, compared -/
theorem same_len {a b : List UInt64} (h : a.length ≠ b.length) : false = decide (a = b) := (decide_eq_false fun e => h (by rw [e])).symm
theorem same_ne {a b : List UInt64} {i : Nat} (h : a.getD i default ≠ b.getD i default) : false = decide (a = b) := (decide_eq_false fun e => h (by rw [e])).symm
theorem same_all {a b : List UInt64} {i : Nat} (h1 : a.length = b.length) (h2 : a.take i = b.take i) (h3 : a.length ≤ i) : true = decide (a = b) :=
  (decide_eq_true (by rw [List.take_of_length_le h3, List.take_of_length_le (by omega)] at h2; exact h2)).symm
theorem same_step {a b : List UInt64} {i : Nat} (h1 : a.take i = b.take i) (h2 : a.getD i default = b.getD i default) (ha : i < a.length) (hb : i < b.length) : a.take (i + 1) = b.take (i + 1) := by
  rw [List.take_add_one, List.take_add_one, h1, List.getElem?_eq_getElem ha, List.getElem?_eq_getElem hb]
  rw [List.getD_eq_getElem?_getD, List.getD_eq_getElem?_getD, List.getElem?_eq_getElem ha, List.getElem?_eq_getElem hb] at h2
  simp only [Option.getD_some] at h2
  rw [h2]
theorem int18 {n : Nat} : decide ((n : Int) = 18) = decide (n = 18) := by
  rw [decide_eq_decide]
  omega
theorem cut40 {sig : List UInt64} : (sig.take 40).length = min 40 sig.length := List.length_take

set_option maxRecDepth 100000 in
theorem c_start {s : UInt64} {c : Nat} : Con2 107 (Is (nmV s)) (Is (intV (c : Int))) (fun _ => Is (nmV (startN s c))) := by
  intro lo v0 v1 w0 hlo hv0 hv1
  refine enter Try.func107 rfl Try.ntmps107 (by simp) ?_
  intro a0 hf0 ha
  have h00 : Holds _ (a0.eval (.tmp 0)) w0 := arg_holds ha rfl hv0
  have h01 : Holds _ (a0.eval (.tmp 1)) w0 := arg_holds ha rfl hv1
  clear ha
  have g0 : Grow w0 w0 := Grow.refl _
  refine wp_seq ?_
  refine wp_region_lit ?_
  refine wp_seg (l1 := [_]) [([0], [])] [1] w0.heap.size hf0 g0.size (by kernel_rfl) (bund_cons h00 bund_nil) ?_
  refine ch rfl (ob_box_nm (arg_free 0 rfl rfl)) ?_
  refine ch_nil ?_
  intro a1 w2 hf3 hg4 hk5 hn6
  have h7 : Holds _ (a1.eval (.tmp 2)) w2 := hn6.at 0 0 rfl rfl rfl
  have h8 : Holds _ (a1.eval (.tmp 1)) w0 := hk5.holds rfl h01
  have g9 : Grow w0 w2 := g0.trans hg4
  obtain ⟨bk10, hl11, hv12, hb13⟩ := OwnB.blk (lo := w0.heap.size) h7
  clear h01 g0 hf0 hk5 hn6
  have g14 : Grow w2 w2 := Grow.refl _
  have hl15 : bk10 < w2.heap.size := hb13.lt
  have hz16 : w0.heap.size ≤ w2.heap.size := g9.size
  refine wp_all [([], [])] [1, 2] w2.heap.size hf3 g14.size (by kernel_rfl) bund_nil ?_
  refine ch rfl (ob_alloc_nm) ?_
  refine ch_nil ?_
  intro a17 w18 hf19 hg20 hk21 hn22
  have h23 : Holds _ (a17.eval (.tmp 4)) w18 := hn22.at 0 0 rfl rfl rfl
  have h24 : Holds _ (a17.eval (.tmp 1)) w0 := hk21.holds rfl h8
  have hv25 : Holds (Is (PtrV bk10)) (a17.eval (.tmp 2)) w18 := is_any (hk21.holds rfl hv12)
  have hb26 : Blk bk10 _ w18 := hb13.up hg20
  have g27 : Grow w0 w18 := g9.trans hg20
  have g28 : Grow w2 w18 := g14.trans hg20
  obtain ⟨bk29, hl30, hv31, hb32⟩ := OwnB.blk (lo := w2.heap.size) h23
  clear h8 hv12 hb13 g9 g14 hf3 hk21 hn22
  refine then_ ?_
  refine wp_seq ?_
  have g33 : Grow w18 w18 := Grow.refl _
  have hl34 : bk10 < w18.heap.size := hb26.lt
  have hl35 : bk29 < w18.heap.size := hb32.lt
  have hz36 : w2.heap.size ≤ w18.heap.size := g28.size
  refine wp_region_lit ?_
  refine wp_seg (l1 := [_, _, _, _, _, _]) [([2], []), ([1], []), ([], [1]), ([], [2]), ([], [0, 3]), ([], [4])] [4] w18.heap.size hf19 g33.size (by kernel_rfl) (bund_cons (hb26.ownp hv25) (bund_cons (is_any h24) bund_nil)) ?_
  refine ch rfl (ob_slice_nmF (ArgOK.ownp (arg_free 0 rfl rfl))) ?_
  refine ch rfl (ob_move (arg_free 1 rfl rfl)) ?_
  refine ch rfl (ob_intbyte (m := UInt8.ofNat c) (arg_op 1 0 rfl rfl rfl rfl) Try.underlying3 Try.underlying5 ?_) ?_
  · exact byte_nat c
  refine ch rfl (ob_bs1_byte (arg_op 2 0 rfl rfl rfl rfl)) ?_
  refine ch rfl (ob_append_new elByteP Try.underlying34 (arg_op 0 3 rfl rfl rfl rfl) (ArgOK.sl (ArgOK.ownf (arg_op 3 0 rfl rfl rfl rfl))) ?_) ?_
  · (refine ⟨List.cons_ne_nil _ _, ?_, ?_⟩ <;> ((try simp only [List.length_append, List.length_cons, List.length_nil, nmBytes_len, elByte, elNm, elInt, maxLen]); omega))
  refine ch rfl (ob_call2 (by kernel_rfl) (c_Tagged ?_) (arg_cb 32 rfl) (ArgOK.sl (arg_op 4 0 rfl rfl rfl rfl))) ?_
  · ((try simp only [List.length_append, List.length_cons, List.length_nil, nmBytes_len, List.length_take, List.length_drop, flat_len]); omega)
  refine ch_nil ?_
  intro a37 w38 hf39 hg40 hk41 hn42
  have h43 : Holds _ (a37.eval (.tmp 10)) w38 := hn42.at 5 0 rfl rfl rfl
  have hv44 : Holds (Is (PtrV bk29)) (a37.eval (.tmp 4)) w38 := is_any (hk41.holds rfl hv31)
  have hb45 : Blk bk29 _ w38 := hb32.up hg40
  have g46 : Grow w0 w38 := g27.trans hg40
  have g47 : Grow w2 w38 := g28.trans hg40
  have g48 : Grow w18 w38 := g33.trans hg40
  clear hv31 hb32 g27 g28 g33 hf19 hk41 hn42
  refine wl_store_nm hv44 hb45 rfl h43 ?_
  intro w49 ho50 hb51
  have g52 : Grow w0 w49 := g46.only ho50 (by omega)
  have g53 : Grow w2 w49 := g47.only ho50 (by omega)
  have hv54 : Holds (Is (PtrV bk29)) (a37.eval (.tmp 4)) w49 := is_any hv44
  refine wpList_nil ?_
  refine then_ ?_
  refine wp_ret ?_
  refine ret_cell rfl Try.underlying23 rfl (by kernel_rfl) hf39 g52 (hb51.ptr hv54) ?_
  exact rfl

set_option maxRecDepth 100000 in
theorem c_rstart {s : UInt64} {c : Nat} : Con2 111 (Is (nmV s)) (Is (intV (c : Int))) (fun _ => Is (nmV (startN s c))) := by
  intro lo v0 v1 w0 hlo hv0 hv1
  refine enter Try.func111 rfl Try.ntmps111 (by simp) ?_
  intro a0 hf0 ha
  have h00 : Holds _ (a0.eval (.tmp 0)) w0 := arg_holds ha rfl hv0
  have h01 : Holds _ (a0.eval (.tmp 1)) w0 := arg_holds ha rfl hv1
  clear ha
  have g0 : Grow w0 w0 := Grow.refl _
  refine wp_seq ?_
  refine wp_region_lit ?_
  refine wp_seg (l1 := [_]) [([0], [])] [1] w0.heap.size hf0 g0.size (by kernel_rfl) (bund_cons h00 bund_nil) ?_
  refine ch rfl (ob_box_nm (arg_free 0 rfl rfl)) ?_
  refine ch_nil ?_
  intro a1 w2 hf3 hg4 hk5 hn6
  have h7 : Holds _ (a1.eval (.tmp 2)) w2 := hn6.at 0 0 rfl rfl rfl
  have h8 : Holds _ (a1.eval (.tmp 1)) w0 := hk5.holds rfl h01
  have g9 : Grow w0 w2 := g0.trans hg4
  obtain ⟨bk10, hl11, hv12, hb13⟩ := OwnB.blk (lo := w0.heap.size) h7
  clear h01 g0 hf0 hk5 hn6
  have g14 : Grow w2 w2 := Grow.refl _
  have hl15 : bk10 < w2.heap.size := hb13.lt
  have hz16 : w0.heap.size ≤ w2.heap.size := g9.size
  refine wp_all [([], [])] [1, 2] w2.heap.size hf3 g14.size (by kernel_rfl) bund_nil ?_
  refine ch rfl (ob_alloc_nm) ?_
  refine ch_nil ?_
  intro a17 w18 hf19 hg20 hk21 hn22
  have h23 : Holds _ (a17.eval (.tmp 4)) w18 := hn22.at 0 0 rfl rfl rfl
  have h24 : Holds _ (a17.eval (.tmp 1)) w0 := hk21.holds rfl h8
  have hv25 : Holds (Is (PtrV bk10)) (a17.eval (.tmp 2)) w18 := is_any (hk21.holds rfl hv12)
  have hb26 : Blk bk10 _ w18 := hb13.up hg20
  have g27 : Grow w0 w18 := g9.trans hg20
  have g28 : Grow w2 w18 := g14.trans hg20
  obtain ⟨bk29, hl30, hv31, hb32⟩ := OwnB.blk (lo := w2.heap.size) h23
  clear h8 hv12 hb13 g9 g14 hf3 hk21 hn22
  refine then_ ?_
  refine wp_seq ?_
  have g33 : Grow w18 w18 := Grow.refl _
  have hl34 : bk10 < w18.heap.size := hb26.lt
  have hl35 : bk29 < w18.heap.size := hb32.lt
  have hz36 : w2.heap.size ≤ w18.heap.size := g28.size
  refine wp_region_lit ?_
  refine wp_seg (l1 := [_, _, _, _, _, _]) [([], []), ([2], []), ([], [0, 1]), ([1], []), ([], [3]), ([], [4])] [4] w18.heap.size hf19 g33.size (by kernel_rfl) (bund_cons (hb26.ownp hv25) (bund_cons (is_any h24) bund_nil)) ?_
  refine ch rfl (ob_bs0_byte ) ?_
  refine ch rfl (ob_slice_nmF (ArgOK.ownp (arg_free 0 rfl rfl))) ?_
  refine ch rfl (ob_append_fresh elByteP Try.underlying34 (arg_op 0 1 rfl rfl rfl rfl) (ArgOK.fsl (arg_op 1 0 rfl rfl rfl rfl)) ?_) ?_
  · (refine ⟨?_, ?_⟩ <;> ((try simp only [List.length_append, List.length_cons, List.length_nil, nmBytes_len, elByte, elNm, elInt, maxLen]); omega))
  refine ch rfl (ob_move (arg_free 1 rfl rfl)) ?_
  refine ch rfl (ob_intbyte (m := UInt8.ofNat c) (arg_op 3 0 rfl rfl rfl rfl) Try.underlying3 Try.underlying5 ?_) ?_
  · exact byte_nat c
  refine ch rfl (ob_bs1_byte (arg_op 4 0 rfl rfl rfl rfl)) ?_
  refine ch_nil ?_
  intro a37 w38 hf39 hg40 hk41 hn42
  have h43 : Holds (OwnS w18.heap.size _ _) (a37.eval (.tmp 7)) w38 := hn42.at 2 3 rfl rfl rfl
  have h44 : Holds (OwnF w18.heap.size _ _) (a37.eval (.tmp 10)) w38 := hn42.at 5 0 rfl rfl rfl
  have hv45 : Holds (Is (PtrV bk29)) (a37.eval (.tmp 4)) w38 := is_any (hk41.holds rfl hv31)
  have hb46 : Blk bk29 _ w38 := hb32.up hg40
  have g47 : Grow w0 w38 := g27.trans hg40
  have g48 : Grow w2 w38 := g28.trans hg40
  have g49 : Grow w18 w38 := g33.trans hg40
  clear hv31 hb32 g27 g28 g33 hf19 hk41 hn42
  obtain ⟨V50, h51, hV52⟩ := nameV h43
  clear h43
  obtain ⟨V53, h54, hV55⟩ := nameV h44
  clear h44
  refine wl_appendW elByteP [4] hf39 (by kernel_rfl) rfl Try.underlying34 (unV h51 hV52) (OwnS.sl (OwnF.own (unV h54 hV55))) ?_ ?_ g49.size ?_
  · ((try simp only [List.length_append, List.length_cons, List.length_nil, nmBytes_len, elByte, elNm, elInt, maxLen]); omega)
  · ((try simp only [List.length_append, List.length_cons, List.length_nil, nmBytes_len, elByte, elNm, elInt, maxLen]); omega)
  intro a56 w57 hf58 hw59 hk60 h61
  have g62 : Grow w0 w57 := g47.wr hw59 (by omega)
  have g63 : Grow w2 w57 := g48.wr hw59 (by omega)
  have g64 : Grow w18 w57 := g49.wr hw59 (by omega)
  have hv65 : Holds (Is (PtrV bk29)) (a56.eval (.tmp 4)) w57 := is_any (hk60.holds rfl hv45)
  have hb66 : Blk bk29 _ w57 := hb46.wr hw59 (by omega)
  obtain ⟨V67, h68, hV69⟩ := nameV h61
  clear h61
  refine wp_seg (l1 := [_]) [([11], [])] [4] w18.heap.size hf58 g64.size (by kernel_rfl) (bund_cons h68 bund_nil) ?_
  refine ch rfl (ob_call2 (by kernel_rfl) (c_rTagged ?_) (arg_cb 32 rfl) (ArgOK.sl (ArgOK.val (arg_free 0 rfl rfl) hV69))) ?_
  · ((try simp only [List.length_append, List.length_cons, List.length_nil, nmBytes_len, List.length_take, List.length_drop, flat_len]); omega)
  refine ch_nil ?_
  intro a70 w71 hf72 hg73 hk74 hn75
  have h76 : Holds _ (a70.eval (.tmp 12)) w71 := hn75.at 0 0 rfl rfl rfl
  have hv77 : Holds (Is (PtrV bk29)) (a70.eval (.tmp 4)) w71 := is_any (hk74.holds rfl hv65)
  have hb78 : Blk bk29 _ w71 := hb66.up hg73
  have g79 : Grow w0 w71 := g62.trans hg73
  have g80 : Grow w2 w71 := g63.trans hg73
  have g81 : Grow w18 w71 := g64.trans hg73
  clear hv65 hb66 g62 g63 g64 hf58 hk74 hn75 hg73
  refine wl_store_nm hv77 hb78 rfl h76 ?_
  intro w82 ho83 hb84
  have g85 : Grow w0 w82 := g79.only ho83 (by omega)
  have g86 : Grow w2 w82 := g80.only ho83 (by omega)
  have hv87 : Holds (Is (PtrV bk29)) (a70.eval (.tmp 4)) w82 := is_any hv77
  refine wpList_nil ?_
  refine then_ ?_
  refine wp_ret ?_
  refine ret_cell rfl Try.underlying23 rfl (by kernel_rfl) hf72 g85 (hb84.ptr hv87) ?_
  exact rfl

set_option maxRecDepth 100000 in
theorem c_walk {v : UInt64} {c p k : Nat} {pz q : Int} (hp : p + k ≤ 1000) (hz : pz = (p : Int)) (hq : q = ((p + k : Nat) : Int)) : Con4 106 (Is (nmV v)) (Is (intV (c : Int))) (Is (intV pz)) (Is (intV q)) (fun _ => Is (nmV (walkN c p v k))) := by
  intro lo v0 v1 v2 v3 w0 hlo hv0 hv1 hv2 hv3
  refine enter Try.func106 rfl Try.ntmps106 (by simp) ?_
  intro a0 hf0 ha
  have h00 : Holds _ (a0.eval (.tmp 0)) w0 := arg_holds ha rfl hv0
  have h01 : Holds _ (a0.eval (.tmp 1)) w0 := arg_holds ha rfl hv1
  have h02 : Holds _ (a0.eval (.tmp 2)) w0 := arg_holds ha rfl hv2
  have h03 : Holds _ (a0.eval (.tmp 3)) w0 := arg_holds ha rfl hv3
  clear ha
  have g0 : Grow w0 w0 := Grow.refl _
  refine wp_seq ?_
  refine wp_region_lit ?_
  refine wp_seg (l1 := [_]) [([0], [])] [1, 2, 3] w0.heap.size hf0 g0.size (by kernel_rfl) (bund_cons h00 bund_nil) ?_
  refine ch rfl (ob_box_nm (arg_free 0 rfl rfl)) ?_
  refine ch_nil ?_
  intro a1 w2 hf3 hg4 hk5 hn6
  have h7 : Holds _ (a1.eval (.tmp 4)) w2 := hn6.at 0 0 rfl rfl rfl
  have h8 : Holds _ (a1.eval (.tmp 1)) w0 := hk5.holds rfl h01
  have h9 : Holds _ (a1.eval (.tmp 2)) w0 := hk5.holds rfl h02
  have h10 : Holds _ (a1.eval (.tmp 3)) w0 := hk5.holds rfl h03
  have g11 : Grow w0 w2 := g0.trans hg4
  obtain ⟨bk12, hl13, hv14, hb15⟩ := OwnB.blk (lo := w0.heap.size) h7
  clear h01 h02 h03 g0 hf0 hk5 hn6
  have g16 : Grow w2 w2 := Grow.refl _
  have hl17 : bk12 < w2.heap.size := hb15.lt
  have hz18 : w0.heap.size ≤ w2.heap.size := g11.size
  refine wp_all [([], [])] [1, 2, 3, 4] w2.heap.size hf3 g16.size (by kernel_rfl) bund_nil ?_
  refine ch rfl (ob_alloc_nm) ?_
  refine ch_nil ?_
  intro a19 w20 hf21 hg22 hk23 hn24
  have h25 : Holds _ (a19.eval (.tmp 8)) w20 := hn24.at 0 0 rfl rfl rfl
  have h26 : Holds _ (a19.eval (.tmp 1)) w0 := hk23.holds rfl h8
  have h27 : Holds _ (a19.eval (.tmp 2)) w0 := hk23.holds rfl h9
  have h28 : Holds _ (a19.eval (.tmp 3)) w0 := hk23.holds rfl h10
  have hv29 : Holds (Is (PtrV bk12)) (a19.eval (.tmp 4)) w20 := is_any (hk23.holds rfl hv14)
  have hb30 : Blk bk12 _ w20 := hb15.up hg22
  have g31 : Grow w0 w20 := g11.trans hg22
  have g32 : Grow w2 w20 := g16.trans hg22
  obtain ⟨bk33, hl34, hv35, hb36⟩ := OwnB.blk (lo := w2.heap.size) h25
  clear h8 h9 h10 hv14 hb15 g11 g16 hf3 hk23 hn24
  refine then_ ?_
  refine wp_seq ?_
  refine wp_seq ?_
  refine wp_region_lit ?_
  refine wp_all [([3], []), ([2], []), ([], [0, 1]), ([], [])] [1, 2, 4, 8] w2.heap.size hf21 g32.size (by kernel_rfl) (bund_cons (is_any h28) (bund_cons (is_any h27) bund_nil)) ?_
  refine ch rfl (ob_move (arg_free 0 rfl rfl)) ?_
  refine ch rfl (ob_move (arg_free 1 rfl rfl)) ?_
  first
    | (refine ch rfl (ob_sub' (arg_op 0 1 rfl rfl rfl rfl) (arg_op 1 0 rfl rfl rfl rfl) ?_) ?_; · omega)
    | refine ch rfl (ob_sub (arg_op 0 1 rfl rfl rfl rfl) (arg_op 1 0 rfl rfl rfl rfl)) ?_
  refine ch rfl (ob_move arg_c) ?_
  refine ch_nil ?_
  intro a37 w38 hf39 hg40 hk41 hn42
  have h43 : Holds _ (a37.eval (.tmp 12)) w38 := hn42.at 2 1 rfl rfl rfl
  have h44 : Holds _ (a37.eval (.tmp 13)) w38 := hn42.at 3 0 rfl rfl rfl
  have h45 : Holds _ (a37.eval (.tmp 1)) w0 := hk41.holds rfl h26
  have h46 : Holds _ (a37.eval (.tmp 2)) w0 := hk41.holds rfl h27
  have hv47 : Holds (Is (PtrV bk12)) (a37.eval (.tmp 4)) w38 := is_any (hk41.holds rfl hv29)
  have hb48 : Blk bk12 _ w38 := hb30.up hg40
  have hv49 : Holds (Is (PtrV bk33)) (a37.eval (.tmp 8)) w38 := is_any (hk41.holds rfl hv35)
  have hb50 : Blk bk33 _ w38 := hb36.up hg40
  have g51 : Grow w0 w38 := g31.trans hg40
  have g52 : Grow w2 w38 := g32.trans hg40
  clear h26 h27 hv29 hb30 hv35 hb36 g31 g32 hf21 hk41 hn42 hg40
  refine then_ ?_
  refine wp_block ?_
  refine wp_loopL (α := Nat) (fun j a' w' => Fr 28 a' ∧ (j ≤ k) ∧ Grow w0 w' ∧ Keep [1, 2, 4, 8, 12] a37 a' ∧ Holds (Is (intV (j : Int))) (a'.eval (.tmp 13)) w' ∧ Blk bk12 (nmCells (walkN c p v j)) w' ∧ Blk bk33 (_) w') (fun j => k - j) (0) ⟨hf39, (by ((try dsimp only); omega)), g51, Keep.refl _ _, (is_cast h44 (by first | rfl | (refine congrArg intV ?_; (try dsimp only); omega))), hb48, hb50⟩ ?_
  intro j a53 w54 ⟨hf55, hi57, g58, kk56, h59, hb60, hb61⟩
  have h62 : Holds _ (a53.eval (.tmp 12)) w54 := is_any (kk56.holds rfl h43)
  have h63 : Holds _ (a53.eval (.tmp 1)) w0 := kk56.holds rfl h45
  have h64 : Holds _ (a53.eval (.tmp 2)) w0 := kk56.holds rfl h46
  have hv65 : Holds (Is (PtrV bk12)) (a53.eval (.tmp 4)) w54 := is_any (kk56.holds rfl hv47)
  have hv66 : Holds (Is (PtrV bk33)) (a53.eval (.tmp 8)) w54 := is_any (kk56.holds rfl hv49)
  refine wp_seq ?_
  refine wp_region_lit ?_
  refine wp_all [([13, 12], [])] [1, 2, 4, 8, 12, 13] w0.heap.size hf55 g58.size (by kernel_rfl) (bund_cons h59 (bund_cons h62 bund_nil)) ?_
  refine ch rfl (ob_lss (arg_free 0 rfl rfl) (arg_free 1 rfl rfl)) ?_
  refine ch_nil ?_
  intro a67 w68 hf69 hg70 hk71 hn72
  have h73 : Holds _ (a67.eval (.tmp 14)) w68 := hn72.at 0 0 rfl rfl rfl
  have h74 : Holds _ (a67.eval (.tmp 13)) w68 := hk71.holds rfl (h59.up hg70)
  have h75 : Holds _ (a67.eval (.tmp 12)) w68 := hk71.holds rfl (h62.up hg70)
  have h76 : Holds _ (a67.eval (.tmp 1)) w0 := hk71.holds rfl h63
  have h77 : Holds _ (a67.eval (.tmp 2)) w0 := hk71.holds rfl h64
  have hv78 : Holds (Is (PtrV bk12)) (a67.eval (.tmp 4)) w68 := is_any (hk71.holds rfl hv65)
  have hb79 : Blk bk12 _ w68 := hb60.up hg70
  have hv80 : Holds (Is (PtrV bk33)) (a67.eval (.tmp 8)) w68 := is_any (hk71.holds rfl hv66)
  have hb81 : Blk bk33 _ w68 := hb61.up hg70
  have g82 : Grow w0 w68 := g58.trans hg70
  have kk83 : Keep _ a37 a67 := kk56.trans hk71 rfl
  clear h59 h62 h63 h64 hv65 hb60 hv66 hb61 g58 kk56 hf55 hk71 hn72 hg70
  refine then_ ?_
  refine wp_seq ?_
  refine wp_if h73 ?_ ?_
  · intro hc84
    try simp only [cond_norm] at hc84
    refine wp_skip ?_
    refine then_ ?_
    refine wp_seq ?_
    refine wp_block ?_
    refine wp_seq ?_
    refine wp_region_lit ?_
    refine wp_all [([13], []), ([], [0])] [1, 2, 4, 8, 12, 13] w0.heap.size hf69 g82.size (by kernel_rfl) (bund_cons h74 bund_nil) ?_
    refine ch rfl (ob_move (arg_free 0 rfl rfl)) ?_
    refine ch rfl (ob_assign (arg_op 0 0 rfl rfl rfl rfl)) ?_
    refine ch_nil ?_
    intro a85 w86 hf87 hg88 hk89 hn90
    have h91 : Holds _ (a85.eval (.tmp 9)) w86 := hn90.at 1 0 rfl rfl rfl
    have h92 : Holds _ (a85.eval (.tmp 13)) w86 := hk89.holds rfl (h74.up hg88)
    have h93 : Holds _ (a85.eval (.tmp 12)) w86 := hk89.holds rfl (h75.up hg88)
    have h94 : Holds _ (a85.eval (.tmp 1)) w0 := hk89.holds rfl h76
    have h95 : Holds _ (a85.eval (.tmp 2)) w0 := hk89.holds rfl h77
    have hv96 : Holds (Is (PtrV bk12)) (a85.eval (.tmp 4)) w86 := is_any (hk89.holds rfl hv78)
    have hb97 : Blk bk12 _ w86 := hb79.up hg88
    have hv98 : Holds (Is (PtrV bk33)) (a85.eval (.tmp 8)) w86 := is_any (hk89.holds rfl hv80)
    have hb99 : Blk bk33 _ w86 := hb81.up hg88
    have g100 : Grow w0 w86 := g82.trans hg88
    have kk101 : Keep _ a37 a85 := kk83.trans hk89 rfl
    clear h74 h75 h76 h77 hv78 hb79 hv80 hb81 g82 kk83 hf69 hk89 hn90 hg88
    refine then_ ?_
    have g102 : Grow w86 w86 := Grow.refl _
    have hl103 : bk12 < w86.heap.size := hb97.lt
    have hl104 : bk33 < w86.heap.size := hb99.lt
    have hz105 : w0.heap.size ≤ w86.heap.size := g100.size
    refine wp_region_lit ?_
    refine wp_seg (l1 := [_, _, _, _, _, _, _, _, _, _]) [([4], []), ([1], []), ([], [1]), ([2], []), ([9], []), ([], [3, 4]), ([], [5]), ([], [2, 6]), ([], [0, 7]), ([], [8])] [1, 2, 4, 8, 12, 13] w86.heap.size hf87 g102.size (by kernel_rfl) (bund_cons (hb97.ownp hv96) (bund_cons (is_any h94) (bund_cons (is_any h95) (bund_cons h91 bund_nil)))) ?_
    refine ch rfl (ob_slice_nmF (ArgOK.ownp (arg_free 0 rfl rfl))) ?_
    refine ch rfl (ob_move (arg_free 1 rfl rfl)) ?_
    refine ch rfl (ob_intbyte (m := UInt8.ofNat c) (arg_op 1 0 rfl rfl rfl rfl) Try.underlying3 Try.underlying5 ?_) ?_
    · exact byte_nat c
    refine ch rfl (ob_move (arg_free 2 rfl rfl)) ?_
    refine ch rfl (ob_move (arg_free 3 rfl rfl)) ?_
    first
      | (refine ch rfl (ob_add' (arg_op 3 1 rfl rfl rfl rfl) (arg_op 4 0 rfl rfl rfl rfl) ?_) ?_; · omega)
      | refine ch rfl (ob_add (arg_op 3 1 rfl rfl rfl rfl) (arg_op 4 0 rfl rfl rfl rfl)) ?_
    refine ch rfl (ob_intbyte (m := UInt8.ofNat (p + j)) (arg_op 5 0 rfl rfl rfl rfl) Try.underlying3 Try.underlying5 ?_) ?_
    · (rw [hz]; exact byte_add p j)
    refine ch rfl (ob_bs2_byte (arg_op 2 4 rfl rfl rfl rfl) (arg_op 6 0 rfl rfl rfl rfl)) ?_
    refine ch rfl (ob_append_new elByteP Try.underlying34 (arg_op 0 7 rfl rfl rfl rfl) (ArgOK.sl (ArgOK.ownf (arg_op 7 0 rfl rfl rfl rfl))) ?_) ?_
    · (refine ⟨List.cons_ne_nil _ _, ?_, ?_⟩ <;> ((try simp only [List.length_append, List.length_cons, List.length_nil, nmBytes_len, elByte, elNm, elInt, maxLen]); omega))
    refine ch rfl (ob_call2 (by kernel_rfl) (c_Tagged ?_) (arg_cb 33 rfl) (ArgOK.sl (arg_op 8 0 rfl rfl rfl rfl))) ?_
    · ((try simp only [List.length_append, List.length_cons, List.length_nil, nmBytes_len, List.length_take, List.length_drop, flat_len]); omega)
    refine ch_nil ?_
    intro a106 w107 hf108 hg109 hk110 hn111
    have h112 : Holds _ (a106.eval (.tmp 25)) w107 := hn111.at 9 0 rfl rfl rfl
    have h113 : Holds _ (a106.eval (.tmp 13)) w86 := hk110.holds rfl h92
    have h114 : Holds _ (a106.eval (.tmp 12)) w86 := hk110.holds rfl h93
    have h115 : Holds _ (a106.eval (.tmp 1)) w0 := hk110.holds rfl h94
    have h116 : Holds _ (a106.eval (.tmp 2)) w0 := hk110.holds rfl h95
    have hv117 : Holds (Is (PtrV bk12)) (a106.eval (.tmp 4)) w107 := is_any (hk110.holds rfl hv96)
    have hb118 : Blk bk12 _ w107 := hb97.up hg109
    have hv119 : Holds (Is (PtrV bk33)) (a106.eval (.tmp 8)) w107 := is_any (hk110.holds rfl hv98)
    have hb120 : Blk bk33 _ w107 := hb99.up hg109
    have g121 : Grow w0 w107 := g100.trans hg109
    have g122 : Grow w86 w107 := g102.trans hg109
    have kk123 : Keep _ a37 a106 := kk101.trans hk110 rfl
    clear h92 h93 h94 h95 hv96 hb97 hv98 hb99 g100 g102 kk101 hf87 hk110 hn111
    refine wl_store_nm hv117 hb118 rfl h112 ?_
    intro w124 ho125 hb126
    have g127 : Grow w0 w124 := g121.only ho125 (by omega)
    have h128 : Holds _ (a106.eval (.tmp 13)) w124 := is_any h113
    have h129 : Holds _ (a106.eval (.tmp 12)) w124 := is_any h114
    have hv130 : Holds (Is (PtrV bk12)) (a106.eval (.tmp 4)) w124 := is_any hv117
    have hv131 : Holds (Is (PtrV bk33)) (a106.eval (.tmp 8)) w124 := is_any hv119
    have hb132 : Blk bk33 _ w124 := hb120.only ho125 (by omega)
    refine wpList_nil ?_
    refine blockN ?_
    refine then_ ?_
    refine wp_region_lit ?_
    refine wp_all [([13], []), ([], [0])] [1, 2, 4, 8, 12] w0.heap.size hf108 g127.size (by kernel_rfl) (bund_cons h128 bund_nil) ?_
    first
      | (refine ch rfl (ob_add' (arg_free 0 rfl rfl) arg_c ?_) ?_; · omega)
      | refine ch rfl (ob_add (arg_free 0 rfl rfl) arg_c) ?_
    refine ch rfl (ob_move (arg_op 0 0 rfl rfl rfl rfl)) ?_
    refine ch_nil ?_
    intro a133 w134 hf135 hg136 hk137 hn138
    have h139 : Holds _ (a133.eval (.tmp 13)) w134 := hn138.at 1 0 rfl rfl rfl
    have h140 : Holds _ (a133.eval (.tmp 12)) w134 := hk137.holds rfl (h129.up hg136)
    have h141 : Holds _ (a133.eval (.tmp 1)) w0 := hk137.holds rfl h115
    have h142 : Holds _ (a133.eval (.tmp 2)) w0 := hk137.holds rfl h116
    have hv143 : Holds (Is (PtrV bk12)) (a133.eval (.tmp 4)) w134 := is_any (hk137.holds rfl hv130)
    have hb144 : Blk bk12 _ w134 := hb126.up hg136
    have hv145 : Holds (Is (PtrV bk33)) (a133.eval (.tmp 8)) w134 := is_any (hk137.holds rfl hv131)
    have hb146 : Blk bk33 _ w134 := hb132.up hg136
    have g147 : Grow w0 w134 := g127.trans hg136
    have kk148 : Keep _ a37 a133 := kk123.trans hk137 rfl
    clear h129 h115 h116 hv130 hb126 hv131 hb132 g127 kk123 hf108 hk137 hn138 hg136
    refine then_ ?_
    exact ⟨(j + 1), (by ((try dsimp only); omega)), hf135, (by ((try dsimp only); omega)), g147, kk148, (is_cast h139 (by first | rfl | (refine congrArg intV ?_; (try dsimp only); omega))), hb144, hb146⟩
  · intro hc84
    try simp only [cond_norm] at hc84
    obtain rfl : j = k := by omega
    refine wp_exit ?_
    refine thenX ?_
    refine thenX ?_
    refine blockX ?_
    refine then_ ?_
    refine wp_seq ?_
    have g149 : Grow w68 w68 := Grow.refl _
    have hl150 : bk12 < w68.heap.size := hb79.lt
    have hl151 : bk33 < w68.heap.size := hb81.lt
    have hz152 : w0.heap.size ≤ w68.heap.size := g82.size
    refine wp_region_lit ?_
    refine wp_seg (l1 := [_]) [([4], [])] [8] w68.heap.size hf69 g149.size (by kernel_rfl) (bund_cons (hb79.ownp hv78) bund_nil) ?_
    refine ch rfl (ob_load_nm (ArgOK.ownp (arg_free 0 rfl rfl))) ?_
    refine ch_nil ?_
    intro a153 w154 hf155 hg156 hk157 hn158
    have h159 : Holds _ (a153.eval (.tmp 27)) w154 := hn158.at 0 0 rfl rfl rfl
    have hv160 : Holds (Is (PtrV bk33)) (a153.eval (.tmp 8)) w154 := is_any (hk157.holds rfl hv80)
    have hb161 : Blk bk33 _ w154 := hb81.up hg156
    have g162 : Grow w0 w154 := g82.trans hg156
    have g163 : Grow w68 w154 := g149.trans hg156
    clear hv80 hb81 g82 g149 hf69 hk157 hn158
    refine wl_store_nm hv160 hb161 rfl h159 ?_
    intro w164 ho165 hb166
    have g167 : Grow w0 w164 := g162.only ho165 (by omega)
    have hv168 : Holds (Is (PtrV bk33)) (a153.eval (.tmp 8)) w164 := is_any hv160
    refine wpList_nil ?_
    refine then_ ?_
    refine wp_ret ?_
    refine ret_cell rfl Try.underlying23 rfl (by kernel_rfl) hf155 g167 (hb166.ptr hv168) ?_
    exact rfl

set_option maxRecDepth 100000 in
theorem c_rchain {v : UInt64} {c p k : Nat} {pz q : Int} (hp : p + k ≤ 1000) (hz : pz = (p : Int)) (hq : q = ((p + k : Nat) : Int)) : Con4 109 (Is (nmV v)) (Is (intV (c : Int))) (Is (intV pz)) (Is (intV q)) (fun _ => Is (nmV (walkN c p v k))) := by
  intro lo v0 v1 v2 v3 w0 hlo hv0 hv1 hv2 hv3
  refine enter Try.func109 rfl Try.ntmps109 (by simp) ?_
  intro a0 hf0 ha
  have h00 : Holds _ (a0.eval (.tmp 0)) w0 := arg_holds ha rfl hv0
  have h01 : Holds _ (a0.eval (.tmp 1)) w0 := arg_holds ha rfl hv1
  have h02 : Holds _ (a0.eval (.tmp 2)) w0 := arg_holds ha rfl hv2
  have h03 : Holds _ (a0.eval (.tmp 3)) w0 := arg_holds ha rfl hv3
  clear ha
  have g0 : Grow w0 w0 := Grow.refl _
  refine wp_seq ?_
  refine wp_region_lit ?_
  refine wp_seg (l1 := [_]) [([0], [])] [1, 2, 3] w0.heap.size hf0 g0.size (by kernel_rfl) (bund_cons h00 bund_nil) ?_
  refine ch rfl (ob_box_nm (arg_free 0 rfl rfl)) ?_
  refine ch_nil ?_
  intro a1 w2 hf3 hg4 hk5 hn6
  have h7 : Holds _ (a1.eval (.tmp 4)) w2 := hn6.at 0 0 rfl rfl rfl
  have h8 : Holds _ (a1.eval (.tmp 1)) w0 := hk5.holds rfl h01
  have h9 : Holds _ (a1.eval (.tmp 2)) w0 := hk5.holds rfl h02
  have h10 : Holds _ (a1.eval (.tmp 3)) w0 := hk5.holds rfl h03
  have g11 : Grow w0 w2 := g0.trans hg4
  obtain ⟨bk12, hl13, hv14, hb15⟩ := OwnB.blk (lo := w0.heap.size) h7
  clear h01 h02 h03 g0 hf0 hk5 hn6
  have g16 : Grow w2 w2 := Grow.refl _
  have hl17 : bk12 < w2.heap.size := hb15.lt
  have hz18 : w0.heap.size ≤ w2.heap.size := g11.size
  refine wp_all [([], [])] [1, 2, 3, 4] w2.heap.size hf3 g16.size (by kernel_rfl) bund_nil ?_
  refine ch rfl (ob_alloc_nm) ?_
  refine ch_nil ?_
  intro a19 w20 hf21 hg22 hk23 hn24
  have h25 : Holds _ (a19.eval (.tmp 8)) w20 := hn24.at 0 0 rfl rfl rfl
  have h26 : Holds _ (a19.eval (.tmp 1)) w0 := hk23.holds rfl h8
  have h27 : Holds _ (a19.eval (.tmp 2)) w0 := hk23.holds rfl h9
  have h28 : Holds _ (a19.eval (.tmp 3)) w0 := hk23.holds rfl h10
  have hv29 : Holds (Is (PtrV bk12)) (a19.eval (.tmp 4)) w20 := is_any (hk23.holds rfl hv14)
  have hb30 : Blk bk12 _ w20 := hb15.up hg22
  have g31 : Grow w0 w20 := g11.trans hg22
  have g32 : Grow w2 w20 := g16.trans hg22
  obtain ⟨bk33, hl34, hv35, hb36⟩ := OwnB.blk (lo := w2.heap.size) h25
  clear h8 h9 h10 hv14 hb15 g11 g16 hf3 hk23 hn24
  refine then_ ?_
  refine wp_seq ?_
  refine wp_seq ?_
  refine wp_region_lit ?_
  refine wp_all [([2], []), ([], [0])] [1, 3, 4, 8] w2.heap.size hf21 g32.size (by kernel_rfl) (bund_cons (is_any h27) bund_nil) ?_
  refine ch rfl (ob_move (arg_free 0 rfl rfl)) ?_
  refine ch rfl (ob_assign (arg_op 0 0 rfl rfl rfl rfl)) ?_
  refine ch_nil ?_
  intro a37 w38 hf39 hg40 hk41 hn42
  have h43 : Holds _ (a37.eval (.tmp 9)) w38 := hn42.at 1 0 rfl rfl rfl
  have h44 : Holds _ (a37.eval (.tmp 1)) w0 := hk41.holds rfl h26
  have h45 : Holds _ (a37.eval (.tmp 3)) w0 := hk41.holds rfl h28
  have hv46 : Holds (Is (PtrV bk12)) (a37.eval (.tmp 4)) w38 := is_any (hk41.holds rfl hv29)
  have hb47 : Blk bk12 _ w38 := hb30.up hg40
  have hv48 : Holds (Is (PtrV bk33)) (a37.eval (.tmp 8)) w38 := is_any (hk41.holds rfl hv35)
  have hb49 : Blk bk33 _ w38 := hb36.up hg40
  have g50 : Grow w0 w38 := g31.trans hg40
  have g51 : Grow w2 w38 := g32.trans hg40
  clear h26 h28 hv29 hb30 hv35 hb36 g31 g32 hf21 hk41 hn42 hg40
  refine then_ ?_
  refine wp_block ?_
  refine wp_loopL (α := Nat) (fun j a' w' => Fr 39 a' ∧ (j ≤ k) ∧ Grow w0 w' ∧ Keep [1, 3, 4, 8] a37 a' ∧ Holds (Is (intV ((p : Int) + (j : Int)))) (a'.eval (.tmp 9)) w' ∧ Blk bk12 (nmCells (walkN c p v j)) w' ∧ Blk bk33 (_) w') (fun j => k - j) (0) ⟨hf39, (by ((try dsimp only); omega)), g50, Keep.refl _ _, (is_cast h43 (by first | rfl | (refine congrArg intV ?_; (try dsimp only); omega))), hb47, hb49⟩ ?_
  intro j a52 w53 ⟨hf54, hi56, g57, kk55, h58, hb59, hb60⟩
  have h61 : Holds _ (a52.eval (.tmp 1)) w0 := kk55.holds rfl h44
  have h62 : Holds _ (a52.eval (.tmp 3)) w0 := kk55.holds rfl h45
  have hv63 : Holds (Is (PtrV bk12)) (a52.eval (.tmp 4)) w53 := is_any (kk55.holds rfl hv46)
  have hv64 : Holds (Is (PtrV bk33)) (a52.eval (.tmp 8)) w53 := is_any (kk55.holds rfl hv48)
  refine wp_seq ?_
  refine wp_seq ?_
  refine wp_region_lit ?_
  refine wp_all [([9], []), ([3], []), ([], [0, 1])] [1, 3, 4, 8, 9] w0.heap.size hf54 g57.size (by kernel_rfl) (bund_cons h58 (bund_cons (is_any h62) bund_nil)) ?_
  refine ch rfl (ob_move (arg_free 0 rfl rfl)) ?_
  refine ch rfl (ob_move (arg_free 1 rfl rfl)) ?_
  refine ch rfl (ob_lss (arg_op 0 1 rfl rfl rfl rfl) (arg_op 1 0 rfl rfl rfl rfl)) ?_
  refine ch_nil ?_
  intro a65 w66 hf67 hg68 hk69 hn70
  have h71 : Holds _ (a65.eval (.tmp 13)) w66 := hn70.at 2 0 rfl rfl rfl
  have h72 : Holds _ (a65.eval (.tmp 9)) w66 := hk69.holds rfl (h58.up hg68)
  have h73 : Holds _ (a65.eval (.tmp 1)) w0 := hk69.holds rfl h61
  have h74 : Holds _ (a65.eval (.tmp 3)) w0 := hk69.holds rfl h62
  have hv75 : Holds (Is (PtrV bk12)) (a65.eval (.tmp 4)) w66 := is_any (hk69.holds rfl hv63)
  have hb76 : Blk bk12 _ w66 := hb59.up hg68
  have hv77 : Holds (Is (PtrV bk33)) (a65.eval (.tmp 8)) w66 := is_any (hk69.holds rfl hv64)
  have hb78 : Blk bk33 _ w66 := hb60.up hg68
  have g79 : Grow w0 w66 := g57.trans hg68
  have kk80 : Keep _ a37 a65 := kk55.trans hk69 rfl
  clear h58 h61 h62 hv63 hb59 hv64 hb60 g57 kk55 hf54 hk69 hn70 hg68
  refine then_ ?_
  refine wp_if h71 ?_ ?_
  · intro hc81
    try simp only [cond_norm] at hc81
    refine wp_skip ?_
    refine then_ ?_
    refine wp_seq ?_
    refine wp_block ?_
    have g82 : Grow w66 w66 := Grow.refl _
    have hl83 : bk12 < w66.heap.size := hb76.lt
    have hl84 : bk33 < w66.heap.size := hb78.lt
    have hz85 : w0.heap.size ≤ w66.heap.size := g79.size
    refine wp_region_lit ?_
    refine wp_seg (l1 := [_, _, _, _, _, _, _, _, _, _, _, _, _, _, _, _, _, _, _, _, _, _]) [([4], []), ([], [0]), ([4], []), ([], [2]), ([4], []), ([], [4]), ([4], []), ([], [6]), ([4], []), ([], [8]), ([4], []), ([], [10]), ([4], []), ([], [12]), ([4], []), ([], [14]), ([1], []), ([], [16]), ([9], []), ([], [18]), ([], [1, 3, 5, 7, 9, 11, 13, 15, 17, 19]), ([], [20])] [1, 3, 4, 8, 9] w66.heap.size hf67 g82.size (by kernel_rfl) (bund_cons (hb76.ownp hv75) (bund_cons (is_any h73) (bund_cons h72 bund_nil))) ?_
    refine ch rfl (ob_ix_nm (ArgOK.ownp (arg_free 0 rfl rfl)) arg_c (show (0 : Int) = ((0 : Nat) : Int) from rfl) ?_) ?_
    · decide
    refine ch rfl (ob_load1 (arg_op 0 0 rfl rfl rfl rfl) Try.underlying5 rfl) ?_
    refine ch rfl (ob_ix_nm (ArgOK.ownp (arg_free 0 rfl rfl)) arg_c (show (1 : Int) = ((1 : Nat) : Int) from rfl) ?_) ?_
    · decide
    refine ch rfl (ob_load1 (arg_op 2 0 rfl rfl rfl rfl) Try.underlying5 rfl) ?_
    refine ch rfl (ob_ix_nm (ArgOK.ownp (arg_free 0 rfl rfl)) arg_c (show (2 : Int) = ((2 : Nat) : Int) from rfl) ?_) ?_
    · decide
    refine ch rfl (ob_load1 (arg_op 4 0 rfl rfl rfl rfl) Try.underlying5 rfl) ?_
    refine ch rfl (ob_ix_nm (ArgOK.ownp (arg_free 0 rfl rfl)) arg_c (show (3 : Int) = ((3 : Nat) : Int) from rfl) ?_) ?_
    · decide
    refine ch rfl (ob_load1 (arg_op 6 0 rfl rfl rfl rfl) Try.underlying5 rfl) ?_
    refine ch rfl (ob_ix_nm (ArgOK.ownp (arg_free 0 rfl rfl)) arg_c (show (4 : Int) = ((4 : Nat) : Int) from rfl) ?_) ?_
    · decide
    refine ch rfl (ob_load1 (arg_op 8 0 rfl rfl rfl rfl) Try.underlying5 rfl) ?_
    refine ch rfl (ob_ix_nm (ArgOK.ownp (arg_free 0 rfl rfl)) arg_c (show (5 : Int) = ((5 : Nat) : Int) from rfl) ?_) ?_
    · decide
    refine ch rfl (ob_load1 (arg_op 10 0 rfl rfl rfl rfl) Try.underlying5 rfl) ?_
    refine ch rfl (ob_ix_nm (ArgOK.ownp (arg_free 0 rfl rfl)) arg_c (show (6 : Int) = ((6 : Nat) : Int) from rfl) ?_) ?_
    · decide
    refine ch rfl (ob_load1 (arg_op 12 0 rfl rfl rfl rfl) Try.underlying5 rfl) ?_
    refine ch rfl (ob_ix_nm (ArgOK.ownp (arg_free 0 rfl rfl)) arg_c (show (7 : Int) = ((7 : Nat) : Int) from rfl) ?_) ?_
    · decide
    refine ch rfl (ob_load1 (arg_op 14 0 rfl rfl rfl rfl) Try.underlying5 rfl) ?_
    refine ch rfl (ob_move (arg_free 1 rfl rfl)) ?_
    refine ch rfl (ob_intbyte (m := UInt8.ofNat c) (arg_op 16 0 rfl rfl rfl rfl) Try.underlying3 Try.underlying5 ?_) ?_
    · exact byte_nat c
    refine ch rfl (ob_move (arg_free 2 rfl rfl)) ?_
    refine ch rfl (ob_intbyte (m := UInt8.ofNat (p + j)) (arg_op 18 0 rfl rfl rfl rfl) Try.underlying3 Try.underlying5 ?_) ?_
    · exact byte_add p j
    refine ch rfl (ob_bs11_byte (arg_cb 33 rfl) (arg_op 1 18 rfl rfl rfl rfl) (arg_op 3 16 rfl rfl rfl rfl) (arg_op 5 14 rfl rfl rfl rfl) (arg_op 7 12 rfl rfl rfl rfl) (arg_op 9 10 rfl rfl rfl rfl) (arg_op 11 8 rfl rfl rfl rfl) (arg_op 13 6 rfl rfl rfl rfl) (arg_op 15 4 rfl rfl rfl rfl) (arg_op 17 2 rfl rfl rfl rfl) (arg_op 19 0 rfl rfl rfl rfl)) ?_
    refine ch rfl (ob_call1 (by kernel_rfl) (c_rSum ?_) (ArgOK.sl (ArgOK.ownf (arg_op 20 0 rfl rfl rfl rfl)))) ?_
    · ((try simp only [List.length_append, List.length_cons, List.length_nil, List.length_take, nmBytes_len]); omega)
    refine ch_nil ?_
    intro a86 w87 hf88 hg89 hk90 hn91
    have h92 : Holds _ (a86.eval (.tmp 37)) w87 := hn91.at 21 0 rfl rfl rfl
    have h93 : Holds _ (a86.eval (.tmp 9)) w66 := hk90.holds rfl h72
    have h94 : Holds _ (a86.eval (.tmp 1)) w0 := hk90.holds rfl h73
    have h95 : Holds _ (a86.eval (.tmp 3)) w0 := hk90.holds rfl h74
    have hv96 : Holds (Is (PtrV bk12)) (a86.eval (.tmp 4)) w87 := is_any (hk90.holds rfl hv75)
    have hb97 : Blk bk12 _ w87 := hb76.up hg89
    have hv98 : Holds (Is (PtrV bk33)) (a86.eval (.tmp 8)) w87 := is_any (hk90.holds rfl hv77)
    have hb99 : Blk bk33 _ w87 := hb78.up hg89
    have g100 : Grow w0 w87 := g79.trans hg89
    have g101 : Grow w66 w87 := g82.trans hg89
    have kk102 : Keep _ a37 a86 := kk80.trans hk90 rfl
    clear h72 h73 h74 hv75 hb76 hv77 hb78 g79 g82 kk80 hf67 hk90 hn91
    refine wl_store_nm hv96 hb97 rfl h92 ?_
    intro w103 ho104 hb105
    have g106 : Grow w0 w103 := g100.only ho104 (by omega)
    have h107 : Holds _ (a86.eval (.tmp 9)) w103 := is_any h93
    have hv108 : Holds (Is (PtrV bk12)) (a86.eval (.tmp 4)) w103 := is_any hv96
    have hv109 : Holds (Is (PtrV bk33)) (a86.eval (.tmp 8)) w103 := is_any hv98
    have hb110 : Blk bk33 _ w103 := hb99.only ho104 (by omega)
    refine wpList_nil ?_
    refine blockN ?_
    refine then_ ?_
    refine wp_region_lit ?_
    refine wp_all [([9], []), ([], [0]), ([], [1])] [1, 3, 4, 8] w0.heap.size hf88 g106.size (by kernel_rfl) (bund_cons h107 bund_nil) ?_
    refine ch rfl (ob_move (arg_free 0 rfl rfl)) ?_
    first
      | (refine ch rfl (ob_add' (arg_op 0 0 rfl rfl rfl rfl) arg_c ?_) ?_; · omega)
      | refine ch rfl (ob_add (arg_op 0 0 rfl rfl rfl rfl) arg_c) ?_
    refine ch rfl (ob_assign (arg_op 1 0 rfl rfl rfl rfl)) ?_
    refine ch_nil ?_
    intro a111 w112 hf113 hg114 hk115 hn116
    have h117 : Holds _ (a111.eval (.tmp 9)) w112 := hn116.at 2 0 rfl rfl rfl
    have h118 : Holds _ (a111.eval (.tmp 1)) w0 := hk115.holds rfl h94
    have h119 : Holds _ (a111.eval (.tmp 3)) w0 := hk115.holds rfl h95
    have hv120 : Holds (Is (PtrV bk12)) (a111.eval (.tmp 4)) w112 := is_any (hk115.holds rfl hv108)
    have hb121 : Blk bk12 _ w112 := hb105.up hg114
    have hv122 : Holds (Is (PtrV bk33)) (a111.eval (.tmp 8)) w112 := is_any (hk115.holds rfl hv109)
    have hb123 : Blk bk33 _ w112 := hb110.up hg114
    have g124 : Grow w0 w112 := g106.trans hg114
    have kk125 : Keep _ a37 a111 := kk102.trans hk115 rfl
    clear h94 h95 hv108 hb105 hv109 hb110 g106 kk102 hf88 hk115 hn116 hg114
    refine then_ ?_
    exact ⟨(j + 1), (by ((try dsimp only); omega)), hf113, (by ((try dsimp only); omega)), g124, kk125, (is_cast h117 (by first | rfl | (refine congrArg intV ?_; (try dsimp only); omega))), hb121, hb123⟩
  · intro hc81
    try simp only [cond_norm] at hc81
    obtain rfl : j = k := by omega
    refine wp_exit ?_
    refine thenX ?_
    refine thenX ?_
    refine blockX ?_
    refine then_ ?_
    refine wp_seq ?_
    have g126 : Grow w66 w66 := Grow.refl _
    have hl127 : bk12 < w66.heap.size := hb76.lt
    have hl128 : bk33 < w66.heap.size := hb78.lt
    have hz129 : w0.heap.size ≤ w66.heap.size := g79.size
    refine wp_region_lit ?_
    refine wp_seg (l1 := [_]) [([4], [])] [8] w66.heap.size hf67 g126.size (by kernel_rfl) (bund_cons (hb76.ownp hv75) bund_nil) ?_
    refine ch rfl (ob_load_nm (ArgOK.ownp (arg_free 0 rfl rfl))) ?_
    refine ch_nil ?_
    intro a130 w131 hf132 hg133 hk134 hn135
    have h136 : Holds _ (a130.eval (.tmp 38)) w131 := hn135.at 0 0 rfl rfl rfl
    have hv137 : Holds (Is (PtrV bk33)) (a130.eval (.tmp 8)) w131 := is_any (hk134.holds rfl hv77)
    have hb138 : Blk bk33 _ w131 := hb78.up hg133
    have g139 : Grow w0 w131 := g79.trans hg133
    have g140 : Grow w66 w131 := g126.trans hg133
    clear hv77 hb78 g79 g126 hf67 hk134 hn135
    refine wl_store_nm hv137 hb138 rfl h136 ?_
    intro w141 ho142 hb143
    have g144 : Grow w0 w141 := g139.only ho142 (by omega)
    have hv145 : Holds (Is (PtrV bk33)) (a130.eval (.tmp 8)) w141 := is_any hv137
    refine wpList_nil ?_
    refine then_ ?_
    refine wp_ret ?_
    refine ret_cell rfl Try.underlying23 rfl (by kernel_rfl) hf132 g144 (hb143.ptr hv145) ?_
    exact rfl

set_option maxRecDepth 100000 in
theorem c_public {l : List UInt64} (hl : l.length ≤ 1000) : Con1 108 (Sl elNm l) (fun _ => Is (nmV (endsN l))) := by
  intro lo v0 w0 hlo hv0
  refine enter Try.func108 rfl Try.ntmps108 (by simp) ?_
  intro a0 hf0 ha
  have h00 : Holds (Is v0) (a0.eval (.tmp 0)) w0 := arg_holds ha rfl rfl
  clear ha
  have g0 : Grow w0 w0 := Grow.refl _
  refine wp_seq ?_
  refine wp_region_lit ?_
  refine wp_all [([], [])] [0] w0.heap.size hf0 g0.size (by kernel_rfl) bund_nil ?_
  refine ch rfl (ob_alloc_nm) ?_
  refine ch_nil ?_
  intro a1 w2 hf3 hg4 hk5 hn6
  have h7 : Holds _ (a1.eval (.tmp 2)) w2 := hn6.at 0 0 rfl rfl rfl
  have h8 : Holds _ (a1.eval (.tmp 0)) w0 := hk5.holds rfl h00
  have g9 : Grow w0 w2 := g0.trans hg4
  obtain ⟨bk10, hl11, hv12, hb13⟩ := OwnB.blk (lo := w0.heap.size) h7
  clear h00 g0 hf0 hk5 hn6
  refine then_ ?_
  refine wp_seq ?_
  have g14 : Grow w2 w2 := Grow.refl _
  have hl15 : bk10 < w2.heap.size := hb13.lt
  have hz16 : w0.heap.size ≤ w2.heap.size := g9.size
  refine wp_region_lit ?_
  refine wp_all [([], []), ([], [0])] [0, 2] w2.heap.size hf3 g14.size (by kernel_rfl) bund_nil ?_
  refine ch rfl (ob_make0 elByteP (c := 144) Try.underlying34 arg_c arg_c ?_) ?_
  · decide
  refine ch rfl (ob_assign (arg_op 0 0 rfl rfl rfl rfl)) ?_
  refine ch_nil ?_
  intro a17 w18 hf19 hg20 hk21 hn22
  have h23 : Holds (OwnS w2.heap.size _ _) (a17.eval (.tmp 3)) w18 := hn22.at 1 0 rfl rfl rfl
  have h24 : Holds _ (a17.eval (.tmp 0)) w0 := hk21.holds rfl h8
  have hv25 : Holds (Is (PtrV bk10)) (a17.eval (.tmp 2)) w18 := is_any (hk21.holds rfl hv12)
  have hb26 : Blk bk10 _ w18 := hb13.up hg20
  have g27 : Grow w0 w18 := g9.trans hg20
  have g28 : Grow w2 w18 := g14.trans hg20
  clear h8 hv12 hb13 g9 g14 hf3 hk21 hn22
  obtain ⟨V29, h30, hV31⟩ := nameV h23
  clear h23
  refine then_ ?_
  refine wp_seq ?_
  refine wp_seq ?_
  refine wp_region_lit ?_
  refine wp_all [([0], []), ([], [0]), ([], [])] [2, 3] w2.heap.size hf19 g28.size (by kernel_rfl) (bund_cons (is_any h24) bund_nil) ?_
  refine ch rfl (ob_move (arg_free 0 rfl rfl)) ?_
  refine ch rfl (ob_len (ArgOK.val (arg_op 0 0 rfl rfl rfl rfl) (hv0.up g27)) Try.underlying39) ?_
  refine ch rfl (ob_move arg_c) ?_
  refine ch_nil ?_
  intro a32 w33 hf34 hg35 hk36 hn37
  have h38 : Holds _ (a32.eval (.tmp 7)) w33 := hn37.at 0 2 rfl rfl rfl
  have h39 : Holds _ (a32.eval (.tmp 8)) w33 := hn37.at 1 1 rfl rfl rfl
  have h40 : Holds _ (a32.eval (.tmp 9)) w33 := hn37.at 2 0 rfl rfl rfl
  have h41 : Holds _ (a32.eval (.tmp 3)) w33 := hk36.holds rfl (h30.up hg35)
  have hv42 : Holds (Is (PtrV bk10)) (a32.eval (.tmp 2)) w33 := is_any (hk36.holds rfl hv25)
  have hb43 : Blk bk10 _ w33 := hb26.up hg35
  have g44 : Grow w0 w33 := g27.trans hg35
  have g45 : Grow w2 w33 := g28.trans hg35
  have hV46 : Holds _ V29 w33 := hV31.up hg35
  clear h30 hv25 hb26 g27 g28 hf19 hk36 hn37 hg35 hV31
  refine then_ ?_
  refine wp_block ?_
  refine wp_loopL (α := Nat) (fun i a' w' => Fr 19 a' ∧ (i ≤ l.length) ∧ Grow w0 w' ∧ Grow w2 w' ∧ Keep [2, 7, 8] a32 a' ∧ Holds (OwnS w2.heap.size elByte ((l.take i).flatMap nmBytes)) (a'.eval (.tmp 3)) w' ∧ Holds (Is (intV (i : Int))) (a'.eval (.tmp 9)) w' ∧ Blk bk10 (nmCells 0) w') (fun i => l.length - i) (0) ⟨hf34, (by ((try dsimp only); omega)), g44, g45, Keep.refl _ _, (unV h41 hV46), (is_cast h40 (by first | rfl | (refine congrArg intV ?_; (try dsimp only); omega))), hb43⟩ ?_
  intro i a47 w48 ⟨hf49, hi51, g52, g53, kk50, h54, h55, hb56⟩
  have h57 : Holds _ (a47.eval (.tmp 7)) w48 := is_any (kk50.holds rfl h38)
  have h58 : Holds _ (a47.eval (.tmp 8)) w48 := is_any (kk50.holds rfl h39)
  have hv59 : Holds (Is (PtrV bk10)) (a47.eval (.tmp 2)) w48 := is_any (kk50.holds rfl hv42)
  obtain ⟨V60, h61, hV62⟩ := nameV h54
  clear h54
  refine wp_seq ?_
  refine wp_region_lit ?_
  refine wp_all [([9, 8], [])] [2, 3, 7, 8, 9] w2.heap.size hf49 g53.size (by kernel_rfl) (bund_cons h55 (bund_cons h58 bund_nil)) ?_
  refine ch rfl (ob_lss (arg_free 0 rfl rfl) (arg_free 1 rfl rfl)) ?_
  refine ch_nil ?_
  intro a63 w64 hf65 hg66 hk67 hn68
  have h69 : Holds _ (a63.eval (.tmp 10)) w64 := hn68.at 0 0 rfl rfl rfl
  have h70 : Holds _ (a63.eval (.tmp 3)) w64 := hk67.holds rfl (h61.up hg66)
  have h71 : Holds _ (a63.eval (.tmp 9)) w64 := hk67.holds rfl (h55.up hg66)
  have h72 : Holds _ (a63.eval (.tmp 7)) w64 := hk67.holds rfl (h57.up hg66)
  have h73 : Holds _ (a63.eval (.tmp 8)) w64 := hk67.holds rfl (h58.up hg66)
  have hv74 : Holds (Is (PtrV bk10)) (a63.eval (.tmp 2)) w64 := is_any (hk67.holds rfl hv59)
  have hb75 : Blk bk10 _ w64 := hb56.up hg66
  have g76 : Grow w0 w64 := g52.trans hg66
  have g77 : Grow w2 w64 := g53.trans hg66
  have kk78 : Keep _ a32 a63 := kk50.trans hk67 rfl
  have hV79 : Holds _ V60 w64 := hV62.up hg66
  clear h61 h55 h57 h58 hv59 hb56 g52 g53 kk50 hf49 hk67 hn68 hg66 hV62
  refine then_ ?_
  refine wp_seq ?_
  refine wp_if h69 ?_ ?_
  · intro hc80
    try simp only [cond_norm] at hc80
    refine wp_skip ?_
    refine then_ ?_
    refine wp_seq ?_
    refine wp_block ?_
    refine wp_seq ?_
    have g81 : Grow w64 w64 := Grow.refl _
    have hl82 : bk10 < w64.heap.size := hb75.lt
    have hz83 : w2.heap.size ≤ w64.heap.size := g77.size
    refine wp_region_lit ?_
    refine wp_seg (l1 := [_, _, _]) [([7, 9], []), ([], [0]), ([], [])] [2, 3, 7, 8, 9] w64.heap.size hf65 g81.size (by kernel_rfl) (bund_cons h72 (bund_cons h71 bund_nil)) ?_
    refine ch rfl (ob_ix (ArgOK.val (arg_free 0 rfl rfl) (hv0.up g76)) (arg_free 1 rfl rfl) (rfl) ?_ Try.underlying39 szNm) ?_
    · omega
    refine ch rfl (ob_load_nm (arg_op 0 0 rfl rfl rfl rfl)) ?_
    refine ch rfl (ob_alloc_nm) ?_
    refine ch_nil ?_
    intro a84 w85 hf86 hg87 hk88 hn89
    have h90 : Holds _ (a84.eval (.tmp 12)) w85 := hn89.at 1 1 rfl rfl rfl
    have h91 : Holds _ (a84.eval (.tmp 5)) w85 := hn89.at 2 0 rfl rfl rfl
    have h92 : Holds _ (a84.eval (.tmp 3)) w64 := hk88.holds rfl h70
    have h93 : Holds _ (a84.eval (.tmp 9)) w64 := hk88.holds rfl h71
    have h94 : Holds _ (a84.eval (.tmp 7)) w64 := hk88.holds rfl h72
    have h95 : Holds _ (a84.eval (.tmp 8)) w64 := hk88.holds rfl h73
    have hv96 : Holds (Is (PtrV bk10)) (a84.eval (.tmp 2)) w85 := is_any (hk88.holds rfl hv74)
    have hb97 : Blk bk10 _ w85 := hb75.up hg87
    have g98 : Grow w0 w85 := g76.trans hg87
    have g99 : Grow w2 w85 := g77.trans hg87
    have g100 : Grow w64 w85 := g81.trans hg87
    have kk101 : Keep _ a32 a84 := kk78.trans hk88 rfl
    obtain ⟨bk102, hl103, hv104, hb105⟩ := OwnB.blk (lo := w64.heap.size) h91
    clear h70 h71 h72 h73 hv74 hb75 g76 g77 g81 kk78 hf65 hk88 hn89
    refine wl_store_nm hv104 hb105 rfl h90 ?_
    intro w106 ho107 hb108
    have g109 : Grow w0 w106 := g98.only ho107 (by omega)
    have g110 : Grow w2 w106 := g99.only ho107 (by omega)
    have g111 : Grow w64 w106 := g100.only ho107 (by omega)
    have hv112 : Holds (Is (PtrV bk10)) (a84.eval (.tmp 2)) w106 := is_any hv96
    have hb113 : Blk bk10 _ w106 := hb97.only ho107 (by omega)
    have hv114 : Holds (Is (PtrV bk102)) (a84.eval (.tmp 5)) w106 := is_any hv104
    refine wpList_nil ?_
    refine then_ ?_
    have g115 : Grow w106 w106 := Grow.refl _
    have hl116 : bk10 < w106.heap.size := hb113.lt
    have hl117 : bk102 < w106.heap.size := hb108.lt
    have hz118 : w64.heap.size ≤ w106.heap.size := g111.size
    refine wp_region_lit ?_
    refine wp_seg (l1 := [_, _]) [([3], []), ([5], [])] [2, 3, 7, 8, 9] w106.heap.size hf86 g115.size (by kernel_rfl) (bund_cons (is_any h92) (bund_cons (hb108.ownp hv114) bund_nil)) ?_
    refine ch rfl (ob_move (arg_free 0 rfl rfl)) ?_
    refine ch rfl (ob_slice_nmF (ArgOK.ownp (arg_free 1 rfl rfl))) ?_
    refine ch_nil ?_
    intro a119 w120 hf121 hg122 hk123 hn124
    have h125 : Holds _ (a119.eval (.tmp 13)) w120 := hn124.at 0 1 rfl rfl rfl
    have h126 : Holds _ (a119.eval (.tmp 14)) w120 := hn124.at 1 0 rfl rfl rfl
    have h127 : Holds _ (a119.eval (.tmp 3)) w64 := hk123.holds rfl h92
    have h128 : Holds _ (a119.eval (.tmp 9)) w64 := hk123.holds rfl h93
    have h129 : Holds _ (a119.eval (.tmp 7)) w64 := hk123.holds rfl h94
    have h130 : Holds _ (a119.eval (.tmp 8)) w64 := hk123.holds rfl h95
    have hv131 : Holds (Is (PtrV bk10)) (a119.eval (.tmp 2)) w120 := is_any (hk123.holds rfl hv112)
    have hb132 : Blk bk10 _ w120 := hb113.up hg122
    have g133 : Grow w0 w120 := g109.trans hg122
    have g134 : Grow w2 w120 := g110.trans hg122
    have g135 : Grow w64 w120 := g111.trans hg122
    have g136 : Grow w106 w120 := g115.trans hg122
    have kk137 : Keep _ a32 a119 := kk101.trans hk123 rfl
    clear h92 h93 h94 h95 hv112 hb113 g109 g110 g111 g115 kk101 hf86 hk123 hn124
    obtain ⟨V138, h139, hV140⟩ := nameV h126
    clear h126
    refine wl_appendW elByteP [2, 3, 7, 8, 9] hf121 (by kernel_rfl) rfl Try.underlying34 (unV h125 (hV79.up g135)) (SlF.sl (unV h139 hV140)) ?_ ?_ g134.size ?_
    · (simp only [flat_len, nmBytes_len, maxLen, List.length_take, elByte]; omega)
    · (simp only [flat_len, nmBytes_len, maxLen, List.length_take, elByte]; omega)
    intro a141 w142 hf143 hw144 hk145 h146
    have g147 : Grow w0 w142 := g133.wr hw144 (by omega)
    have g148 : Grow w2 w142 := g134.wr hw144 (by omega)
    have h149 : Holds _ (a141.eval (.tmp 3)) w142 := is_any (hk145.holds rfl h127)
    have h150 : Holds _ (a141.eval (.tmp 9)) w142 := is_any (hk145.holds rfl h128)
    have h151 : Holds _ (a141.eval (.tmp 7)) w142 := is_any (hk145.holds rfl h129)
    have h152 : Holds _ (a141.eval (.tmp 8)) w142 := is_any (hk145.holds rfl h130)
    have hv153 : Holds (Is (PtrV bk10)) (a141.eval (.tmp 2)) w142 := is_any (hk145.holds rfl hv131)
    have hb154 : Blk bk10 _ w142 := hb132.wr hw144 (by omega)
    have kk155 : Keep _ a32 a141 := kk137.trans hk145 rfl
    obtain ⟨V156, h157, hV158⟩ := nameV h146
    clear h146
    refine wp_all [([15], [])] [2, 7, 8, 9] w2.heap.size hf143 g148.size (by kernel_rfl) (bund_cons h157 bund_nil) ?_
    refine ch rfl (ob_assign (arg_free 0 rfl rfl)) ?_
    refine ch_nil ?_
    intro a159 w160 hf161 hg162 hk163 hn164
    have h165 : Holds _ (a159.eval (.tmp 3)) w160 := hn164.at 0 0 rfl rfl rfl
    have h166 : Holds _ (a159.eval (.tmp 9)) w160 := hk163.holds rfl (h150.up hg162)
    have h167 : Holds _ (a159.eval (.tmp 7)) w160 := hk163.holds rfl (h151.up hg162)
    have h168 : Holds _ (a159.eval (.tmp 8)) w160 := hk163.holds rfl (h152.up hg162)
    have hv169 : Holds (Is (PtrV bk10)) (a159.eval (.tmp 2)) w160 := is_any (hk163.holds rfl hv153)
    have hb170 : Blk bk10 _ w160 := hb154.up hg162
    have g171 : Grow w0 w160 := g147.trans hg162
    have g172 : Grow w2 w160 := g148.trans hg162
    have kk173 : Keep _ a32 a159 := kk155.trans hk163 rfl
    have hV174 : Holds _ V156 w160 := hV158.up hg162
    clear h150 h151 h152 hv153 hb154 g147 g148 kk155 hf143 hk163 hn164 hg162 hV158
    refine blockN ?_
    refine then_ ?_
    refine wp_region_lit ?_
    refine wp_all [([9], []), ([], [0])] [2, 3, 7, 8] w2.heap.size hf161 g172.size (by kernel_rfl) (bund_cons h166 bund_nil) ?_
    first
      | (refine ch rfl (ob_add' (arg_free 0 rfl rfl) arg_c ?_) ?_; · omega)
      | refine ch rfl (ob_add (arg_free 0 rfl rfl) arg_c) ?_
    refine ch rfl (ob_move (arg_op 0 0 rfl rfl rfl rfl)) ?_
    refine ch_nil ?_
    intro a175 w176 hf177 hg178 hk179 hn180
    have h181 : Holds _ (a175.eval (.tmp 9)) w176 := hn180.at 1 0 rfl rfl rfl
    have h182 : Holds _ (a175.eval (.tmp 3)) w176 := hk179.holds rfl (h165.up hg178)
    have h183 : Holds _ (a175.eval (.tmp 7)) w176 := hk179.holds rfl (h167.up hg178)
    have h184 : Holds _ (a175.eval (.tmp 8)) w176 := hk179.holds rfl (h168.up hg178)
    have hv185 : Holds (Is (PtrV bk10)) (a175.eval (.tmp 2)) w176 := is_any (hk179.holds rfl hv169)
    have hb186 : Blk bk10 _ w176 := hb170.up hg178
    have g187 : Grow w0 w176 := g171.trans hg178
    have g188 : Grow w2 w176 := g172.trans hg178
    have kk189 : Keep _ a32 a175 := kk173.trans hk179 rfl
    have hV190 : Holds _ V156 w176 := hV174.up hg178
    clear h165 h167 h168 hv169 hb170 g171 g172 kk173 hf161 hk179 hn180 hg178 hV174
    refine then_ ?_
    exact ⟨(i + 1), (by ((try dsimp only); omega)), hf177, (by ((try dsimp only); omega)), g187, g188, kk189, (cast_own (flat_step (by omega)) (unV h182 hV190)), (is_cast h181 (by first | rfl | (refine congrArg intV ?_; (try dsimp only); omega))), hb186⟩
  · intro hc80
    try simp only [cond_norm] at hc80
    obtain rfl : i = l.length := by omega
    refine wp_exit ?_
    refine thenX ?_
    refine thenX ?_
    refine blockX ?_
    refine then_ ?_
    refine wp_seq ?_
    have g191 : Grow w64 w64 := Grow.refl _
    have hl192 : bk10 < w64.heap.size := hb75.lt
    have hz193 : w2.heap.size ≤ w64.heap.size := g77.size
    refine wp_region_lit ?_
    refine wp_seg (l1 := [_, _]) [([3], []), ([], [0])] [2] w64.heap.size hf65 g191.size (by kernel_rfl) (bund_cons h70 bund_nil) ?_
    refine ch rfl (ob_move (arg_free 0 rfl rfl)) ?_
    refine ch rfl (ob_call2 (by kernel_rfl) (c_Tagged ?_) (arg_cb 34 rfl) (ArgOK.sl (ArgOK.val (arg_op 0 0 rfl rfl rfl rfl) hV79))) ?_
    · ((try simp only [List.length_append, List.length_cons, List.length_nil, nmBytes_len, List.length_take, List.length_drop, flat_len]); omega)
    refine ch_nil ?_
    intro a194 w195 hf196 hg197 hk198 hn199
    have h200 : Holds _ (a194.eval (.tmp 18)) w195 := hn199.at 1 0 rfl rfl rfl
    have hv201 : Holds (Is (PtrV bk10)) (a194.eval (.tmp 2)) w195 := is_any (hk198.holds rfl hv74)
    have hb202 : Blk bk10 _ w195 := hb75.up hg197
    have g203 : Grow w0 w195 := g76.trans hg197
    have g204 : Grow w2 w195 := g77.trans hg197
    have g205 : Grow w64 w195 := g191.trans hg197
    clear hv74 hb75 g76 g77 g191 hf65 hk198 hn199
    refine wl_store_nm hv201 hb202 rfl h200 ?_
    intro w206 ho207 hb208
    have g209 : Grow w0 w206 := g203.only ho207 (by omega)
    have hv210 : Holds (Is (PtrV bk10)) (a194.eval (.tmp 2)) w206 := is_any hv201
    refine wpList_nil ?_
    refine then_ ?_
    refine wp_ret ?_
    refine ret_cell rfl Try.underlying23 rfl (by kernel_rfl) hf196 g209 (hb208.ptr hv210) ?_
    (rw [List.take_length]; exact rfl)

set_option maxRecDepth 100000 in
theorem c_rends {l : List UInt64} (hl : l.length ≤ 1000) : Con1 110 (Sl elNm l) (fun _ => Is (nmV (endsN l))) := by
  intro lo v0 w0 hlo hv0
  refine enter Try.func110 rfl Try.ntmps110 (by simp) ?_
  intro a0 hf0 ha
  have h00 : Holds (Is v0) (a0.eval (.tmp 0)) w0 := arg_holds ha rfl rfl
  clear ha
  have g0 : Grow w0 w0 := Grow.refl _
  refine wp_seq ?_
  refine wp_region_lit ?_
  refine wp_all [([], [])] [0] w0.heap.size hf0 g0.size (by kernel_rfl) bund_nil ?_
  refine ch rfl (ob_alloc_nm) ?_
  refine ch_nil ?_
  intro a1 w2 hf3 hg4 hk5 hn6
  have h7 : Holds _ (a1.eval (.tmp 2)) w2 := hn6.at 0 0 rfl rfl rfl
  have h8 : Holds _ (a1.eval (.tmp 0)) w0 := hk5.holds rfl h00
  have g9 : Grow w0 w2 := g0.trans hg4
  obtain ⟨bk10, hl11, hv12, hb13⟩ := OwnB.blk (lo := w0.heap.size) h7
  clear h00 g0 hf0 hk5 hn6
  refine then_ ?_
  refine wp_seq ?_
  have g14 : Grow w2 w2 := Grow.refl _
  have hl15 : bk10 < w2.heap.size := hb13.lt
  have hz16 : w0.heap.size ≤ w2.heap.size := g9.size
  refine wp_region_lit ?_
  refine wp_all [([], [])] [0, 2] w2.heap.size hf3 g14.size (by kernel_rfl) bund_nil ?_
  refine ch rfl (ob_assign (arg_cg (G := OwnS w2.heap.size elByte []) (fun w => own_nil))) ?_
  refine ch_nil ?_
  intro a17 w18 hf19 hg20 hk21 hn22
  have h23 : Holds (OwnS w2.heap.size _ _) (a17.eval (.tmp 3)) w18 := hn22.at 0 0 rfl rfl rfl
  have h24 : Holds _ (a17.eval (.tmp 0)) w0 := hk21.holds rfl h8
  have hv25 : Holds (Is (PtrV bk10)) (a17.eval (.tmp 2)) w18 := is_any (hk21.holds rfl hv12)
  have hb26 : Blk bk10 _ w18 := hb13.up hg20
  have g27 : Grow w0 w18 := g9.trans hg20
  have g28 : Grow w2 w18 := g14.trans hg20
  clear h8 hv12 hb13 g9 g14 hf3 hk21 hn22
  obtain ⟨V29, h30, hV31⟩ := nameV h23
  clear h23
  refine then_ ?_
  refine wp_seq ?_
  refine wp_seq ?_
  refine wp_region_lit ?_
  refine wp_all [([], [])] [0, 2, 3] w2.heap.size hf19 g28.size (by kernel_rfl) bund_nil ?_
  refine ch rfl (ob_assign arg_c) ?_
  refine ch_nil ?_
  intro a32 w33 hf34 hg35 hk36 hn37
  have h38 : Holds _ (a32.eval (.tmp 4)) w33 := hn37.at 0 0 rfl rfl rfl
  have h39 : Holds _ (a32.eval (.tmp 3)) w33 := hk36.holds rfl (h30.up hg35)
  have h40 : Holds _ (a32.eval (.tmp 0)) w0 := hk36.holds rfl h24
  have hv41 : Holds (Is (PtrV bk10)) (a32.eval (.tmp 2)) w33 := is_any (hk36.holds rfl hv25)
  have hb42 : Blk bk10 _ w33 := hb26.up hg35
  have g43 : Grow w0 w33 := g27.trans hg35
  have g44 : Grow w2 w33 := g28.trans hg35
  have hV45 : Holds _ V29 w33 := hV31.up hg35
  clear h30 h24 hv25 hb26 g27 g28 hf19 hk36 hn37 hg35 hV31
  refine then_ ?_
  refine wp_block ?_
  refine wp_loopL (α := Nat) (fun i a' w' => Fr 19 a' ∧ (i ≤ l.length) ∧ Grow w0 w' ∧ Grow w2 w' ∧ Keep [0, 2] a32 a' ∧ Holds (OwnS w2.heap.size elByte ((l.take i).flatMap nmBytes)) (a'.eval (.tmp 3)) w' ∧ Holds (Is (intV (i : Int))) (a'.eval (.tmp 4)) w' ∧ Blk bk10 (nmCells 0) w') (fun i => l.length - i) (0) ⟨hf34, (by ((try dsimp only); omega)), g43, g44, Keep.refl _ _, (unV h39 hV45), (is_cast h38 (by first | rfl | (refine congrArg intV ?_; (try dsimp only); omega))), hb42⟩ ?_
  intro i a46 w47 ⟨hf48, hi50, g51, g52, kk49, h53, h54, hb55⟩
  have h56 : Holds _ (a46.eval (.tmp 0)) w0 := kk49.holds rfl h40
  have hv57 : Holds (Is (PtrV bk10)) (a46.eval (.tmp 2)) w47 := is_any (kk49.holds rfl hv41)
  obtain ⟨V58, h59, hV60⟩ := nameV h53
  clear h53
  refine wp_seq ?_
  refine wp_seq ?_
  refine wp_region_lit ?_
  refine wp_all [([4], []), ([0], []), ([], [1]), ([], [0, 2])] [0, 2, 3, 4] w2.heap.size hf48 g52.size (by kernel_rfl) (bund_cons h54 (bund_cons (is_any h56) bund_nil)) ?_
  refine ch rfl (ob_move (arg_free 0 rfl rfl)) ?_
  refine ch rfl (ob_move (arg_free 1 rfl rfl)) ?_
  refine ch rfl (ob_len (ArgOK.val (arg_op 1 0 rfl rfl rfl rfl) (hv0.up g51)) Try.underlying39) ?_
  refine ch rfl (ob_lss (arg_op 0 2 rfl rfl rfl rfl) (arg_op 2 0 rfl rfl rfl rfl)) ?_
  refine ch_nil ?_
  intro a61 w62 hf63 hg64 hk65 hn66
  have h67 : Holds _ (a61.eval (.tmp 8)) w62 := hn66.at 3 0 rfl rfl rfl
  have h68 : Holds _ (a61.eval (.tmp 3)) w62 := hk65.holds rfl (h59.up hg64)
  have h69 : Holds _ (a61.eval (.tmp 4)) w62 := hk65.holds rfl (h54.up hg64)
  have h70 : Holds _ (a61.eval (.tmp 0)) w0 := hk65.holds rfl h56
  have hv71 : Holds (Is (PtrV bk10)) (a61.eval (.tmp 2)) w62 := is_any (hk65.holds rfl hv57)
  have hb72 : Blk bk10 _ w62 := hb55.up hg64
  have g73 : Grow w0 w62 := g51.trans hg64
  have g74 : Grow w2 w62 := g52.trans hg64
  have kk75 : Keep _ a32 a61 := kk49.trans hk65 rfl
  have hV76 : Holds _ V58 w62 := hV60.up hg64
  clear h59 h54 h56 hv57 hb55 g51 g52 kk49 hf48 hk65 hn66 hg64 hV60
  refine then_ ?_
  refine wp_if h67 ?_ ?_
  · intro hc77
    try simp only [cond_norm] at hc77
    refine wp_skip ?_
    refine then_ ?_
    refine wp_seq ?_
    refine wp_block ?_
    have g78 : Grow w62 w62 := Grow.refl _
    have hl79 : bk10 < w62.heap.size := hb72.lt
    have hz80 : w2.heap.size ≤ w62.heap.size := g74.size
    refine wp_region_lit ?_
    refine wp_seg (l1 := [_, _, _, _, _]) [([3], []), ([0], []), ([4], []), ([], [1, 2]), ([], [3])] [0, 2, 3, 4] w62.heap.size hf63 g78.size (by kernel_rfl) (bund_cons h68 (bund_cons (is_any h70) (bund_cons h69 bund_nil))) ?_
    refine ch rfl (ob_move (arg_free 0 rfl rfl)) ?_
    refine ch rfl (ob_move (arg_free 1 rfl rfl)) ?_
    refine ch rfl (ob_move (arg_free 2 rfl rfl)) ?_
    refine ch rfl (ob_ix (ArgOK.val (arg_op 1 1 rfl rfl rfl rfl) (hv0.up g73)) (arg_op 2 0 rfl rfl rfl rfl) (rfl) ?_ Try.underlying39 szNm) ?_
    · omega
    refine ch rfl (ob_slice_nmF (arg_op 3 0 rfl rfl rfl rfl)) ?_
    refine ch_nil ?_
    intro a81 w82 hf83 hg84 hk85 hn86
    have h87 : Holds _ (a81.eval (.tmp 11)) w82 := hn86.at 0 4 rfl rfl rfl
    have h88 : Holds _ (a81.eval (.tmp 15)) w82 := hn86.at 4 0 rfl rfl rfl
    have h89 : Holds _ (a81.eval (.tmp 3)) w62 := hk85.holds rfl h68
    have h90 : Holds _ (a81.eval (.tmp 4)) w62 := hk85.holds rfl h69
    have h91 : Holds _ (a81.eval (.tmp 0)) w0 := hk85.holds rfl h70
    have hv92 : Holds (Is (PtrV bk10)) (a81.eval (.tmp 2)) w82 := is_any (hk85.holds rfl hv71)
    have hb93 : Blk bk10 _ w82 := hb72.up hg84
    have g94 : Grow w0 w82 := g73.trans hg84
    have g95 : Grow w2 w82 := g74.trans hg84
    have g96 : Grow w62 w82 := g78.trans hg84
    have kk97 : Keep _ a32 a81 := kk75.trans hk85 rfl
    clear h68 h69 h70 hv71 hb72 g73 g74 g78 kk75 hf63 hk85 hn86
    obtain ⟨V98, h99, hV100⟩ := nameV h88
    clear h88
    refine wl_appendW elByteP [0, 2, 3, 4] hf83 (by kernel_rfl) rfl Try.underlying34 (unV h87 (hV76.up g96)) (SlF.sl (unV h99 hV100)) ?_ ?_ g95.size ?_
    · (simp only [flat_len, nmBytes_len, maxLen, List.length_take, elByte]; omega)
    · (simp only [flat_len, nmBytes_len, maxLen, List.length_take, elByte]; omega)
    intro a101 w102 hf103 hw104 hk105 h106
    have g107 : Grow w0 w102 := g94.wr hw104 (by omega)
    have g108 : Grow w2 w102 := g95.wr hw104 (by omega)
    have h109 : Holds _ (a101.eval (.tmp 3)) w102 := is_any (hk105.holds rfl h89)
    have h110 : Holds _ (a101.eval (.tmp 4)) w102 := is_any (hk105.holds rfl h90)
    have h111 : Holds _ (a101.eval (.tmp 0)) w102 := is_any (hk105.holds rfl h91)
    have hv112 : Holds (Is (PtrV bk10)) (a101.eval (.tmp 2)) w102 := is_any (hk105.holds rfl hv92)
    have hb113 : Blk bk10 _ w102 := hb93.wr hw104 (by omega)
    have kk114 : Keep _ a32 a101 := kk97.trans hk105 rfl
    obtain ⟨V115, h116, hV117⟩ := nameV h106
    clear h106
    refine wp_all [([16], [])] [0, 2, 4] w2.heap.size hf103 g108.size (by kernel_rfl) (bund_cons h116 bund_nil) ?_
    refine ch rfl (ob_assign (arg_free 0 rfl rfl)) ?_
    refine ch_nil ?_
    intro a118 w119 hf120 hg121 hk122 hn123
    have h124 : Holds _ (a118.eval (.tmp 3)) w119 := hn123.at 0 0 rfl rfl rfl
    have h125 : Holds _ (a118.eval (.tmp 4)) w119 := hk122.holds rfl (h110.up hg121)
    have h126 : Holds _ (a118.eval (.tmp 0)) w119 := hk122.holds rfl (h111.up hg121)
    have hv127 : Holds (Is (PtrV bk10)) (a118.eval (.tmp 2)) w119 := is_any (hk122.holds rfl hv112)
    have hb128 : Blk bk10 _ w119 := hb113.up hg121
    have g129 : Grow w0 w119 := g107.trans hg121
    have g130 : Grow w2 w119 := g108.trans hg121
    have kk131 : Keep _ a32 a118 := kk114.trans hk122 rfl
    have hV132 : Holds _ V115 w119 := hV117.up hg121
    clear h110 h111 hv112 hb113 g107 g108 kk114 hf103 hk122 hn123 hg121 hV117
    refine blockN ?_
    refine then_ ?_
    refine wp_region_lit ?_
    refine wp_all [([4], []), ([], [0]), ([], [1])] [0, 2, 3] w2.heap.size hf120 g130.size (by kernel_rfl) (bund_cons h125 bund_nil) ?_
    refine ch rfl (ob_move (arg_free 0 rfl rfl)) ?_
    first
      | (refine ch rfl (ob_add' (arg_op 0 0 rfl rfl rfl rfl) arg_c ?_) ?_; · omega)
      | refine ch rfl (ob_add (arg_op 0 0 rfl rfl rfl rfl) arg_c) ?_
    refine ch rfl (ob_assign (arg_op 1 0 rfl rfl rfl rfl)) ?_
    refine ch_nil ?_
    intro a133 w134 hf135 hg136 hk137 hn138
    have h139 : Holds _ (a133.eval (.tmp 4)) w134 := hn138.at 2 0 rfl rfl rfl
    have h140 : Holds _ (a133.eval (.tmp 3)) w134 := hk137.holds rfl (h124.up hg136)
    have h141 : Holds _ (a133.eval (.tmp 0)) w134 := hk137.holds rfl (h126.up hg136)
    have hv142 : Holds (Is (PtrV bk10)) (a133.eval (.tmp 2)) w134 := is_any (hk137.holds rfl hv127)
    have hb143 : Blk bk10 _ w134 := hb128.up hg136
    have g144 : Grow w0 w134 := g129.trans hg136
    have g145 : Grow w2 w134 := g130.trans hg136
    have kk146 : Keep _ a32 a133 := kk131.trans hk137 rfl
    have hV147 : Holds _ V115 w134 := hV132.up hg136
    clear h124 h126 hv127 hb128 g129 g130 kk131 hf120 hk137 hn138 hg136 hV132
    refine then_ ?_
    exact ⟨(i + 1), (by ((try dsimp only); omega)), hf135, (by ((try dsimp only); omega)), g144, g145, kk146, (cast_own (flat_step (by omega)) (unV h140 hV147)), (is_cast h139 (by first | rfl | (refine congrArg intV ?_; (try dsimp only); omega))), hb143⟩
  · intro hc77
    try simp only [cond_norm] at hc77
    obtain rfl : i = l.length := by omega
    refine wp_exit ?_
    refine thenX ?_
    refine thenX ?_
    refine blockX ?_
    refine then_ ?_
    refine wp_seq ?_
    have g148 : Grow w62 w62 := Grow.refl _
    have hl149 : bk10 < w62.heap.size := hb72.lt
    have hz150 : w2.heap.size ≤ w62.heap.size := g74.size
    refine wp_region_lit ?_
    refine wp_seg (l1 := [_, _]) [([3], []), ([], [0])] [2] w62.heap.size hf63 g148.size (by kernel_rfl) (bund_cons h68 bund_nil) ?_
    refine ch rfl (ob_move (arg_free 0 rfl rfl)) ?_
    refine ch rfl (ob_call2 (by kernel_rfl) (c_rTagged ?_) (arg_cb 34 rfl) (ArgOK.sl (ArgOK.val (arg_op 0 0 rfl rfl rfl rfl) hV76))) ?_
    · ((try simp only [List.length_append, List.length_cons, List.length_nil, nmBytes_len, List.length_take, List.length_drop, flat_len]); omega)
    refine ch_nil ?_
    intro a151 w152 hf153 hg154 hk155 hn156
    have h157 : Holds _ (a151.eval (.tmp 18)) w152 := hn156.at 1 0 rfl rfl rfl
    have hv158 : Holds (Is (PtrV bk10)) (a151.eval (.tmp 2)) w152 := is_any (hk155.holds rfl hv71)
    have hb159 : Blk bk10 _ w152 := hb72.up hg154
    have g160 : Grow w0 w152 := g73.trans hg154
    have g161 : Grow w2 w152 := g74.trans hg154
    have g162 : Grow w62 w152 := g148.trans hg154
    clear hv71 hb72 g73 g74 g148 hf63 hk155 hn156
    refine wl_store_nm hv158 hb159 rfl h157 ?_
    intro w163 ho164 hb165
    have g166 : Grow w0 w163 := g160.only ho164 (by omega)
    have hv167 : Holds (Is (PtrV bk10)) (a151.eval (.tmp 2)) w163 := is_any hv158
    refine wpList_nil ?_
    refine then_ ?_
    refine wp_ret ?_
    refine ret_cell rfl Try.underlying23 rfl (by kernel_rfl) hf153 g166 (hb165.ptr hv167) ?_
    (rw [List.take_length]; exact rfl)

set_option maxRecDepth 100000 in
theorem c_Public {s : UInt64} : Con1 52 (Is (nmV s)) (fun _ => Is (nmV (endsN (vals (pubF s) 18)))) := by
  intro lo v0 w0 hlo hv0
  refine enter Try.func52 rfl Try.ntmps52 (by simp) ?_
  intro a0 hf0 ha
  have h00 : Holds _ (a0.eval (.tmp 0)) w0 := arg_holds ha rfl hv0
  clear ha
  have g0 : Grow w0 w0 := Grow.refl _
  refine wp_seq ?_
  refine wp_region_lit ?_
  refine wp_seg (l1 := [_]) [([0], [])] [] w0.heap.size hf0 g0.size (by kernel_rfl) (bund_cons h00 bund_nil) ?_
  refine ch rfl (ob_box_nm (arg_free 0 rfl rfl)) ?_
  refine ch_nil ?_
  intro a1 w2 hf3 hg4 hk5 hn6
  have h7 : Holds _ (a1.eval (.tmp 1)) w2 := hn6.at 0 0 rfl rfl rfl
  have g8 : Grow w0 w2 := g0.trans hg4
  obtain ⟨bk9, hl10, hv11, hb12⟩ := OwnB.blk (lo := w0.heap.size) h7
  clear g0 hf0 hk5 hn6
  have g13 : Grow w2 w2 := Grow.refl _
  have hl14 : bk9 < w2.heap.size := hb12.lt
  have hz15 : w0.heap.size ≤ w2.heap.size := g8.size
  refine wp_all [([], [])] [1] w2.heap.size hf3 g13.size (by kernel_rfl) bund_nil ?_
  refine ch rfl (ob_alloc_nm) ?_
  refine ch_nil ?_
  intro a16 w17 hf18 hg19 hk20 hn21
  have h22 : Holds _ (a16.eval (.tmp 2)) w17 := hn21.at 0 0 rfl rfl rfl
  have hv23 : Holds (Is (PtrV bk9)) (a16.eval (.tmp 1)) w17 := is_any (hk20.holds rfl hv11)
  have hb24 : Blk bk9 _ w17 := hb12.up hg19
  have g25 : Grow w0 w17 := g8.trans hg19
  have g26 : Grow w2 w17 := g13.trans hg19
  obtain ⟨bk27, hl28, hv29, hb30⟩ := OwnB.blk (lo := w2.heap.size) h22
  clear hv11 hb12 g8 g13 hf3 hk20 hn21
  refine then_ ?_
  refine wp_seq ?_
  have g31 : Grow w17 w17 := Grow.refl _
  have hl32 : bk9 < w17.heap.size := hb24.lt
  have hl33 : bk27 < w17.heap.size := hb30.lt
  have hz34 : w2.heap.size ≤ w17.heap.size := g26.size
  refine wp_region_lit ?_
  refine wp_all [([], []), ([], [0])] [1, 2] w17.heap.size hf18 g31.size (by kernel_rfl) bund_nil ?_
  refine ch rfl (ob_makeN elNmP (c := 18) Try.underlying39 arg_c arg_c (by refine ⟨?_, ?_⟩ <;> decide)) ?_
  refine ch rfl (ob_assign (arg_op 0 0 rfl rfl rfl rfl)) ?_
  refine ch_nil ?_
  intro a35 w36 hf37 hg38 hk39 hn40
  have h41 : Holds (OwnS w17.heap.size _ _) (a35.eval (.tmp 3)) w36 := hn40.at 1 0 rfl rfl rfl
  have hv42 : Holds (Is (PtrV bk9)) (a35.eval (.tmp 1)) w36 := is_any (hk39.holds rfl hv23)
  have hb43 : Blk bk9 _ w36 := hb24.up hg38
  have hv44 : Holds (Is (PtrV bk27)) (a35.eval (.tmp 2)) w36 := is_any (hk39.holds rfl hv29)
  have hb45 : Blk bk27 _ w36 := hb30.up hg38
  have g46 : Grow w0 w36 := g25.trans hg38
  have g47 : Grow w2 w36 := g26.trans hg38
  have g48 : Grow w17 w36 := g31.trans hg38
  clear hv23 hb24 hv29 hb30 g25 g26 g31 hf18 hk39 hn40
  obtain ⟨V49, h50, hV51⟩ := nameV h41
  clear h41
  refine then_ ?_
  refine wp_seq ?_
  refine wp_seq ?_
  refine wp_region_lit ?_
  refine wp_all [([], [])] [1, 2, 3] w17.heap.size hf37 g48.size (by kernel_rfl) bund_nil ?_
  refine ch rfl (ob_move arg_c) ?_
  refine ch_nil ?_
  intro a52 w53 hf54 hg55 hk56 hn57
  have h58 : Holds _ (a52.eval (.tmp 6)) w53 := hn57.at 0 0 rfl rfl rfl
  have h59 : Holds _ (a52.eval (.tmp 3)) w53 := hk56.holds rfl (h50.up hg55)
  have hv60 : Holds (Is (PtrV bk9)) (a52.eval (.tmp 1)) w53 := is_any (hk56.holds rfl hv42)
  have hb61 : Blk bk9 _ w53 := hb43.up hg55
  have hv62 : Holds (Is (PtrV bk27)) (a52.eval (.tmp 2)) w53 := is_any (hk56.holds rfl hv44)
  have hb63 : Blk bk27 _ w53 := hb45.up hg55
  have g64 : Grow w0 w53 := g46.trans hg55
  have g65 : Grow w2 w53 := g47.trans hg55
  have g66 : Grow w17 w53 := g48.trans hg55
  have hV67 : Holds _ V49 w53 := hV51.up hg55
  clear h50 hv42 hb43 hv44 hb45 g46 g47 g48 hf37 hk56 hn57 hg55 hV51
  refine then_ ?_
  refine wp_block ?_
  refine wp_loopL (α := Nat) (fun i a' w' => Fr 20 a' ∧ (i ≤ 18) ∧ Grow w0 w' ∧ Grow w2 w' ∧ Grow w17 w' ∧ Keep [1, 2] a52 a' ∧ Holds (OwnS w17.heap.size elNm (upTo (pubF s) 18 i)) (a'.eval (.tmp 3)) w' ∧ Holds (Is (intV (i : Int))) (a'.eval (.tmp 6)) w' ∧ Blk bk9 (nmCells s) w' ∧ Blk bk27 (nmCells 0) w') (fun i => 18 - i) (0) ⟨hf54, (by ((try dsimp only); omega)), g64, g65, g66, Keep.refl _ _, (unV h59 hV67), (is_cast h58 (by first | rfl | (refine congrArg intV ?_; (try dsimp only); omega))), hb61, hb63⟩ ?_
  intro i a68 w69 ⟨hf70, hi72, g73, g74, g75, kk71, h76, h77, hb78, hb79⟩
  have hv80 : Holds (Is (PtrV bk9)) (a68.eval (.tmp 1)) w69 := is_any (kk71.holds rfl hv60)
  have hv81 : Holds (Is (PtrV bk27)) (a68.eval (.tmp 2)) w69 := is_any (kk71.holds rfl hv62)
  obtain ⟨V82, h83, hV84⟩ := nameV h76
  clear h76
  refine wp_seq ?_
  refine wp_region_lit ?_
  refine wp_all [([6], [])] [1, 2, 3, 6] w17.heap.size hf70 g75.size (by kernel_rfl) (bund_cons h77 bund_nil) ?_
  refine ch rfl (ob_lss (arg_free 0 rfl rfl) arg_c) ?_
  refine ch_nil ?_
  intro a85 w86 hf87 hg88 hk89 hn90
  have h91 : Holds _ (a85.eval (.tmp 7)) w86 := hn90.at 0 0 rfl rfl rfl
  have h92 : Holds _ (a85.eval (.tmp 3)) w86 := hk89.holds rfl (h83.up hg88)
  have h93 : Holds _ (a85.eval (.tmp 6)) w86 := hk89.holds rfl (h77.up hg88)
  have hv94 : Holds (Is (PtrV bk9)) (a85.eval (.tmp 1)) w86 := is_any (hk89.holds rfl hv80)
  have hb95 : Blk bk9 _ w86 := hb78.up hg88
  have hv96 : Holds (Is (PtrV bk27)) (a85.eval (.tmp 2)) w86 := is_any (hk89.holds rfl hv81)
  have hb97 : Blk bk27 _ w86 := hb79.up hg88
  have g98 : Grow w0 w86 := g73.trans hg88
  have g99 : Grow w2 w86 := g74.trans hg88
  have g100 : Grow w17 w86 := g75.trans hg88
  have kk101 : Keep _ a52 a85 := kk71.trans hk89 rfl
  have hV102 : Holds _ V82 w86 := hV84.up hg88
  clear h83 h77 hv80 hb78 hv81 hb79 g73 g74 g75 kk71 hf70 hk89 hn90 hg88 hV84
  refine then_ ?_
  refine wp_seq ?_
  refine wp_if h91 ?_ ?_
  · intro hc103
    try simp only [cond_norm] at hc103
    refine wp_skip ?_
    refine then_ ?_
    refine wp_seq ?_
    refine wp_block ?_
    refine wp_seq ?_
    refine wp_region_lit ?_
    refine wp_all [([6], []), ([], [0])] [1, 2, 3, 6] w17.heap.size hf87 g100.size (by kernel_rfl) (bund_cons h93 bund_nil) ?_
    refine ch rfl (ob_move (arg_free 0 rfl rfl)) ?_
    refine ch rfl (ob_assign (arg_op 0 0 rfl rfl rfl rfl)) ?_
    refine ch_nil ?_
    intro a104 w105 hf106 hg107 hk108 hn109
    have h110 : Holds _ (a104.eval (.tmp 4)) w105 := hn109.at 1 0 rfl rfl rfl
    have h111 : Holds _ (a104.eval (.tmp 3)) w105 := hk108.holds rfl (h92.up hg107)
    have h112 : Holds _ (a104.eval (.tmp 6)) w105 := hk108.holds rfl (h93.up hg107)
    have hv113 : Holds (Is (PtrV bk9)) (a104.eval (.tmp 1)) w105 := is_any (hk108.holds rfl hv94)
    have hb114 : Blk bk9 _ w105 := hb95.up hg107
    have hv115 : Holds (Is (PtrV bk27)) (a104.eval (.tmp 2)) w105 := is_any (hk108.holds rfl hv96)
    have hb116 : Blk bk27 _ w105 := hb97.up hg107
    have g117 : Grow w0 w105 := g98.trans hg107
    have g118 : Grow w2 w105 := g99.trans hg107
    have g119 : Grow w17 w105 := g100.trans hg107
    have kk120 : Keep _ a52 a104 := kk101.trans hk108 rfl
    have hV121 : Holds _ V82 w105 := hV102.up hg107
    clear h92 h93 hv94 hb95 hv96 hb97 g98 g99 g100 kk101 hf87 hk108 hn109 hg107 hV102
    refine then_ ?_
    have g122 : Grow w105 w105 := Grow.refl _
    have hl123 : bk9 < w105.heap.size := hb114.lt
    have hl124 : bk27 < w105.heap.size := hb116.lt
    have hz125 : w17.heap.size ≤ w105.heap.size := g119.size
    refine wp_region_lit ?_
    refine wp_seg (l1 := [_, _, _, _, _, _, _, _]) [([3], []), ([4], []), ([1], []), ([4], []), ([], [2, 3]), ([4], []), ([], [4, 5]), ([], [0, 1])] [1, 2, 3, 6] w105.heap.size hf106 g122.size (by kernel_rfl) (bund_cons h111 (bund_cons h110 (bund_cons (hb114.ownp hv113) bund_nil))) ?_
    refine ch rfl (ob_move (arg_free 0 rfl rfl)) ?_
    refine ch rfl (ob_move (arg_free 1 rfl rfl)) ?_
    refine ch rfl (ob_load_nm (ArgOK.ownp (arg_free 2 rfl rfl))) ?_
    refine ch rfl (ob_move (arg_free 1 rfl rfl)) ?_
    refine ch rfl (ob_call2 (by kernel_rfl) (c_start) (arg_op 2 1 rfl rfl rfl rfl) (arg_op 3 0 rfl rfl rfl rfl)) ?_
    refine ch rfl (ob_move (arg_free 1 rfl rfl)) ?_
    refine ch rfl (ob_call4 (by kernel_rfl) (c_walk (k := 15) (p := 0) ?_ ?_ ?_) (arg_op 4 1 rfl rfl rfl rfl) (arg_op 5 0 rfl rfl rfl rfl) arg_c arg_c) ?_
    · omega
    · rfl
    · rfl
    refine ch rfl (ob_ixv (arg_op 0 6 rfl rfl rfl rfl) (OwnS.sl hV121) (arg_op 1 5 rfl rfl rfl rfl) (rfl) ?_ Try.underlying39 szNm) ?_
    · (rw [upTo_len (by omega)]; omega)
    refine ch_nil ?_
    intro a126 w127 hf128 hg129 hk130 hn131
    have h132 : Holds _ (a126.eval (.tmp 15)) w127 := hn131.at 6 1 rfl rfl rfl
    have h133 : Holds _ (a126.eval (.tmp 16)) w127 := hn131.at 7 0 rfl rfl rfl
    have h134 : Holds _ (a126.eval (.tmp 3)) w105 := hk130.holds rfl h111
    have h135 : Holds _ (a126.eval (.tmp 6)) w105 := hk130.holds rfl h112
    have hv136 : Holds (Is (PtrV bk9)) (a126.eval (.tmp 1)) w127 := is_any (hk130.holds rfl hv113)
    have hb137 : Blk bk9 _ w127 := hb114.up hg129
    have hv138 : Holds (Is (PtrV bk27)) (a126.eval (.tmp 2)) w127 := is_any (hk130.holds rfl hv115)
    have hb139 : Blk bk27 _ w127 := hb116.up hg129
    have g140 : Grow w0 w127 := g117.trans hg129
    have g141 : Grow w2 w127 := g118.trans hg129
    have g142 : Grow w17 w127 := g119.trans hg129
    have g143 : Grow w105 w127 := g122.trans hg129
    have kk144 : Keep _ a52 a126 := kk120.trans hk130 rfl
    clear h111 h112 hv113 hb114 hv115 hb116 g117 g118 g119 g122 kk120 hf106 hk130 hn131
    refine wl_store_elNm h133 (hV121.up g143) g142.size ?_ h132 ?_
    · (rw [upTo_len (by omega)]; omega)
    intro w145 hw146 ho147 hV148
    have g149 : Grow w0 w145 := g140.wr hw146 (by omega)
    have g150 : Grow w2 w145 := g141.wr hw146 (by omega)
    have g151 : Grow w17 w145 := g142.wr hw146 (by omega)
    have h152 : Holds _ (a126.eval (.tmp 3)) w145 := is_any h134
    have h153 : Holds _ (a126.eval (.tmp 6)) w145 := is_any h135
    have hv154 : Holds (Is (PtrV bk9)) (a126.eval (.tmp 1)) w145 := is_any hv136
    have hb155 : Blk bk9 _ w145 := hb137.wr hw146 (by omega)
    have hv156 : Holds (Is (PtrV bk27)) (a126.eval (.tmp 2)) w145 := is_any hv138
    have hb157 : Blk bk27 _ w145 := hb139.wr hw146 (by omega)
    have h158 : Holds _ (a126.eval (.tmp 3)) w145 := is_any h134
    refine wpList_nil ?_
    refine blockN ?_
    refine then_ ?_
    refine wp_region_lit ?_
    refine wp_all [([6], []), ([], [0])] [1, 2, 3] w17.heap.size hf128 g151.size (by kernel_rfl) (bund_cons h153 bund_nil) ?_
    first
      | (refine ch rfl (ob_add' (arg_free 0 rfl rfl) arg_c ?_) ?_; · omega)
      | refine ch rfl (ob_add (arg_free 0 rfl rfl) arg_c) ?_
    refine ch rfl (ob_move (arg_op 0 0 rfl rfl rfl rfl)) ?_
    refine ch_nil ?_
    intro a159 w160 hf161 hg162 hk163 hn164
    have h165 : Holds _ (a159.eval (.tmp 6)) w160 := hn164.at 1 0 rfl rfl rfl
    have h166 : Holds _ (a159.eval (.tmp 3)) w160 := hk163.holds rfl (h158.up hg162)
    have hv167 : Holds (Is (PtrV bk9)) (a159.eval (.tmp 1)) w160 := is_any (hk163.holds rfl hv154)
    have hb168 : Blk bk9 _ w160 := hb155.up hg162
    have hv169 : Holds (Is (PtrV bk27)) (a159.eval (.tmp 2)) w160 := is_any (hk163.holds rfl hv156)
    have hb170 : Blk bk27 _ w160 := hb157.up hg162
    have g171 : Grow w0 w160 := g149.trans hg162
    have g172 : Grow w2 w160 := g150.trans hg162
    have g173 : Grow w17 w160 := g151.trans hg162
    have kk174 : Keep _ a52 a159 := kk144.trans hk163 rfl
    have hV175 : Holds _ V82 w160 := hV148.up hg162
    clear h158 hv154 hb155 hv156 hb157 g149 g150 g151 kk144 hf128 hk163 hn164 hg162 hV148
    refine then_ ?_
    exact ⟨(i + 1), (by ((try dsimp only); omega)), hf161, (by ((try dsimp only); omega)), g171, g172, g173, kk174, (cast_own (upTo_set (f := pubF s) (by omega)) (unV h166 hV175)), (is_cast h165 (by first | rfl | (refine congrArg intV ?_; (try dsimp only); omega))), hb168, hb170⟩
  · intro hc103
    try simp only [cond_norm] at hc103
    obtain rfl : i = 18 := by omega
    refine wp_exit ?_
    refine thenX ?_
    refine thenX ?_
    refine blockX ?_
    refine then_ ?_
    refine wp_seq ?_
    have g176 : Grow w86 w86 := Grow.refl _
    have hl177 : bk9 < w86.heap.size := hb95.lt
    have hl178 : bk27 < w86.heap.size := hb97.lt
    have hz179 : w17.heap.size ≤ w86.heap.size := g100.size
    refine wp_region_lit ?_
    refine wp_seg (l1 := [_, _]) [([3], []), ([], [0])] [2] w86.heap.size hf87 g176.size (by kernel_rfl) (bund_cons h92 bund_nil) ?_
    refine ch rfl (ob_move (arg_free 0 rfl rfl)) ?_
    refine ch rfl (ob_call1 (by kernel_rfl) (c_public ?_) (ArgOK.sl (ArgOK.val (arg_op 0 0 rfl rfl rfl rfl) hV102))) ?_
    · (simp only [upTo_len (Nat.le_refl 18), vals_len]; decide)
    refine ch_nil ?_
    intro a180 w181 hf182 hg183 hk184 hn185
    have h186 : Holds _ (a180.eval (.tmp 19)) w181 := hn185.at 1 0 rfl rfl rfl
    have hv187 : Holds (Is (PtrV bk27)) (a180.eval (.tmp 2)) w181 := is_any (hk184.holds rfl hv96)
    have hb188 : Blk bk27 _ w181 := hb97.up hg183
    have g189 : Grow w0 w181 := g98.trans hg183
    have g190 : Grow w2 w181 := g99.trans hg183
    have g191 : Grow w17 w181 := g100.trans hg183
    have g192 : Grow w86 w181 := g176.trans hg183
    clear hv96 hb97 g98 g99 g100 g176 hf87 hk184 hn185
    refine wl_store_nm hv187 hb188 rfl h186 ?_
    intro w193 ho194 hb195
    have g196 : Grow w0 w193 := g189.only ho194 (by omega)
    have g197 : Grow w2 w193 := g190.only ho194 (by omega)
    have hv198 : Holds (Is (PtrV bk27)) (a180.eval (.tmp 2)) w193 := is_any hv187
    refine wpList_nil ?_
    refine then_ ?_
    refine wp_ret ?_
    refine ret_cell rfl Try.underlying23 rfl (by kernel_rfl) hf182 g196 (hb195.ptr hv198) ?_
    (rw [upTo_full]; exact rfl)

set_option maxRecDepth 100000 in
theorem c_rPublic {s : UInt64} : Con1 53 (Is (nmV s)) (fun _ => Is (nmV (endsN (vals (pubF s) 18)))) := by
  intro lo v0 w0 hlo hv0
  refine enter Try.func53 rfl Try.ntmps53 (by simp) ?_
  intro a0 hf0 ha
  have h00 : Holds _ (a0.eval (.tmp 0)) w0 := arg_holds ha rfl hv0
  clear ha
  have g0 : Grow w0 w0 := Grow.refl _
  refine wp_seq ?_
  refine wp_region_lit ?_
  refine wp_seg (l1 := [_]) [([0], [])] [] w0.heap.size hf0 g0.size (by kernel_rfl) (bund_cons h00 bund_nil) ?_
  refine ch rfl (ob_box_nm (arg_free 0 rfl rfl)) ?_
  refine ch_nil ?_
  intro a1 w2 hf3 hg4 hk5 hn6
  have h7 : Holds _ (a1.eval (.tmp 1)) w2 := hn6.at 0 0 rfl rfl rfl
  have g8 : Grow w0 w2 := g0.trans hg4
  obtain ⟨bk9, hl10, hv11, hb12⟩ := OwnB.blk (lo := w0.heap.size) h7
  clear g0 hf0 hk5 hn6
  have g13 : Grow w2 w2 := Grow.refl _
  have hl14 : bk9 < w2.heap.size := hb12.lt
  have hz15 : w0.heap.size ≤ w2.heap.size := g8.size
  refine wp_all [([], [])] [1] w2.heap.size hf3 g13.size (by kernel_rfl) bund_nil ?_
  refine ch rfl (ob_alloc_nm) ?_
  refine ch_nil ?_
  intro a16 w17 hf18 hg19 hk20 hn21
  have h22 : Holds _ (a16.eval (.tmp 2)) w17 := hn21.at 0 0 rfl rfl rfl
  have hv23 : Holds (Is (PtrV bk9)) (a16.eval (.tmp 1)) w17 := is_any (hk20.holds rfl hv11)
  have hb24 : Blk bk9 _ w17 := hb12.up hg19
  have g25 : Grow w0 w17 := g8.trans hg19
  have g26 : Grow w2 w17 := g13.trans hg19
  obtain ⟨bk27, hl28, hv29, hb30⟩ := OwnB.blk (lo := w2.heap.size) h22
  clear hv11 hb12 g8 g13 hf3 hk20 hn21
  refine then_ ?_
  refine wp_seq ?_
  have g31 : Grow w17 w17 := Grow.refl _
  have hl32 : bk9 < w17.heap.size := hb24.lt
  have hl33 : bk27 < w17.heap.size := hb30.lt
  have hz34 : w2.heap.size ≤ w17.heap.size := g26.size
  refine wp_region_lit ?_
  refine wp_all [([], [])] [1, 2] w17.heap.size hf18 g31.size (by kernel_rfl) bund_nil ?_
  refine ch rfl (ob_assign (arg_cg (G := OwnS w17.heap.size elNm []) (fun w => own_nil))) ?_
  refine ch_nil ?_
  intro a35 w36 hf37 hg38 hk39 hn40
  have h41 : Holds (OwnS w17.heap.size _ _) (a35.eval (.tmp 3)) w36 := hn40.at 0 0 rfl rfl rfl
  have hv42 : Holds (Is (PtrV bk9)) (a35.eval (.tmp 1)) w36 := is_any (hk39.holds rfl hv23)
  have hb43 : Blk bk9 _ w36 := hb24.up hg38
  have hv44 : Holds (Is (PtrV bk27)) (a35.eval (.tmp 2)) w36 := is_any (hk39.holds rfl hv29)
  have hb45 : Blk bk27 _ w36 := hb30.up hg38
  have g46 : Grow w0 w36 := g25.trans hg38
  have g47 : Grow w2 w36 := g26.trans hg38
  have g48 : Grow w17 w36 := g31.trans hg38
  clear hv23 hb24 hv29 hb30 g25 g26 g31 hf18 hk39 hn40
  obtain ⟨V49, h50, hV51⟩ := nameV h41
  clear h41
  refine then_ ?_
  refine wp_seq ?_
  refine wp_seq ?_
  refine wp_region_lit ?_
  refine wp_all [([], [])] [1, 2, 3] w17.heap.size hf37 g48.size (by kernel_rfl) bund_nil ?_
  refine ch rfl (ob_assign arg_c) ?_
  refine ch_nil ?_
  intro a52 w53 hf54 hg55 hk56 hn57
  have h58 : Holds _ (a52.eval (.tmp 4)) w53 := hn57.at 0 0 rfl rfl rfl
  have h59 : Holds _ (a52.eval (.tmp 3)) w53 := hk56.holds rfl (h50.up hg55)
  have hv60 : Holds (Is (PtrV bk9)) (a52.eval (.tmp 1)) w53 := is_any (hk56.holds rfl hv42)
  have hb61 : Blk bk9 _ w53 := hb43.up hg55
  have hv62 : Holds (Is (PtrV bk27)) (a52.eval (.tmp 2)) w53 := is_any (hk56.holds rfl hv44)
  have hb63 : Blk bk27 _ w53 := hb45.up hg55
  have g64 : Grow w0 w53 := g46.trans hg55
  have g65 : Grow w2 w53 := g47.trans hg55
  have g66 : Grow w17 w53 := g48.trans hg55
  have hV67 : Holds _ V49 w53 := hV51.up hg55
  clear h50 hv42 hb43 hv44 hb45 g46 g47 g48 hf37 hk56 hn57 hg55 hV51
  refine then_ ?_
  refine wp_block ?_
  refine wp_loopL (α := Nat) (fun i a' w' => Fr 19 a' ∧ (i ≤ 18) ∧ Grow w0 w' ∧ Grow w2 w' ∧ Grow w17 w' ∧ Keep [1, 2] a52 a' ∧ Holds (OwnS w17.heap.size elNm (vals (pubF s) i)) (a'.eval (.tmp 3)) w' ∧ Holds (Is (intV (i : Int))) (a'.eval (.tmp 4)) w' ∧ Blk bk9 (nmCells s) w' ∧ Blk bk27 (nmCells 0) w') (fun i => 18 - i) (0) ⟨hf54, (by ((try dsimp only); omega)), g64, g65, g66, Keep.refl _ _, (unV h59 hV67), (is_cast h58 (by first | rfl | (refine congrArg intV ?_; (try dsimp only); omega))), hb61, hb63⟩ ?_
  intro i a68 w69 ⟨hf70, hi72, g73, g74, g75, kk71, h76, h77, hb78, hb79⟩
  have hv80 : Holds (Is (PtrV bk9)) (a68.eval (.tmp 1)) w69 := is_any (kk71.holds rfl hv60)
  have hv81 : Holds (Is (PtrV bk27)) (a68.eval (.tmp 2)) w69 := is_any (kk71.holds rfl hv62)
  obtain ⟨V82, h83, hV84⟩ := nameV h76
  clear h76
  refine wp_seq ?_
  refine wp_seq ?_
  refine wp_region_lit ?_
  refine wp_all [([4], []), ([], [0])] [1, 2, 3, 4] w17.heap.size hf70 g75.size (by kernel_rfl) (bund_cons h77 bund_nil) ?_
  refine ch rfl (ob_move (arg_free 0 rfl rfl)) ?_
  refine ch rfl (ob_lss (arg_op 0 0 rfl rfl rfl rfl) arg_c) ?_
  refine ch_nil ?_
  intro a85 w86 hf87 hg88 hk89 hn90
  have h91 : Holds _ (a85.eval (.tmp 6)) w86 := hn90.at 1 0 rfl rfl rfl
  have h92 : Holds _ (a85.eval (.tmp 3)) w86 := hk89.holds rfl (h83.up hg88)
  have h93 : Holds _ (a85.eval (.tmp 4)) w86 := hk89.holds rfl (h77.up hg88)
  have hv94 : Holds (Is (PtrV bk9)) (a85.eval (.tmp 1)) w86 := is_any (hk89.holds rfl hv80)
  have hb95 : Blk bk9 _ w86 := hb78.up hg88
  have hv96 : Holds (Is (PtrV bk27)) (a85.eval (.tmp 2)) w86 := is_any (hk89.holds rfl hv81)
  have hb97 : Blk bk27 _ w86 := hb79.up hg88
  have g98 : Grow w0 w86 := g73.trans hg88
  have g99 : Grow w2 w86 := g74.trans hg88
  have g100 : Grow w17 w86 := g75.trans hg88
  have kk101 : Keep _ a52 a85 := kk71.trans hk89 rfl
  have hV102 : Holds _ V82 w86 := hV84.up hg88
  clear h83 h77 hv80 hb78 hv81 hb79 g73 g74 g75 kk71 hf70 hk89 hn90 hg88 hV84
  refine then_ ?_
  refine wp_if h91 ?_ ?_
  · intro hc103
    try simp only [cond_norm] at hc103
    refine wp_skip ?_
    refine then_ ?_
    refine wp_seq ?_
    refine wp_block ?_
    have g104 : Grow w86 w86 := Grow.refl _
    have hl105 : bk9 < w86.heap.size := hb95.lt
    have hl106 : bk27 < w86.heap.size := hb97.lt
    have hz107 : w17.heap.size ≤ w86.heap.size := g100.size
    refine wp_region_lit ?_
    refine wp_seg (l1 := [_, _, _, _, _, _, _]) [([3], []), ([1], []), ([4], []), ([], [1, 2]), ([4], []), ([], [3, 4]), ([], [5])] [1, 2, 3, 4] w86.heap.size hf87 g104.size (by kernel_rfl) (bund_cons h92 (bund_cons (hb95.ownp hv94) (bund_cons h93 bund_nil))) ?_
    refine ch rfl (ob_move (arg_free 0 rfl rfl)) ?_
    refine ch rfl (ob_load_nm (ArgOK.ownp (arg_free 1 rfl rfl))) ?_
    refine ch rfl (ob_move (arg_free 2 rfl rfl)) ?_
    refine ch rfl (ob_call2 (by kernel_rfl) (c_rstart) (arg_op 1 1 rfl rfl rfl rfl) (arg_op 2 0 rfl rfl rfl rfl)) ?_
    refine ch rfl (ob_move (arg_free 2 rfl rfl)) ?_
    refine ch rfl (ob_call4 (by kernel_rfl) (c_rchain (k := 15) (p := 0) ?_ ?_ ?_) (arg_op 3 1 rfl rfl rfl rfl) (arg_op 4 0 rfl rfl rfl rfl) arg_c arg_c) ?_
    · omega
    · rfl
    · rfl
    refine ch rfl (ob_bs1_nm (arg_op 5 0 rfl rfl rfl rfl)) ?_
    refine ch_nil ?_
    intro a108 w109 hf110 hg111 hk112 hn113
    have h114 : Holds _ (a108.eval (.tmp 9)) w109 := hn113.at 0 6 rfl rfl rfl
    have h115 : Holds (OwnF w86.heap.size _ _) (a108.eval (.tmp 15)) w109 := hn113.at 6 0 rfl rfl rfl
    have h116 : Holds _ (a108.eval (.tmp 3)) w86 := hk112.holds rfl h92
    have h117 : Holds _ (a108.eval (.tmp 4)) w86 := hk112.holds rfl h93
    have hv118 : Holds (Is (PtrV bk9)) (a108.eval (.tmp 1)) w109 := is_any (hk112.holds rfl hv94)
    have hb119 : Blk bk9 _ w109 := hb95.up hg111
    have hv120 : Holds (Is (PtrV bk27)) (a108.eval (.tmp 2)) w109 := is_any (hk112.holds rfl hv96)
    have hb121 : Blk bk27 _ w109 := hb97.up hg111
    have g122 : Grow w0 w109 := g98.trans hg111
    have g123 : Grow w2 w109 := g99.trans hg111
    have g124 : Grow w17 w109 := g100.trans hg111
    have g125 : Grow w86 w109 := g104.trans hg111
    have kk126 : Keep _ a52 a108 := kk101.trans hk112 rfl
    clear h92 h93 hv94 hb95 hv96 hb97 g98 g99 g100 g104 kk101 hf87 hk112 hn113
    obtain ⟨V127, h128, hV129⟩ := nameV h115
    clear h115
    refine wl_appendW elNmP [1, 2, 3, 4] hf110 (by kernel_rfl) rfl Try.underlying39 (unV h114 (hV102.up g125)) (OwnS.sl (OwnF.own (unV h128 hV129))) ?_ ?_ g124.size ?_
    · (simp only [vals_len, List.length_cons, List.length_nil, maxLen]; omega)
    · (simp only [vals_len, List.length_cons, List.length_nil, elNm]; omega)
    intro a130 w131 hf132 hw133 hk134 h135
    have g136 : Grow w0 w131 := g122.wr hw133 (by omega)
    have g137 : Grow w2 w131 := g123.wr hw133 (by omega)
    have g138 : Grow w17 w131 := g124.wr hw133 (by omega)
    have h139 : Holds _ (a130.eval (.tmp 3)) w131 := is_any (hk134.holds rfl h116)
    have h140 : Holds _ (a130.eval (.tmp 4)) w131 := is_any (hk134.holds rfl h117)
    have hv141 : Holds (Is (PtrV bk9)) (a130.eval (.tmp 1)) w131 := is_any (hk134.holds rfl hv118)
    have hb142 : Blk bk9 _ w131 := hb119.wr hw133 (by omega)
    have hv143 : Holds (Is (PtrV bk27)) (a130.eval (.tmp 2)) w131 := is_any (hk134.holds rfl hv120)
    have hb144 : Blk bk27 _ w131 := hb121.wr hw133 (by omega)
    have kk145 : Keep _ a52 a130 := kk126.trans hk134 rfl
    obtain ⟨V146, h147, hV148⟩ := nameV h135
    clear h135
    refine wp_all [([16], [])] [1, 2, 4] w17.heap.size hf132 g138.size (by kernel_rfl) (bund_cons h147 bund_nil) ?_
    refine ch rfl (ob_assign (arg_free 0 rfl rfl)) ?_
    refine ch_nil ?_
    intro a149 w150 hf151 hg152 hk153 hn154
    have h155 : Holds _ (a149.eval (.tmp 3)) w150 := hn154.at 0 0 rfl rfl rfl
    have h156 : Holds _ (a149.eval (.tmp 4)) w150 := hk153.holds rfl (h140.up hg152)
    have hv157 : Holds (Is (PtrV bk9)) (a149.eval (.tmp 1)) w150 := is_any (hk153.holds rfl hv141)
    have hb158 : Blk bk9 _ w150 := hb142.up hg152
    have hv159 : Holds (Is (PtrV bk27)) (a149.eval (.tmp 2)) w150 := is_any (hk153.holds rfl hv143)
    have hb160 : Blk bk27 _ w150 := hb144.up hg152
    have g161 : Grow w0 w150 := g136.trans hg152
    have g162 : Grow w2 w150 := g137.trans hg152
    have g163 : Grow w17 w150 := g138.trans hg152
    have kk164 : Keep _ a52 a149 := kk145.trans hk153 rfl
    have hV165 : Holds _ V146 w150 := hV148.up hg152
    clear h140 hv141 hb142 hv143 hb144 g136 g137 g138 kk145 hf132 hk153 hn154 hg152 hV148
    refine blockN ?_
    refine then_ ?_
    refine wp_region_lit ?_
    refine wp_all [([4], []), ([], [0]), ([], [1])] [1, 2, 3] w17.heap.size hf151 g163.size (by kernel_rfl) (bund_cons h156 bund_nil) ?_
    refine ch rfl (ob_move (arg_free 0 rfl rfl)) ?_
    first
      | (refine ch rfl (ob_add' (arg_op 0 0 rfl rfl rfl rfl) arg_c ?_) ?_; · omega)
      | refine ch rfl (ob_add (arg_op 0 0 rfl rfl rfl rfl) arg_c) ?_
    refine ch rfl (ob_assign (arg_op 1 0 rfl rfl rfl rfl)) ?_
    refine ch_nil ?_
    intro a166 w167 hf168 hg169 hk170 hn171
    have h172 : Holds _ (a166.eval (.tmp 4)) w167 := hn171.at 2 0 rfl rfl rfl
    have h173 : Holds _ (a166.eval (.tmp 3)) w167 := hk170.holds rfl (h155.up hg169)
    have hv174 : Holds (Is (PtrV bk9)) (a166.eval (.tmp 1)) w167 := is_any (hk170.holds rfl hv157)
    have hb175 : Blk bk9 _ w167 := hb158.up hg169
    have hv176 : Holds (Is (PtrV bk27)) (a166.eval (.tmp 2)) w167 := is_any (hk170.holds rfl hv159)
    have hb177 : Blk bk27 _ w167 := hb160.up hg169
    have g178 : Grow w0 w167 := g161.trans hg169
    have g179 : Grow w2 w167 := g162.trans hg169
    have g180 : Grow w17 w167 := g163.trans hg169
    have kk181 : Keep _ a52 a166 := kk164.trans hk170 rfl
    have hV182 : Holds _ V146 w167 := hV165.up hg169
    clear h155 hv157 hb158 hv159 hb160 g161 g162 g163 kk164 hf151 hk170 hn171 hg169 hV165
    refine then_ ?_
    exact ⟨(i + 1), (by ((try dsimp only); omega)), hf168, (by ((try dsimp only); omega)), g178, g179, g180, kk181, (cast_own (vals_succ (pubF s) i) (unV h173 hV182)), (is_cast h172 (by first | rfl | (refine congrArg intV ?_; (try dsimp only); omega))), hb175, hb177⟩
  · intro hc103
    try simp only [cond_norm] at hc103
    obtain rfl : i = 18 := by omega
    refine wp_exit ?_
    refine thenX ?_
    refine thenX ?_
    refine blockX ?_
    refine then_ ?_
    refine wp_seq ?_
    have g183 : Grow w86 w86 := Grow.refl _
    have hl184 : bk9 < w86.heap.size := hb95.lt
    have hl185 : bk27 < w86.heap.size := hb97.lt
    have hz186 : w17.heap.size ≤ w86.heap.size := g100.size
    refine wp_region_lit ?_
    refine wp_seg (l1 := [_, _]) [([3], []), ([], [0])] [2] w86.heap.size hf87 g183.size (by kernel_rfl) (bund_cons h92 bund_nil) ?_
    refine ch rfl (ob_move (arg_free 0 rfl rfl)) ?_
    refine ch rfl (ob_call1 (by kernel_rfl) (c_rends ?_) (ArgOK.sl (ArgOK.val (arg_op 0 0 rfl rfl rfl rfl) hV102))) ?_
    · (simp only [upTo_len (Nat.le_refl 18), vals_len]; decide)
    refine ch_nil ?_
    intro a187 w188 hf189 hg190 hk191 hn192
    have h193 : Holds _ (a187.eval (.tmp 18)) w188 := hn192.at 1 0 rfl rfl rfl
    have hv194 : Holds (Is (PtrV bk27)) (a187.eval (.tmp 2)) w188 := is_any (hk191.holds rfl hv96)
    have hb195 : Blk bk27 _ w188 := hb97.up hg190
    have g196 : Grow w0 w188 := g98.trans hg190
    have g197 : Grow w2 w188 := g99.trans hg190
    have g198 : Grow w17 w188 := g100.trans hg190
    have g199 : Grow w86 w188 := g183.trans hg190
    clear hv96 hb97 g98 g99 g100 g183 hf87 hk191 hn192
    refine wl_store_nm hv194 hb195 rfl h193 ?_
    intro w200 ho201 hb202
    have g203 : Grow w0 w200 := g196.only ho201 (by omega)
    have g204 : Grow w2 w200 := g197.only ho201 (by omega)
    have hv205 : Holds (Is (PtrV bk27)) (a187.eval (.tmp 2)) w200 := is_any hv194
    refine wpList_nil ?_
    refine then_ ?_
    refine wp_ret ?_
    refine ret_cell rfl Try.underlying23 rfl (by kernel_rfl) hf189 g203 (hb202.ptr hv205) ?_
    exact rfl

set_option maxRecDepth 100000 in
theorem c_Sign {s m : UInt64} : Con2 49 (Is (nmV s)) (Is (nmV m)) (fun lo => OwnS lo elNm (vals (sigF s m) 18)) := by
  intro lo v0 v1 w0 hlo hv0 hv1
  refine enter Try.func49 rfl Try.ntmps49 (by simp) ?_
  intro a0 hf0 ha
  have h00 : Holds _ (a0.eval (.tmp 0)) w0 := arg_holds ha rfl hv0
  have h01 : Holds _ (a0.eval (.tmp 1)) w0 := arg_holds ha rfl hv1
  clear ha
  have g0 : Grow w0 w0 := Grow.refl _
  refine wp_seq ?_
  refine wp_region_lit ?_
  refine wp_seg (l1 := [_]) [([0], [])] [1] w0.heap.size hf0 g0.size (by kernel_rfl) (bund_cons h00 bund_nil) ?_
  refine ch rfl (ob_box_nm (arg_free 0 rfl rfl)) ?_
  refine ch_nil ?_
  intro a1 w2 hf3 hg4 hk5 hn6
  have h7 : Holds _ (a1.eval (.tmp 2)) w2 := hn6.at 0 0 rfl rfl rfl
  have h8 : Holds _ (a1.eval (.tmp 1)) w0 := hk5.holds rfl h01
  have g9 : Grow w0 w2 := g0.trans hg4
  obtain ⟨bk10, hl11, hv12, hb13⟩ := OwnB.blk (lo := w0.heap.size) h7
  clear h01 g0 hf0 hk5 hn6
  have g14 : Grow w2 w2 := Grow.refl _
  have hl15 : bk10 < w2.heap.size := hb13.lt
  have hz16 : w0.heap.size ≤ w2.heap.size := g9.size
  refine wp_all [([1], []), ([], [])] [2] w2.heap.size hf3 g14.size (by kernel_rfl) (bund_cons (is_any h8) bund_nil) ?_
  refine ch rfl (ob_box_nm (arg_free 0 rfl rfl)) ?_
  refine ch rfl (ob_assign (arg_cg (G := Any) (fun w => trivial))) ?_
  refine ch_nil ?_
  intro a17 w18 hf19 hg20 hk21 hn22
  have h23 : Holds _ (a17.eval (.tmp 3)) w18 := hn22.at 0 1 rfl rfl rfl
  have hv24 : Holds (Is (PtrV bk10)) (a17.eval (.tmp 2)) w18 := is_any (hk21.holds rfl hv12)
  have hb25 : Blk bk10 _ w18 := hb13.up hg20
  have g26 : Grow w0 w18 := g9.trans hg20
  have g27 : Grow w2 w18 := g14.trans hg20
  obtain ⟨bk28, hl29, hv30, hb31⟩ := OwnB.blk (lo := w2.heap.size) h23
  clear hv12 hb13 g9 g14 hf3 hk21 hn22
  refine then_ ?_
  refine wp_seq ?_
  have g32 : Grow w18 w18 := Grow.refl _
  have hl33 : bk10 < w18.heap.size := hb25.lt
  have hl34 : bk28 < w18.heap.size := hb31.lt
  have hz35 : w2.heap.size ≤ w18.heap.size := g27.size
  refine wp_region_lit ?_
  refine wp_all [([], []), ([], [0])] [2, 3] w18.heap.size hf19 g32.size (by kernel_rfl) bund_nil ?_
  refine ch rfl (ob_makeN elNmP (c := 18) Try.underlying39 arg_c arg_c (by refine ⟨?_, ?_⟩ <;> decide)) ?_
  refine ch rfl (ob_assign (arg_op 0 0 rfl rfl rfl rfl)) ?_
  refine ch_nil ?_
  intro a36 w37 hf38 hg39 hk40 hn41
  have h42 : Holds (OwnS w18.heap.size _ _) (a36.eval (.tmp 5)) w37 := hn41.at 1 0 rfl rfl rfl
  have hv43 : Holds (Is (PtrV bk10)) (a36.eval (.tmp 2)) w37 := is_any (hk40.holds rfl hv24)
  have hb44 : Blk bk10 _ w37 := hb25.up hg39
  have hv45 : Holds (Is (PtrV bk28)) (a36.eval (.tmp 3)) w37 := is_any (hk40.holds rfl hv30)
  have hb46 : Blk bk28 _ w37 := hb31.up hg39
  have g47 : Grow w0 w37 := g26.trans hg39
  have g48 : Grow w2 w37 := g27.trans hg39
  have g49 : Grow w18 w37 := g32.trans hg39
  clear hv24 hb25 hv30 hb31 g26 g27 g32 hf19 hk40 hn41
  obtain ⟨V50, h51, hV52⟩ := nameV h42
  clear h42
  refine then_ ?_
  refine wp_seq ?_
  refine wp_seq ?_
  have g53 : Grow w37 w37 := Grow.refl _
  have hl54 : bk10 < w37.heap.size := hb44.lt
  have hl55 : bk28 < w37.heap.size := hb46.lt
  have hz56 : w18.heap.size ≤ w37.heap.size := g49.size
  refine wp_region_lit ?_
  refine wp_all [([3], []), ([], [0]), ([], [1]), ([], [])] [2, 5] w37.heap.size hf38 g53.size (by kernel_rfl) (bund_cons (hb46.ownp hv45) bund_nil) ?_
  refine ch rfl (ob_load_nm (ArgOK.ownp (arg_free 0 rfl rfl))) ?_
  refine ch rfl (ob_call1 (by kernel_rfl) (c_Digits) (arg_op 0 0 rfl rfl rfl rfl)) ?_
  refine ch rfl (ob_len (ArgOK.sl (arg_op 1 0 rfl rfl rfl rfl)) Try.underlying24) ?_
  refine ch rfl (ob_move arg_c) ?_
  refine ch_nil ?_
  intro a57 w58 hf59 hg60 hk61 hn62
  have h63 : Holds (OwnS w37.heap.size _ _) (a57.eval (.tmp 10)) w58 := hn62.at 1 2 rfl rfl rfl
  have h64 : Holds _ (a57.eval (.tmp 11)) w58 := hn62.at 2 1 rfl rfl rfl
  have h65 : Holds _ (a57.eval (.tmp 12)) w58 := hn62.at 3 0 rfl rfl rfl
  have h66 : Holds _ (a57.eval (.tmp 5)) w37 := hk61.holds rfl h51
  have hv67 : Holds (Is (PtrV bk10)) (a57.eval (.tmp 2)) w58 := is_any (hk61.holds rfl hv43)
  have hb68 : Blk bk10 _ w58 := hb44.up hg60
  have g69 : Grow w0 w58 := g47.trans hg60
  have g70 : Grow w2 w58 := g48.trans hg60
  have g71 : Grow w18 w58 := g49.trans hg60
  have g72 : Grow w37 w58 := g53.trans hg60
  clear h51 hv43 hb44 g47 g48 g49 g53 hf38 hk61 hn62
  obtain ⟨V73, h74, hV75⟩ := nameV h63
  clear h63
  refine then_ ?_
  refine wp_block ?_
  refine wp_loopL (α := Nat) (fun i a' w' => Fr 28 a' ∧ (i ≤ 18) ∧ Grow w0 w' ∧ Grow w2 w' ∧ Grow w18 w' ∧ Keep [2, 11] a57 a' ∧ Holds (OwnS w18.heap.size elNm (upTo (sigF s m) 18 i)) (a'.eval (.tmp 5)) w' ∧ Holds (Is (intV (i : Int))) (a'.eval (.tmp 12)) w' ∧ Holds (OwnS w37.heap.size elInt (digits m)) (a'.eval (.tmp 10)) w' ∧ Blk bk10 (nmCells s) w') (fun i => 18 - i) (0) ⟨hf59, (by ((try dsimp only); omega)), g69, g70, g71, Keep.refl _ _, (unV h66 (hV52.up g72)), (is_cast h65 (by first | rfl | (refine congrArg intV ?_; (try dsimp only); omega))), (unV h74 hV75), hb68⟩ ?_
  intro i a76 w77 ⟨hf78, hi80, g81, g82, g83, kk79, h84, h85, h86, hb87⟩
  have h88 : Holds _ (a76.eval (.tmp 11)) w77 := is_any (kk79.holds rfl h64)
  have hv89 : Holds (Is (PtrV bk10)) (a76.eval (.tmp 2)) w77 := is_any (kk79.holds rfl hv67)
  obtain ⟨V90, h91, hV92⟩ := nameV h84
  clear h84
  obtain ⟨V93, h94, hV95⟩ := nameV h86
  clear h86
  refine wp_seq ?_
  refine wp_region_lit ?_
  refine wp_all [([12, 11], [])] [2, 5, 10, 11, 12] w18.heap.size hf78 g83.size (by kernel_rfl) (bund_cons h85 (bund_cons h88 bund_nil)) ?_
  refine ch rfl (ob_lss (arg_free 0 rfl rfl) (arg_free 1 rfl rfl)) ?_
  refine ch_nil ?_
  intro a96 w97 hf98 hg99 hk100 hn101
  have h102 : Holds _ (a96.eval (.tmp 13)) w97 := hn101.at 0 0 rfl rfl rfl
  have h103 : Holds _ (a96.eval (.tmp 5)) w97 := hk100.holds rfl (h91.up hg99)
  have h104 : Holds _ (a96.eval (.tmp 12)) w97 := hk100.holds rfl (h85.up hg99)
  have h105 : Holds _ (a96.eval (.tmp 10)) w97 := hk100.holds rfl (h94.up hg99)
  have h106 : Holds _ (a96.eval (.tmp 11)) w97 := hk100.holds rfl (h88.up hg99)
  have hv107 : Holds (Is (PtrV bk10)) (a96.eval (.tmp 2)) w97 := is_any (hk100.holds rfl hv89)
  have hb108 : Blk bk10 _ w97 := hb87.up hg99
  have g109 : Grow w0 w97 := g81.trans hg99
  have g110 : Grow w2 w97 := g82.trans hg99
  have g111 : Grow w18 w97 := g83.trans hg99
  have kk112 : Keep _ a57 a96 := kk79.trans hk100 rfl
  have hV113 : Holds _ V90 w97 := hV92.up hg99
  have hV114 : Holds _ V93 w97 := hV95.up hg99
  clear h91 h85 h94 h88 hv89 hb87 g81 g82 g83 kk79 hf78 hk100 hn101 hg99 hV92 hV95
  refine then_ ?_
  refine wp_seq ?_
  refine wp_if h102 ?_ ?_
  · intro hc115
    try simp only [digits_len, cond_norm] at hc115
    refine wp_skip ?_
    refine then_ ?_
    refine wp_seq ?_
    refine wp_block ?_
    refine wp_seq ?_
    refine wp_region_lit ?_
    refine wp_all [([12], []), ([10, 12], []), ([], [1]), ([], [0]), ([], [2])] [2, 5, 10, 11, 12] w18.heap.size hf98 g111.size (by kernel_rfl) (bund_cons h104 (bund_cons h105 bund_nil)) ?_
    refine ch rfl (ob_move (arg_free 0 rfl rfl)) ?_
    refine ch rfl (ob_ix (ArgOK.sl (ArgOK.val (arg_free 1 rfl rfl) hV114)) (arg_free 0 rfl rfl) (rfl) ?_ Try.underlying24 szInt) ?_
    · (rw [digits_len]; omega)
    refine ch rfl (ob_load1 (arg_op 1 0 rfl rfl rfl rfl) Try.underlying3 rfl) ?_
    refine ch rfl (ob_assign (arg_op 0 2 rfl rfl rfl rfl)) ?_
    refine ch rfl (ob_assign (arg_op 2 1 rfl rfl rfl rfl)) ?_
    refine ch_nil ?_
    intro a116 w117 hf118 hg119 hk120 hn121
    have h122 : Holds _ (a116.eval (.tmp 6)) w117 := hn121.at 3 1 rfl rfl rfl
    have h123 : Holds _ (a116.eval (.tmp 7)) w117 := hn121.at 4 0 rfl rfl rfl
    have h124 : Holds _ (a116.eval (.tmp 5)) w117 := hk120.holds rfl (h103.up hg119)
    have h125 : Holds _ (a116.eval (.tmp 12)) w117 := hk120.holds rfl (h104.up hg119)
    have h126 : Holds _ (a116.eval (.tmp 10)) w117 := hk120.holds rfl (h105.up hg119)
    have h127 : Holds _ (a116.eval (.tmp 11)) w117 := hk120.holds rfl (h106.up hg119)
    have hv128 : Holds (Is (PtrV bk10)) (a116.eval (.tmp 2)) w117 := is_any (hk120.holds rfl hv107)
    have hb129 : Blk bk10 _ w117 := hb108.up hg119
    have g130 : Grow w0 w117 := g109.trans hg119
    have g131 : Grow w2 w117 := g110.trans hg119
    have g132 : Grow w18 w117 := g111.trans hg119
    have kk133 : Keep _ a57 a116 := kk112.trans hk120 rfl
    have hV134 : Holds _ V90 w117 := hV113.up hg119
    have hV135 : Holds _ V93 w117 := hV114.up hg119
    clear h103 h104 h105 h106 hv107 hb108 g109 g110 g111 kk112 hf98 hk120 hn121 hg119 hV113 hV114
    refine then_ ?_
    have g136 : Grow w117 w117 := Grow.refl _
    have hl137 : bk10 < w117.heap.size := hb129.lt
    have hz138 : w18.heap.size ≤ w117.heap.size := g132.size
    refine wp_region_lit ?_
    refine wp_seg (l1 := [_, _, _, _, _, _, _, _, _]) [([5], []), ([6], []), ([2], []), ([6], []), ([], [2, 3]), ([6], []), ([7], []), ([], [4, 5, 6]), ([], [0, 1])] [2, 5, 10, 11, 12] w117.heap.size hf118 g136.size (by kernel_rfl) (bund_cons h124 (bund_cons h122 (bund_cons (hb129.ownp hv128) (bund_cons h123 bund_nil)))) ?_
    refine ch rfl (ob_move (arg_free 0 rfl rfl)) ?_
    refine ch rfl (ob_move (arg_free 1 rfl rfl)) ?_
    refine ch rfl (ob_load_nm (ArgOK.ownp (arg_free 2 rfl rfl))) ?_
    refine ch rfl (ob_move (arg_free 1 rfl rfl)) ?_
    refine ch rfl (ob_call2 (by kernel_rfl) (c_start) (arg_op 2 1 rfl rfl rfl rfl) (arg_op 3 0 rfl rfl rfl rfl)) ?_
    refine ch rfl (ob_move (arg_free 1 rfl rfl)) ?_
    refine ch rfl (ob_move (arg_free 3 rfl rfl)) ?_
    refine ch rfl (ob_call4 (by kernel_rfl) (c_walk (k := dgN m i) (p := 0) ?_ ?_ ?_) (arg_op 4 2 rfl rfl rfl rfl) (arg_op 5 1 rfl rfl rfl rfl) arg_c (arg_op 6 0 rfl rfl rfl rfl)) ?_
    · (have hd := (dgD m (c := i) (by omega)).2; omega)
    · rfl
    · (rw [Nat.zero_add]; exact (dgD m (by omega)).1)
    refine ch rfl (ob_ixv (arg_op 0 7 rfl rfl rfl rfl) (OwnS.sl hV134) (arg_op 1 6 rfl rfl rfl rfl) (rfl) ?_ Try.underlying39 szNm) ?_
    · (rw [upTo_len (by omega)]; omega)
    refine ch_nil ?_
    intro a139 w140 hf141 hg142 hk143 hn144
    have h145 : Holds _ (a139.eval (.tmp 24)) w140 := hn144.at 7 1 rfl rfl rfl
    have h146 : Holds _ (a139.eval (.tmp 25)) w140 := hn144.at 8 0 rfl rfl rfl
    have h147 : Holds _ (a139.eval (.tmp 5)) w117 := hk143.holds rfl h124
    have h148 : Holds _ (a139.eval (.tmp 12)) w117 := hk143.holds rfl h125
    have h149 : Holds _ (a139.eval (.tmp 10)) w117 := hk143.holds rfl h126
    have h150 : Holds _ (a139.eval (.tmp 11)) w117 := hk143.holds rfl h127
    have hv151 : Holds (Is (PtrV bk10)) (a139.eval (.tmp 2)) w140 := is_any (hk143.holds rfl hv128)
    have hb152 : Blk bk10 _ w140 := hb129.up hg142
    have g153 : Grow w0 w140 := g130.trans hg142
    have g154 : Grow w2 w140 := g131.trans hg142
    have g155 : Grow w18 w140 := g132.trans hg142
    have g156 : Grow w117 w140 := g136.trans hg142
    have kk157 : Keep _ a57 a139 := kk133.trans hk143 rfl
    clear h124 h125 h126 h127 hv128 hb129 g130 g131 g132 g136 kk133 hf118 hk143 hn144
    refine wl_store_elNm h146 (hV134.up g156) g155.size ?_ h145 ?_
    · (rw [upTo_len (by omega)]; omega)
    intro w158 hw159 ho160 hV161
    have g162 : Grow w0 w158 := g153.wr hw159 (by omega)
    have g163 : Grow w2 w158 := g154.wr hw159 (by omega)
    have g164 : Grow w18 w158 := g155.wr hw159 (by omega)
    have h165 : Holds _ (a139.eval (.tmp 5)) w158 := is_any h147
    have h166 : Holds _ (a139.eval (.tmp 12)) w158 := is_any h148
    have h167 : Holds _ (a139.eval (.tmp 10)) w158 := is_any h149
    have h168 : Holds _ (a139.eval (.tmp 11)) w158 := is_any h150
    have hv169 : Holds (Is (PtrV bk10)) (a139.eval (.tmp 2)) w158 := is_any hv151
    have hb170 : Blk bk10 _ w158 := hb152.wr hw159 (by omega)
    have hV171 : Holds _ V93 w158 := OwnS.wr (hV135.up g156) hw159 rfl
    have h172 : Holds _ (a139.eval (.tmp 5)) w158 := is_any h147
    refine wpList_nil ?_
    refine blockN ?_
    refine then_ ?_
    refine wp_region_lit ?_
    refine wp_all [([12], []), ([], [0])] [2, 5, 10, 11] w18.heap.size hf141 g164.size (by kernel_rfl) (bund_cons h166 bund_nil) ?_
    first
      | (refine ch rfl (ob_add' (arg_free 0 rfl rfl) arg_c ?_) ?_; · omega)
      | refine ch rfl (ob_add (arg_free 0 rfl rfl) arg_c) ?_
    refine ch rfl (ob_move (arg_op 0 0 rfl rfl rfl rfl)) ?_
    refine ch_nil ?_
    intro a173 w174 hf175 hg176 hk177 hn178
    have h179 : Holds _ (a173.eval (.tmp 12)) w174 := hn178.at 1 0 rfl rfl rfl
    have h180 : Holds _ (a173.eval (.tmp 10)) w174 := hk177.holds rfl (h167.up hg176)
    have h181 : Holds _ (a173.eval (.tmp 11)) w174 := hk177.holds rfl (h168.up hg176)
    have h182 : Holds _ (a173.eval (.tmp 5)) w174 := hk177.holds rfl (h172.up hg176)
    have hv183 : Holds (Is (PtrV bk10)) (a173.eval (.tmp 2)) w174 := is_any (hk177.holds rfl hv169)
    have hb184 : Blk bk10 _ w174 := hb170.up hg176
    have g185 : Grow w0 w174 := g162.trans hg176
    have g186 : Grow w2 w174 := g163.trans hg176
    have g187 : Grow w18 w174 := g164.trans hg176
    have kk188 : Keep _ a57 a173 := kk157.trans hk177 rfl
    have hV189 : Holds _ V93 w174 := hV171.up hg176
    have hV190 : Holds _ V90 w174 := hV161.up hg176
    clear h167 h168 h172 hv169 hb170 g162 g163 g164 kk157 hf141 hk177 hn178 hg176 hV171 hV161
    refine then_ ?_
    exact ⟨(i + 1), (by ((try dsimp only); omega)), hf175, (by ((try dsimp only); omega)), g185, g186, g187, kk188, (cast_own (upTo_set (f := sigF s m) (by omega)) (unV h182 hV190)), (is_cast h179 (by first | rfl | (refine congrArg intV ?_; (try dsimp only); omega))), (unV h180 hV189), hb184⟩
  · intro hc115
    try simp only [digits_len, cond_norm] at hc115
    obtain rfl : i = 18 := by omega
    refine wp_exit ?_
    refine thenX ?_
    refine thenX ?_
    refine blockX ?_
    refine then_ ?_
    refine wp_seq ?_
    refine wp_region_lit ?_
    refine wp_all [([5], []), ([], [0])] [] w18.heap.size hf98 g111.size (by kernel_rfl) (bund_cons h103 bund_nil) ?_
    refine ch rfl (ob_move (arg_free 0 rfl rfl)) ?_
    refine ch rfl (ob_assign (arg_op 0 0 rfl rfl rfl rfl)) ?_
    refine ch_nil ?_
    intro a191 w192 hf193 hg194 hk195 hn196
    have h197 : Holds _ (a191.eval (.tmp 4)) w192 := hn196.at 1 0 rfl rfl rfl
    have g198 : Grow w0 w192 := g109.trans hg194
    have g199 : Grow w2 w192 := g110.trans hg194
    have g200 : Grow w18 w192 := g111.trans hg194
    have hV201 : Holds _ V90 w192 := hV113.up hg194
    clear g109 g110 g111 hf98 hk195 hn196 hg194 hV113
    refine then_ ?_
    refine wp_ret ?_
    exact ret_tmp rfl hf193 g198 (OwnS.mono (cast_own (upTo_full _ _) (unV h197 hV201)) (by omega))

set_option maxRecDepth 100000 in
theorem c_rSign {s m : UInt64} : Con2 55 (Is (nmV s)) (Is (nmV m)) (fun lo => OwnS lo elNm (vals (sigF s m) 18)) := by
  intro lo v0 v1 w0 hlo hv0 hv1
  refine enter Try.func55 rfl Try.ntmps55 (by simp) ?_
  intro a0 hf0 ha
  have h00 : Holds _ (a0.eval (.tmp 0)) w0 := arg_holds ha rfl hv0
  have h01 : Holds _ (a0.eval (.tmp 1)) w0 := arg_holds ha rfl hv1
  clear ha
  have g0 : Grow w0 w0 := Grow.refl _
  refine wp_seq ?_
  refine wp_region_lit ?_
  refine wp_seg (l1 := [_]) [([0], [])] [1] w0.heap.size hf0 g0.size (by kernel_rfl) (bund_cons h00 bund_nil) ?_
  refine ch rfl (ob_box_nm (arg_free 0 rfl rfl)) ?_
  refine ch_nil ?_
  intro a1 w2 hf3 hg4 hk5 hn6
  have h7 : Holds _ (a1.eval (.tmp 2)) w2 := hn6.at 0 0 rfl rfl rfl
  have h8 : Holds _ (a1.eval (.tmp 1)) w0 := hk5.holds rfl h01
  have g9 : Grow w0 w2 := g0.trans hg4
  obtain ⟨bk10, hl11, hv12, hb13⟩ := OwnB.blk (lo := w0.heap.size) h7
  clear h01 g0 hf0 hk5 hn6
  have g14 : Grow w2 w2 := Grow.refl _
  have hl15 : bk10 < w2.heap.size := hb13.lt
  have hz16 : w0.heap.size ≤ w2.heap.size := g9.size
  refine wp_all [([1], []), ([], [])] [2] w2.heap.size hf3 g14.size (by kernel_rfl) (bund_cons (is_any h8) bund_nil) ?_
  refine ch rfl (ob_box_nm (arg_free 0 rfl rfl)) ?_
  refine ch rfl (ob_assign (arg_cg (G := Any) (fun w => trivial))) ?_
  refine ch_nil ?_
  intro a17 w18 hf19 hg20 hk21 hn22
  have h23 : Holds _ (a17.eval (.tmp 3)) w18 := hn22.at 0 1 rfl rfl rfl
  have hv24 : Holds (Is (PtrV bk10)) (a17.eval (.tmp 2)) w18 := is_any (hk21.holds rfl hv12)
  have hb25 : Blk bk10 _ w18 := hb13.up hg20
  have g26 : Grow w0 w18 := g9.trans hg20
  have g27 : Grow w2 w18 := g14.trans hg20
  obtain ⟨bk28, hl29, hv30, hb31⟩ := OwnB.blk (lo := w2.heap.size) h23
  clear hv12 hb13 g9 g14 hf3 hk21 hn22
  refine then_ ?_
  refine wp_seq ?_
  have g32 : Grow w18 w18 := Grow.refl _
  have hl33 : bk10 < w18.heap.size := hb25.lt
  have hl34 : bk28 < w18.heap.size := hb31.lt
  have hz35 : w2.heap.size ≤ w18.heap.size := g27.size
  refine wp_region_lit ?_
  refine wp_all [([3], []), ([], [0]), ([], [1])] [2] w18.heap.size hf19 g32.size (by kernel_rfl) (bund_cons (hb31.ownp hv30) bund_nil) ?_
  refine ch rfl (ob_load_nm (ArgOK.ownp (arg_free 0 rfl rfl))) ?_
  refine ch rfl (ob_call1 (by kernel_rfl) (c_rDigits) (arg_op 0 0 rfl rfl rfl rfl)) ?_
  refine ch rfl (ob_assign (arg_op 1 0 rfl rfl rfl rfl)) ?_
  refine ch_nil ?_
  intro a36 w37 hf38 hg39 hk40 hn41
  have h42 : Holds (OwnS w18.heap.size _ _) (a36.eval (.tmp 5)) w37 := hn41.at 2 0 rfl rfl rfl
  have hv43 : Holds (Is (PtrV bk10)) (a36.eval (.tmp 2)) w37 := is_any (hk40.holds rfl hv24)
  have hb44 : Blk bk10 _ w37 := hb25.up hg39
  have g45 : Grow w0 w37 := g26.trans hg39
  have g46 : Grow w2 w37 := g27.trans hg39
  have g47 : Grow w18 w37 := g32.trans hg39
  clear hv24 hb25 g26 g27 g32 hf19 hk40 hn41
  obtain ⟨V48, h49, hV50⟩ := nameV h42
  clear h42
  refine then_ ?_
  refine wp_seq ?_
  have g51 : Grow w37 w37 := Grow.refl _
  have hl52 : bk10 < w37.heap.size := hb44.lt
  have hz53 : w18.heap.size ≤ w37.heap.size := g47.size
  refine wp_region_lit ?_
  refine wp_all [([], [])] [2, 5] w37.heap.size hf38 g51.size (by kernel_rfl) bund_nil ?_
  refine ch rfl (ob_assign (arg_cg (G := OwnS w37.heap.size elNm []) (fun w => own_nil))) ?_
  refine ch_nil ?_
  intro a54 w55 hf56 hg57 hk58 hn59
  have h60 : Holds (OwnS w37.heap.size _ _) (a54.eval (.tmp 6)) w55 := hn59.at 0 0 rfl rfl rfl
  have h61 : Holds _ (a54.eval (.tmp 5)) w37 := hk58.holds rfl h49
  have hv62 : Holds (Is (PtrV bk10)) (a54.eval (.tmp 2)) w55 := is_any (hk58.holds rfl hv43)
  have hb63 : Blk bk10 _ w55 := hb44.up hg57
  have g64 : Grow w0 w55 := g45.trans hg57
  have g65 : Grow w2 w55 := g46.trans hg57
  have g66 : Grow w18 w55 := g47.trans hg57
  have g67 : Grow w37 w55 := g51.trans hg57
  clear h49 hv43 hb44 g45 g46 g47 g51 hf38 hk58 hn59
  obtain ⟨V68, h69, hV70⟩ := nameV h60
  clear h60
  refine then_ ?_
  refine wp_seq ?_
  refine wp_seq ?_
  refine wp_region_lit ?_
  refine wp_all [([], [])] [2, 5, 6] w37.heap.size hf56 g67.size (by kernel_rfl) bund_nil ?_
  refine ch rfl (ob_assign arg_c) ?_
  refine ch_nil ?_
  intro a71 w72 hf73 hg74 hk75 hn76
  have h77 : Holds _ (a71.eval (.tmp 7)) w72 := hn76.at 0 0 rfl rfl rfl
  have h78 : Holds _ (a71.eval (.tmp 6)) w72 := hk75.holds rfl (h69.up hg74)
  have h79 : Holds _ (a71.eval (.tmp 5)) w37 := hk75.holds rfl h61
  have hv80 : Holds (Is (PtrV bk10)) (a71.eval (.tmp 2)) w72 := is_any (hk75.holds rfl hv62)
  have hb81 : Blk bk10 _ w72 := hb63.up hg74
  have g82 : Grow w0 w72 := g64.trans hg74
  have g83 : Grow w2 w72 := g65.trans hg74
  have g84 : Grow w18 w72 := g66.trans hg74
  have g85 : Grow w37 w72 := g67.trans hg74
  have hV86 : Holds _ V68 w72 := hV70.up hg74
  clear h69 h61 hv62 hb63 g64 g65 g66 g67 hf56 hk75 hn76 hg74 hV70
  refine then_ ?_
  refine wp_block ?_
  refine wp_loopL (α := Nat) (fun i a' w' => Fr 27 a' ∧ (i ≤ 18) ∧ Grow w0 w' ∧ Grow w2 w' ∧ Grow w18 w' ∧ Grow w37 w' ∧ Keep [2] a71 a' ∧ Holds (OwnS w37.heap.size elNm (vals (sigF s m) i)) (a'.eval (.tmp 6)) w' ∧ Holds (Is (intV (i : Int))) (a'.eval (.tmp 7)) w' ∧ Holds (OwnS w18.heap.size elInt (digits m)) (a'.eval (.tmp 5)) w' ∧ Blk bk10 (nmCells s) w') (fun i => 18 - i) (0) ⟨hf73, (by ((try dsimp only); omega)), g82, g83, g84, g85, Keep.refl _ _, (unV h78 hV86), (is_cast h77 (by first | rfl | (refine congrArg intV ?_; (try dsimp only); omega))), (unV h79 (hV50.up g85)), hb81⟩ ?_
  intro i a87 w88 ⟨hf89, hi91, g92, g93, g94, g95, kk90, h96, h97, h98, hb99⟩
  have hv100 : Holds (Is (PtrV bk10)) (a87.eval (.tmp 2)) w88 := is_any (kk90.holds rfl hv80)
  obtain ⟨V101, h102, hV103⟩ := nameV h96
  clear h96
  obtain ⟨V104, h105, hV106⟩ := nameV h98
  clear h98
  refine wp_seq ?_
  refine wp_seq ?_
  refine wp_region_lit ?_
  refine wp_all [([7], []), ([], [0])] [2, 5, 6, 7] w37.heap.size hf89 g95.size (by kernel_rfl) (bund_cons h97 bund_nil) ?_
  refine ch rfl (ob_move (arg_free 0 rfl rfl)) ?_
  refine ch rfl (ob_lss (arg_op 0 0 rfl rfl rfl rfl) arg_c) ?_
  refine ch_nil ?_
  intro a107 w108 hf109 hg110 hk111 hn112
  have h113 : Holds _ (a107.eval (.tmp 11)) w108 := hn112.at 1 0 rfl rfl rfl
  have h114 : Holds _ (a107.eval (.tmp 6)) w108 := hk111.holds rfl (h102.up hg110)
  have h115 : Holds _ (a107.eval (.tmp 7)) w108 := hk111.holds rfl (h97.up hg110)
  have h116 : Holds _ (a107.eval (.tmp 5)) w108 := hk111.holds rfl (h105.up hg110)
  have hv117 : Holds (Is (PtrV bk10)) (a107.eval (.tmp 2)) w108 := is_any (hk111.holds rfl hv100)
  have hb118 : Blk bk10 _ w108 := hb99.up hg110
  have g119 : Grow w0 w108 := g92.trans hg110
  have g120 : Grow w2 w108 := g93.trans hg110
  have g121 : Grow w18 w108 := g94.trans hg110
  have g122 : Grow w37 w108 := g95.trans hg110
  have kk123 : Keep _ a71 a107 := kk90.trans hk111 rfl
  have hV124 : Holds _ V101 w108 := hV103.up hg110
  have hV125 : Holds _ V104 w108 := hV106.up hg110
  clear h102 h97 h105 hv100 hb99 g92 g93 g94 g95 kk90 hf89 hk111 hn112 hg110 hV103 hV106
  refine then_ ?_
  refine wp_if h113 ?_ ?_
  · intro hc126
    try simp only [digits_len, cond_norm] at hc126
    refine wp_skip ?_
    refine then_ ?_
    refine wp_seq ?_
    refine wp_block ?_
    have g127 : Grow w108 w108 := Grow.refl _
    have hl128 : bk10 < w108.heap.size := hb118.lt
    have hz129 : w37.heap.size ≤ w108.heap.size := g122.size
    refine wp_calm_tail (l1 := [_, _, _, _, _, _, _, _, _, _, _]) [0, 0, 0, 6, 0, 0, 0, 96, 224, 510, 1022, 2047, 4095] [([6], []), ([2], []), ([7], []), ([], [1, 2]), ([7], []), ([5], []), ([7], []), ([], [5, 6]), ([], [7]), ([], [3, 4, 8]), ([], [9])] [2, 5, 6, 7] w108.heap.size hf109 g127.size (by kernel_rfl) (bund_cons h114 (bund_cons (hb118.ownp hv117) (bund_cons h115 (bund_cons h116 bund_nil)))) ?_
    intro ws130 hs131
    refine ch rfl (ob_move (arg_free 0 rfl rfl)) ?_
    refine ch rfl (ob_load_nm (ArgOK.ownp (arg_free 1 rfl rfl))) ?_
    refine ch rfl (ob_move (arg_free 2 rfl rfl)) ?_
    refine ch rfl (ob_call2 (by kernel_rfl) (c_rstart) (arg_op 1 1 rfl rfl rfl rfl) (arg_op 2 0 rfl rfl rfl rfl)) ?_
    refine ch rfl (ob_move (arg_free 2 rfl rfl)) ?_
    refine ch rfl (ob_move (arg_free 3 rfl rfl)) ?_
    refine ch rfl (ob_move (arg_free 2 rfl rfl)) ?_
    refine ch rfl (ob_ix (ArgOK.sl (ArgOK.val (arg_op 5 1 rfl rfl rfl rfl) (hV125.up hs131))) (arg_op 6 0 rfl rfl rfl rfl) (rfl) ?_ Try.underlying24 szInt) ?_
    · (rw [digits_len]; omega)
    refine ch rfl (ob_load1 (arg_op 7 0 rfl rfl rfl rfl) Try.underlying3 rfl) ?_
    refine ch rfl (ob_call4 (by kernel_rfl) (c_rchain (k := dgN m i) (p := 0) ?_ ?_ ?_) (arg_op 3 5 rfl rfl rfl rfl) (arg_op 4 4 rfl rfl rfl rfl) arg_c (arg_op 8 0 rfl rfl rfl rfl)) ?_
    · (have hd := (dgD m (c := i) (by omega)).2; omega)
    · rfl
    · (rw [Nat.zero_add]; exact (dgD m (by omega)).1)
    refine ch rfl (ob_bs1_nm (arg_op 9 0 rfl rfl rfl rfl)) ?_
    refine ch_nil ?_
    intro a132 w133 hf134 hg135 hk136 hn137
    have h138 : Holds _ (a132.eval (.tmp 14)) w133 := hn137.at 0 10 rfl rfl rfl
    have h139 : Holds (OwnF w108.heap.size _ _) (a132.eval (.tmp 24)) w133 := hn137.at 10 0 rfl rfl rfl
    have h140 : Holds _ (a132.eval (.tmp 6)) w108 := hk136.holds rfl h114
    have h141 : Holds _ (a132.eval (.tmp 7)) w108 := hk136.holds rfl h115
    have h142 : Holds _ (a132.eval (.tmp 5)) w108 := hk136.holds rfl h116
    have hv143 : Holds (Is (PtrV bk10)) (a132.eval (.tmp 2)) w133 := is_any (hk136.holds rfl hv117)
    have hb144 : Blk bk10 _ w133 := hb118.up hg135
    have g145 : Grow w0 w133 := g119.trans hg135
    have g146 : Grow w2 w133 := g120.trans hg135
    have g147 : Grow w18 w133 := g121.trans hg135
    have g148 : Grow w37 w133 := g122.trans hg135
    have g149 : Grow w108 w133 := g127.trans hg135
    have kk150 : Keep _ a71 a132 := kk123.trans hk136 rfl
    clear h114 h115 h116 hv117 hb118 g119 g120 g121 g122 g127 kk123 hf109 hk136 hn137
    obtain ⟨V151, h152, hV153⟩ := nameV h139
    clear h139
    refine wl_appendW elNmP [2, 5, 6, 7] hf134 (by kernel_rfl) rfl Try.underlying39 (unV h138 (hV124.up g149)) (OwnS.sl (OwnF.own (unV h152 hV153))) ?_ ?_ g148.size ?_
    · (simp only [vals_len, List.length_cons, List.length_nil, maxLen]; omega)
    · (simp only [vals_len, List.length_cons, List.length_nil, elNm]; omega)
    intro a154 w155 hf156 hw157 hk158 h159
    have g160 : Grow w0 w155 := g145.wr hw157 (by omega)
    have g161 : Grow w2 w155 := g146.wr hw157 (by omega)
    have g162 : Grow w18 w155 := g147.wr hw157 (by omega)
    have g163 : Grow w37 w155 := g148.wr hw157 (by omega)
    have h164 : Holds _ (a154.eval (.tmp 6)) w155 := is_any (hk158.holds rfl h140)
    have h165 : Holds _ (a154.eval (.tmp 7)) w155 := is_any (hk158.holds rfl h141)
    have h166 : Holds _ (a154.eval (.tmp 5)) w155 := is_any (hk158.holds rfl h142)
    have hv167 : Holds (Is (PtrV bk10)) (a154.eval (.tmp 2)) w155 := is_any (hk158.holds rfl hv143)
    have hb168 : Blk bk10 _ w155 := hb144.wr hw157 (by omega)
    have hV169 : Holds _ V104 w155 := OwnS.wr (hV125.up g149) hw157 rfl
    have kk170 : Keep _ a71 a154 := kk150.trans hk158 rfl
    obtain ⟨V171, h172, hV173⟩ := nameV h159
    clear h159
    refine wp_all [([25], [])] [2, 5, 7] w37.heap.size hf156 g163.size (by kernel_rfl) (bund_cons h172 bund_nil) ?_
    refine ch rfl (ob_assign (arg_free 0 rfl rfl)) ?_
    refine ch_nil ?_
    intro a174 w175 hf176 hg177 hk178 hn179
    have h180 : Holds _ (a174.eval (.tmp 6)) w175 := hn179.at 0 0 rfl rfl rfl
    have h181 : Holds _ (a174.eval (.tmp 7)) w175 := hk178.holds rfl (h165.up hg177)
    have h182 : Holds _ (a174.eval (.tmp 5)) w175 := hk178.holds rfl (h166.up hg177)
    have hv183 : Holds (Is (PtrV bk10)) (a174.eval (.tmp 2)) w175 := is_any (hk178.holds rfl hv167)
    have hb184 : Blk bk10 _ w175 := hb168.up hg177
    have g185 : Grow w0 w175 := g160.trans hg177
    have g186 : Grow w2 w175 := g161.trans hg177
    have g187 : Grow w18 w175 := g162.trans hg177
    have g188 : Grow w37 w175 := g163.trans hg177
    have kk189 : Keep _ a71 a174 := kk170.trans hk178 rfl
    have hV190 : Holds _ V104 w175 := hV169.up hg177
    have hV191 : Holds _ V171 w175 := hV173.up hg177
    clear h165 h166 hv167 hb168 g160 g161 g162 g163 kk170 hf156 hk178 hn179 hg177 hV169 hV173
    refine blockN ?_
    refine then_ ?_
    refine wp_region_lit ?_
    refine wp_all [([7], []), ([], [0]), ([], [1])] [2, 5, 6] w37.heap.size hf176 g188.size (by kernel_rfl) (bund_cons h181 bund_nil) ?_
    refine ch rfl (ob_move (arg_free 0 rfl rfl)) ?_
    first
      | (refine ch rfl (ob_add' (arg_op 0 0 rfl rfl rfl rfl) arg_c ?_) ?_; · omega)
      | refine ch rfl (ob_add (arg_op 0 0 rfl rfl rfl rfl) arg_c) ?_
    refine ch rfl (ob_assign (arg_op 1 0 rfl rfl rfl rfl)) ?_
    refine ch_nil ?_
    intro a192 w193 hf194 hg195 hk196 hn197
    have h198 : Holds _ (a192.eval (.tmp 7)) w193 := hn197.at 2 0 rfl rfl rfl
    have h199 : Holds _ (a192.eval (.tmp 6)) w193 := hk196.holds rfl (h180.up hg195)
    have h200 : Holds _ (a192.eval (.tmp 5)) w193 := hk196.holds rfl (h182.up hg195)
    have hv201 : Holds (Is (PtrV bk10)) (a192.eval (.tmp 2)) w193 := is_any (hk196.holds rfl hv183)
    have hb202 : Blk bk10 _ w193 := hb184.up hg195
    have g203 : Grow w0 w193 := g185.trans hg195
    have g204 : Grow w2 w193 := g186.trans hg195
    have g205 : Grow w18 w193 := g187.trans hg195
    have g206 : Grow w37 w193 := g188.trans hg195
    have kk207 : Keep _ a71 a192 := kk189.trans hk196 rfl
    have hV208 : Holds _ V104 w193 := hV190.up hg195
    have hV209 : Holds _ V171 w193 := hV191.up hg195
    clear h180 h182 hv183 hb184 g185 g186 g187 g188 kk189 hf176 hk196 hn197 hg195 hV190 hV191
    refine then_ ?_
    exact ⟨(i + 1), (by ((try dsimp only); omega)), hf194, (by ((try dsimp only); omega)), g203, g204, g205, g206, kk207, (cast_own (vals_succ (sigF s m) i) (unV h199 hV209)), (is_cast h198 (by first | rfl | (refine congrArg intV ?_; (try dsimp only); omega))), (unV h200 hV208), hb202⟩
  · intro hc126
    try simp only [digits_len, cond_norm] at hc126
    obtain rfl : i = 18 := by omega
    refine wp_exit ?_
    refine thenX ?_
    refine thenX ?_
    refine blockX ?_
    refine then_ ?_
    refine wp_seq ?_
    refine wp_region_lit ?_
    refine wp_all [([6], []), ([], [0])] [] w37.heap.size hf109 g122.size (by kernel_rfl) (bund_cons h114 bund_nil) ?_
    refine ch rfl (ob_move (arg_free 0 rfl rfl)) ?_
    refine ch rfl (ob_assign (arg_op 0 0 rfl rfl rfl rfl)) ?_
    refine ch_nil ?_
    intro a210 w211 hf212 hg213 hk214 hn215
    have h216 : Holds _ (a210.eval (.tmp 4)) w211 := hn215.at 1 0 rfl rfl rfl
    have g217 : Grow w0 w211 := g119.trans hg213
    have g218 : Grow w2 w211 := g120.trans hg213
    have g219 : Grow w18 w211 := g121.trans hg213
    have g220 : Grow w37 w211 := g122.trans hg213
    have hV221 : Holds _ V101 w211 := hV124.up hg213
    clear g119 g120 g121 g122 hf109 hk214 hn215 hg213 hV124
    refine then_ ?_
    refine wp_ret ?_
    exact ret_tmp rfl hf212 g217 (OwnS.mono (unV h216 hV221) (by omega))

set_option maxRecDepth 100000 in
theorem c_Recover {m : UInt64} {l : List UInt64} : Con2 50 (Is (nmV m)) (Sl elNm l) (fun _ => Two (Is (nmV (recV m l))) (Is (.bool (decide (l.length = 18))))) := by
  intro lo v0 v1 w0 hlo hv0 hv1
  refine enter Try.func50 rfl Try.ntmps50 (by simp) ?_
  intro a0 hf0 ha
  have h00 : Holds _ (a0.eval (.tmp 0)) w0 := arg_holds ha rfl hv0
  have h01 : Holds (Is v1) (a0.eval (.tmp 1)) w0 := arg_holds ha rfl rfl
  clear ha
  have g0 : Grow w0 w0 := Grow.refl _
  refine wp_seq ?_
  refine wp_region_lit ?_
  refine wp_seg (l1 := [_]) [([0], [])] [1] w0.heap.size hf0 g0.size (by kernel_rfl) (bund_cons h00 bund_nil) ?_
  refine ch rfl (ob_box_nm (arg_free 0 rfl rfl)) ?_
  refine ch_nil ?_
  intro a1 w2 hf3 hg4 hk5 hn6
  have h7 : Holds _ (a1.eval (.tmp 2)) w2 := hn6.at 0 0 rfl rfl rfl
  have h8 : Holds _ (a1.eval (.tmp 1)) w0 := hk5.holds rfl h01
  have g9 : Grow w0 w2 := g0.trans hg4
  obtain ⟨bk10, hl11, hv12, hb13⟩ := OwnB.blk (lo := w0.heap.size) h7
  clear h01 g0 hf0 hk5 hn6
  have g14 : Grow w2 w2 := Grow.refl _
  have hl15 : bk10 < w2.heap.size := hb13.lt
  have hz16 : w0.heap.size ≤ w2.heap.size := g9.size
  refine wp_all [([], []), ([], [])] [1, 2] w2.heap.size hf3 g14.size (by kernel_rfl) bund_nil ?_
  refine ch rfl (ob_alloc_nm) ?_
  refine ch rfl (ob_assign arg_c) ?_
  refine ch_nil ?_
  intro a17 w18 hf19 hg20 hk21 hn22
  have h23 : Holds _ (a17.eval (.tmp 4)) w18 := hn22.at 0 1 rfl rfl rfl
  have h24 : Holds _ (a17.eval (.tmp 1)) w0 := hk21.holds rfl h8
  have hv25 : Holds (Is (PtrV bk10)) (a17.eval (.tmp 2)) w18 := is_any (hk21.holds rfl hv12)
  have hb26 : Blk bk10 _ w18 := hb13.up hg20
  have g27 : Grow w0 w18 := g9.trans hg20
  have g28 : Grow w2 w18 := g14.trans hg20
  obtain ⟨bk29, hl30, hv31, hb32⟩ := OwnB.blk (lo := w2.heap.size) h23
  clear h8 hv12 hb13 g9 g14 hf3 hk21 hn22
  refine then_ ?_
  refine wp_seq ?_
  refine wp_seq ?_
  refine wp_region_lit ?_
  refine wp_all [([1], []), ([], [0]), ([], [1])] [1, 2, 4] w2.heap.size hf19 g28.size (by kernel_rfl) (bund_cons (is_any h24) bund_nil) ?_
  refine ch rfl (ob_move (arg_free 0 rfl rfl)) ?_
  refine ch rfl (ob_len (ArgOK.val (arg_op 0 0 rfl rfl rfl rfl) (hv1.up g27)) Try.underlying39) ?_
  refine ch rfl (ob_neq (arg_op 1 0 rfl rfl rfl rfl) arg_c) ?_
  refine ch_nil ?_
  intro a33 w34 hf35 hg36 hk37 hn38
  have h39 : Holds _ (a33.eval (.tmp 11)) w34 := hn38.at 2 0 rfl rfl rfl
  have h40 : Holds _ (a33.eval (.tmp 1)) w0 := hk37.holds rfl h24
  have hv41 : Holds (Is (PtrV bk10)) (a33.eval (.tmp 2)) w34 := is_any (hk37.holds rfl hv25)
  have hb42 : Blk bk10 _ w34 := hb26.up hg36
  have hv43 : Holds (Is (PtrV bk29)) (a33.eval (.tmp 4)) w34 := is_any (hk37.holds rfl hv31)
  have hb44 : Blk bk29 _ w34 := hb32.up hg36
  have g45 : Grow w0 w34 := g27.trans hg36
  have g46 : Grow w2 w34 := g28.trans hg36
  clear h24 hv25 hb26 hv31 hb32 g27 g28 hf19 hk37 hn38 hg36
  refine then_ ?_
  refine wp_if h39 ?_ ?_
  · intro hc47
    try simp only [digits_len, cond_norm] at hc47
    have hne := hc47
    refine wp_seq ?_
    have g48 : Grow w34 w34 := Grow.refl _
    have hl49 : bk10 < w34.heap.size := hb42.lt
    have hl50 : bk29 < w34.heap.size := hb44.lt
    have hz51 : w2.heap.size ≤ w34.heap.size := g46.size
    refine wp_region_lit ?_
    refine wp_seg (l1 := [_]) [([], [])] [4] w34.heap.size hf35 g48.size (by kernel_rfl) bund_nil ?_
    refine ch rfl (ob_build_nm0) ?_
    refine ch_nil ?_
    intro a52 w53 hf54 hg55 hk56 hn57
    have h58 : Holds _ (a52.eval (.tmp 12)) w53 := hn57.at 0 0 rfl rfl rfl
    have hv59 : Holds (Is (PtrV bk29)) (a52.eval (.tmp 4)) w53 := is_any (hk56.holds rfl hv43)
    have hb60 : Blk bk29 _ w53 := hb44.up hg55
    have g61 : Grow w0 w53 := g45.trans hg55
    have g62 : Grow w2 w53 := g46.trans hg55
    have g63 : Grow w34 w53 := g48.trans hg55
    clear hv43 hb44 g45 g46 g48 hf35 hk56 hn57
    refine wl_store_nm hv59 hb60 rfl h58 ?_
    intro w64 ho65 hb66
    have g67 : Grow w0 w64 := g61.only ho65 (by omega)
    have g68 : Grow w2 w64 := g62.only ho65 (by omega)
    have hv69 : Holds (Is (PtrV bk29)) (a52.eval (.tmp 4)) w64 := is_any hv59
    refine wp_all [([], [])] [4] w2.heap.size hf54 g68.size (by kernel_rfl) bund_nil ?_
    refine ch rfl (ob_assign arg_c) ?_
    refine ch_nil ?_
    intro a70 w71 hf72 hg73 hk74 hn75
    have h76 : Holds _ (a70.eval (.tmp 5)) w71 := hn75.at 0 0 rfl rfl rfl
    have hv77 : Holds (Is (PtrV bk29)) (a70.eval (.tmp 4)) w71 := is_any (hk74.holds rfl hv69)
    have hb78 : Blk bk29 _ w71 := hb66.up hg73
    have g79 : Grow w0 w71 := g67.trans hg73
    have g80 : Grow w2 w71 := g68.trans hg73
    clear hv69 hb66 g67 g68 hf54 hk74 hn75 hg73
    refine then_ ?_
    refine wp_ret ?_
    refine thenR ?_
    refine ret_cell_tmp rfl Try.underlying23 rfl (by kernel_rfl) hf72 g79 (hb78.ptr hv77) ?_ (is_cast h76 (congrArg Value.bool (by first | exact (decide_eq_false (by omega)).symm | exact (decide_eq_true (by omega)).symm)))
    first | exact congrArg nmV (recV_no (by omega)).symm | exact congrArg nmV (by rw [recV_yes (by omega), upTo_full])
  · intro hc47
    try simp only [digits_len, cond_norm] at hc47
    have heq := hc47
    refine wp_skip ?_
    refine then_ ?_
    refine wp_seq ?_
    have g81 : Grow w34 w34 := Grow.refl _
    have hl82 : bk10 < w34.heap.size := hb42.lt
    have hl83 : bk29 < w34.heap.size := hb44.lt
    have hz84 : w2.heap.size ≤ w34.heap.size := g46.size
    refine wp_region_lit ?_
    refine wp_all [([], []), ([], [0])] [1, 2, 4] w34.heap.size hf35 g81.size (by kernel_rfl) bund_nil ?_
    refine ch rfl (ob_makeN elNmP (c := 18) Try.underlying39 arg_c arg_c (by refine ⟨?_, ?_⟩ <;> decide)) ?_
    refine ch rfl (ob_assign (arg_op 0 0 rfl rfl rfl rfl)) ?_
    refine ch_nil ?_
    intro a85 w86 hf87 hg88 hk89 hn90
    have h91 : Holds (OwnS w34.heap.size _ _) (a85.eval (.tmp 6)) w86 := hn90.at 1 0 rfl rfl rfl
    have h92 : Holds _ (a85.eval (.tmp 1)) w0 := hk89.holds rfl h40
    have hv93 : Holds (Is (PtrV bk10)) (a85.eval (.tmp 2)) w86 := is_any (hk89.holds rfl hv41)
    have hb94 : Blk bk10 _ w86 := hb42.up hg88
    have hv95 : Holds (Is (PtrV bk29)) (a85.eval (.tmp 4)) w86 := is_any (hk89.holds rfl hv43)
    have hb96 : Blk bk29 _ w86 := hb44.up hg88
    have g97 : Grow w0 w86 := g45.trans hg88
    have g98 : Grow w2 w86 := g46.trans hg88
    have g99 : Grow w34 w86 := g81.trans hg88
    clear h40 hv41 hb42 hv43 hb44 g45 g46 g81 hf35 hk89 hn90
    obtain ⟨V100, h101, hV102⟩ := nameV h91
    clear h91
    refine then_ ?_
    refine wp_seq ?_
    refine wp_seq ?_
    have g103 : Grow w86 w86 := Grow.refl _
    have hl104 : bk10 < w86.heap.size := hb94.lt
    have hl105 : bk29 < w86.heap.size := hb96.lt
    have hz106 : w34.heap.size ≤ w86.heap.size := g99.size
    refine wp_region_lit ?_
    refine wp_all [([2], []), ([], [0]), ([], [1]), ([], [])] [1, 4, 6] w86.heap.size hf87 g103.size (by kernel_rfl) (bund_cons (hb94.ownp hv93) bund_nil) ?_
    refine ch rfl (ob_load_nm (ArgOK.ownp (arg_free 0 rfl rfl))) ?_
    refine ch rfl (ob_call1 (by kernel_rfl) (c_Digits) (arg_op 0 0 rfl rfl rfl rfl)) ?_
    refine ch rfl (ob_len (ArgOK.sl (arg_op 1 0 rfl rfl rfl rfl)) Try.underlying24) ?_
    refine ch rfl (ob_move arg_c) ?_
    refine ch_nil ?_
    intro a107 w108 hf109 hg110 hk111 hn112
    have h113 : Holds (OwnS w86.heap.size _ _) (a107.eval (.tmp 15)) w108 := hn112.at 1 2 rfl rfl rfl
    have h114 : Holds _ (a107.eval (.tmp 16)) w108 := hn112.at 2 1 rfl rfl rfl
    have h115 : Holds _ (a107.eval (.tmp 17)) w108 := hn112.at 3 0 rfl rfl rfl
    have h116 : Holds _ (a107.eval (.tmp 6)) w86 := hk111.holds rfl h101
    have h117 : Holds _ (a107.eval (.tmp 1)) w0 := hk111.holds rfl h92
    have hv118 : Holds (Is (PtrV bk29)) (a107.eval (.tmp 4)) w108 := is_any (hk111.holds rfl hv95)
    have hb119 : Blk bk29 _ w108 := hb96.up hg110
    have g120 : Grow w0 w108 := g97.trans hg110
    have g121 : Grow w2 w108 := g98.trans hg110
    have g122 : Grow w34 w108 := g99.trans hg110
    have g123 : Grow w86 w108 := g103.trans hg110
    clear h101 h92 hv95 hb96 g97 g98 g99 g103 hf87 hk111 hn112
    obtain ⟨V124, h125, hV126⟩ := nameV h113
    clear h113
    refine then_ ?_
    refine wp_block ?_
    refine wp_loopL (α := Nat) (fun i a' w' => Fr 35 a' ∧ (i ≤ 18) ∧ Grow w0 w' ∧ Grow w2 w' ∧ Grow w34 w' ∧ Keep [1, 4, 16] a107 a' ∧ Holds (OwnS w34.heap.size elNm (upTo (recF m l) 18 i)) (a'.eval (.tmp 6)) w' ∧ Holds (Is (intV (i : Int))) (a'.eval (.tmp 17)) w' ∧ Holds (OwnS w86.heap.size elInt (digits m)) (a'.eval (.tmp 15)) w' ∧ Blk bk29 (nmCells 0) w') (fun i => 18 - i) (0) ⟨hf109, (by ((try dsimp only); omega)), g120, g121, g122, Keep.refl _ _, (unV h116 (hV102.up g123)), (is_cast h115 (by first | rfl | (refine congrArg intV ?_; (try dsimp only); omega))), (unV h125 hV126), hb119⟩ ?_
    intro i a127 w128 ⟨hf129, hi131, g132, g133, g134, kk130, h135, h136, h137, hb138⟩
    have h139 : Holds _ (a127.eval (.tmp 16)) w128 := is_any (kk130.holds rfl h114)
    have h140 : Holds _ (a127.eval (.tmp 1)) w0 := kk130.holds rfl h117
    have hv141 : Holds (Is (PtrV bk29)) (a127.eval (.tmp 4)) w128 := is_any (kk130.holds rfl hv118)
    obtain ⟨V142, h143, hV144⟩ := nameV h135
    clear h135
    obtain ⟨V145, h146, hV147⟩ := nameV h137
    clear h137
    refine wp_seq ?_
    refine wp_region_lit ?_
    refine wp_all [([17, 16], [])] [1, 4, 6, 15, 16, 17] w34.heap.size hf129 g134.size (by kernel_rfl) (bund_cons h136 (bund_cons h139 bund_nil)) ?_
    refine ch rfl (ob_lss (arg_free 0 rfl rfl) (arg_free 1 rfl rfl)) ?_
    refine ch_nil ?_
    intro a148 w149 hf150 hg151 hk152 hn153
    have h154 : Holds _ (a148.eval (.tmp 18)) w149 := hn153.at 0 0 rfl rfl rfl
    have h155 : Holds _ (a148.eval (.tmp 6)) w149 := hk152.holds rfl (h143.up hg151)
    have h156 : Holds _ (a148.eval (.tmp 17)) w149 := hk152.holds rfl (h136.up hg151)
    have h157 : Holds _ (a148.eval (.tmp 15)) w149 := hk152.holds rfl (h146.up hg151)
    have h158 : Holds _ (a148.eval (.tmp 16)) w149 := hk152.holds rfl (h139.up hg151)
    have h159 : Holds _ (a148.eval (.tmp 1)) w0 := hk152.holds rfl h140
    have hv160 : Holds (Is (PtrV bk29)) (a148.eval (.tmp 4)) w149 := is_any (hk152.holds rfl hv141)
    have hb161 : Blk bk29 _ w149 := hb138.up hg151
    have g162 : Grow w0 w149 := g132.trans hg151
    have g163 : Grow w2 w149 := g133.trans hg151
    have g164 : Grow w34 w149 := g134.trans hg151
    have kk165 : Keep _ a107 a148 := kk130.trans hk152 rfl
    have hV166 : Holds _ V142 w149 := hV144.up hg151
    have hV167 : Holds _ V145 w149 := hV147.up hg151
    clear h143 h136 h146 h139 h140 hv141 hb138 g132 g133 g134 kk130 hf129 hk152 hn153 hg151 hV144 hV147
    refine then_ ?_
    refine wp_seq ?_
    refine wp_if h154 ?_ ?_
    · intro hc168
      try simp only [digits_len, cond_norm] at hc168
      refine wp_skip ?_
      refine then_ ?_
      refine wp_seq ?_
      refine wp_block ?_
      refine wp_seq ?_
      refine wp_region_lit ?_
      refine wp_all [([17], []), ([15, 17], []), ([], [1]), ([], [0]), ([], [2])] [1, 4, 6, 15, 16, 17] w34.heap.size hf150 g164.size (by kernel_rfl) (bund_cons h156 (bund_cons h157 bund_nil)) ?_
      refine ch rfl (ob_move (arg_free 0 rfl rfl)) ?_
      refine ch rfl (ob_ix (ArgOK.sl (ArgOK.val (arg_free 1 rfl rfl) hV167)) (arg_free 0 rfl rfl) (rfl) ?_ Try.underlying24 szInt) ?_
      · (rw [digits_len]; omega)
      refine ch rfl (ob_load1 (arg_op 1 0 rfl rfl rfl rfl) Try.underlying3 rfl) ?_
      refine ch rfl (ob_assign (arg_op 0 2 rfl rfl rfl rfl)) ?_
      refine ch rfl (ob_assign (arg_op 2 1 rfl rfl rfl rfl)) ?_
      refine ch_nil ?_
      intro a169 w170 hf171 hg172 hk173 hn174
      have h175 : Holds _ (a169.eval (.tmp 7)) w170 := hn174.at 3 1 rfl rfl rfl
      have h176 : Holds _ (a169.eval (.tmp 8)) w170 := hn174.at 4 0 rfl rfl rfl
      have h177 : Holds _ (a169.eval (.tmp 6)) w170 := hk173.holds rfl (h155.up hg172)
      have h178 : Holds _ (a169.eval (.tmp 17)) w170 := hk173.holds rfl (h156.up hg172)
      have h179 : Holds _ (a169.eval (.tmp 15)) w170 := hk173.holds rfl (h157.up hg172)
      have h180 : Holds _ (a169.eval (.tmp 16)) w170 := hk173.holds rfl (h158.up hg172)
      have h181 : Holds _ (a169.eval (.tmp 1)) w0 := hk173.holds rfl h159
      have hv182 : Holds (Is (PtrV bk29)) (a169.eval (.tmp 4)) w170 := is_any (hk173.holds rfl hv160)
      have hb183 : Blk bk29 _ w170 := hb161.up hg172
      have g184 : Grow w0 w170 := g162.trans hg172
      have g185 : Grow w2 w170 := g163.trans hg172
      have g186 : Grow w34 w170 := g164.trans hg172
      have kk187 : Keep _ a107 a169 := kk165.trans hk173 rfl
      have hV188 : Holds _ V142 w170 := hV166.up hg172
      have hV189 : Holds _ V145 w170 := hV167.up hg172
      clear h155 h156 h157 h158 h159 hv160 hb161 g162 g163 g164 kk165 hf150 hk173 hn174 hg172 hV166 hV167
      refine then_ ?_
      have g190 : Grow w170 w170 := Grow.refl _
      have hl191 : bk29 < w170.heap.size := hb183.lt
      have hz192 : w34.heap.size ≤ w170.heap.size := g186.size
      refine wp_region_lit ?_
      refine wp_seg (l1 := [_, _, _, _, _, _, _, _, _, _]) [([6], []), ([7], []), ([1], []), ([7], []), ([], [2, 3]), ([], [4]), ([7], []), ([8], []), ([], [5, 6, 7]), ([], [0, 1])] [1, 4, 6, 15, 16, 17] w170.heap.size hf171 g190.size (by kernel_rfl) (bund_cons h177 (bund_cons h175 (bund_cons (is_any h181) (bund_cons h176 bund_nil)))) ?_
      refine ch rfl (ob_move (arg_free 0 rfl rfl)) ?_
      refine ch rfl (ob_move (arg_free 1 rfl rfl)) ?_
      refine ch rfl (ob_move (arg_free 2 rfl rfl)) ?_
      refine ch rfl (ob_move (arg_free 1 rfl rfl)) ?_
      refine ch rfl (ob_ix (ArgOK.val (arg_op 2 1 rfl rfl rfl rfl) (hv1.up g184)) (arg_op 3 0 rfl rfl rfl rfl) (rfl) ?_ Try.underlying39 szNm) ?_
      · omega
      refine ch rfl (ob_load_nm (arg_op 4 0 rfl rfl rfl rfl)) ?_
      refine ch rfl (ob_move (arg_free 1 rfl rfl)) ?_
      refine ch rfl (ob_move (arg_free 3 rfl rfl)) ?_
      refine ch rfl (ob_call4 (by kernel_rfl) (c_walk (k := 15 - dgN m i) (p := dgN m i) ?_ ?_ ?_) (arg_op 5 2 rfl rfl rfl rfl) (arg_op 6 1 rfl rfl rfl rfl) (arg_op 7 0 rfl rfl rfl rfl) arg_c) ?_
      · (have hd := (dgD m (c := i) (by omega)).2; omega)
      · exact (dgD m (by omega)).1
      · (have hd := (dgD m (c := i) (by omega)).2; omega)
      refine ch rfl (ob_ixv (arg_op 0 8 rfl rfl rfl rfl) (OwnS.sl hV188) (arg_op 1 7 rfl rfl rfl rfl) (rfl) ?_ Try.underlying39 szNm) ?_
      · (rw [upTo_len (by omega)]; omega)
      refine ch_nil ?_
      intro a193 w194 hf195 hg196 hk197 hn198
      have h199 : Holds _ (a193.eval (.tmp 30)) w194 := hn198.at 8 1 rfl rfl rfl
      have h200 : Holds _ (a193.eval (.tmp 31)) w194 := hn198.at 9 0 rfl rfl rfl
      have h201 : Holds _ (a193.eval (.tmp 6)) w170 := hk197.holds rfl h177
      have h202 : Holds _ (a193.eval (.tmp 17)) w170 := hk197.holds rfl h178
      have h203 : Holds _ (a193.eval (.tmp 15)) w170 := hk197.holds rfl h179
      have h204 : Holds _ (a193.eval (.tmp 16)) w170 := hk197.holds rfl h180
      have h205 : Holds _ (a193.eval (.tmp 1)) w0 := hk197.holds rfl h181
      have hv206 : Holds (Is (PtrV bk29)) (a193.eval (.tmp 4)) w194 := is_any (hk197.holds rfl hv182)
      have hb207 : Blk bk29 _ w194 := hb183.up hg196
      have g208 : Grow w0 w194 := g184.trans hg196
      have g209 : Grow w2 w194 := g185.trans hg196
      have g210 : Grow w34 w194 := g186.trans hg196
      have g211 : Grow w170 w194 := g190.trans hg196
      have kk212 : Keep _ a107 a193 := kk187.trans hk197 rfl
      clear h177 h178 h179 h180 h181 hv182 hb183 g184 g185 g186 g190 kk187 hf171 hk197 hn198
      refine wl_store_elNm h200 (hV188.up g211) g210.size ?_ h199 ?_
      · (rw [upTo_len (by omega)]; omega)
      intro w213 hw214 ho215 hV216
      have g217 : Grow w0 w213 := g208.wr hw214 (by omega)
      have g218 : Grow w2 w213 := g209.wr hw214 (by omega)
      have g219 : Grow w34 w213 := g210.wr hw214 (by omega)
      have h220 : Holds _ (a193.eval (.tmp 6)) w213 := is_any h201
      have h221 : Holds _ (a193.eval (.tmp 17)) w213 := is_any h202
      have h222 : Holds _ (a193.eval (.tmp 15)) w213 := is_any h203
      have h223 : Holds _ (a193.eval (.tmp 16)) w213 := is_any h204
      have h224 : Holds _ (a193.eval (.tmp 1)) w213 := is_any h205
      have hv225 : Holds (Is (PtrV bk29)) (a193.eval (.tmp 4)) w213 := is_any hv206
      have hb226 : Blk bk29 _ w213 := hb207.wr hw214 (by omega)
      have hV227 : Holds _ V145 w213 := OwnS.wr (hV189.up g211) hw214 rfl
      have h228 : Holds _ (a193.eval (.tmp 6)) w213 := is_any h201
      refine wpList_nil ?_
      refine blockN ?_
      refine then_ ?_
      refine wp_region_lit ?_
      refine wp_all [([17], []), ([], [0])] [1, 4, 6, 15, 16] w34.heap.size hf195 g219.size (by kernel_rfl) (bund_cons h221 bund_nil) ?_
      first
        | (refine ch rfl (ob_add' (arg_free 0 rfl rfl) arg_c ?_) ?_; · omega)
        | refine ch rfl (ob_add (arg_free 0 rfl rfl) arg_c) ?_
      refine ch rfl (ob_move (arg_op 0 0 rfl rfl rfl rfl)) ?_
      refine ch_nil ?_
      intro a229 w230 hf231 hg232 hk233 hn234
      have h235 : Holds _ (a229.eval (.tmp 17)) w230 := hn234.at 1 0 rfl rfl rfl
      have h236 : Holds _ (a229.eval (.tmp 15)) w230 := hk233.holds rfl (h222.up hg232)
      have h237 : Holds _ (a229.eval (.tmp 16)) w230 := hk233.holds rfl (h223.up hg232)
      have h238 : Holds _ (a229.eval (.tmp 1)) w230 := hk233.holds rfl (h224.up hg232)
      have h239 : Holds _ (a229.eval (.tmp 6)) w230 := hk233.holds rfl (h228.up hg232)
      have hv240 : Holds (Is (PtrV bk29)) (a229.eval (.tmp 4)) w230 := is_any (hk233.holds rfl hv225)
      have hb241 : Blk bk29 _ w230 := hb226.up hg232
      have g242 : Grow w0 w230 := g217.trans hg232
      have g243 : Grow w2 w230 := g218.trans hg232
      have g244 : Grow w34 w230 := g219.trans hg232
      have kk245 : Keep _ a107 a229 := kk212.trans hk233 rfl
      have hV246 : Holds _ V145 w230 := hV227.up hg232
      have hV247 : Holds _ V142 w230 := hV216.up hg232
      clear h222 h223 h224 h228 hv225 hb226 g217 g218 g219 kk212 hf195 hk233 hn234 hg232 hV227 hV216
      refine then_ ?_
      exact ⟨(i + 1), (by ((try dsimp only); omega)), hf231, (by ((try dsimp only); omega)), g242, g243, g244, kk245, (cast_own (upTo_set (f := recF m l) (by omega)) (unV h239 hV247)), (is_cast h235 (by first | rfl | (refine congrArg intV ?_; (try dsimp only); omega))), (unV h236 hV246), hb241⟩
    · intro hc168
      try simp only [digits_len, cond_norm] at hc168
      obtain rfl : i = 18 := by omega
      refine wp_exit ?_
      refine thenX ?_
      refine thenX ?_
      refine blockX ?_
      refine then_ ?_
      refine wp_seq ?_
      have g248 : Grow w149 w149 := Grow.refl _
      have hl249 : bk29 < w149.heap.size := hb161.lt
      have hz250 : w34.heap.size ≤ w149.heap.size := g164.size
      refine wp_region_lit ?_
      refine wp_seg (l1 := [_, _]) [([6], []), ([], [0])] [4] w149.heap.size hf150 g248.size (by kernel_rfl) (bund_cons h155 bund_nil) ?_
      refine ch rfl (ob_move (arg_free 0 rfl rfl)) ?_
      refine ch rfl (ob_call1 (by kernel_rfl) (c_public ?_) (ArgOK.sl (ArgOK.val (arg_op 0 0 rfl rfl rfl rfl) hV166))) ?_
      · (simp only [upTo_len (Nat.le_refl 18), vals_len]; decide)
      refine ch_nil ?_
      intro a251 w252 hf253 hg254 hk255 hn256
      have h257 : Holds _ (a251.eval (.tmp 34)) w252 := hn256.at 1 0 rfl rfl rfl
      have hv258 : Holds (Is (PtrV bk29)) (a251.eval (.tmp 4)) w252 := is_any (hk255.holds rfl hv160)
      have hb259 : Blk bk29 _ w252 := hb161.up hg254
      have g260 : Grow w0 w252 := g162.trans hg254
      have g261 : Grow w2 w252 := g163.trans hg254
      have g262 : Grow w34 w252 := g164.trans hg254
      have g263 : Grow w149 w252 := g248.trans hg254
      clear hv160 hb161 g162 g163 g164 g248 hf150 hk255 hn256
      refine wl_store_nm hv258 hb259 rfl h257 ?_
      intro w264 ho265 hb266
      have g267 : Grow w0 w264 := g260.only ho265 (by omega)
      have g268 : Grow w2 w264 := g261.only ho265 (by omega)
      have hv269 : Holds (Is (PtrV bk29)) (a251.eval (.tmp 4)) w264 := is_any hv258
      refine wp_all [([], [])] [4] w2.heap.size hf253 g268.size (by kernel_rfl) bund_nil ?_
      refine ch rfl (ob_assign arg_c) ?_
      refine ch_nil ?_
      intro a270 w271 hf272 hg273 hk274 hn275
      have h276 : Holds _ (a270.eval (.tmp 5)) w271 := hn275.at 0 0 rfl rfl rfl
      have hv277 : Holds (Is (PtrV bk29)) (a270.eval (.tmp 4)) w271 := is_any (hk274.holds rfl hv269)
      have hb278 : Blk bk29 _ w271 := hb266.up hg273
      have g279 : Grow w0 w271 := g267.trans hg273
      have g280 : Grow w2 w271 := g268.trans hg273
      clear hv269 hb266 g267 g268 hf253 hk274 hn275 hg273
      refine then_ ?_
      refine wp_ret ?_
      refine ret_cell_tmp rfl Try.underlying23 rfl (by kernel_rfl) hf272 g279 (hb278.ptr hv277) ?_ (is_cast h276 (congrArg Value.bool (by first | exact (decide_eq_false (by omega)).symm | exact (decide_eq_true (by omega)).symm)))
      first | exact congrArg nmV (recV_no (by omega)).symm | exact congrArg nmV (by rw [recV_yes (by omega), upTo_full])

set_option maxRecDepth 100000 in
theorem c_rRecover {m : UInt64} {l : List UInt64} : Con2 51 (Is (nmV m)) (Sl elNm l) (fun _ => Two (Is (nmV (recV m l))) (Is (.bool (decide (l.length = 18))))) := by
  intro lo v0 v1 w0 hlo hv0 hv1
  refine enter Try.func51 rfl Try.ntmps51 (by simp) ?_
  intro a0 hf0 ha
  have h00 : Holds _ (a0.eval (.tmp 0)) w0 := arg_holds ha rfl hv0
  have h01 : Holds (Is v1) (a0.eval (.tmp 1)) w0 := arg_holds ha rfl rfl
  clear ha
  have g0 : Grow w0 w0 := Grow.refl _
  refine wp_seq ?_
  refine wp_region_lit ?_
  refine wp_seg (l1 := [_]) [([0], [])] [1] w0.heap.size hf0 g0.size (by kernel_rfl) (bund_cons h00 bund_nil) ?_
  refine ch rfl (ob_box_nm (arg_free 0 rfl rfl)) ?_
  refine ch_nil ?_
  intro a1 w2 hf3 hg4 hk5 hn6
  have h7 : Holds _ (a1.eval (.tmp 2)) w2 := hn6.at 0 0 rfl rfl rfl
  have h8 : Holds _ (a1.eval (.tmp 1)) w0 := hk5.holds rfl h01
  have g9 : Grow w0 w2 := g0.trans hg4
  obtain ⟨bk10, hl11, hv12, hb13⟩ := OwnB.blk (lo := w0.heap.size) h7
  clear h01 g0 hf0 hk5 hn6
  have g14 : Grow w2 w2 := Grow.refl _
  have hl15 : bk10 < w2.heap.size := hb13.lt
  have hz16 : w0.heap.size ≤ w2.heap.size := g9.size
  refine wp_all [([], []), ([], [])] [1, 2] w2.heap.size hf3 g14.size (by kernel_rfl) bund_nil ?_
  refine ch rfl (ob_alloc_nm) ?_
  refine ch rfl (ob_assign arg_c) ?_
  refine ch_nil ?_
  intro a17 w18 hf19 hg20 hk21 hn22
  have h23 : Holds _ (a17.eval (.tmp 4)) w18 := hn22.at 0 1 rfl rfl rfl
  have h24 : Holds _ (a17.eval (.tmp 1)) w0 := hk21.holds rfl h8
  have hv25 : Holds (Is (PtrV bk10)) (a17.eval (.tmp 2)) w18 := is_any (hk21.holds rfl hv12)
  have hb26 : Blk bk10 _ w18 := hb13.up hg20
  have g27 : Grow w0 w18 := g9.trans hg20
  have g28 : Grow w2 w18 := g14.trans hg20
  obtain ⟨bk29, hl30, hv31, hb32⟩ := OwnB.blk (lo := w2.heap.size) h23
  clear h8 hv12 hb13 g9 g14 hf3 hk21 hn22
  refine then_ ?_
  refine wp_seq ?_
  refine wp_seq ?_
  refine wp_region_lit ?_
  refine wp_all [([1], []), ([], [0]), ([], [1])] [1, 2, 4] w2.heap.size hf19 g28.size (by kernel_rfl) (bund_cons (is_any h24) bund_nil) ?_
  refine ch rfl (ob_move (arg_free 0 rfl rfl)) ?_
  refine ch rfl (ob_len (ArgOK.val (arg_op 0 0 rfl rfl rfl rfl) (hv1.up g27)) Try.underlying39) ?_
  refine ch rfl (ob_neq (arg_op 1 0 rfl rfl rfl rfl) arg_c) ?_
  refine ch_nil ?_
  intro a33 w34 hf35 hg36 hk37 hn38
  have h39 : Holds _ (a33.eval (.tmp 11)) w34 := hn38.at 2 0 rfl rfl rfl
  have h40 : Holds _ (a33.eval (.tmp 1)) w0 := hk37.holds rfl h24
  have hv41 : Holds (Is (PtrV bk10)) (a33.eval (.tmp 2)) w34 := is_any (hk37.holds rfl hv25)
  have hb42 : Blk bk10 _ w34 := hb26.up hg36
  have hv43 : Holds (Is (PtrV bk29)) (a33.eval (.tmp 4)) w34 := is_any (hk37.holds rfl hv31)
  have hb44 : Blk bk29 _ w34 := hb32.up hg36
  have g45 : Grow w0 w34 := g27.trans hg36
  have g46 : Grow w2 w34 := g28.trans hg36
  clear h24 hv25 hb26 hv31 hb32 g27 g28 hf19 hk37 hn38 hg36
  refine then_ ?_
  refine wp_if h39 ?_ ?_
  · intro hc47
    try simp only [digits_len, cond_norm] at hc47
    have hne := hc47
    refine wp_seq ?_
    have g48 : Grow w34 w34 := Grow.refl _
    have hl49 : bk10 < w34.heap.size := hb42.lt
    have hl50 : bk29 < w34.heap.size := hb44.lt
    have hz51 : w2.heap.size ≤ w34.heap.size := g46.size
    refine wp_region_lit ?_
    refine wp_seg (l1 := [_]) [([], [])] [4] w34.heap.size hf35 g48.size (by kernel_rfl) bund_nil ?_
    refine ch rfl (ob_build_nm0) ?_
    refine ch_nil ?_
    intro a52 w53 hf54 hg55 hk56 hn57
    have h58 : Holds _ (a52.eval (.tmp 12)) w53 := hn57.at 0 0 rfl rfl rfl
    have hv59 : Holds (Is (PtrV bk29)) (a52.eval (.tmp 4)) w53 := is_any (hk56.holds rfl hv43)
    have hb60 : Blk bk29 _ w53 := hb44.up hg55
    have g61 : Grow w0 w53 := g45.trans hg55
    have g62 : Grow w2 w53 := g46.trans hg55
    have g63 : Grow w34 w53 := g48.trans hg55
    clear hv43 hb44 g45 g46 g48 hf35 hk56 hn57
    refine wl_store_nm hv59 hb60 rfl h58 ?_
    intro w64 ho65 hb66
    have g67 : Grow w0 w64 := g61.only ho65 (by omega)
    have g68 : Grow w2 w64 := g62.only ho65 (by omega)
    have hv69 : Holds (Is (PtrV bk29)) (a52.eval (.tmp 4)) w64 := is_any hv59
    refine wp_all [([], [])] [4] w2.heap.size hf54 g68.size (by kernel_rfl) bund_nil ?_
    refine ch rfl (ob_assign arg_c) ?_
    refine ch_nil ?_
    intro a70 w71 hf72 hg73 hk74 hn75
    have h76 : Holds _ (a70.eval (.tmp 5)) w71 := hn75.at 0 0 rfl rfl rfl
    have hv77 : Holds (Is (PtrV bk29)) (a70.eval (.tmp 4)) w71 := is_any (hk74.holds rfl hv69)
    have hb78 : Blk bk29 _ w71 := hb66.up hg73
    have g79 : Grow w0 w71 := g67.trans hg73
    have g80 : Grow w2 w71 := g68.trans hg73
    clear hv69 hb66 g67 g68 hf54 hk74 hn75 hg73
    refine then_ ?_
    refine wp_ret ?_
    refine thenR ?_
    refine ret_cell_tmp rfl Try.underlying23 rfl (by kernel_rfl) hf72 g79 (hb78.ptr hv77) ?_ (is_cast h76 (congrArg Value.bool (by first | exact (decide_eq_false (by omega)).symm | exact (decide_eq_true (by omega)).symm)))
    first | exact congrArg nmV (recV_no (by omega)).symm | exact congrArg nmV (recV_yes (by omega)).symm
  · intro hc47
    try simp only [digits_len, cond_norm] at hc47
    have heq := hc47
    refine wp_skip ?_
    refine then_ ?_
    refine wp_seq ?_
    have g81 : Grow w34 w34 := Grow.refl _
    have hl82 : bk10 < w34.heap.size := hb42.lt
    have hl83 : bk29 < w34.heap.size := hb44.lt
    have hz84 : w2.heap.size ≤ w34.heap.size := g46.size
    refine wp_region_lit ?_
    refine wp_all [([2], []), ([], [0]), ([], [1])] [1, 4] w34.heap.size hf35 g81.size (by kernel_rfl) (bund_cons (hb42.ownp hv41) bund_nil) ?_
    refine ch rfl (ob_load_nm (ArgOK.ownp (arg_free 0 rfl rfl))) ?_
    refine ch rfl (ob_call1 (by kernel_rfl) (c_rDigits) (arg_op 0 0 rfl rfl rfl rfl)) ?_
    refine ch rfl (ob_assign (arg_op 1 0 rfl rfl rfl rfl)) ?_
    refine ch_nil ?_
    intro a85 w86 hf87 hg88 hk89 hn90
    have h91 : Holds (OwnS w34.heap.size _ _) (a85.eval (.tmp 6)) w86 := hn90.at 2 0 rfl rfl rfl
    have h92 : Holds _ (a85.eval (.tmp 1)) w0 := hk89.holds rfl h40
    have hv93 : Holds (Is (PtrV bk29)) (a85.eval (.tmp 4)) w86 := is_any (hk89.holds rfl hv43)
    have hb94 : Blk bk29 _ w86 := hb44.up hg88
    have g95 : Grow w0 w86 := g45.trans hg88
    have g96 : Grow w2 w86 := g46.trans hg88
    have g97 : Grow w34 w86 := g81.trans hg88
    clear h40 hv43 hb44 g45 g46 g81 hf35 hk89 hn90
    obtain ⟨V98, h99, hV100⟩ := nameV h91
    clear h91
    refine then_ ?_
    refine wp_seq ?_
    have g101 : Grow w86 w86 := Grow.refl _
    have hl102 : bk29 < w86.heap.size := hb94.lt
    have hz103 : w34.heap.size ≤ w86.heap.size := g97.size
    refine wp_region_lit ?_
    refine wp_all [([], [])] [1, 4, 6] w86.heap.size hf87 g101.size (by kernel_rfl) bund_nil ?_
    refine ch rfl (ob_assign (arg_cg (G := OwnS w86.heap.size elNm []) (fun w => own_nil))) ?_
    refine ch_nil ?_
    intro a104 w105 hf106 hg107 hk108 hn109
    have h110 : Holds (OwnS w86.heap.size _ _) (a104.eval (.tmp 7)) w105 := hn109.at 0 0 rfl rfl rfl
    have h111 : Holds _ (a104.eval (.tmp 6)) w86 := hk108.holds rfl h99
    have h112 : Holds _ (a104.eval (.tmp 1)) w0 := hk108.holds rfl h92
    have hv113 : Holds (Is (PtrV bk29)) (a104.eval (.tmp 4)) w105 := is_any (hk108.holds rfl hv93)
    have hb114 : Blk bk29 _ w105 := hb94.up hg107
    have g115 : Grow w0 w105 := g95.trans hg107
    have g116 : Grow w2 w105 := g96.trans hg107
    have g117 : Grow w34 w105 := g97.trans hg107
    have g118 : Grow w86 w105 := g101.trans hg107
    clear h99 h92 hv93 hb94 g95 g96 g97 g101 hf87 hk108 hn109
    obtain ⟨V119, h120, hV121⟩ := nameV h110
    clear h110
    refine then_ ?_
    refine wp_seq ?_
    refine wp_seq ?_
    refine wp_region_lit ?_
    refine wp_all [([], [])] [1, 4, 6, 7] w86.heap.size hf106 g118.size (by kernel_rfl) bund_nil ?_
    refine ch rfl (ob_assign arg_c) ?_
    refine ch_nil ?_
    intro a122 w123 hf124 hg125 hk126 hn127
    have h128 : Holds _ (a122.eval (.tmp 8)) w123 := hn127.at 0 0 rfl rfl rfl
    have h129 : Holds _ (a122.eval (.tmp 7)) w123 := hk126.holds rfl (h120.up hg125)
    have h130 : Holds _ (a122.eval (.tmp 6)) w86 := hk126.holds rfl h111
    have h131 : Holds _ (a122.eval (.tmp 1)) w0 := hk126.holds rfl h112
    have hv132 : Holds (Is (PtrV bk29)) (a122.eval (.tmp 4)) w123 := is_any (hk126.holds rfl hv113)
    have hb133 : Blk bk29 _ w123 := hb114.up hg125
    have g134 : Grow w0 w123 := g115.trans hg125
    have g135 : Grow w2 w123 := g116.trans hg125
    have g136 : Grow w34 w123 := g117.trans hg125
    have g137 : Grow w86 w123 := g118.trans hg125
    have hV138 : Holds _ V119 w123 := hV121.up hg125
    clear h120 h111 h112 hv113 hb114 g115 g116 g117 g118 hf106 hk126 hn127 hg125 hV121
    refine then_ ?_
    refine wp_block ?_
    refine wp_loopL (α := Nat) (fun i a' w' => Fr 34 a' ∧ (i ≤ 18) ∧ Grow w0 w' ∧ Grow w2 w' ∧ Grow w34 w' ∧ Grow w86 w' ∧ Keep [1, 4] a122 a' ∧ Holds (OwnS w86.heap.size elNm (vals (recF m l) i)) (a'.eval (.tmp 7)) w' ∧ Holds (Is (intV (i : Int))) (a'.eval (.tmp 8)) w' ∧ Holds (OwnS w34.heap.size elInt (digits m)) (a'.eval (.tmp 6)) w' ∧ Blk bk29 (nmCells 0) w') (fun i => 18 - i) (0) ⟨hf124, (by ((try dsimp only); omega)), g134, g135, g136, g137, Keep.refl _ _, (unV h129 hV138), (is_cast h128 (by first | rfl | (refine congrArg intV ?_; (try dsimp only); omega))), (unV h130 (hV100.up g137)), hb133⟩ ?_
    intro i a139 w140 ⟨hf141, hi143, g144, g145, g146, g147, kk142, h148, h149, h150, hb151⟩
    have h152 : Holds _ (a139.eval (.tmp 1)) w0 := kk142.holds rfl h131
    have hv153 : Holds (Is (PtrV bk29)) (a139.eval (.tmp 4)) w140 := is_any (kk142.holds rfl hv132)
    obtain ⟨V154, h155, hV156⟩ := nameV h148
    clear h148
    obtain ⟨V157, h158, hV159⟩ := nameV h150
    clear h150
    refine wp_seq ?_
    refine wp_seq ?_
    refine wp_region_lit ?_
    refine wp_all [([8], []), ([], [0])] [1, 4, 6, 7, 8] w86.heap.size hf141 g147.size (by kernel_rfl) (bund_cons h149 bund_nil) ?_
    refine ch rfl (ob_move (arg_free 0 rfl rfl)) ?_
    refine ch rfl (ob_lss (arg_op 0 0 rfl rfl rfl rfl) arg_c) ?_
    refine ch_nil ?_
    intro a160 w161 hf162 hg163 hk164 hn165
    have h166 : Holds _ (a160.eval (.tmp 16)) w161 := hn165.at 1 0 rfl rfl rfl
    have h167 : Holds _ (a160.eval (.tmp 7)) w161 := hk164.holds rfl (h155.up hg163)
    have h168 : Holds _ (a160.eval (.tmp 8)) w161 := hk164.holds rfl (h149.up hg163)
    have h169 : Holds _ (a160.eval (.tmp 6)) w161 := hk164.holds rfl (h158.up hg163)
    have h170 : Holds _ (a160.eval (.tmp 1)) w0 := hk164.holds rfl h152
    have hv171 : Holds (Is (PtrV bk29)) (a160.eval (.tmp 4)) w161 := is_any (hk164.holds rfl hv153)
    have hb172 : Blk bk29 _ w161 := hb151.up hg163
    have g173 : Grow w0 w161 := g144.trans hg163
    have g174 : Grow w2 w161 := g145.trans hg163
    have g175 : Grow w34 w161 := g146.trans hg163
    have g176 : Grow w86 w161 := g147.trans hg163
    have kk177 : Keep _ a122 a160 := kk142.trans hk164 rfl
    have hV178 : Holds _ V154 w161 := hV156.up hg163
    have hV179 : Holds _ V157 w161 := hV159.up hg163
    clear h155 h149 h158 h152 hv153 hb151 g144 g145 g146 g147 kk142 hf141 hk164 hn165 hg163 hV156 hV159
    refine then_ ?_
    refine wp_if h166 ?_ ?_
    · intro hc180
      try simp only [digits_len, cond_norm] at hc180
      refine wp_skip ?_
      refine then_ ?_
      refine wp_seq ?_
      refine wp_block ?_
      have g181 : Grow w161 w161 := Grow.refl _
      have hl182 : bk29 < w161.heap.size := hb172.lt
      have hz183 : w86.heap.size ≤ w161.heap.size := g176.size
      refine wp_calm_tail (l1 := [_, _, _, _, _, _, _, _, _, _, _, _]) [0, 0, 0, 6, 14, 0, 0, 0, 192, 448, 1022, 2046, 4095, 8191] [([7], []), ([1], []), ([8], []), ([], [1, 2]), ([], [3]), ([8], []), ([6], []), ([8], []), ([], [6, 7]), ([], [8]), ([], [4, 5, 9]), ([], [10])] [1, 4, 6, 7, 8] w161.heap.size hf162 g181.size (by kernel_rfl) (bund_cons h167 (bund_cons (is_any h170) (bund_cons h168 (bund_cons h169 bund_nil)))) ?_
      intro ws184 hs185
      refine ch rfl (ob_move (arg_free 0 rfl rfl)) ?_
      refine ch rfl (ob_move (arg_free 1 rfl rfl)) ?_
      refine ch rfl (ob_move (arg_free 2 rfl rfl)) ?_
      refine ch rfl (ob_ix (ArgOK.val (arg_op 1 1 rfl rfl rfl rfl) ((hv1.up g173).up hs185)) (arg_op 2 0 rfl rfl rfl rfl) (rfl) ?_ Try.underlying39 szNm) ?_
      · omega
      refine ch rfl (ob_load_nm (arg_op 3 0 rfl rfl rfl rfl)) ?_
      refine ch rfl (ob_move (arg_free 2 rfl rfl)) ?_
      refine ch rfl (ob_move (arg_free 3 rfl rfl)) ?_
      refine ch rfl (ob_move (arg_free 2 rfl rfl)) ?_
      refine ch rfl (ob_ix (ArgOK.sl (ArgOK.val (arg_op 6 1 rfl rfl rfl rfl) (hV179.up hs185))) (arg_op 7 0 rfl rfl rfl rfl) (rfl) ?_ Try.underlying24 szInt) ?_
      · (rw [digits_len]; omega)
      refine ch rfl (ob_load1 (arg_op 8 0 rfl rfl rfl rfl) Try.underlying3 rfl) ?_
      refine ch rfl (ob_call4 (by kernel_rfl) (c_rchain (k := 15 - dgN m i) (p := dgN m i) ?_ ?_ ?_) (arg_op 4 5 rfl rfl rfl rfl) (arg_op 5 4 rfl rfl rfl rfl) (arg_op 9 0 rfl rfl rfl rfl) arg_c) ?_
      · (have hd := (dgD m (c := i) (by omega)).2; omega)
      · exact (dgD m (by omega)).1
      · (have hd := (dgD m (c := i) (by omega)).2; omega)
      refine ch rfl (ob_bs1_nm (arg_op 10 0 rfl rfl rfl rfl)) ?_
      refine ch_nil ?_
      intro a186 w187 hf188 hg189 hk190 hn191
      have h192 : Holds _ (a186.eval (.tmp 19)) w187 := hn191.at 0 11 rfl rfl rfl
      have h193 : Holds (OwnF w161.heap.size _ _) (a186.eval (.tmp 30)) w187 := hn191.at 11 0 rfl rfl rfl
      have h194 : Holds _ (a186.eval (.tmp 7)) w161 := hk190.holds rfl h167
      have h195 : Holds _ (a186.eval (.tmp 8)) w161 := hk190.holds rfl h168
      have h196 : Holds _ (a186.eval (.tmp 6)) w161 := hk190.holds rfl h169
      have h197 : Holds _ (a186.eval (.tmp 1)) w0 := hk190.holds rfl h170
      have hv198 : Holds (Is (PtrV bk29)) (a186.eval (.tmp 4)) w187 := is_any (hk190.holds rfl hv171)
      have hb199 : Blk bk29 _ w187 := hb172.up hg189
      have g200 : Grow w0 w187 := g173.trans hg189
      have g201 : Grow w2 w187 := g174.trans hg189
      have g202 : Grow w34 w187 := g175.trans hg189
      have g203 : Grow w86 w187 := g176.trans hg189
      have g204 : Grow w161 w187 := g181.trans hg189
      have kk205 : Keep _ a122 a186 := kk177.trans hk190 rfl
      clear h167 h168 h169 h170 hv171 hb172 g173 g174 g175 g176 g181 kk177 hf162 hk190 hn191
      obtain ⟨V206, h207, hV208⟩ := nameV h193
      clear h193
      refine wl_appendW elNmP [1, 4, 6, 7, 8] hf188 (by kernel_rfl) rfl Try.underlying39 (unV h192 (hV178.up g204)) (OwnS.sl (OwnF.own (unV h207 hV208))) ?_ ?_ g203.size ?_
      · (simp only [vals_len, List.length_cons, List.length_nil, maxLen]; omega)
      · (simp only [vals_len, List.length_cons, List.length_nil, elNm]; omega)
      intro a209 w210 hf211 hw212 hk213 h214
      have g215 : Grow w0 w210 := g200.wr hw212 (by omega)
      have g216 : Grow w2 w210 := g201.wr hw212 (by omega)
      have g217 : Grow w34 w210 := g202.wr hw212 (by omega)
      have g218 : Grow w86 w210 := g203.wr hw212 (by omega)
      have h219 : Holds _ (a209.eval (.tmp 7)) w210 := is_any (hk213.holds rfl h194)
      have h220 : Holds _ (a209.eval (.tmp 8)) w210 := is_any (hk213.holds rfl h195)
      have h221 : Holds _ (a209.eval (.tmp 6)) w210 := is_any (hk213.holds rfl h196)
      have h222 : Holds _ (a209.eval (.tmp 1)) w210 := is_any (hk213.holds rfl h197)
      have hv223 : Holds (Is (PtrV bk29)) (a209.eval (.tmp 4)) w210 := is_any (hk213.holds rfl hv198)
      have hb224 : Blk bk29 _ w210 := hb199.wr hw212 (by omega)
      have hV225 : Holds _ V157 w210 := OwnS.wr (hV179.up g204) hw212 rfl
      have kk226 : Keep _ a122 a209 := kk205.trans hk213 rfl
      obtain ⟨V227, h228, hV229⟩ := nameV h214
      clear h214
      refine wp_all [([31], [])] [1, 4, 6, 8] w86.heap.size hf211 g218.size (by kernel_rfl) (bund_cons h228 bund_nil) ?_
      refine ch rfl (ob_assign (arg_free 0 rfl rfl)) ?_
      refine ch_nil ?_
      intro a230 w231 hf232 hg233 hk234 hn235
      have h236 : Holds _ (a230.eval (.tmp 7)) w231 := hn235.at 0 0 rfl rfl rfl
      have h237 : Holds _ (a230.eval (.tmp 8)) w231 := hk234.holds rfl (h220.up hg233)
      have h238 : Holds _ (a230.eval (.tmp 6)) w231 := hk234.holds rfl (h221.up hg233)
      have h239 : Holds _ (a230.eval (.tmp 1)) w231 := hk234.holds rfl (h222.up hg233)
      have hv240 : Holds (Is (PtrV bk29)) (a230.eval (.tmp 4)) w231 := is_any (hk234.holds rfl hv223)
      have hb241 : Blk bk29 _ w231 := hb224.up hg233
      have g242 : Grow w0 w231 := g215.trans hg233
      have g243 : Grow w2 w231 := g216.trans hg233
      have g244 : Grow w34 w231 := g217.trans hg233
      have g245 : Grow w86 w231 := g218.trans hg233
      have kk246 : Keep _ a122 a230 := kk226.trans hk234 rfl
      have hV247 : Holds _ V157 w231 := hV225.up hg233
      have hV248 : Holds _ V227 w231 := hV229.up hg233
      clear h220 h221 h222 hv223 hb224 g215 g216 g217 g218 kk226 hf211 hk234 hn235 hg233 hV225 hV229
      refine blockN ?_
      refine then_ ?_
      refine wp_region_lit ?_
      refine wp_all [([8], []), ([], [0]), ([], [1])] [1, 4, 6, 7] w86.heap.size hf232 g245.size (by kernel_rfl) (bund_cons h237 bund_nil) ?_
      refine ch rfl (ob_move (arg_free 0 rfl rfl)) ?_
      first
        | (refine ch rfl (ob_add' (arg_op 0 0 rfl rfl rfl rfl) arg_c ?_) ?_; · omega)
        | refine ch rfl (ob_add (arg_op 0 0 rfl rfl rfl rfl) arg_c) ?_
      refine ch rfl (ob_assign (arg_op 1 0 rfl rfl rfl rfl)) ?_
      refine ch_nil ?_
      intro a249 w250 hf251 hg252 hk253 hn254
      have h255 : Holds _ (a249.eval (.tmp 8)) w250 := hn254.at 2 0 rfl rfl rfl
      have h256 : Holds _ (a249.eval (.tmp 7)) w250 := hk253.holds rfl (h236.up hg252)
      have h257 : Holds _ (a249.eval (.tmp 6)) w250 := hk253.holds rfl (h238.up hg252)
      have h258 : Holds _ (a249.eval (.tmp 1)) w250 := hk253.holds rfl (h239.up hg252)
      have hv259 : Holds (Is (PtrV bk29)) (a249.eval (.tmp 4)) w250 := is_any (hk253.holds rfl hv240)
      have hb260 : Blk bk29 _ w250 := hb241.up hg252
      have g261 : Grow w0 w250 := g242.trans hg252
      have g262 : Grow w2 w250 := g243.trans hg252
      have g263 : Grow w34 w250 := g244.trans hg252
      have g264 : Grow w86 w250 := g245.trans hg252
      have kk265 : Keep _ a122 a249 := kk246.trans hk253 rfl
      have hV266 : Holds _ V157 w250 := hV247.up hg252
      have hV267 : Holds _ V227 w250 := hV248.up hg252
      clear h236 h238 h239 hv240 hb241 g242 g243 g244 g245 kk246 hf232 hk253 hn254 hg252 hV247 hV248
      refine then_ ?_
      exact ⟨(i + 1), (by ((try dsimp only); omega)), hf251, (by ((try dsimp only); omega)), g261, g262, g263, g264, kk265, (cast_own (vals_succ (recF m l) i) (unV h256 hV267)), (is_cast h255 (by first | rfl | (refine congrArg intV ?_; (try dsimp only); omega))), (unV h257 hV266), hb260⟩
    · intro hc180
      try simp only [digits_len, cond_norm] at hc180
      obtain rfl : i = 18 := by omega
      refine wp_exit ?_
      refine thenX ?_
      refine thenX ?_
      refine blockX ?_
      refine then_ ?_
      refine wp_seq ?_
      have g268 : Grow w161 w161 := Grow.refl _
      have hl269 : bk29 < w161.heap.size := hb172.lt
      have hz270 : w86.heap.size ≤ w161.heap.size := g176.size
      refine wp_region_lit ?_
      refine wp_seg (l1 := [_, _]) [([7], []), ([], [0])] [4] w161.heap.size hf162 g268.size (by kernel_rfl) (bund_cons h167 bund_nil) ?_
      refine ch rfl (ob_move (arg_free 0 rfl rfl)) ?_
      refine ch rfl (ob_call1 (by kernel_rfl) (c_rends ?_) (ArgOK.sl (ArgOK.val (arg_op 0 0 rfl rfl rfl rfl) hV178))) ?_
      · (simp only [upTo_len (Nat.le_refl 18), vals_len]; decide)
      refine ch_nil ?_
      intro a271 w272 hf273 hg274 hk275 hn276
      have h277 : Holds _ (a271.eval (.tmp 33)) w272 := hn276.at 1 0 rfl rfl rfl
      have hv278 : Holds (Is (PtrV bk29)) (a271.eval (.tmp 4)) w272 := is_any (hk275.holds rfl hv171)
      have hb279 : Blk bk29 _ w272 := hb172.up hg274
      have g280 : Grow w0 w272 := g173.trans hg274
      have g281 : Grow w2 w272 := g174.trans hg274
      have g282 : Grow w34 w272 := g175.trans hg274
      have g283 : Grow w86 w272 := g176.trans hg274
      have g284 : Grow w161 w272 := g268.trans hg274
      clear hv171 hb172 g173 g174 g175 g176 g268 hf162 hk275 hn276
      refine wl_store_nm hv278 hb279 rfl h277 ?_
      intro w285 ho286 hb287
      have g288 : Grow w0 w285 := g280.only ho286 (by omega)
      have g289 : Grow w2 w285 := g281.only ho286 (by omega)
      have hv290 : Holds (Is (PtrV bk29)) (a271.eval (.tmp 4)) w285 := is_any hv278
      refine wp_all [([], [])] [4] w2.heap.size hf273 g289.size (by kernel_rfl) bund_nil ?_
      refine ch rfl (ob_assign arg_c) ?_
      refine ch_nil ?_
      intro a291 w292 hf293 hg294 hk295 hn296
      have h297 : Holds _ (a291.eval (.tmp 5)) w292 := hn296.at 0 0 rfl rfl rfl
      have hv298 : Holds (Is (PtrV bk29)) (a291.eval (.tmp 4)) w292 := is_any (hk295.holds rfl hv290)
      have hb299 : Blk bk29 _ w292 := hb287.up hg294
      have g300 : Grow w0 w292 := g288.trans hg294
      have g301 : Grow w2 w292 := g289.trans hg294
      clear hv290 hb287 g288 g289 hf273 hk295 hn296 hg294
      refine then_ ?_
      refine wp_ret ?_
      refine ret_cell_tmp rfl Try.underlying23 rfl (by kernel_rfl) hf293 g300 (hb299.ptr hv298) ?_ (is_cast h297 (congrArg Value.bool (by first | exact (decide_eq_false (by omega)).symm | exact (decide_eq_true (by omega)).symm)))
      first | exact congrArg nmV (recV_no (by omega)).symm | exact congrArg nmV (recV_yes (by omega)).symm

set_option maxRecDepth 100000 in
theorem c_same4 {a b : List UInt64} (ha : a.length ≤ 1000000) : Con2 54 (Sl elNm a) (Sl elNm b) (fun _ => Is (.bool (decide (a = b)))) := by
  intro lo v0 v1 w0 hlo hv0 hv1
  refine enter Try.func54 rfl Try.ntmps54 (by simp) ?_
  intro a0 hf0 ha
  have h00 : Holds (Is v0) (a0.eval (.tmp 0)) w0 := arg_holds ha rfl rfl
  have h01 : Holds (Is v1) (a0.eval (.tmp 1)) w0 := arg_holds ha rfl rfl
  clear ha
  have g0 : Grow w0 w0 := Grow.refl _
  refine wp_seq ?_
  refine wp_region_lit ?_
  refine wp_all [([], [])] [0, 1] w0.heap.size hf0 g0.size (by kernel_rfl) bund_nil ?_
  refine ch rfl (ob_assign arg_c) ?_
  refine ch_nil ?_
  intro a1 w2 hf3 hg4 hk5 hn6
  have h7 : Holds _ (a1.eval (.tmp 0)) w0 := hk5.holds rfl h00
  have h8 : Holds _ (a1.eval (.tmp 1)) w0 := hk5.holds rfl h01
  have g9 : Grow w0 w2 := g0.trans hg4
  clear h00 h01 g0 hf0 hk5 hn6
  refine then_ ?_
  refine wp_seq ?_
  refine wp_seq ?_
  refine wp_region_lit ?_
  refine wp_all [([0], []), ([], [0]), ([1], []), ([], [2]), ([], [1, 3])] [0, 1] w0.heap.size hf3 g9.size (by kernel_rfl) (bund_cons (is_any h7) (bund_cons (is_any h8) bund_nil)) ?_
  refine ch rfl (ob_move (arg_free 0 rfl rfl)) ?_
  refine ch rfl (ob_len (ArgOK.val (arg_op 0 0 rfl rfl rfl rfl) (hv0.up g9)) Try.underlying39) ?_
  refine ch rfl (ob_move (arg_free 1 rfl rfl)) ?_
  refine ch rfl (ob_len (ArgOK.val (arg_op 2 0 rfl rfl rfl rfl) (hv1.up g9)) Try.underlying39) ?_
  refine ch rfl (ob_neq (arg_op 1 2 rfl rfl rfl rfl) (arg_op 3 0 rfl rfl rfl rfl)) ?_
  refine ch_nil ?_
  intro a10 w11 hf12 hg13 hk14 hn15
  have h16 : Holds _ (a10.eval (.tmp 10)) w11 := hn15.at 4 0 rfl rfl rfl
  have h17 : Holds _ (a10.eval (.tmp 0)) w0 := hk14.holds rfl h7
  have h18 : Holds _ (a10.eval (.tmp 1)) w0 := hk14.holds rfl h8
  have g19 : Grow w0 w11 := g9.trans hg13
  clear h7 h8 g9 hf3 hk14 hn15 hg13
  refine then_ ?_
  refine wp_if h16 ?_ ?_
  · intro hc20
    try simp only [cond_norm] at hc20
    have hs := same_len (a := a) (b := b) (by omega)
    refine wp_seq ?_
    refine wp_region_lit ?_
    refine wp_all [([], [])] [] w0.heap.size hf12 g19.size (by kernel_rfl) bund_nil ?_
    refine ch rfl (ob_assign arg_c) ?_
    refine ch_nil ?_
    intro a21 w22 hf23 hg24 hk25 hn26
    have h27 : Holds _ (a21.eval (.tmp 4)) w22 := hn26.at 0 0 rfl rfl rfl
    have g28 : Grow w0 w22 := g19.trans hg24
    clear g19 hf12 hk25 hn26 hg24
    refine then_ ?_
    refine wp_ret ?_
    refine thenR ?_
    exact ret_tmp rfl hf23 g28 (is_cast h27 (congrArg Value.bool hs))
  · intro hc20
    try simp only [cond_norm] at hc20
    have hlen := hc20
    refine wp_skip ?_
    refine then_ ?_
    refine wp_seq ?_
    refine wp_seq ?_
    refine wp_region_lit ?_
    refine wp_all [([], [])] [0, 1] w0.heap.size hf12 g19.size (by kernel_rfl) bund_nil ?_
    refine ch rfl (ob_assign arg_c) ?_
    refine ch_nil ?_
    intro a29 w30 hf31 hg32 hk33 hn34
    have h35 : Holds _ (a29.eval (.tmp 5)) w30 := hn34.at 0 0 rfl rfl rfl
    have h36 : Holds _ (a29.eval (.tmp 0)) w0 := hk33.holds rfl h17
    have h37 : Holds _ (a29.eval (.tmp 1)) w0 := hk33.holds rfl h18
    have g38 : Grow w0 w30 := g19.trans hg32
    clear h17 h18 g19 hf12 hk33 hn34 hg32
    refine then_ ?_
    refine wp_block ?_
    have g39 : Grow w30 w30 := Grow.refl _
    have hz40 : w0.heap.size ≤ w30.heap.size := g38.size
    refine wp_loopL (α := Nat) (fun i a' w' => Fr 26 a' ∧ (i ≤ a.length) ∧ (a.take i = b.take i) ∧ Grow w0 w' ∧ Grow w30 w' ∧ Keep [0, 1] a29 a' ∧ Holds (Is (intV (i : Int))) (a'.eval (.tmp 5)) w') (fun i => a.length - i) (0) ⟨hf31, (by omega), (by rfl), g38, g39, Keep.refl _ _, (is_cast h35 (by first | rfl | (refine congrArg intV ?_; (try dsimp only); omega)))⟩ ?_
    intro i a41 w42 ⟨hf43, hi45, hi46, g47, g48, kk44, h49⟩
    have h50 : Holds _ (a41.eval (.tmp 0)) w0 := kk44.holds rfl h36
    have h51 : Holds _ (a41.eval (.tmp 1)) w0 := kk44.holds rfl h37
    refine wp_seq ?_
    refine wp_seq ?_
    refine wp_region_lit ?_
    refine wp_all [([5], []), ([0], []), ([], [1]), ([], [0, 2])] [0, 1, 5] w30.heap.size hf43 g48.size (by kernel_rfl) (bund_cons h49 (bund_cons (is_any h50) bund_nil)) ?_
    refine ch rfl (ob_move (arg_free 0 rfl rfl)) ?_
    refine ch rfl (ob_move (arg_free 1 rfl rfl)) ?_
    refine ch rfl (ob_len (ArgOK.val (arg_op 1 0 rfl rfl rfl rfl) (hv0.up g47)) Try.underlying39) ?_
    refine ch rfl (ob_lss (arg_op 0 2 rfl rfl rfl rfl) (arg_op 2 0 rfl rfl rfl rfl)) ?_
    refine ch_nil ?_
    intro a52 w53 hf54 hg55 hk56 hn57
    have h58 : Holds _ (a52.eval (.tmp 14)) w53 := hn57.at 3 0 rfl rfl rfl
    have h59 : Holds _ (a52.eval (.tmp 5)) w53 := hk56.holds rfl (h49.up hg55)
    have h60 : Holds _ (a52.eval (.tmp 0)) w0 := hk56.holds rfl h50
    have h61 : Holds _ (a52.eval (.tmp 1)) w0 := hk56.holds rfl h51
    have g62 : Grow w0 w53 := g47.trans hg55
    have g63 : Grow w30 w53 := g48.trans hg55
    have kk64 : Keep _ a29 a52 := kk44.trans hk56 rfl
    clear h49 h50 h51 g47 g48 kk44 hf43 hk56 hn57 hg55
    refine then_ ?_
    refine wp_if h58 ?_ ?_
    · intro hc65
      try simp only [cond_norm] at hc65
      refine wp_skip ?_
      refine then_ ?_
      refine wp_seq ?_
      refine wp_block ?_
      refine wp_seq ?_
      refine wp_calm [0, 0, 3, 7, 0, 0, 48, 112, 255] [([0], []), ([5], []), ([], [0, 1]), ([], [2]), ([1], []), ([5], []), ([], [4, 5]), ([], [6]), ([], [3, 7])] [0, 1, 5] w30.heap.size hf54 g63.size (by kernel_rfl) (bund_cons (is_any h60) (bund_cons h59 (bund_cons (is_any h61) bund_nil))) ?_
      intro ws66 hs67
      refine ch rfl (ob_move (arg_free 0 rfl rfl)) ?_
      refine ch rfl (ob_move (arg_free 1 rfl rfl)) ?_
      refine ch rfl (ob_ix (ArgOK.val (arg_op 0 1 rfl rfl rfl rfl) ((hv0.up g62).up hs67)) (arg_op 1 0 rfl rfl rfl rfl) (rfl) ?_ Try.underlying39 szNm) ?_
      · omega
      refine ch rfl (ob_load_nm (arg_op 2 0 rfl rfl rfl rfl)) ?_
      refine ch rfl (ob_move (arg_free 2 rfl rfl)) ?_
      refine ch rfl (ob_move (arg_free 1 rfl rfl)) ?_
      refine ch rfl (ob_ix (ArgOK.val (arg_op 4 1 rfl rfl rfl rfl) ((hv1.up g62).up hs67)) (arg_op 5 0 rfl rfl rfl rfl) (rfl) ?_ Try.underlying39 szNm) ?_
      · omega
      refine ch rfl (ob_load_nm (arg_op 6 0 rfl rfl rfl rfl)) ?_
      refine ch rfl (ob_neqnm (arg_op 3 4 rfl rfl rfl rfl) (arg_op 7 0 rfl rfl rfl rfl)) ?_
      refine ch_nil ?_
      intro a68 w69 hf70 hg71 hk72 hn73
      have h74 : Holds _ (a68.eval (.tmp 25)) w69 := hn73.at 8 0 rfl rfl rfl
      have h75 : Holds _ (a68.eval (.tmp 5)) w69 := hk72.holds rfl (h59.up hg71)
      have h76 : Holds _ (a68.eval (.tmp 0)) w0 := hk72.holds rfl h60
      have h77 : Holds _ (a68.eval (.tmp 1)) w0 := hk72.holds rfl h61
      have g78 : Grow w0 w69 := g62.trans hg71
      have g79 : Grow w30 w69 := g63.trans hg71
      have kk80 : Keep _ a29 a68 := kk64.trans hk72 rfl
      clear h59 h60 h61 g62 g63 kk64 hf54 hk72 hn73 hg71
      refine then_ ?_
      refine wp_if h74 ?_ ?_
      · intro hc81
        try simp only [cond_norm] at hc81
        have hs := same_ne hc81
        refine wp_seq ?_
        refine wp_region_lit ?_
        refine wp_all [([], [])] [0, 1] w30.heap.size hf70 g79.size (by kernel_rfl) bund_nil ?_
        refine ch rfl (ob_assign arg_c) ?_
        refine ch_nil ?_
        intro a82 w83 hf84 hg85 hk86 hn87
        have h88 : Holds _ (a82.eval (.tmp 4)) w83 := hn87.at 0 0 rfl rfl rfl
        have h89 : Holds _ (a82.eval (.tmp 0)) w0 := hk86.holds rfl h76
        have h90 : Holds _ (a82.eval (.tmp 1)) w0 := hk86.holds rfl h77
        have g91 : Grow w0 w83 := g78.trans hg85
        have g92 : Grow w30 w83 := g79.trans hg85
        have kk93 : Keep _ a29 a82 := kk80.trans hk86 rfl
        clear h76 h77 g78 g79 kk80 hf70 hk86 hn87 hg85
        refine then_ ?_
        refine wp_ret ?_
        refine blockR ?_
        refine thenR ?_
        refine thenR ?_
        refine blockR ?_
        refine thenR ?_
        exact ret_tmp rfl hf84 g91 (is_cast h88 (congrArg Value.bool hs))
      · intro hc81
        try simp only [cond_norm] at hc81
        have hst := same_step (a := a) (b := b) (i := i) (by assumption) (by first | exact hc81 | exact Classical.not_not.1 hc81) (by omega) (by omega)
        refine wp_skip ?_
        refine blockN ?_
        refine then_ ?_
        refine wp_region_lit ?_
        refine wp_all [([5], []), ([], [0]), ([], [1])] [0, 1] w30.heap.size hf70 g79.size (by kernel_rfl) (bund_cons h75 bund_nil) ?_
        refine ch rfl (ob_move (arg_free 0 rfl rfl)) ?_
        first
          | (refine ch rfl (ob_add' (arg_op 0 0 rfl rfl rfl rfl) arg_c ?_) ?_; · omega)
          | refine ch rfl (ob_add (arg_op 0 0 rfl rfl rfl rfl) arg_c) ?_
        refine ch rfl (ob_assign (arg_op 1 0 rfl rfl rfl rfl)) ?_
        refine ch_nil ?_
        intro a94 w95 hf96 hg97 hk98 hn99
        have h100 : Holds _ (a94.eval (.tmp 5)) w95 := hn99.at 2 0 rfl rfl rfl
        have h101 : Holds _ (a94.eval (.tmp 0)) w0 := hk98.holds rfl h76
        have h102 : Holds _ (a94.eval (.tmp 1)) w0 := hk98.holds rfl h77
        have g103 : Grow w0 w95 := g78.trans hg97
        have g104 : Grow w30 w95 := g79.trans hg97
        have kk105 : Keep _ a29 a94 := kk80.trans hk98 rfl
        clear h76 h77 g78 g79 kk80 hf70 hk98 hn99 hg97
        refine then_ ?_
        exact ⟨(i + 1), (by ((try dsimp only); omega)), hf96, (by omega), (by exact hst), g103, g104, kk105, (is_cast h100 (by first | rfl | (refine congrArg intV ?_; (try dsimp only); omega)))⟩
    · intro hc65
      try simp only [cond_norm] at hc65
      have hs := same_all (a := a) (b := b) (i := i) (by omega) (by assumption) (by omega)
      refine wp_exit ?_
      refine thenX ?_
      refine thenX ?_
      refine blockX ?_
      refine then_ ?_
      refine wp_seq ?_
      refine wp_region_lit ?_
      refine wp_all [([], [])] [] w30.heap.size hf54 g63.size (by kernel_rfl) bund_nil ?_
      refine ch rfl (ob_assign arg_c) ?_
      refine ch_nil ?_
      intro a106 w107 hf108 hg109 hk110 hn111
      have h112 : Holds _ (a106.eval (.tmp 4)) w107 := hn111.at 0 0 rfl rfl rfl
      have g113 : Grow w0 w107 := g62.trans hg109
      have g114 : Grow w30 w107 := g63.trans hg109
      clear g62 g63 hf54 hk110 hn111 hg109
      refine then_ ?_
      refine wp_ret ?_
      exact ret_tmp rfl hf108 g113 (is_cast h112 (congrArg Value.bool hs))

set_option maxRecDepth 100000 in
theorem c_OnetimeRecovers {m : UInt64} {l : List UInt64} : Con2 13 (Is (nmV m)) (Sl elNm l) (fun _ => Is (.bool true)) := by
  intro lo v0 v1 w0 hlo hv0 hv1
  refine enter Try.func13 rfl Try.ntmps13 (by simp) ?_
  intro a0 hf0 ha
  have h00 : Holds _ (a0.eval (.tmp 0)) w0 := arg_holds ha rfl hv0
  have h01 : Holds (Is v1) (a0.eval (.tmp 1)) w0 := arg_holds ha rfl rfl
  clear ha
  have g0 : Grow w0 w0 := Grow.refl _
  refine wp_seq ?_
  refine wp_region_lit ?_
  refine wp_all [([0], []), ([], [])] [1] w0.heap.size hf0 g0.size (by kernel_rfl) (bund_cons h00 bund_nil) ?_
  refine ch rfl (ob_box_nm (arg_free 0 rfl rfl)) ?_
  refine ch rfl (ob_assign arg_c) ?_
  refine ch_nil ?_
  intro a1 w2 hf3 hg4 hk5 hn6
  have h7 : Holds _ (a1.eval (.tmp 2)) w2 := hn6.at 0 1 rfl rfl rfl
  have h8 : Holds _ (a1.eval (.tmp 1)) w0 := hk5.holds rfl h01
  have g9 : Grow w0 w2 := g0.trans hg4
  obtain ⟨bk10, hl11, hv12, hb13⟩ := OwnB.blk (lo := w0.heap.size) h7
  clear h01 g0 hf0 hk5 hn6
  refine then_ ?_
  refine wp_seq ?_
  refine wp_seq ?_
  refine wp_region_lit ?_
  refine wp_all [([1], []), ([], [0]), ([], [1])] [1, 2] w0.heap.size hf3 g9.size (by kernel_rfl) (bund_cons (is_any h8) bund_nil) ?_
  refine ch rfl (ob_move (arg_free 0 rfl rfl)) ?_
  refine ch rfl (ob_len (ArgOK.val (arg_op 0 0 rfl rfl rfl rfl) (hv1.up g9)) Try.underlying39) ?_
  refine ch rfl (ob_gtr (arg_op 1 0 rfl rfl rfl rfl) arg_c) ?_
  refine ch_nil ?_
  intro a14 w15 hf16 hg17 hk18 hn19
  have h20 : Holds _ (a14.eval (.tmp 11)) w15 := hn19.at 2 0 rfl rfl rfl
  have h21 : Holds _ (a14.eval (.tmp 1)) w0 := hk18.holds rfl h8
  have hv22 : Holds (Is (PtrV bk10)) (a14.eval (.tmp 2)) w15 := is_any (hk18.holds rfl hv12)
  have hb23 : Blk bk10 _ w15 := hb13.up hg17
  have g24 : Grow w0 w15 := g9.trans hg17
  clear h8 hv12 hb13 g9 hf3 hk18 hn19 hg17
  refine then_ ?_
  refine wp_if h20 ?_ ?_
  · intro hc25
    try simp only [cond_norm] at hc25
    refine wp_region_lit ?_
    refine wp_all [([1], []), ([], [0]), ([], [1])] [2] w0.heap.size hf16 g24.size (by kernel_rfl) (bund_cons (is_any h21) bund_nil) ?_
    refine ch rfl (ob_move (arg_free 0 rfl rfl)) ?_
    refine ch rfl (ob_slice_to (ArgOK.val (arg_op 0 0 rfl rfl rfl rfl) (hv1.up g24)) arg_c (show (40 : Int) = ((40 : Nat) : Int) from rfl) ?_ Try.underlying39 szNm) ?_
    · omega
    refine ch rfl (ob_assign (arg_op 1 0 rfl rfl rfl rfl)) ?_
    refine ch_nil ?_
    intro a26 w27 hf28 hg29 hk30 hn31
    have h32 : Holds _ (a26.eval (.tmp 1)) w27 := hn31.at 2 0 rfl rfl rfl
    have hv33 : Holds (Is (PtrV bk10)) (a26.eval (.tmp 2)) w27 := is_any (hk30.holds rfl hv22)
    have hb34 : Blk bk10 _ w27 := hb23.up hg29
    have g35 : Grow w0 w27 := g24.trans hg29
    clear hv22 hb23 g24 hf16 hk30 hn31 hg29
    obtain ⟨V36, h37, hV38⟩ := nameV h32
    clear h32
    refine then_ ?_
    refine wp_seq ?_
    have g39 : Grow w27 w27 := Grow.refl _
    have hl40 : bk10 < w27.heap.size := hb34.lt
    have hz41 : w0.heap.size ≤ w27.heap.size := g35.size
    refine wp_region_lit ?_
    refine wp_seg (l1 := [_, _, _, _, _, _, _]) [([2], []), ([1], []), ([], [0, 1]), ([], [2]), ([], [3]), ([], [3]), ([], [])] [1, 2] w27.heap.size hf28 g39.size (by kernel_rfl) (bund_cons (hb34.ownp hv33) (bund_cons h37 bund_nil)) ?_
    refine ch rfl (ob_load_nm (ArgOK.ownp (arg_free 0 rfl rfl))) ?_
    refine ch rfl (ob_move (arg_free 1 rfl rfl)) ?_
    refine ch rfl (ob_call2 (by kernel_rfl) (c_Recover) (arg_op 0 1 rfl rfl rfl rfl) (ArgOK.val (arg_op 1 0 rfl rfl rfl rfl) hV38)) ?_
    refine ch rfl (ob_move (arg_op 2 0 rfl rfl rfl rfl)) ?_
    refine ch rfl (ob_extract0 (arg_op 3 0 rfl rfl rfl rfl)) ?_
    refine ch rfl (ob_extract1 (arg_op 3 1 rfl rfl rfl rfl)) ?_
    refine ch rfl (ob_alloc_nm) ?_
    refine ch_nil ?_
    intro a42 w43 hf44 hg45 hk46 hn47
    have h48 : Holds _ (a42.eval (.tmp 18)) w43 := hn47.at 4 2 rfl rfl rfl
    have h49 : Holds _ (a42.eval (.tmp 19)) w43 := hn47.at 5 1 rfl rfl rfl
    have h50 : Holds _ (a42.eval (.tmp 5)) w43 := hn47.at 6 0 rfl rfl rfl
    have h51 : Holds _ (a42.eval (.tmp 1)) w27 := hk46.holds rfl h37
    have hv52 : Holds (Is (PtrV bk10)) (a42.eval (.tmp 2)) w43 := is_any (hk46.holds rfl hv33)
    have hb53 : Blk bk10 _ w43 := hb34.up hg45
    have g54 : Grow w0 w43 := g35.trans hg45
    have g55 : Grow w27 w43 := g39.trans hg45
    obtain ⟨bk56, hl57, hv58, hb59⟩ := OwnB.blk (lo := w27.heap.size) h50
    clear h37 hv33 hb34 g35 g39 hf28 hk46 hn47
    refine wl_store_nm hv58 hb59 rfl h48 ?_
    intro w60 ho61 hb62
    have g63 : Grow w0 w60 := g54.only ho61 (by omega)
    have g64 : Grow w27 w60 := g55.only ho61 (by omega)
    have h65 : Holds _ (a42.eval (.tmp 19)) w60 := is_any h49
    have hv66 : Holds (Is (PtrV bk10)) (a42.eval (.tmp 2)) w60 := is_any hv52
    have hb67 : Blk bk10 _ w60 := hb53.only ho61 (by omega)
    have hv68 : Holds (Is (PtrV bk56)) (a42.eval (.tmp 5)) w60 := is_any hv58
    refine wp_all [([19], [])] [1, 2, 5] w27.heap.size hf44 g64.size (by kernel_rfl) (bund_cons h65 bund_nil) ?_
    refine ch rfl (ob_assign (arg_free 0 rfl rfl)) ?_
    refine ch_nil ?_
    intro a69 w70 hf71 hg72 hk73 hn74
    have h75 : Holds _ (a69.eval (.tmp 6)) w70 := hn74.at 0 0 rfl rfl rfl
    have h76 : Holds _ (a69.eval (.tmp 1)) w27 := hk73.holds rfl h51
    have hv77 : Holds (Is (PtrV bk10)) (a69.eval (.tmp 2)) w70 := is_any (hk73.holds rfl hv66)
    have hb78 : Blk bk10 _ w70 := hb67.up hg72
    have hv79 : Holds (Is (PtrV bk56)) (a69.eval (.tmp 5)) w70 := is_any (hk73.holds rfl hv68)
    have hb80 : Blk bk56 _ w70 := hb62.up hg72
    have g81 : Grow w0 w70 := g63.trans hg72
    have g82 : Grow w27 w70 := g64.trans hg72
    clear h51 hv66 hb67 hv68 hb62 g63 g64 hf44 hk73 hn74 hg72
    refine then_ ?_
    refine wp_seq ?_
    have g83 : Grow w70 w70 := Grow.refl _
    have hl84 : bk10 < w70.heap.size := hb78.lt
    have hl85 : bk56 < w70.heap.size := hb80.lt
    have hz86 : w27.heap.size ≤ w70.heap.size := g82.size
    refine wp_region_lit ?_
    refine wp_seg (l1 := [_, _, _, _, _, _, _]) [([2], []), ([1], []), ([], [0, 1]), ([], [2]), ([], [3]), ([], [3]), ([], [])] [1, 5, 6] w70.heap.size hf71 g83.size (by kernel_rfl) (bund_cons (hb78.ownp hv77) (bund_cons (is_any h76) bund_nil)) ?_
    refine ch rfl (ob_load_nm (ArgOK.ownp (arg_free 0 rfl rfl))) ?_
    refine ch rfl (ob_move (arg_free 1 rfl rfl)) ?_
    refine ch rfl (ob_call2 (by kernel_rfl) (c_rRecover) (arg_op 0 1 rfl rfl rfl rfl) (ArgOK.val (arg_op 1 0 rfl rfl rfl rfl) (hV38.up g82))) ?_
    refine ch rfl (ob_move (arg_op 2 0 rfl rfl rfl rfl)) ?_
    refine ch rfl (ob_extract0 (arg_op 3 0 rfl rfl rfl rfl)) ?_
    refine ch rfl (ob_extract1 (arg_op 3 1 rfl rfl rfl rfl)) ?_
    refine ch rfl (ob_alloc_nm) ?_
    refine ch_nil ?_
    intro a87 w88 hf89 hg90 hk91 hn92
    have h93 : Holds _ (a87.eval (.tmp 24)) w88 := hn92.at 4 2 rfl rfl rfl
    have h94 : Holds _ (a87.eval (.tmp 25)) w88 := hn92.at 5 1 rfl rfl rfl
    have h95 : Holds _ (a87.eval (.tmp 7)) w88 := hn92.at 6 0 rfl rfl rfl
    have h96 : Holds _ (a87.eval (.tmp 6)) w70 := hk91.holds rfl h75
    have h97 : Holds _ (a87.eval (.tmp 1)) w27 := hk91.holds rfl h76
    have hv98 : Holds (Is (PtrV bk56)) (a87.eval (.tmp 5)) w88 := is_any (hk91.holds rfl hv79)
    have hb99 : Blk bk56 _ w88 := hb80.up hg90
    have g100 : Grow w0 w88 := g81.trans hg90
    have g101 : Grow w27 w88 := g82.trans hg90
    have g102 : Grow w70 w88 := g83.trans hg90
    obtain ⟨bk103, hl104, hv105, hb106⟩ := OwnB.blk (lo := w70.heap.size) h95
    clear h75 h76 hv79 hb80 g81 g82 g83 hf71 hk91 hn92
    refine wl_store_nm hv105 hb106 rfl h93 ?_
    intro w107 ho108 hb109
    have g110 : Grow w0 w107 := g100.only ho108 (by omega)
    have g111 : Grow w27 w107 := g101.only ho108 (by omega)
    have g112 : Grow w70 w107 := g102.only ho108 (by omega)
    have h113 : Holds _ (a87.eval (.tmp 25)) w107 := is_any h94
    have hv114 : Holds (Is (PtrV bk56)) (a87.eval (.tmp 5)) w107 := is_any hv98
    have hb115 : Blk bk56 _ w107 := hb99.only ho108 (by omega)
    have hv116 : Holds (Is (PtrV bk103)) (a87.eval (.tmp 7)) w107 := is_any hv105
    refine wp_all [([25], [])] [1, 5, 6, 7] w70.heap.size hf89 g112.size (by kernel_rfl) (bund_cons h113 bund_nil) ?_
    refine ch rfl (ob_assign (arg_free 0 rfl rfl)) ?_
    refine ch_nil ?_
    intro a117 w118 hf119 hg120 hk121 hn122
    have h123 : Holds _ (a117.eval (.tmp 8)) w118 := hn122.at 0 0 rfl rfl rfl
    have h124 : Holds _ (a117.eval (.tmp 6)) w70 := hk121.holds rfl h96
    have h125 : Holds _ (a117.eval (.tmp 1)) w27 := hk121.holds rfl h97
    have hv126 : Holds (Is (PtrV bk56)) (a117.eval (.tmp 5)) w118 := is_any (hk121.holds rfl hv114)
    have hb127 : Blk bk56 _ w118 := hb115.up hg120
    have hv128 : Holds (Is (PtrV bk103)) (a117.eval (.tmp 7)) w118 := is_any (hk121.holds rfl hv116)
    have hb129 : Blk bk103 _ w118 := hb109.up hg120
    have g130 : Grow w0 w118 := g110.trans hg120
    have g131 : Grow w27 w118 := g111.trans hg120
    have g132 : Grow w70 w118 := g112.trans hg120
    clear h96 h97 hv114 hb115 hv116 hb109 g110 g111 g112 hf89 hk121 hn122 hg120
    refine then_ ?_
    refine wp_seq ?_
    have g133 : Grow w118 w118 := Grow.refl _
    have hl134 : bk56 < w118.heap.size := hb127.lt
    have hl135 : bk103 < w118.heap.size := hb129.lt
    have hz136 : w70.heap.size ≤ w118.heap.size := g132.size
    refine wp_region_lit ?_
    refine wp_all [([5], []), ([7], []), ([], [0, 1]), ([], [2]), ([6], [3]), ([8], [3]), ([], [4, 5, 3]), ([], [3, 6]), ([], [7]), ([6], [8]), ([1], [8]), ([], [10, 8]), ([], [11, 8]), ([], [9, 12, 8]), ([], [8, 13]), ([], [14]), ([], [15]), ([], [15, 16]), ([], [17])] [] w118.heap.size hf119 g133.size (by kernel_rfl) (bund_cons (hb127.ownp hv126) (bund_cons (hb129.ownp hv128) (bund_cons (is_any h124) (bund_cons h123 (bund_cons (is_any h125) bund_nil))))) ?_
    refine ch rfl (ob_load_nm (ArgOK.ownp (arg_free 0 rfl rfl))) ?_
    refine ch rfl (ob_load_nm (ArgOK.ownp (arg_free 1 rfl rfl))) ?_
    refine ch rfl (ob_eqnm (arg_op 0 1 rfl rfl rfl rfl) (arg_op 1 0 rfl rfl rfl rfl)) ?_
    refine ch rfl (ob_move (arg_op 2 0 rfl rfl rfl rfl)) ?_
    refine chg (b := _) rfl rfl (arg_op 3 0 rfl rfl rfl rfl) (fun hb3 => ob_move (arg_free 2 rfl rfl)) ?_
    refine chg (b := _) rfl rfl (arg_op 3 1 rfl rfl rfl rfl) (fun hb3 => ob_move (arg_free 3 rfl rfl)) ?_
    refine chg (b := _) rfl rfl (arg_op 3 2 rfl rfl rfl rfl) (fun hb3 => ob_eqbool (ArgOK.when (arg_op 4 1 rfl rfl rfl rfl) hb3) (ArgOK.when (arg_op 5 0 rfl rfl rfl rfl) hb3) Try.underlying4) ?_
    refine ch rfl (ob_and (arg_op 3 3 rfl rfl rfl rfl) (arg_op 6 0 rfl rfl rfl rfl)) ?_
    refine ch rfl (ob_move (arg_op 7 0 rfl rfl rfl rfl)) ?_
    refine chg (b := _) rfl rfl (arg_op 8 0 rfl rfl rfl rfl) (fun hb8 => ob_move (arg_free 2 rfl rfl)) ?_
    refine chg (b := _) rfl rfl (arg_op 8 1 rfl rfl rfl rfl) (fun hb8 => ob_move (arg_free 4 rfl rfl)) ?_
    refine chg (b := _) rfl rfl (arg_op 8 2 rfl rfl rfl rfl) (fun hb8 => ob_len (ArgOK.val (ArgOK.when (arg_op 10 0 rfl rfl rfl rfl) hb8) (hV38.up g131)) Try.underlying39) ?_
    refine chg (b := _) rfl rfl (arg_op 8 3 rfl rfl rfl rfl) (fun hb8 => ob_eql (ArgOK.when (arg_op 11 0 rfl rfl rfl rfl) hb8) arg_c) ?_
    refine chg (b := _) rfl rfl (arg_op 8 4 rfl rfl rfl rfl) (fun hb8 => ob_eqbool (ArgOK.when (arg_op 9 3 rfl rfl rfl rfl) hb8) (ArgOK.when (arg_op 12 0 rfl rfl rfl rfl) hb8) Try.underlying4) ?_
    refine ch rfl (ob_and (arg_op 8 5 rfl rfl rfl rfl) (arg_op 13 0 rfl rfl rfl rfl)) ?_
    refine ch rfl (ob_move (arg_op 14 0 rfl rfl rfl rfl)) ?_
    refine chg (b := _) rfl rfl (arg_op 15 0 rfl rfl rfl rfl) (fun hb15 => ob_call0 (by kernel_rfl) (c_awake4) ) ?_
    refine ch rfl (ob_and (arg_op 15 1 rfl rfl rfl rfl) (arg_op 16 0 rfl rfl rfl rfl)) ?_
    refine ch rfl (ob_assign (arg_op 17 0 rfl rfl rfl rfl)) ?_
    refine ch_nil ?_
    intro a137 w138 hf139 hg140 hk141 hn142
    have h143 : Holds _ (a137.eval (.tmp 4)) w138 := hn142.at 18 0 rfl rfl rfl
    have g144 : Grow w0 w138 := g130.trans hg140
    have g145 : Grow w27 w138 := g131.trans hg140
    have g146 : Grow w70 w138 := g132.trans hg140
    have g147 : Grow w118 w138 := g133.trans hg140
    clear g130 g131 g132 g133 hf119 hk141 hn142
    refine then_ ?_
    refine wp_ret ?_
    exact ret_tmp rfl hf139 g144 (is_cast h143 (congrArg Value.bool (by simp only [int18]; simp)))
  · intro hc25
    try simp only [cond_norm] at hc25
    refine wp_skip ?_
    refine then_ ?_
    refine wp_seq ?_
    have g148 : Grow w15 w15 := Grow.refl _
    have hl149 : bk10 < w15.heap.size := hb23.lt
    have hz150 : w0.heap.size ≤ w15.heap.size := g24.size
    refine wp_region_lit ?_
    refine wp_seg (l1 := [_, _, _, _, _, _, _]) [([2], []), ([1], []), ([], [0, 1]), ([], [2]), ([], [3]), ([], [3]), ([], [])] [1, 2] w15.heap.size hf16 g148.size (by kernel_rfl) (bund_cons (hb23.ownp hv22) (bund_cons (is_any h21) bund_nil)) ?_
    refine ch rfl (ob_load_nm (ArgOK.ownp (arg_free 0 rfl rfl))) ?_
    refine ch rfl (ob_move (arg_free 1 rfl rfl)) ?_
    refine ch rfl (ob_call2 (by kernel_rfl) (c_Recover) (arg_op 0 1 rfl rfl rfl rfl) (ArgOK.val (arg_op 1 0 rfl rfl rfl rfl) (hv1.up g24))) ?_
    refine ch rfl (ob_move (arg_op 2 0 rfl rfl rfl rfl)) ?_
    refine ch rfl (ob_extract0 (arg_op 3 0 rfl rfl rfl rfl)) ?_
    refine ch rfl (ob_extract1 (arg_op 3 1 rfl rfl rfl rfl)) ?_
    refine ch rfl (ob_alloc_nm) ?_
    refine ch_nil ?_
    intro a151 w152 hf153 hg154 hk155 hn156
    have h157 : Holds _ (a151.eval (.tmp 18)) w152 := hn156.at 4 2 rfl rfl rfl
    have h158 : Holds _ (a151.eval (.tmp 19)) w152 := hn156.at 5 1 rfl rfl rfl
    have h159 : Holds _ (a151.eval (.tmp 5)) w152 := hn156.at 6 0 rfl rfl rfl
    have h160 : Holds _ (a151.eval (.tmp 1)) w0 := hk155.holds rfl h21
    have hv161 : Holds (Is (PtrV bk10)) (a151.eval (.tmp 2)) w152 := is_any (hk155.holds rfl hv22)
    have hb162 : Blk bk10 _ w152 := hb23.up hg154
    have g163 : Grow w0 w152 := g24.trans hg154
    have g164 : Grow w15 w152 := g148.trans hg154
    obtain ⟨bk165, hl166, hv167, hb168⟩ := OwnB.blk (lo := w15.heap.size) h159
    clear h21 hv22 hb23 g24 g148 hf16 hk155 hn156
    refine wl_store_nm hv167 hb168 rfl h157 ?_
    intro w169 ho170 hb171
    have g172 : Grow w0 w169 := g163.only ho170 (by omega)
    have g173 : Grow w15 w169 := g164.only ho170 (by omega)
    have h174 : Holds _ (a151.eval (.tmp 19)) w169 := is_any h158
    have hv175 : Holds (Is (PtrV bk10)) (a151.eval (.tmp 2)) w169 := is_any hv161
    have hb176 : Blk bk10 _ w169 := hb162.only ho170 (by omega)
    have hv177 : Holds (Is (PtrV bk165)) (a151.eval (.tmp 5)) w169 := is_any hv167
    refine wp_all [([19], [])] [1, 2, 5] w15.heap.size hf153 g173.size (by kernel_rfl) (bund_cons h174 bund_nil) ?_
    refine ch rfl (ob_assign (arg_free 0 rfl rfl)) ?_
    refine ch_nil ?_
    intro a178 w179 hf180 hg181 hk182 hn183
    have h184 : Holds _ (a178.eval (.tmp 6)) w179 := hn183.at 0 0 rfl rfl rfl
    have h185 : Holds _ (a178.eval (.tmp 1)) w0 := hk182.holds rfl h160
    have hv186 : Holds (Is (PtrV bk10)) (a178.eval (.tmp 2)) w179 := is_any (hk182.holds rfl hv175)
    have hb187 : Blk bk10 _ w179 := hb176.up hg181
    have hv188 : Holds (Is (PtrV bk165)) (a178.eval (.tmp 5)) w179 := is_any (hk182.holds rfl hv177)
    have hb189 : Blk bk165 _ w179 := hb171.up hg181
    have g190 : Grow w0 w179 := g172.trans hg181
    have g191 : Grow w15 w179 := g173.trans hg181
    clear h160 hv175 hb176 hv177 hb171 g172 g173 hf153 hk182 hn183 hg181
    refine then_ ?_
    refine wp_seq ?_
    have g192 : Grow w179 w179 := Grow.refl _
    have hl193 : bk10 < w179.heap.size := hb187.lt
    have hl194 : bk165 < w179.heap.size := hb189.lt
    have hz195 : w15.heap.size ≤ w179.heap.size := g191.size
    refine wp_region_lit ?_
    refine wp_seg (l1 := [_, _, _, _, _, _, _]) [([2], []), ([1], []), ([], [0, 1]), ([], [2]), ([], [3]), ([], [3]), ([], [])] [1, 5, 6] w179.heap.size hf180 g192.size (by kernel_rfl) (bund_cons (hb187.ownp hv186) (bund_cons (is_any h185) bund_nil)) ?_
    refine ch rfl (ob_load_nm (ArgOK.ownp (arg_free 0 rfl rfl))) ?_
    refine ch rfl (ob_move (arg_free 1 rfl rfl)) ?_
    refine ch rfl (ob_call2 (by kernel_rfl) (c_rRecover) (arg_op 0 1 rfl rfl rfl rfl) (ArgOK.val (arg_op 1 0 rfl rfl rfl rfl) (hv1.up g190))) ?_
    refine ch rfl (ob_move (arg_op 2 0 rfl rfl rfl rfl)) ?_
    refine ch rfl (ob_extract0 (arg_op 3 0 rfl rfl rfl rfl)) ?_
    refine ch rfl (ob_extract1 (arg_op 3 1 rfl rfl rfl rfl)) ?_
    refine ch rfl (ob_alloc_nm) ?_
    refine ch_nil ?_
    intro a196 w197 hf198 hg199 hk200 hn201
    have h202 : Holds _ (a196.eval (.tmp 24)) w197 := hn201.at 4 2 rfl rfl rfl
    have h203 : Holds _ (a196.eval (.tmp 25)) w197 := hn201.at 5 1 rfl rfl rfl
    have h204 : Holds _ (a196.eval (.tmp 7)) w197 := hn201.at 6 0 rfl rfl rfl
    have h205 : Holds _ (a196.eval (.tmp 6)) w179 := hk200.holds rfl h184
    have h206 : Holds _ (a196.eval (.tmp 1)) w0 := hk200.holds rfl h185
    have hv207 : Holds (Is (PtrV bk165)) (a196.eval (.tmp 5)) w197 := is_any (hk200.holds rfl hv188)
    have hb208 : Blk bk165 _ w197 := hb189.up hg199
    have g209 : Grow w0 w197 := g190.trans hg199
    have g210 : Grow w15 w197 := g191.trans hg199
    have g211 : Grow w179 w197 := g192.trans hg199
    obtain ⟨bk212, hl213, hv214, hb215⟩ := OwnB.blk (lo := w179.heap.size) h204
    clear h184 h185 hv188 hb189 g190 g191 g192 hf180 hk200 hn201
    refine wl_store_nm hv214 hb215 rfl h202 ?_
    intro w216 ho217 hb218
    have g219 : Grow w0 w216 := g209.only ho217 (by omega)
    have g220 : Grow w15 w216 := g210.only ho217 (by omega)
    have g221 : Grow w179 w216 := g211.only ho217 (by omega)
    have h222 : Holds _ (a196.eval (.tmp 25)) w216 := is_any h203
    have hv223 : Holds (Is (PtrV bk165)) (a196.eval (.tmp 5)) w216 := is_any hv207
    have hb224 : Blk bk165 _ w216 := hb208.only ho217 (by omega)
    have hv225 : Holds (Is (PtrV bk212)) (a196.eval (.tmp 7)) w216 := is_any hv214
    refine wp_all [([25], [])] [1, 5, 6, 7] w179.heap.size hf198 g221.size (by kernel_rfl) (bund_cons h222 bund_nil) ?_
    refine ch rfl (ob_assign (arg_free 0 rfl rfl)) ?_
    refine ch_nil ?_
    intro a226 w227 hf228 hg229 hk230 hn231
    have h232 : Holds _ (a226.eval (.tmp 8)) w227 := hn231.at 0 0 rfl rfl rfl
    have h233 : Holds _ (a226.eval (.tmp 6)) w179 := hk230.holds rfl h205
    have h234 : Holds _ (a226.eval (.tmp 1)) w0 := hk230.holds rfl h206
    have hv235 : Holds (Is (PtrV bk165)) (a226.eval (.tmp 5)) w227 := is_any (hk230.holds rfl hv223)
    have hb236 : Blk bk165 _ w227 := hb224.up hg229
    have hv237 : Holds (Is (PtrV bk212)) (a226.eval (.tmp 7)) w227 := is_any (hk230.holds rfl hv225)
    have hb238 : Blk bk212 _ w227 := hb218.up hg229
    have g239 : Grow w0 w227 := g219.trans hg229
    have g240 : Grow w15 w227 := g220.trans hg229
    have g241 : Grow w179 w227 := g221.trans hg229
    clear h205 h206 hv223 hb224 hv225 hb218 g219 g220 g221 hf198 hk230 hn231 hg229
    refine then_ ?_
    refine wp_seq ?_
    have g242 : Grow w227 w227 := Grow.refl _
    have hl243 : bk165 < w227.heap.size := hb236.lt
    have hl244 : bk212 < w227.heap.size := hb238.lt
    have hz245 : w179.heap.size ≤ w227.heap.size := g241.size
    refine wp_region_lit ?_
    refine wp_all [([5], []), ([7], []), ([], [0, 1]), ([], [2]), ([6], [3]), ([8], [3]), ([], [4, 5, 3]), ([], [3, 6]), ([], [7]), ([6], [8]), ([1], [8]), ([], [10, 8]), ([], [11, 8]), ([], [9, 12, 8]), ([], [8, 13]), ([], [14]), ([], [15]), ([], [15, 16]), ([], [17])] [] w227.heap.size hf228 g242.size (by kernel_rfl) (bund_cons (hb236.ownp hv235) (bund_cons (hb238.ownp hv237) (bund_cons (is_any h233) (bund_cons h232 (bund_cons (is_any h234) bund_nil))))) ?_
    refine ch rfl (ob_load_nm (ArgOK.ownp (arg_free 0 rfl rfl))) ?_
    refine ch rfl (ob_load_nm (ArgOK.ownp (arg_free 1 rfl rfl))) ?_
    refine ch rfl (ob_eqnm (arg_op 0 1 rfl rfl rfl rfl) (arg_op 1 0 rfl rfl rfl rfl)) ?_
    refine ch rfl (ob_move (arg_op 2 0 rfl rfl rfl rfl)) ?_
    refine chg (b := _) rfl rfl (arg_op 3 0 rfl rfl rfl rfl) (fun hb3 => ob_move (arg_free 2 rfl rfl)) ?_
    refine chg (b := _) rfl rfl (arg_op 3 1 rfl rfl rfl rfl) (fun hb3 => ob_move (arg_free 3 rfl rfl)) ?_
    refine chg (b := _) rfl rfl (arg_op 3 2 rfl rfl rfl rfl) (fun hb3 => ob_eqbool (ArgOK.when (arg_op 4 1 rfl rfl rfl rfl) hb3) (ArgOK.when (arg_op 5 0 rfl rfl rfl rfl) hb3) Try.underlying4) ?_
    refine ch rfl (ob_and (arg_op 3 3 rfl rfl rfl rfl) (arg_op 6 0 rfl rfl rfl rfl)) ?_
    refine ch rfl (ob_move (arg_op 7 0 rfl rfl rfl rfl)) ?_
    refine chg (b := _) rfl rfl (arg_op 8 0 rfl rfl rfl rfl) (fun hb8 => ob_move (arg_free 2 rfl rfl)) ?_
    refine chg (b := _) rfl rfl (arg_op 8 1 rfl rfl rfl rfl) (fun hb8 => ob_move (arg_free 4 rfl rfl)) ?_
    refine chg (b := _) rfl rfl (arg_op 8 2 rfl rfl rfl rfl) (fun hb8 => ob_len (ArgOK.val (ArgOK.when (arg_op 10 0 rfl rfl rfl rfl) hb8) (hv1.up g239)) Try.underlying39) ?_
    refine chg (b := _) rfl rfl (arg_op 8 3 rfl rfl rfl rfl) (fun hb8 => ob_eql (ArgOK.when (arg_op 11 0 rfl rfl rfl rfl) hb8) arg_c) ?_
    refine chg (b := _) rfl rfl (arg_op 8 4 rfl rfl rfl rfl) (fun hb8 => ob_eqbool (ArgOK.when (arg_op 9 3 rfl rfl rfl rfl) hb8) (ArgOK.when (arg_op 12 0 rfl rfl rfl rfl) hb8) Try.underlying4) ?_
    refine ch rfl (ob_and (arg_op 8 5 rfl rfl rfl rfl) (arg_op 13 0 rfl rfl rfl rfl)) ?_
    refine ch rfl (ob_move (arg_op 14 0 rfl rfl rfl rfl)) ?_
    refine chg (b := _) rfl rfl (arg_op 15 0 rfl rfl rfl rfl) (fun hb15 => ob_call0 (by kernel_rfl) (c_awake4) ) ?_
    refine ch rfl (ob_and (arg_op 15 1 rfl rfl rfl rfl) (arg_op 16 0 rfl rfl rfl rfl)) ?_
    refine ch rfl (ob_assign (arg_op 17 0 rfl rfl rfl rfl)) ?_
    refine ch_nil ?_
    intro a246 w247 hf248 hg249 hk250 hn251
    have h252 : Holds _ (a246.eval (.tmp 4)) w247 := hn251.at 18 0 rfl rfl rfl
    have g253 : Grow w0 w247 := g239.trans hg249
    have g254 : Grow w15 w247 := g240.trans hg249
    have g255 : Grow w179 w247 := g241.trans hg249
    have g256 : Grow w227 w247 := g242.trans hg249
    clear g239 g240 g241 g242 hf228 hk250 hn251
    refine then_ ?_
    refine wp_ret ?_
    exact ret_tmp rfl hf248 g253 (is_cast h252 (congrArg Value.bool (by simp only [int18]; simp)))

set_option maxRecDepth 100000 in
theorem c_OnetimeSigns {s m : UInt64} : Con2 14 (Is (nmV s)) (Is (nmV m)) (fun _ => Is (.bool true)) := by
  intro lo v0 v1 w0 hlo hv0 hv1
  refine enter Try.func14 rfl Try.ntmps14 (by simp) ?_
  intro a0 hf0 ha
  have h00 : Holds _ (a0.eval (.tmp 0)) w0 := arg_holds ha rfl hv0
  have h01 : Holds _ (a0.eval (.tmp 1)) w0 := arg_holds ha rfl hv1
  clear ha
  have g0 : Grow w0 w0 := Grow.refl _
  refine wp_seq ?_
  refine wp_region_lit ?_
  refine wp_seg (l1 := [_]) [([0], [])] [1] w0.heap.size hf0 g0.size (by kernel_rfl) (bund_cons h00 bund_nil) ?_
  refine ch rfl (ob_box_nm (arg_free 0 rfl rfl)) ?_
  refine ch_nil ?_
  intro a1 w2 hf3 hg4 hk5 hn6
  have h7 : Holds _ (a1.eval (.tmp 2)) w2 := hn6.at 0 0 rfl rfl rfl
  have h8 : Holds _ (a1.eval (.tmp 1)) w0 := hk5.holds rfl h01
  have g9 : Grow w0 w2 := g0.trans hg4
  obtain ⟨bk10, hl11, hv12, hb13⟩ := OwnB.blk (lo := w0.heap.size) h7
  clear h01 g0 hf0 hk5 hn6
  have g14 : Grow w2 w2 := Grow.refl _
  have hl15 : bk10 < w2.heap.size := hb13.lt
  have hz16 : w0.heap.size ≤ w2.heap.size := g9.size
  refine wp_all [([1], []), ([], [])] [2] w2.heap.size hf3 g14.size (by kernel_rfl) (bund_cons (is_any h8) bund_nil) ?_
  refine ch rfl (ob_box_nm (arg_free 0 rfl rfl)) ?_
  refine ch rfl (ob_assign arg_c) ?_
  refine ch_nil ?_
  intro a17 w18 hf19 hg20 hk21 hn22
  have h23 : Holds _ (a17.eval (.tmp 3)) w18 := hn22.at 0 1 rfl rfl rfl
  have hv24 : Holds (Is (PtrV bk10)) (a17.eval (.tmp 2)) w18 := is_any (hk21.holds rfl hv12)
  have hb25 : Blk bk10 _ w18 := hb13.up hg20
  have g26 : Grow w0 w18 := g9.trans hg20
  have g27 : Grow w2 w18 := g14.trans hg20
  obtain ⟨bk28, hl29, hv30, hb31⟩ := OwnB.blk (lo := w2.heap.size) h23
  clear hv12 hb13 g9 g14 hf3 hk21 hn22
  refine then_ ?_
  refine wp_seq ?_
  have g32 : Grow w18 w18 := Grow.refl _
  have hl33 : bk10 < w18.heap.size := hb25.lt
  have hl34 : bk28 < w18.heap.size := hb31.lt
  have hz35 : w2.heap.size ≤ w18.heap.size := g27.size
  refine wp_calm [0, 1, 0, 7, 15, 31, 63, 63, 255, 63, 63, 2047, 4095, 8191, 16383, 32767, 65535, 131071] [([2], []), ([], [0]), ([2], []), ([], [2]), ([], [1, 3]), ([], [4]), ([2], [5]), ([3], [5]), ([], [6, 7, 5]), ([2], [5]), ([3], [5]), ([], [9, 10, 5]), ([], [8, 11, 5]), ([], [5, 12]), ([], [13]), ([], [14]), ([], [14, 15]), ([], [16])] [] w18.heap.size hf19 g32.size (by kernel_rfl) (bund_cons (hb25.ownp hv24) (bund_cons (hb31.ownp hv30) bund_nil)) ?_
  intro ws36 hs37
  refine ch rfl (ob_load_nm (ArgOK.ownp (arg_free 0 rfl rfl))) ?_
  refine ch rfl (ob_call1 (by kernel_rfl) (c_Public) (arg_op 0 0 rfl rfl rfl rfl)) ?_
  refine ch rfl (ob_load_nm (ArgOK.ownp (arg_free 0 rfl rfl))) ?_
  refine ch rfl (ob_call1 (by kernel_rfl) (c_rPublic) (arg_op 2 0 rfl rfl rfl rfl)) ?_
  refine ch rfl (ob_eqnm (arg_op 1 2 rfl rfl rfl rfl) (arg_op 3 0 rfl rfl rfl rfl)) ?_
  refine ch rfl (ob_move (arg_op 4 0 rfl rfl rfl rfl)) ?_
  refine chg (b := _) rfl rfl (arg_op 5 0 rfl rfl rfl rfl) (fun hb5 => ob_load_nm (ArgOK.ownp (arg_free 0 rfl rfl))) ?_
  refine chg (b := _) rfl rfl (arg_op 5 1 rfl rfl rfl rfl) (fun hb5 => ob_load_nm (ArgOK.ownp (arg_free 1 rfl rfl))) ?_
  refine chg (b := _) rfl rfl (arg_op 5 2 rfl rfl rfl rfl) (fun hb5 => ob_call2 (by kernel_rfl) (c_Sign) (ArgOK.when (arg_op 6 1 rfl rfl rfl rfl) hb5) (ArgOK.when (arg_op 7 0 rfl rfl rfl rfl) hb5)) ?_
  refine chg (b := _) rfl rfl (arg_op 5 3 rfl rfl rfl rfl) (fun hb5 => ob_load_nm (ArgOK.ownp (arg_free 0 rfl rfl))) ?_
  refine chg (b := _) rfl rfl (arg_op 5 4 rfl rfl rfl rfl) (fun hb5 => ob_load_nm (ArgOK.ownp (arg_free 1 rfl rfl))) ?_
  refine chg (b := _) rfl rfl (arg_op 5 5 rfl rfl rfl rfl) (fun hb5 => ob_call2 (by kernel_rfl) (c_rSign) (ArgOK.when (arg_op 9 1 rfl rfl rfl rfl) hb5) (ArgOK.when (arg_op 10 0 rfl rfl rfl rfl) hb5)) ?_
  refine chg (b := _) rfl rfl (arg_op 5 6 rfl rfl rfl rfl) (fun hb5 => ob_call2 (by kernel_rfl) (c_same4 ?_) (ArgOK.sl (ArgOK.when (arg_op 8 3 rfl rfl rfl rfl) hb5)) (ArgOK.sl (ArgOK.when (arg_op 11 0 rfl rfl rfl rfl) hb5))) ?_
  · ((try simp only [vals_len]); omega)
  refine ch rfl (ob_and (arg_op 5 7 rfl rfl rfl rfl) (arg_op 12 0 rfl rfl rfl rfl)) ?_
  refine ch rfl (ob_move (arg_op 13 0 rfl rfl rfl rfl)) ?_
  refine chg (b := _) rfl rfl (arg_op 14 0 rfl rfl rfl rfl) (fun hb14 => ob_call0 (by kernel_rfl) (c_awake4) ) ?_
  refine ch rfl (ob_and (arg_op 14 1 rfl rfl rfl rfl) (arg_op 15 0 rfl rfl rfl rfl)) ?_
  refine ch rfl (ob_assign (arg_op 16 0 rfl rfl rfl rfl)) ?_
  refine ch_nil ?_
  intro a38 w39 hf40 hg41 hk42 hn43
  have h44 : Holds _ (a38.eval (.tmp 4)) w39 := hn43.at 17 0 rfl rfl rfl
  have g45 : Grow w0 w39 := g26.trans hg41
  have g46 : Grow w2 w39 := g27.trans hg41
  have g47 : Grow w18 w39 := g32.trans hg41
  clear g26 g27 g32 hf19 hk42 hn43
  refine then_ ?_
  refine wp_ret ?_
  exact ret_tmp rfl hf40 g45 (is_cast h44 (congrArg Value.bool (by simp)))


end Ex
end Go.Proofs.Ytnmfiiejhoafnaa
