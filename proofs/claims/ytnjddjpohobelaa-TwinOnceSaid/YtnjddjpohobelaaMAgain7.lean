/- A part of the proof of the law twinOnce_holds: general lemmas, functions of the program as plain functions with proofs that the calls compute them, and what they compute; merged from this session's texts. -/
import Derived.Test.YtnjddjpohobelaaMAgain6
section
namespace Go.Proofs.Ytnjddjpohobelaa.XB
open Go.RowKit Go.Proofs.YtnjddjpohobelaaW.PrintWords Go.Proofs.YtnjddjpohobelaaW.PrintLast Go.Proofs.YtnjddjpohobelaaW.PrintMore
attribute [local go_sem] max2_int min2_int max_two min_two max_three min_three max_four min_four   -- for this text's walks alone
set_option linter.unusedVariables false
set_option linter.unusedSimpArgs false
/-! ### substationlaw16_TwinOnce: function 6 -/
mutual
def substationlaw16_TwinOnce.j1 : Nat → List (S43) → Int → Int → List (S36) → Option (Bool)
 | 0, _, _, _, _ => none
 | k + 1, x0, x102000, x102001, x104000 => (twin_Accept.f x104000 x102000 x102001).bind fun bt110 => (substationlaw16_TwinOnce.l1 k x0 0 x102000 x102001 bt110.1)
def substationlaw16_TwinOnce.l1 : Nat → List (S43) → Int → Int → Int → List (S36) → Option (Bool)
 | 0, _, _, _, _, _ => none
 | k + 1, x0, x7, x102000, x102001, x104000 => if x7 < (x0.length : Int) then (substationlaw16_TwinOnce.j3 k x0 x7 (decide (x7 < 100)) x102000 x102001 x104000) else (substationlaw16_TwinOnce.j3 k x0 x7 false x102000 x102001 x104000)
def substationlaw16_TwinOnce.j3 : Nat → List (S43) → Int → Bool → Int → Int → List (S36) → Option (Bool)
 | 0, _, _, _, _, _, _ => none
 | k + 1, x0, x7, x54, x102000, x102001, x104000 => if x54 = true then (if 0 ≤ x7 then (if x7 < (x0.length : Int) then (if ((rd_T43 x0 x7).f0) = x102000 then (substationlaw16_TwinOnce.l1 k x0 (wrap64 (x7 + 1)) x102000 x102001 x104000) else ((twin_Accept.f x104000 ((rd_T43 x0 x7).f0) ((rd_T43 x0 x7).f1)).bind fun bt117 => (substationlaw16_TwinOnce.l1 k x0 (wrap64 (x7 + 1)) x102000 x102001 bt117.1))) else (none)) else (none)) else ((twin_Accept.f x104000 x102000 x102001).bind fun bt121 => (if bt121.2 = true then (some false) else ((twin_Same.f k x104000 bt121.1).bind fun t126 => (some t126))))
def substationlaw16_TwinOnce.l0 : Nat → List (S43) → Int → Int → Int → List (S36) → Option (Bool)
 | 0, _, _, _, _, _ => none
 | k + 1, x0, x6, x102000, x102001, x104000 => if x6 < (x0.length : Int) then (if x6 < 100 then (if 0 ≤ x6 then ((twin_Accept.f x104000 ((rd_T43 x0 x6).f0) ((rd_T43 x0 x6).f1)).bind fun bt106 => (substationlaw16_TwinOnce.l0 k x0 (wrap64 (x6 + 1)) x102000 x102001 bt106.1)) else (none)) else (substationlaw16_TwinOnce.j1 k x0 x102000 x102001 x104000)) else (substationlaw16_TwinOnce.j1 k x0 x102000 x102001 x104000)
end
def substationlaw16_TwinOnce.f (k : Nat) (l0 : List (S43)) (a1_0 : Int) (a1_1 : Int) : Option (Bool) := (substationlaw16_known.f).bind fun t102 => (if t102 = true then (substationlaw16_TwinOnce.l0 k l0 0 a1_0 a1_1 ([] : List (S36))) else (some false))
theorem substationlaw16_TwinOnce.mono_l : ∀ k, (∀ y0 y1 y2 y3, LeO (substationlaw16_TwinOnce.j1 k y0 y1 y2 y3) (substationlaw16_TwinOnce.j1 (k + 1) y0 y1 y2 y3)) ∧ (∀ y0 y1 y2 y3 y4, LeO (substationlaw16_TwinOnce.l1 k y0 y1 y2 y3 y4) (substationlaw16_TwinOnce.l1 (k + 1) y0 y1 y2 y3 y4)) ∧ (∀ y0 y1 y2 y3 y4 y5, LeO (substationlaw16_TwinOnce.j3 k y0 y1 y2 y3 y4 y5) (substationlaw16_TwinOnce.j3 (k + 1) y0 y1 y2 y3 y4 y5)) ∧ (∀ y0 y1 y2 y3 y4, LeO (substationlaw16_TwinOnce.l0 k y0 y1 y2 y3 y4) (substationlaw16_TwinOnce.l0 (k + 1) y0 y1 y2 y3 y4))
 | 0 => ⟨fun _ _ _ _ r h => by simp [substationlaw16_TwinOnce.j1] at h, fun _ _ _ _ _ r h => by simp [substationlaw16_TwinOnce.l1] at h, fun _ _ _ _ _ _ r h => by simp [substationlaw16_TwinOnce.j3] at h, fun _ _ _ _ _ r h => by simp [substationlaw16_TwinOnce.l0] at h⟩
 | k + 1 => by
  obtain ⟨ih0, ih1, ih2, ih3⟩ := substationlaw16_TwinOnce.mono_l k
  refine ⟨?_, ?_, ?_, ?_⟩
  ·intro y0 y1 y2 y3
   unfold substationlaw16_TwinOnce.j1
   repeat' first
   | (with_reducible exact ih0 _ _ _ _)
   | (with_reducible exact ih1 _ _ _ _ _)
   | (with_reducible exact ih2 _ _ _ _ _ _)
   | (with_reducible exact ih3 _ _ _ _ _)
   | (with_reducible exact twin_Same.mono _ _ _)
   | (with_reducible exact LeO.refl _)
   | (with_reducible exact LeO.none _)
   | (with_reducible refine LeO.ite ?_ ?_)
   | (with_reducible refine LeO.bind ?_ (fun _ => ?_))
   | exact ih0 _ _ _ _
   | exact ih1 _ _ _ _ _
   | exact ih2 _ _ _ _ _ _
   | exact ih3 _ _ _ _ _
   | exact twin_Same.mono _ _ _
   | exact LeO.none _
   | refine LeO.ite ?_ ?_
   | refine LeO.bind ?_ (fun _ => ?_)
  ·intro y0 y1 y2 y3 y4
   unfold substationlaw16_TwinOnce.l1
   repeat' first
   | (with_reducible exact ih0 _ _ _ _)
   | (with_reducible exact ih1 _ _ _ _ _)
   | (with_reducible exact ih2 _ _ _ _ _ _)
   | (with_reducible exact ih3 _ _ _ _ _)
   | (with_reducible exact twin_Same.mono _ _ _)
   | (with_reducible exact LeO.refl _)
   | (with_reducible exact LeO.none _)
   | (with_reducible refine LeO.ite ?_ ?_)
   | (with_reducible refine LeO.bind ?_ (fun _ => ?_))
   | exact ih0 _ _ _ _
   | exact ih1 _ _ _ _ _
   | exact ih2 _ _ _ _ _ _
   | exact ih3 _ _ _ _ _
   | exact twin_Same.mono _ _ _
   | exact LeO.none _
   | refine LeO.ite ?_ ?_
   | refine LeO.bind ?_ (fun _ => ?_)
  ·intro y0 y1 y2 y3 y4 y5
   unfold substationlaw16_TwinOnce.j3
   repeat' first
   | (with_reducible exact ih0 _ _ _ _)
   | (with_reducible exact ih1 _ _ _ _ _)
   | (with_reducible exact ih2 _ _ _ _ _ _)
   | (with_reducible exact ih3 _ _ _ _ _)
   | (with_reducible exact twin_Same.mono _ _ _)
   | (with_reducible exact LeO.refl _)
   | (with_reducible exact LeO.none _)
   | (with_reducible refine LeO.ite ?_ ?_)
   | (with_reducible refine LeO.bind ?_ (fun _ => ?_))
   | exact ih0 _ _ _ _
   | exact ih1 _ _ _ _ _
   | exact ih2 _ _ _ _ _ _
   | exact ih3 _ _ _ _ _
   | exact twin_Same.mono _ _ _
   | exact LeO.none _
   | refine LeO.ite ?_ ?_
   | refine LeO.bind ?_ (fun _ => ?_)
  ·intro y0 y1 y2 y3 y4
   unfold substationlaw16_TwinOnce.l0
   repeat' first
   | (with_reducible exact ih0 _ _ _ _)
   | (with_reducible exact ih1 _ _ _ _ _)
   | (with_reducible exact ih2 _ _ _ _ _ _)
   | (with_reducible exact ih3 _ _ _ _ _)
   | (with_reducible exact twin_Same.mono _ _ _)
   | (with_reducible exact LeO.refl _)
   | (with_reducible exact LeO.none _)
   | (with_reducible refine LeO.ite ?_ ?_)
   | (with_reducible refine LeO.bind ?_ (fun _ => ?_))
   | exact ih0 _ _ _ _
   | exact ih1 _ _ _ _ _
   | exact ih2 _ _ _ _ _ _
   | exact ih3 _ _ _ _ _
   | exact twin_Same.mono _ _ _
   | exact LeO.none _
   | refine LeO.ite ?_ ?_
   | refine LeO.bind ?_ (fun _ => ?_)
theorem substationlaw16_TwinOnce.mono : ∀ a0 a1 a2 k, LeO (substationlaw16_TwinOnce.f k a0 a1 a2) (substationlaw16_TwinOnce.f (k + 1) a0 a1 a2) := by
 intro a0 a1 a2 k
 obtain ⟨ih0, ih1, ih2, ih3⟩ := substationlaw16_TwinOnce.mono_l k
 unfold substationlaw16_TwinOnce.f
 repeat' first
   | (with_reducible exact ih0 _ _ _ _)
   | (with_reducible exact ih1 _ _ _ _ _)
   | (with_reducible exact ih2 _ _ _ _ _ _)
   | (with_reducible exact ih3 _ _ _ _ _)
   | (with_reducible exact twin_Same.mono _ _ _)
   | (with_reducible exact LeO.refl _)
   | (with_reducible exact LeO.none _)
   | (with_reducible refine LeO.ite ?_ ?_)
   | (with_reducible refine LeO.bind ?_ (fun _ => ?_))
   | exact ih0 _ _ _ _
   | exact ih1 _ _ _ _ _
   | exact ih2 _ _ _ _ _ _
   | exact ih3 _ _ _ _ _
   | exact twin_Same.mono _ _ _
   | exact LeO.none _
   | refine LeO.ite ?_ ?_
   | refine LeO.bind ?_ (fun _ => ?_)
def substationlaw16_TwinOnce.T7 : Bool × List (List Nat × List Nat) := (true, [([], []), ([], []), ([], []), ([1, 2], [1, 2]), ([3], [3]), ([4], [4]), ([], []), ([], []), ([6, 7], [6, 7]), ([8], [8]), ([9], [9]), ([0, 5, 10], [0, 5, 10]), ([11], [11]), ([12], [12]), ([12], [12]), ([13, 11, 0, 1, 2, 3, 4, 5, 6, 7, 8, 9, 10, 11, 12, 13], [13])])
def substationlaw16_TwinOnce.B7 : List Nat := [0, 0, 0, 6, 14, 30, 0, 0, 192, 448, 960, 2047, 4095, 8191, 8191, 16383]
theorem substationlaw16_TwinOnce.tab7 : rtab .any (opsOf Try.f6 7) = substationlaw16_TwinOnce.T7 := by kernel_rfl
theorem substationlaw16_TwinOnce.bits7 : waitsOk substationlaw16_TwinOnce.T7.2 substationlaw16_TwinOnce.B7 = true := by kernel_rfl
def substationlaw16_TwinOnce.T12 : Bool × List (List Nat × List Nat) := (true, [([], []), ([], []), ([0, 1], [0, 1]), ([2], [2]), ([3], [3]), ([], []), ([5], [5]), ([4, 6], [4, 6])])
def substationlaw16_TwinOnce.B12 : List Nat := [0, 0, 3, 7, 15, 0, 32, 127]
theorem substationlaw16_TwinOnce.tab12 : rtab .any (opsOf Try.f6 12) = substationlaw16_TwinOnce.T12 := by kernel_rfl
theorem substationlaw16_TwinOnce.bits12 : waitsOk substationlaw16_TwinOnce.T12.2 substationlaw16_TwinOnce.B12 = true := by kernel_rfl
def substationlaw16_TwinOnce.T13 : Bool × List (List Nat × List Nat) := (true, [([], []), ([], []), ([], []), ([1, 2], [1, 2]), ([3], [3]), ([4], [4]), ([], []), ([], []), ([6, 7], [6, 7]), ([8], [8]), ([9], [9]), ([0, 5, 10], [0, 5, 10]), ([11], [11]), ([12], [12]), ([12], [12]), ([13, 11, 0, 1, 2, 3, 4, 5, 6, 7, 8, 9, 10, 11, 12, 13], [13])])
def substationlaw16_TwinOnce.B13 : List Nat := [0, 0, 0, 6, 14, 30, 0, 0, 192, 448, 960, 2047, 4095, 8191, 8191, 16383]
theorem substationlaw16_TwinOnce.tab13 : rtab .any (opsOf Try.f6 13) = substationlaw16_TwinOnce.T13 := by kernel_rfl
theorem substationlaw16_TwinOnce.bits13 : waitsOk substationlaw16_TwinOnce.T13.2 substationlaw16_TwinOnce.B13 = true := by kernel_rfl
set_option maxHeartbeats 8000000 in
set_option maxRecDepth 100000 in
theorem substationlaw16_TwinOnce.calls (k : Nat) (A0 : Option Addr) (c0 : Nat) (l0 : List (S43)) (a1_0 : Int) (a1_1 : Int) (r : Bool) (w : World) (hr0 : Kd.C k43 w A0 l0.length l0) (hc0 : l0.length ≤ c0) (hr_ : r = true) (h : substationlaw16_TwinOnce.f k l0 a1_0 a1_1 = some r) :
  Calls Try.prog 6 #[.slice A0 l0.length c0, .agg #[.int .i64 a1_0, .int .i64 a1_1]] w fun e w' => e = .returned (.bool r) ∧ Below w.heap.size w w' := by
 have hu43 := Try.underlying43
 have hu28 := Try.underlying28
 have HR0 := Aside0.mk hr0
 have HC0 := Aside0.mk hc0
 clear hr0 hc0
 have HB := Aside0.mk (Below.refl w.heap.size w)
 have H : ((substationlaw16_known.f).bind fun t102 => (if t102 = true then (substationlaw16_TwinOnce.l0 k l0 0 a1_0 a1_1 ([] : List (S36))) else (some false))) = some r := h
 clear h
 replace H := Option.bind_eq_some_iff.mp H
 obtain ⟨t102, A30, H⟩ := H
 replace H : (if t102 = true then (substationlaw16_TwinOnce.l0 k l0 0 a1_0 a1_1 ([] : List (S36))) else (some false)) = some r := H
 have A3 := Aside0.mk A30
 clear A30
 by_cases c4 : t102 = true
 ·subst c4
  have H1 : (substationlaw16_TwinOnce.l0 k l0 0 a1_0 a1_1 ([] : List (S36))) = some r := by rw [if_pos rfl] at H; exact H
  clear H
  have H := H1
  clear H1
  have HC5 := Aside0.mk H
  clear H
  go_enter Try.func6, Try.ntmps6
  go_upto_block 0 with (first | ((with_reducible refine gate_dst (N := 3) rfl ?_); refine box_event ?hg (N := 3) ?hd (cs := #[.int .i64 a1_0, .int .i64 a1_1]) (t := 43) ?hr ?_; (case hd => rfl); (case hg => rfl); (case hr => first | (go_simp; done) | (go_simp; rfl)); intro gb101 hg w6 hbox hb; have n0_ := Aside0.mk (below_step (by repeat (first | (with_reducible first | exact HB.out | apply below_alloc | apply pw_below_drewN | apply below_drew1) | exact HB.out)) hb); have n1_ := Aside0.mk (hbox); have n2_ := Aside0.mk ((by rw [hg]; exact (below_size (by repeat (first | (with_reducible first | exact HB.out | apply below_alloc | apply pw_below_drewN | apply below_drew1) | exact HB.out))) : w.heap.size ≤ gb101)); have n3_ := Aside0.mk ((by rw [hg]; exact (below_size (by repeat (first | (with_reducible first | exact HB.out | apply below_alloc | apply pw_below_drewN | apply below_drew1) | exact HB.out))) : w.heap.size ≤ gb101)); clear HB; have HB := n0_; have BK101 := n1_; have GW101 := n2_; have GE101 := n3_; clear n0_ n1_ n2_ n3_; clear hb hbox hg) | ((with_reducible refine gate_callee (f := 15) rfl ?_); refine goesL_ (some 10) rfl rfl Try.func15 (by kernel_rfl) rfl #[] rfl (by (try simp only [List.map_toArray, List.map_cons, List.map_nil]); first | done | rfl | (simp only [List.length_drop, List.length_take]; rfl)) ?_; (with_reducible refine (substationlaw16_known.calls  true _ A3.out).mono ?_); rintro e w7 ⟨rfl, hb⟩; refine ⟨_, rfl, ?_⟩; have n0_ := Aside0.mk (blk_below (g := gb101) (o := .cells #[.int .i64 a1_0, .int .i64 a1_1] 43 (0, 0)) (by (with_reducible repeat (first | refine blk_drewN ?_ _ | refine blk_drew ?_ | refine blk_alloc ?_ _)); exact BK101.out) hb); have n1_ := Aside0.mk (below_step (by repeat (first | (with_reducible first | exact HB.out | apply below_alloc | apply pw_below_drewN | apply below_drew1 | refine below_set ?_ GE101.out) | exact HB.out)) hb); clear BK101; clear HB; have BK101 := n0_; have HB := n1_; clear n0_ n1_; (try clear hb); (try clear hb2); (try clear hk); (try clear hi)) | ((with_reducible refine gate_dst (N := 5) rfl ?_); refine box_event ?hg (N := 5) ?hd (cs := #[.slice none 0 0]) (t := 28) ?hr ?_; (case hd => rfl); (case hg => rfl); (case hr => first | (go_simp; done) | (go_simp; rfl)); intro gb103 hg w8 hbox hb; have n0_ := Aside0.mk (blk_below (g := gb101) (o := .cells #[.int .i64 a1_0, .int .i64 a1_1] 43 (0, 0)) (by (with_reducible repeat (first | refine blk_drewN ?_ _ | refine blk_drew ?_ | refine blk_alloc ?_ _)); exact BK101.out) hb); have n1_ := Aside0.mk (below_step (by repeat (first | (with_reducible first | exact HB.out | apply below_alloc | apply pw_below_drewN | apply below_drew1 | refine below_set ?_ GE101.out) | exact HB.out)) hb); have n2_ := Aside0.mk (hbox); have n3_ := Aside0.mk ((by rw [hg]; exact (below_size (by repeat (first | (with_reducible first | exact HB.out | apply below_alloc | apply pw_below_drewN | apply below_drew1 | refine below_set ?_ GE101.out) | exact HB.out))) : w.heap.size ≤ gb103)); have n4_ := Aside0.mk ((by rw [hg]; exact (below_size (by repeat (first | (with_reducible first | exact HB.out | apply below_alloc | apply pw_below_drewN | apply below_drew1 | refine below_set ?_ GE101.out) | exact HB.out))) : w.heap.size ≤ gb103)); have n5_ := Aside0.mk ((by rw [hg]; exact Nat.ne_of_lt (blk_lt (g := gb101) (o := .cells #[.int .i64 a1_0, .int .i64 a1_1] 43 (0, 0)) (by (with_reducible repeat (first | refine blk_drewN ?_ _ | refine blk_drew ?_ | refine blk_alloc ?_ _)); exact BK101.out)) : gb101 ≠ gb103)); have n6_ := Aside0.mk ((by rw [hg]; exact Nat.ne_of_gt (blk_lt (g := gb101) (o := .cells #[.int .i64 a1_0, .int .i64 a1_1] 43 (0, 0)) (by (with_reducible repeat (first | refine blk_drewN ?_ _ | refine blk_drew ?_ | refine blk_alloc ?_ _)); exact BK101.out)) : gb103 ≠ gb101)); clear BK101; clear HB; have BK101 := n0_; have HB := n1_; have BK103 := n2_; have GW103 := n3_; have GE103 := n4_; have NB101_103 := n5_; have NB103_101 := n6_; clear n0_ n1_ n2_ n3_ n4_ n5_ n6_; clear hb hbox hg; have hnb9 := NB103_101.out; have hnc9 := NB101_103.out; have hcz10_0 : w8.cell? ⟨gb103, 0, none⟩ = some (.slice none 0 0) := (blk_cell BK103.out 0).trans rfl; have hfz10_0 := blk_frozen BK103.out 0))
  (try simp only [Act.put, List.setIfInBounds_toArray, List.set_cons_zero, List.set_cons_succ])
  go_cut [] (fun wc => ∃ (kq : Nat) (x104000_4 : List (S36)) (u104000 : Value), Aside0 (substationlaw16_TwinOnce.j1 kq l0 a1_0 a1_1 x104000_4 = some r) ∧ Aside0 (kq ≤ k) ∧ Aside0 (Kd.R k36 36 wc w.heap.size (fun _ => True) u104000 x104000_4) ∧ Aside0 (wc.heap[gb101]? = some (.cells #[.int .i64 a1_0, .int .i64 a1_1] 43 (0, 0))) ∧ Aside0 (wc.heap[gb103]? = some (.cells #[u104000] 28 (0, 0))) ∧ Aside0 (Below w.heap.size w wc))
  case first =>
   have H := HC5.out
   clear HC5
   have H' := Aside0.mk H
   clear H
   go_wp2
   go_loopg [6] k (fun kq v6 w' => ∃ (x6_1 : Int) (x104000_1 : List (S36)) (u104000 : Value), v6 = .int .i64 x6_1 ∧ Aside0 (substationlaw16_TwinOnce.l0 kq l0 x6_1 a1_0 a1_1 x104000_1 = some r) ∧ Aside0 (kq ≤ k) ∧ Aside0 (Kd.R k36 36 w' w.heap.size (fun _ => True) u104000 x104000_1) ∧ Aside0 (w'.heap[gb101]? = some (.cells #[.int .i64 a1_0, .int .i64 a1_1] 43 (0, 0))) ∧ Aside0 (w'.heap[gb103]? = some (.cells #[u104000] 28 (0, 0))) ∧ Aside0 (Below w.heap.size w w'))
   case atStart => exact ⟨(0), (([] : List (S36))), (.slice none 0 0), (by first | rfl | (simp; done) | (simp [*]; done) | (simp; omega)), H', ⟨Nat.le_refl _⟩, ⟨by first | exact Kd.R_nil _ _ _ _ _ | exact Kd.N_nil _ _ _ _ _ | exact Kd.V_nil _ _ _ _ _ | exact Kd.Q_nil _ _ _ _ _ | exact Kd.S_nil _ _ _ _ _⟩, ⟨by (with_reducible repeat (first | refine blk_drewN ?_ _ | refine blk_drew ?_ | refine blk_alloc ?_ _)); refine blk_far ?_ NB101_103.out _; (with_reducible repeat (first | refine blk_drewN ?_ _ | refine blk_drew ?_ | refine blk_alloc ?_ _)); exact BK101.out⟩, ⟨by (with_reducible repeat (first | refine blk_drewN ?_ _ | refine blk_drew ?_ | refine blk_alloc ?_ _)); refine blk_put (cs := #[.slice none 0 0]) ?_ 0 _ rfl; (with_reducible repeat (first | refine blk_drewN ?_ _ | refine blk_drew ?_ | refine blk_alloc ?_ _)); exact BK103.out⟩, ⟨by repeat (first | (with_reducible first | exact HB.out | apply below_alloc | apply pw_below_drewN | apply below_drew1 | refine below_set ?_ GE101.out | refine below_set ?_ GE103.out) | exact HB.out)⟩⟩
   case round =>
    clear H'
    try clear c1
    try clear p2
    try clear c4
    try clear c6
    try clear c9
    try clear hcz10_0
    try clear hfz10_0
    obtain ⟨x6_1, x104000_1, u104000, rfl, HA, HK1, HO_104000, BK101, BK103, HB⟩ := hrel
    cases gk with
    | zero => exact absurd HA.out (by simp [substationlaw16_TwinOnce.l0])
    | succ k1 =>
     have H := HA.out
     clear HA
     simp only [substationlaw16_TwinOnce.l0] at H
     by_cases c11 : x6_1 < (l0.length : Int)
     ·rw [if_pos c11] at H
      have c11b0 : decide (x6_1 < (l0.length : Int)) = true := decide_eq_true c11
      clear c11
      (first | rw [c11b0] | (simp only [i64_w, i32_w]; rw [c11b0]) | skip)
      by_cases c12 : x6_1 < 100
      ·rw [if_pos c12] at H
       have c12b0 : decide (x6_1 < 100) = true := decide_eq_true c12
       clear c12
       by_cases c13 : 0 ≤ x6_1
       ·rw [if_pos c13] at H
        have c13b0 : decide (0 ≤ x6_1) = true := decide_eq_true c13
        clear c13
        replace H := Option.bind_eq_some_iff.mp H
        obtain ⟨⟨t106, t109⟩, A140, H⟩ := H
        replace H : (substationlaw16_TwinOnce.l0 k1 l0 (wrap64 (x6_1 + 1)) a1_0 a1_1 t106) = some r := H
        have A14 := Aside0.mk A140
        clear A140
        have H' := Aside0.mk H
        clear H
        try go_wp2
        have n0_ := Aside0.mk (Kd.R_drew HO_104000.out)
        have n1_ := Aside0.mk (blk_drew BK101.out)
        have n2_ := Aside0.mk (blk_drew BK103.out)
        have n3_ := Aside0.mk (below_drew1 HB.out)
        clear HO_104000
        clear BK101
        clear BK103
        clear HB
        have HO_104000 := n0_
        have BK101 := n1_
        have BK103 := n2_
        have HB := n3_
        clear n0_ n1_ n2_ n3_
        have p104 : 0 ≤ (x6_1 : Int) := of_decide_eq_true (by first | (with_reducible assumption) | assumption)
        have q104 : x6_1 < (l0.length : Int) := of_decide_eq_true (by first | (with_reducible assumption) | assumption)
        obtain ⟨ad104, e104, hx104_0, hx104_1⟩ := at_T43 HR0.out x6_1 p104 q104
        have hw104_1 := hx104_1
        have hw104_0 := hx104_0
        cases e104
        replace hx104_0 := (HB.out.cell (World.block_lt_of_cell? w _ hx104_0)).trans hx104_0
        replace hx104_1 := (HB.out.cell (World.block_lt_of_cell? w _ hx104_1)).trans hx104_1
        replace p104 := eq_true p104
        replace q104 := eq_true q104
        have p105 : 0 ≤ (x6_1 : Int) := of_decide_eq_true (by first | (with_reducible assumption) | assumption)
        have q105 : x6_1 < (l0.length : Int) := of_decide_eq_true (by first | (with_reducible assumption) | assumption)
        obtain ⟨ad105, e105, hx105_0, hx105_1⟩ := at_T43 HR0.out x6_1 p105 q105
        have hw105_1 := hx105_1
        have hw105_0 := hx105_0
        obtain rfl : ad104 = ad105 := (by injection e105)
        replace hx105_0 := (HB.out.cell (World.block_lt_of_cell? w _ hx105_0)).trans hx105_0
        replace hx105_1 := (HB.out.cell (World.block_lt_of_cell? w _ hx105_1)).trans hx105_1
        replace p105 := eq_true p105
        replace q105 := eq_true q105
        obtain ⟨Ao16, co16, eo16⟩ := Kd.R_slice HO_104000.out
        (first | subst eo16 | (injection eo16 with f1_ f2_ f3_; have f4_ := f1_.symm; have f5_ := f3_.symm; clear f1_ f2_ f3_; subst f4_; subst f5_))
        refine start_ (n := 16) (S := fun w' => w'.cell? ⟨gb103, 0, none⟩ = some (.slice Ao16 x104000_1.length co16) ∧ w'.cell? (ad104.add ((x6_1).toNat * 2)) = some (.int .i64 ((rd_T43 l0 x6_1).f0)) ∧ w'.cell? ⟨(ad104.add ((x6_1).toNat * 2)).block, (ad104.add ((x6_1).toNat * 2)).off + 1, none⟩ = some (.int .i64 ((rd_T43 l0 x6_1).f1)) ∧ w'.cell? (ad104.add ((x6_1).toNat * 2)) = some (.int .i64 ((rd_T43 l0 x6_1).f0)) ∧ w'.cell? ⟨(ad104.add ((x6_1).toNat * 2)).block, (ad104.add ((x6_1).toNat * 2)).off + 1, none⟩ = some (.int .i64 ((rd_T43 l0 x6_1).f1))) (ds := [15]) #[false, false, false, false, false, false, false, false, false, false, false, false, false, false, false, false] (by kernel_rfl) rfl rfl ⟨(blk_cell BK103.out 0).trans rfl, ((HB.out.cell (World.block_lt_of_cell? w _ hw104_0)).trans hw104_0), ((HB.out.cell (World.block_lt_of_cell? w _ hw104_1)).trans hw104_1), ((HB.out.cell (World.block_lt_of_cell? w _ hw105_0)).trans hw105_0), ((HB.out.cell (World.block_lt_of_cell? w _ hw105_1)).trans hw105_1)⟩ (fun hHeld => ?_); refine with_tabW substationlaw16_TwinOnce.tab7 substationlaw16_TwinOnce.bits7 (fun HT_ HW_ => ?_)
        generalize wr.drew = w15 at HO_104000 BK101 BK103 HB hx104_0 hx104_1 hx105_0 hx105_1 hHeld ⊢
        refine pure_ (i := 1) (N := some 25) (v := ?_) (a' := ?_) #[false, true, false, false, false, false, false, false, false, false, false, false, false, false, false, false] rfl rfl (any_of HT_.out (by kernel_rfl)) (fun _ _ _ h => h) (Or.inl ⟨by rfl, ?_⟩) ?_ ?_
        rotate_left
        ·intro w'
         go_simp
         with_reducible rfl
        rotate_left
        ·simp only [Act.put, List.setIfInBounds_toArray, List.set_cons_zero, List.set_cons_succ, i64_w, i32_w]
         rfl
        refine pure_ (i := 2) (N := some 26) (v := ?_) (a' := ?_) #[false, true, true, false, false, false, false, false, false, false, false, false, false, false, false, false] rfl rfl (any_of HT_.out (by kernel_rfl)) (fun _ _ _ h => h) (Or.inl ⟨by rfl, ?_⟩) ?_ ?_
        rotate_left
        ·intro w'
         go_simp
         with_reducible rfl
        rotate_left
        ·simp only [Act.put, List.setIfInBounds_toArray, List.set_cons_zero, List.set_cons_succ, i64_w, i32_w]
         rfl
        refine pure_ (i := 3) (N := some 27) (v := ?_) (a' := ?_) #[false, true, true, true, false, false, false, false, false, false, false, false, false, false, false, false] rfl rfl (any_of HT_.out (by kernel_rfl)) (fun _ _ _ h => h) (Or.inl ⟨by rfl, ?_⟩) ?_ ?_
        rotate_left
        ·intro w'
         go_simp
         with_reducible rfl
        rotate_left
        ·simp only [Act.put, List.setIfInBounds_toArray, List.set_cons_zero, List.set_cons_succ, i64_w, i32_w]
         rfl
        refine pure_ (i := 4) (N := some 28) (v := ?_) (a' := ?_) #[false, true, true, true, true, false, false, false, false, false, false, false, false, false, false, false] rfl rfl (any_of HT_.out (by kernel_rfl)) (fun _ _ _ h => h) (Or.inl ⟨by rfl, ?_⟩) ?_ ?_
        rotate_left
        ·intro w'
         go_simp
         with_reducible rfl
        rotate_left
        ·simp only [Act.put, List.setIfInBounds_toArray, List.set_cons_zero, List.set_cons_succ, i64_w, i32_w]
         rfl
        refine pure_ (i := 6) (N := some 30) (v := ?_) (a' := ?_) #[false, true, true, true, true, false, true, false, false, false, false, false, false, false, false, false] rfl rfl (any_of HT_.out (by kernel_rfl)) (fun _ _ _ h => h) (Or.inl ⟨by rfl, ?_⟩) ?_ ?_
        rotate_left
        ·intro w'
         go_simp
         with_reducible rfl
        rotate_left
        ·simp only [Act.put, List.setIfInBounds_toArray, List.set_cons_zero, List.set_cons_succ, i64_w, i32_w]
         rfl
        refine pure_ (i := 7) (N := some 31) (v := ?_) (a' := ?_) #[false, true, true, true, true, false, true, true, false, false, false, false, false, false, false, false] rfl rfl (any_of HT_.out (by kernel_rfl)) (fun _ _ _ h => h) (Or.inl ⟨by rfl, ?_⟩) ?_ ?_
        rotate_left
        ·intro w'
         go_simp
         with_reducible rfl
        rotate_left
        ·simp only [Act.put, List.setIfInBounds_toArray, List.set_cons_zero, List.set_cons_succ, i64_w, i32_w]
         rfl
        refine pure_ (i := 8) (N := some 32) (v := ?_) (a' := ?_) #[false, true, true, true, true, false, true, true, true, false, false, false, false, false, false, false] rfl rfl (any_of HT_.out (by kernel_rfl)) (fun _ _ _ h => h) (Or.inl ⟨by rfl, ?_⟩) ?_ ?_
        rotate_left
        ·intro w'
         go_simp
         with_reducible rfl
        rotate_left
        ·simp only [Act.put, List.setIfInBounds_toArray, List.set_cons_zero, List.set_cons_succ, i64_w, i32_w]
         rfl
        refine pure_ (i := 9) (N := some 33) (v := ?_) (a' := ?_) #[false, true, true, true, true, false, true, true, true, true, false, false, false, false, false, false] rfl rfl (any_of HT_.out (by kernel_rfl)) (fun _ _ _ h => h) (Or.inl ⟨by rfl, ?_⟩) ?_ ?_
        rotate_left
        ·intro w'
         go_simp
         with_reducible rfl
        rotate_left
        ·simp only [Act.put, List.setIfInBounds_toArray, List.set_cons_zero, List.set_cons_succ, i64_w, i32_w]
         rfl
        refine take_ (i := 0) (N := some 24) (v := ?_) (a' := ?_) #[true, true, true, true, true, false, true, true, true, true, false, false, false, false, false, false] rfl rfl (take_ofW HT_.out HW_.out (by kernel_rfl)) (fun _ _ _ h => h) (Or.inl ⟨by rfl, ?_⟩) hHeld ?_ ?_
        rotate_left
        ·rintro w' ⟨s0, s1, s2, s3, s4⟩
         go_simp
         with_reducible rfl
        rotate_left
        ·simp only [Act.put, List.setIfInBounds_toArray, List.set_cons_zero, List.set_cons_succ, i64_w, i32_w]
         rfl
        refine take_ (i := 5) (N := some 29) (v := ?_) (a' := ?_) #[true, true, true, true, true, true, true, true, true, true, false, false, false, false, false, false] rfl rfl (take_ofW HT_.out HW_.out (by kernel_rfl)) (fun _ _ _ h => h) (Or.inl ⟨by rfl, ?_⟩) hHeld ?_ ?_
        rotate_left
        ·rintro w' ⟨s0, s1, s2, s3, s4⟩
         go_simp
         with_reducible rfl
        rotate_left
        ·simp only [Act.put, List.setIfInBounds_toArray, List.set_cons_zero, List.set_cons_succ, i64_w, i32_w]
         rfl
        refine take_ (i := 10) (N := some 34) (v := ?_) (a' := ?_) #[true, true, true, true, true, true, true, true, true, true, true, false, false, false, false, false] rfl rfl (take_ofW HT_.out HW_.out (by kernel_rfl)) (fun _ _ _ h => h) (Or.inl ⟨by rfl, ?_⟩) hHeld ?_ ?_
        rotate_left
        ·rintro w' ⟨s0, s1, s2, s3, s4⟩
         go_simp
         with_reducible rfl
        rotate_left
        ·simp only [Act.put, List.setIfInBounds_toArray, List.set_cons_zero, List.set_cons_succ, i64_w, i32_w]
         rfl
        refine one_ (i := 11) (N := some 35) #[true, true, true, true, true, true, true, true, true, true, true, true, false, false, false, false] rfl rfl (one_of HT_.out (by kernel_rfl)) (by decide) (fun K hK => ?_)
        refine goes_ Try.func17 (by kernel_rfl) rfl #[.agg #[.slice Ao16 x104000_1.length co16], .int .i64 ((rd_T43 l0 x6_1).f0), .int .i64 ((rd_T43 l0 x6_1).f1)] (by rfl) rfl rfl (by (try simp only [List.map_toArray, List.map_cons, List.map_nil]); first | done | rfl | (simp only [List.length_drop, List.length_take]; rfl)) ?_
        with_reducible refine (twin_Accept.calls _ _ x104000_1 ((rd_T43 l0 x6_1).f0) ((rd_T43 l0 x6_1).f1) t106 t109 _ ?side1 ?side2 A14.out).mono ?_
        (case side1 => repeat (first | exact (Kd.R_reads' HO_104000.out).2.2 | (with_reducible refine Kd.C_alloc ?_ _) | (with_reducible refine Kd.C_drewN ?_ _) | (with_reducible refine Kd.C_drew ?_)))
        (case side2 => exact (Kd.R_reads' HO_104000.out).2.1)
        rintro e w17 ⟨v107, rfl, ho0, hb⟩
        refine ⟨_, rfl, ?_⟩
        have n0_ := Aside0.mk (Kd.R_elder' (by (with_reducible repeat (first | apply Kd.R_alloc | apply Kd.R_drewN | apply Kd.R_drew)); exact HO_104000.out) (Kd.R_base ho0) hb)
        have n1_ := Aside0.mk (Kd.R_lower (Kd.R_new' ho0 (Kd.R_lt (by (with_reducible repeat (first | apply Kd.R_alloc | apply Kd.R_drewN | apply Kd.R_drew)); exact HO_104000.out))) (below_size (by repeat (first | (with_reducible first | exact HB.out | apply below_alloc | apply pw_below_drewN | apply below_drew1 | refine below_set ?_ GE101.out | refine below_set ?_ GE103.out) | exact HB.out))))
        have n2_ := Aside0.mk (blk_below (g := gb101) (o := .cells #[.int .i64 a1_0, .int .i64 a1_1] 43 (0, 0)) (by (with_reducible repeat (first | refine blk_drewN ?_ _ | refine blk_drew ?_ | refine blk_alloc ?_ _)); exact BK101.out) hb)
        have n3_ := Aside0.mk (blk_below (g := gb103) (o := .cells #[.slice Ao16 x104000_1.length co16] 28 (0, 0)) (by (with_reducible repeat (first | refine blk_drewN ?_ _ | refine blk_drew ?_ | refine blk_alloc ?_ _)); exact BK103.out) hb)
        have n4_ := Aside0.mk (below_step (by repeat (first | (with_reducible first | exact HB.out | apply below_alloc | apply pw_below_drewN | apply below_drew1 | refine below_set ?_ GE101.out | refine below_set ?_ GE103.out) | exact HB.out)) hb)
        clear HO_104000
        clear BK101
        clear BK103
        clear HB
        have HO_104000 := n0_
        have HO108 := n1_
        have BK101 := n2_
        have BK103 := n3_
        have HB := n4_
        clear n0_ n1_ n2_ n3_ n4_
        (try clear hb)
        (try clear hb2)
        (try clear hk)
        (try clear hi)
        (try clear ho0)
        obtain ⟨Ao18, co18, eo18⟩ := Kd.R_slice HO108.out
        (first | subst eo18 | (injection eo18 with f1_ f2_ f3_; have f4_ := f1_.symm; have f5_ := f3_.symm; clear f1_ f2_ f3_; subst f4_; subst f5_))
        refine hK.out _ _ ⟨(blk_cell BK103.out 0).trans rfl, ((HB.out.cell (World.block_lt_of_cell? w _ hw104_0)).trans hw104_0), ((HB.out.cell (World.block_lt_of_cell? w _ hw104_1)).trans hw104_1), ((HB.out.cell (World.block_lt_of_cell? w _ hw105_0)).trans hw105_0), ((HB.out.cell (World.block_lt_of_cell? w _ hw105_1)).trans hw105_1)⟩ (fun hHeld => ?_)
        clear hK K
        refine norm_ (a' := ?_) ?_ ?_
        rotate_left
        ·show Act.put _ (some 35) _ = _
         simp only [Act.put, List.setIfInBounds_toArray, List.set_cons_zero, List.set_cons_succ, i64_w, i32_w]
         rfl
        refine pure_ (i := 12) (N := some 23) (v := ?_) (a' := ?_) #[true, true, true, true, true, true, true, true, true, true, true, true, true, false, false, false] rfl rfl (any_of HT_.out (by kernel_rfl)) (fun _ _ _ h => h) (Or.inl ⟨by rfl, ?_⟩) ?_ ?_
        rotate_left
        ·intro w'
         go_simp
         with_reducible rfl
        rotate_left
        ·simp only [Act.put, List.setIfInBounds_toArray, List.set_cons_zero, List.set_cons_succ, i64_w, i32_w]
         rfl
        refine pure_ (i := 13) (N := some 36) (v := ?_) (a' := ?_) #[true, true, true, true, true, true, true, true, true, true, true, true, true, true, false, false] rfl rfl (any_of HT_.out (by kernel_rfl)) (fun _ _ _ h => h) (Or.inl ⟨by rfl, ?_⟩) ?_ ?_
        rotate_left
        ·intro w'
         go_simp
         with_reducible rfl
        rotate_left
        ·simp only [Act.put, List.setIfInBounds_toArray, List.set_cons_zero, List.set_cons_succ, i64_w, i32_w]
         rfl
        refine pure_ (i := 14) (N := some 37) (v := ?_) (a' := ?_) #[true, true, true, true, true, true, true, true, true, true, true, true, true, true, true, false] rfl rfl (any_of HT_.out (by kernel_rfl)) (fun _ _ _ h => h) (Or.inl ⟨by rfl, ?_⟩) ?_ ?_
        rotate_left
        ·intro w'
         go_simp
         with_reducible rfl
        rotate_left
        ·simp only [Act.put, List.setIfInBounds_toArray, List.set_cons_zero, List.set_cons_succ, i64_w, i32_w]
         rfl
        refine last_ (i := 15) (N := none) #[true, true, true, true, true, true, true, true, true, true, true, true, true, true, true, true] rfl rfl (one_of HT_.out (by kernel_rfl)) (by decide) (fun K hK => ?_)
        have hs19 : w17.cell? ⟨gb103, 0, none⟩ = some (.slice Ao16 x104000_1.length co16) := (blk_cell BK103.out 0).trans rfl
        have hfs19 := blk_frozen BK103.out 0
        have hns19_0 := NB101_103.out
        have hms19_0 := NB103_101.out
        refine skip_ (w1 := ?_) (by rfl) rfl ?_ ?_
        rotate_left
        ·go_simp
         rfl
        refine hK.out _ _ ?_
        clear hK K
        refine done_ (done_of HT_.out (by kernel_rfl)) ?_
        try go_wp2
        go_roundg k1
        case measure => have := HK1.out; omega
        case rel => exact ⟨(wrap64 (x6_1 + 1)), (t106), (.slice Ao18 t106.length co18), (by first | rfl | (simp; done) | (simp [*]; done) | (simp; omega)), H', ⟨by have := HK1.out; omega⟩, ⟨by (with_reducible repeat (first | apply Kd.R_alloc | apply Kd.R_drewN | apply Kd.R_drew)); exact Kd.R_mono (Kd.R_far (p := ⟨gb103, 0, none⟩) (Kd.R_types HO108.out BK103.out (by decide)) (fun _ hk => hk.2) (.slice Ao18 t106.length co18)) (fun _ hk => trivial)⟩, ⟨by (with_reducible repeat (first | refine blk_drewN ?_ _ | refine blk_drew ?_ | refine blk_alloc ?_ _)); refine blk_far ?_ NB101_103.out _; (with_reducible repeat (first | refine blk_drewN ?_ _ | refine blk_drew ?_ | refine blk_alloc ?_ _)); exact BK101.out⟩, ⟨by (with_reducible repeat (first | refine blk_drewN ?_ _ | refine blk_drew ?_ | refine blk_alloc ?_ _)); refine blk_put (cs := #[.slice Ao16 x104000_1.length co16]) ?_ 0 _ rfl; (with_reducible repeat (first | refine blk_drewN ?_ _ | refine blk_drew ?_ | refine blk_alloc ?_ _)); exact BK103.out⟩, ⟨by repeat (first | (with_reducible first | exact HB.out | apply below_alloc | apply pw_below_drewN | apply below_drew1 | refine below_set ?_ GE101.out | refine below_set ?_ GE103.out) | exact HB.out)⟩⟩
       ·rw [if_neg c13] at H
        exact absurd H (by simp)
      ·rw [if_neg c12] at H
       have c12b0 : decide (x6_1 < 100) = false := decide_eq_false c12
       clear c12
       have H' := Aside0.mk H
       clear H
       go_wp2
       go_meet
       case rel => exact ⟨_, (x104000_1), (u104000), H', ⟨by have := HK1.out; first | omega | exact Nat.le_refl _⟩, ⟨by (with_reducible repeat (first | apply Kd.R_alloc | apply Kd.R_drewN | apply Kd.R_drew)); exact HO_104000.out⟩, ⟨by (with_reducible repeat (first | refine blk_drewN ?_ _ | refine blk_drew ?_ | refine blk_alloc ?_ _)); exact BK101.out⟩, ⟨by (with_reducible repeat (first | refine blk_drewN ?_ _ | refine blk_drew ?_ | refine blk_alloc ?_ _)); exact BK103.out⟩, ⟨by repeat (first | (with_reducible first | exact HB.out | apply below_alloc | apply pw_below_drewN | apply below_drew1 | refine below_set ?_ GE101.out | refine below_set ?_ GE103.out) | exact HB.out)⟩⟩
     ·rw [if_neg c11] at H
      have c11b0 : decide (x6_1 < (l0.length : Int)) = false := decide_eq_false c11
      clear c11
      (first | rw [c11b0] | (simp only [i64_w, i32_w]; rw [c11b0]) | skip)
      have H' := Aside0.mk H
      clear H
      go_wp2
      go_meet
      case rel => exact ⟨_, (x104000_1), (u104000), H', ⟨by have := HK1.out; first | omega | exact Nat.le_refl _⟩, ⟨by (with_reducible repeat (first | apply Kd.R_alloc | apply Kd.R_drewN | apply Kd.R_drew)); exact HO_104000.out⟩, ⟨by (with_reducible repeat (first | refine blk_drewN ?_ _ | refine blk_drew ?_ | refine blk_alloc ?_ _)); exact BK101.out⟩, ⟨by (with_reducible repeat (first | refine blk_drewN ?_ _ | refine blk_drew ?_ | refine blk_alloc ?_ _)); exact BK103.out⟩, ⟨by repeat (first | (with_reducible first | exact HB.out | apply below_alloc | apply pw_below_drewN | apply below_drew1 | refine below_set ?_ GE101.out | refine below_set ?_ GE103.out) | exact HB.out)⟩⟩
  case rest =>
   clear HC5
   try clear c1
   try clear p1
   try clear q1
   try clear hx1
   try clear p2
   try clear c4
   try clear c6
   try clear p6
   try clear c9
   try clear p10
   try clear q10
   try clear hx10
   try clear c11
   try clear c11b0
   try clear c12
   try clear c12b0
   try clear c13
   try clear c13b0
   try clear c15
   try clear c17
   try clear hcz10_0
   try clear hfz10_0
   try clear hx104_0
   try clear hx104_1
   try clear hx105_0
   try clear hx105_1
   try clear p104
   try clear p105
   try clear p2
   try clear q104
   try clear q105
   obtain ⟨kq, x104000_4, u104000, HA, HJ4, HO_104000, BK101, BK103, HB⟩ := hcut
   cases kq with
   | zero => exact absurd HA.out (by simp [substationlaw16_TwinOnce.j1])
   | succ kj4 =>
    have H := HA.out
    clear HA
    simp only [substationlaw16_TwinOnce.j1] at H
    replace H := Option.bind_eq_some_iff.mp H
    obtain ⟨⟨t110, t113⟩, A200, H⟩ := H
    replace H : (substationlaw16_TwinOnce.l1 kj4 l0 0 a1_0 a1_1 t110) = some r := H
    have A20 := Aside0.mk A200
    clear A200
    have H' := Aside0.mk H
    clear H
    have hnb21 := NB103_101.out
    have hnc21 := NB101_103.out
    have hcz22_0 : wc.cell? ⟨gb103, 0, none⟩ = some (u104000) := (blk_cell BK103.out 0).trans rfl
    have hfz22_0 := blk_frozen BK103.out 0
    have hcz23_0 : wc.cell? ⟨gb101, 0, none⟩ = some (.int .i64 a1_0) := (blk_cell BK101.out 0).trans rfl
    have hcz23_1 : wc.cell? ⟨gb101, 1, none⟩ = some (.int .i64 a1_1) := (blk_cell BK101.out 1).trans rfl
    have hfz23_0 := blk_frozen BK101.out 0
    have hfz23_1 := blk_frozen BK101.out 1
    obtain ⟨Ao24, co24, eo24⟩ := Kd.R_slice HO_104000.out
    subst eo24
    go_wp2_with (first | ((with_reducible refine gate_callee (f := 17) rfl ?_); refine goesL_ (some 44) rfl rfl Try.func17 (by kernel_rfl) rfl #[.agg #[.slice Ao24 x104000_4.length co24], .int .i64 a1_0, .int .i64 a1_1] rfl (by (try simp only [List.map_toArray, List.map_cons, List.map_nil]); first | done | rfl | (simp only [List.length_drop, List.length_take]; rfl)) ?_; (with_reducible refine (twin_Accept.calls _ _ x104000_4 a1_0 a1_1 t110 t113 _ ?side1 ?side2 A20.out).mono ?_); (case side1 => repeat (first | exact (Kd.R_reads' HO_104000.out).2.2 | (with_reducible refine Kd.C_alloc ?_ _) | (with_reducible refine Kd.C_drewN ?_ _) | (with_reducible refine Kd.C_drew ?_))); (case side2 => exact (Kd.R_reads' HO_104000.out).2.1); rintro e w25 ⟨v111, rfl, ho0, hb⟩; refine ⟨_, rfl, ?_⟩; have n0_ := Aside0.mk (Kd.R_elder' (by (with_reducible repeat (first | apply Kd.R_alloc | apply Kd.R_drewN | apply Kd.R_drew)); exact HO_104000.out) (Kd.R_base ho0) hb); have n1_ := Aside0.mk (Kd.R_lower (Kd.R_new' ho0 (Kd.R_lt (by (with_reducible repeat (first | apply Kd.R_alloc | apply Kd.R_drewN | apply Kd.R_drew)); exact HO_104000.out))) (below_size (by repeat (first | (with_reducible first | exact HB.out | apply below_alloc | apply pw_below_drewN | apply below_drew1 | refine below_set ?_ GE101.out | refine below_set ?_ GE103.out) | exact HB.out)))); have n2_ := Aside0.mk (blk_below (g := gb101) (o := .cells #[.int .i64 a1_0, .int .i64 a1_1] 43 (0, 0)) (by (with_reducible repeat (first | refine blk_drewN ?_ _ | refine blk_drew ?_ | refine blk_alloc ?_ _)); exact BK101.out) hb); have n3_ := Aside0.mk (blk_below (g := gb103) (o := .cells #[.slice Ao24 x104000_4.length co24] 28 (0, 0)) (by (with_reducible repeat (first | refine blk_drewN ?_ _ | refine blk_drew ?_ | refine blk_alloc ?_ _)); exact BK103.out) hb); have n4_ := Aside0.mk (below_step (by repeat (first | (with_reducible first | exact HB.out | apply below_alloc | apply pw_below_drewN | apply below_drew1 | refine below_set ?_ GE101.out | refine below_set ?_ GE103.out) | exact HB.out)) hb); clear HO_104000; clear BK101; clear BK103; clear HB; have HO_104000 := n0_; have HO112 := n1_; have BK101 := n2_; have BK103 := n3_; have HB := n4_; clear n0_ n1_ n2_ n3_ n4_; (try clear hb); (try clear hb2); (try clear hk); (try clear hi); (try clear ho0); obtain ⟨Ao26, co26, eo26⟩ := Kd.R_slice HO112.out; subst eo26; have hcz27_0 : w25.cell? ⟨gb103, 0, none⟩ = some (.slice Ao24 x104000_4.length co24) := (blk_cell BK103.out 0).trans rfl; have hfz27_0 := blk_frozen BK103.out 0))
    go_loopg [7] kj4 (fun kq v7 w' => ∃ (x7_2 : Int) (x104000_2 : List (S36)) (u104000 : Value), v7 = .int .i64 x7_2 ∧ Aside0 (substationlaw16_TwinOnce.l1 kq l0 x7_2 a1_0 a1_1 x104000_2 = some r) ∧ Aside0 (kq ≤ kj4) ∧ Aside0 (Kd.R k36 36 w' w.heap.size (fun _ => True) u104000 x104000_2) ∧ Aside0 (w'.heap[gb101]? = some (.cells #[.int .i64 a1_0, .int .i64 a1_1] 43 (0, 0))) ∧ Aside0 (w'.heap[gb103]? = some (.cells #[u104000] 28 (0, 0))) ∧ Aside0 (Below w.heap.size w w'))
    case atStart => exact ⟨(0), (t110), (.slice Ao26 t110.length co26), (by first | rfl | (simp; done) | (simp [*]; done) | (simp; omega)), H', ⟨Nat.le_refl _⟩, ⟨by (with_reducible repeat (first | apply Kd.R_alloc | apply Kd.R_drewN | apply Kd.R_drew)); exact Kd.R_mono (Kd.R_far (p := ⟨gb103, 0, none⟩) (Kd.R_types HO112.out BK103.out (by decide)) (fun _ hk => hk.2) (.slice Ao26 t110.length co26)) (fun _ hk => trivial)⟩, ⟨by (with_reducible repeat (first | refine blk_drewN ?_ _ | refine blk_drew ?_ | refine blk_alloc ?_ _)); refine blk_far ?_ NB101_103.out _; (with_reducible repeat (first | refine blk_drewN ?_ _ | refine blk_drew ?_ | refine blk_alloc ?_ _)); exact BK101.out⟩, ⟨by (with_reducible repeat (first | refine blk_drewN ?_ _ | refine blk_drew ?_ | refine blk_alloc ?_ _)); refine blk_put (cs := #[.slice Ao24 x104000_4.length co24]) ?_ 0 _ rfl; (with_reducible repeat (first | refine blk_drewN ?_ _ | refine blk_drew ?_ | refine blk_alloc ?_ _)); exact BK103.out⟩, ⟨by repeat (first | (with_reducible first | exact HB.out | apply below_alloc | apply pw_below_drewN | apply below_drew1 | refine below_set ?_ GE101.out | refine below_set ?_ GE103.out) | exact HB.out)⟩⟩
    case round =>
     clear H'
     try clear c1
     try clear p1
     try clear q1
     try clear hx1
     try clear c2
     try clear p2
     try clear c4
     try clear c6
     try clear p6
     try clear c9
     try clear p10
     try clear q10
     try clear hx10
     try clear c11
     try clear c11b0
     try clear c12
     try clear c12b0
     try clear c13
     try clear c13b0
     try clear c15
     try clear c17
     try clear c21
     try clear hcz10_0
     try clear hcz22_0
     try clear hcz23_0
     try clear hcz23_1
     try clear hcz27_0
     try clear hfz10_0
     try clear hfz22_0
     try clear hfz23_0
     try clear hfz23_1
     try clear hfz27_0
     try clear hx104_0
     try clear hx104_1
     try clear hx105_0
     try clear hx105_1
     try clear p1
     try clear p10
     try clear p104
     try clear p105
     try clear p2
     try clear p6
     try clear q1
     try clear q10
     try clear q104
     try clear q105
     obtain ⟨x7_2, x104000_2, u104000, rfl, HA, HK2, HO_104000, BK101, BK103, HB⟩ := hrel
     cases gk with
     | zero => exact absurd HA.out (by simp [substationlaw16_TwinOnce.l1])
     | succ k2 =>
      have H := HA.out
      clear HA
      simp only [substationlaw16_TwinOnce.l1] at H
      have HC28 := Aside0.mk H
      clear H
      go_upto_region 10 with (fail)
      go_cut [54] (fun v54 wc => ∃ (kq : Nat) (x54_27 : Bool), v54 = .bool x54_27 ∧ Aside0 (substationlaw16_TwinOnce.j3 kq l0 x7_2 x54_27 a1_0 a1_1 x104000_2 = some r) ∧ Aside0 (kq ≤ k2) ∧ Aside0 (Kd.R k36 36 wc w.heap.size (fun _ => True) u104000 x104000_2) ∧ Aside0 (wc.heap[gb101]? = some (.cells #[.int .i64 a1_0, .int .i64 a1_1] 43 (0, 0))) ∧ Aside0 (wc.heap[gb103]? = some (.cells #[u104000] 28 (0, 0))) ∧ Aside0 (Below w.heap.size w wc))
      case first =>
       have H := HC28.out
       clear HC28
       by_cases c29 : x7_2 < (l0.length : Int)
       ·rw [if_pos c29] at H
        have c29b0 : decide (x7_2 < (l0.length : Int)) = true := decide_eq_true c29
        clear c29
        (first | rw [c29b0] | (simp only [i64_w, i32_w]; rw [c29b0]) | skip)
        have H' := Aside0.mk H
        clear H
        go_wp2
        go_meet
        case rel => exact ⟨_, (decide (x7_2 < 100)), (by first | rfl | (simp; done) | (simp [*]; done) | (simp; omega)), H', ⟨by have := HJ4.out; have := HK2.out; first | omega | exact Nat.le_refl _⟩, ⟨by (with_reducible repeat (first | apply Kd.R_alloc | apply Kd.R_drewN | apply Kd.R_drew)); exact HO_104000.out⟩, ⟨by (with_reducible repeat (first | refine blk_drewN ?_ _ | refine blk_drew ?_ | refine blk_alloc ?_ _)); exact BK101.out⟩, ⟨by (with_reducible repeat (first | refine blk_drewN ?_ _ | refine blk_drew ?_ | refine blk_alloc ?_ _)); exact BK103.out⟩, ⟨by repeat (first | (with_reducible first | exact HB.out | apply below_alloc | apply pw_below_drewN | apply below_drew1 | refine below_set ?_ GE101.out | refine below_set ?_ GE103.out) | exact HB.out)⟩⟩
       ·rw [if_neg c29] at H
        have c29b0 : decide (x7_2 < (l0.length : Int)) = false := decide_eq_false c29
        clear c29
        (first | rw [c29b0] | (simp only [i64_w, i32_w]; rw [c29b0]) | skip)
        have H' := Aside0.mk H
        clear H
        go_wp2
        go_meet
        case rel => exact ⟨_, (false), (by first | rfl | (simp; done) | (simp [*]; done) | (simp; omega)), H', ⟨by have := HJ4.out; have := HK2.out; first | omega | exact Nat.le_refl _⟩, ⟨by (with_reducible repeat (first | apply Kd.R_alloc | apply Kd.R_drewN | apply Kd.R_drew)); exact HO_104000.out⟩, ⟨by (with_reducible repeat (first | refine blk_drewN ?_ _ | refine blk_drew ?_ | refine blk_alloc ?_ _)); exact BK101.out⟩, ⟨by (with_reducible repeat (first | refine blk_drewN ?_ _ | refine blk_drew ?_ | refine blk_alloc ?_ _)); exact BK103.out⟩, ⟨by repeat (first | (with_reducible first | exact HB.out | apply below_alloc | apply pw_below_drewN | apply below_drew1 | refine below_set ?_ GE101.out | refine below_set ?_ GE103.out) | exact HB.out)⟩⟩
      case rest =>
       clear HC28
       try clear c1
       try clear p1
       try clear q1
       try clear hx1
       try clear c2
       try clear p2
       try clear c4
       try clear c6
       try clear p6
       try clear c9
       try clear p10
       try clear q10
       try clear hx10
       try clear c11
       try clear c11b0
       try clear c12
       try clear c12b0
       try clear c13
       try clear c13b0
       try clear c15
       try clear c17
       try clear c21
       try clear c29
       try clear c29b0
       try clear hcz10_0
       try clear hcz22_0
       try clear hcz23_0
       try clear hcz23_1
       try clear hcz27_0
       try clear hfz10_0
       try clear hfz22_0
       try clear hfz23_0
       try clear hfz23_1
       try clear hfz27_0
       try clear hx104_0
       try clear hx104_1
       try clear hx105_0
       try clear hx105_1
       try clear p1
       try clear p10
       try clear p104
       try clear p105
       try clear p2
       try clear p6
       try clear q1
       try clear q10
       try clear q104
       try clear q105
       obtain ⟨kq, x54_27, rfl, HA, HJ27, HO_104000, BK101, BK103, HB⟩ := hcut
       cases kq with
       | zero => exact absurd HA.out (by simp [substationlaw16_TwinOnce.j3])
       | succ kj27 =>
        have H := HA.out
        clear HA
        simp only [substationlaw16_TwinOnce.j3] at H
        by_cases c30 : x54_27 = true
        ·subst c30
         have H1 : (if 0 ≤ x7_2 then (if x7_2 < (l0.length : Int) then (if ((rd_T43 l0 x7_2).f0) = a1_0 then (substationlaw16_TwinOnce.l1 kj27 l0 (wrap64 (x7_2 + 1)) a1_0 a1_1 x104000_2) else ((twin_Accept.f x104000_2 ((rd_T43 l0 x7_2).f0) ((rd_T43 l0 x7_2).f1)).bind fun bt117 => (substationlaw16_TwinOnce.l1 kj27 l0 (wrap64 (x7_2 + 1)) a1_0 a1_1 bt117.1))) else (none)) else (none)) = some r := by rw [if_pos rfl] at H; exact H
         clear H
         have H := H1
         clear H1
         by_cases c31 : 0 ≤ x7_2
         ·rw [if_pos c31] at H
          have c31b0 : decide (0 ≤ x7_2) = true := decide_eq_true c31
          clear c31
          by_cases c32 : x7_2 < (l0.length : Int)
          ·rw [if_pos c32] at H
           have c32b0 : decide (x7_2 < (l0.length : Int)) = true := decide_eq_true c32
           clear c32
           by_cases c33 : ((rd_T43 l0 x7_2).f0) = a1_0
           ·rw [if_pos c33] at H
            have c33b0 : (((rd_T43 l0 x7_2).f0) == a1_0) = true := beq_iff_eq.mpr c33
            have c33b1 : (((rd_T43 l0 x7_2).f0) != a1_0) = false := bne_eq_false_iff_eq.mpr c33
            clear c33
            have H' := Aside0.mk H
            clear H
            try go_wp2
            have n0_ := Aside0.mk (Kd.R_drew HO_104000.out)
            have n1_ := Aside0.mk (blk_drew BK101.out)
            have n2_ := Aside0.mk (blk_drew BK103.out)
            have n3_ := Aside0.mk (below_drew1 HB.out)
            clear HO_104000
            clear BK101
            clear BK103
            clear HB
            have HO_104000 := n0_
            have BK101 := n1_
            have BK103 := n2_
            have HB := n3_
            clear n0_ n1_ n2_ n3_
            have p114 : 0 ≤ (x7_2 : Int) := of_decide_eq_true (by first | (with_reducible assumption) | assumption)
            have q114 : x7_2 < (l0.length : Int) := of_decide_eq_true (by first | (with_reducible assumption) | assumption)
            obtain ⟨ad114, e114, hx114_0, hx114_1⟩ := at_T43 HR0.out x7_2 p114 q114
            have hw114_1 := hx114_1
            have hw114_0 := hx114_0
            cases e114
            replace hx114_0 := (HB.out.cell (World.block_lt_of_cell? w _ hx114_0)).trans hx114_0
            replace hx114_1 := (HB.out.cell (World.block_lt_of_cell? w _ hx114_1)).trans hx114_1
            replace p114 := eq_true p114
            replace q114 := eq_true q114
            refine start_ (n := 8) (S := fun w' => w'.cell? ⟨gb101, 0, none⟩ = some (.int .i64 a1_0) ∧ w'.cell? ⟨gb101, 1, none⟩ = some (.int .i64 a1_1) ∧ w'.cell? (ad114.add ((x7_2).toNat * 2)) = some (.int .i64 ((rd_T43 l0 x7_2).f0)) ∧ w'.cell? ⟨(ad114.add ((x7_2).toNat * 2)).block, (ad114.add ((x7_2).toNat * 2)).off + 1, none⟩ = some (.int .i64 ((rd_T43 l0 x7_2).f1))) (ds := []) #[false, false, false, false, false, false, false, false] (by kernel_rfl) rfl rfl ⟨(blk_cell BK101.out 0).trans rfl, (blk_cell BK101.out 1).trans rfl, ((HB.out.cell (World.block_lt_of_cell? w _ hw114_0)).trans hw114_0), ((HB.out.cell (World.block_lt_of_cell? w _ hw114_1)).trans hw114_1)⟩ (fun hHeld => ?_); refine with_tabW substationlaw16_TwinOnce.tab12 substationlaw16_TwinOnce.bits12 (fun HT_ HW_ => ?_)
            generalize wc.drew = w34 at HO_104000 BK101 BK103 HB hx114_0 hx114_1 hHeld ⊢
            refine pure_ (i := 0) (N := some 57) (v := ?_) (a' := ?_) #[true, false, false, false, false, false, false, false] rfl rfl (any_of HT_.out (by kernel_rfl)) (fun _ _ _ h => h) (Or.inl ⟨by rfl, ?_⟩) ?_ ?_
            rotate_left
            ·intro w'
             go_simp
             with_reducible rfl
            rotate_left
            ·simp only [Act.put, List.setIfInBounds_toArray, List.set_cons_zero, List.set_cons_succ, i64_w, i32_w]
             rfl
            refine pure_ (i := 1) (N := some 58) (v := ?_) (a' := ?_) #[true, true, false, false, false, false, false, false] rfl rfl (any_of HT_.out (by kernel_rfl)) (fun _ _ _ h => h) (Or.inl ⟨by rfl, ?_⟩) ?_ ?_
            rotate_left
            ·intro w'
             go_simp
             with_reducible rfl
            rotate_left
            ·simp only [Act.put, List.setIfInBounds_toArray, List.set_cons_zero, List.set_cons_succ, i64_w, i32_w]
             rfl
            refine pure_ (i := 2) (N := some 59) (v := ?_) (a' := ?_) #[true, true, true, false, false, false, false, false] rfl rfl (any_of HT_.out (by kernel_rfl)) (fun _ _ _ h => h) (Or.inl ⟨by rfl, ?_⟩) ?_ ?_
            rotate_left
            ·intro w'
             go_simp
             with_reducible rfl
            rotate_left
            ·simp only [Act.put, List.setIfInBounds_toArray, List.set_cons_zero, List.set_cons_succ, i64_w, i32_w]
             rfl
            refine pure_ (i := 3) (N := some 60) (v := ?_) (a' := ?_) #[true, true, true, true, false, false, false, false] rfl rfl (any_of HT_.out (by kernel_rfl)) (fun _ _ _ h => h) (Or.inl ⟨by rfl, ?_⟩) ?_ ?_
            rotate_left
            ·intro w'
             go_simp
             with_reducible rfl
            rotate_left
            ·simp only [Act.put, List.setIfInBounds_toArray, List.set_cons_zero, List.set_cons_succ, i64_w, i32_w]
             rfl
            refine pure_ (i := 5) (N := some 62) (v := ?_) (a' := ?_) #[true, true, true, true, false, true, false, false] rfl rfl (any_of HT_.out (by kernel_rfl)) (fun _ _ _ h => h) (Or.inl ⟨by rfl, ?_⟩) ?_ ?_
            rotate_left
            ·intro w'
             go_simp
             with_reducible rfl
            rotate_left
            ·simp only [Act.put, List.setIfInBounds_toArray, List.set_cons_zero, List.set_cons_succ, i64_w, i32_w]
             rfl
            refine take_ (i := 4) (N := some 61) (v := ?_) (a' := ?_) #[true, true, true, true, true, true, false, false] rfl rfl (take_ofW HT_.out HW_.out (by kernel_rfl)) (fun _ _ _ h => h) (Or.inl ⟨by rfl, ?_⟩) hHeld ?_ ?_
            rotate_left
            ·rintro w' ⟨s0, s1, s2, s3⟩
             go_simp
             with_reducible rfl
            rotate_left
            ·simp only [Act.put, List.setIfInBounds_toArray, List.set_cons_zero, List.set_cons_succ, i64_w, i32_w]
             rfl
            refine take_ (i := 6) (N := some 63) (v := ?_) (a' := ?_) #[true, true, true, true, true, true, true, false] rfl rfl (take_ofW HT_.out HW_.out (by kernel_rfl)) (fun _ _ _ h => h) (Or.inl ⟨by rfl, ?_⟩) hHeld ?_ ?_
            rotate_left
            ·rintro w' ⟨s0, s1, s2, s3⟩
             go_simp
             with_reducible rfl
            rotate_left
            ·simp only [Act.put, List.setIfInBounds_toArray, List.set_cons_zero, List.set_cons_succ, i64_w, i32_w]
             rfl
            refine pure_ (i := 7) (N := some 64) (v := ?_) (a' := ?_) #[true, true, true, true, true, true, true, true] rfl rfl (any_of HT_.out (by kernel_rfl)) (fun _ _ _ h => h) (Or.inl ⟨by rfl, ?_⟩) ?_ ?_
            rotate_left
            ·intro w'
             go_simp
             with_reducible rfl
            rotate_left
            ·simp only [Act.put, List.setIfInBounds_toArray, List.set_cons_zero, List.set_cons_succ, i64_w, i32_w]
             rfl
            refine done_ (done_of HT_.out (by kernel_rfl)) ?_
            try go_wp2
            go_roundg kj27
            case measure => have := HJ4.out; have := HK2.out; have := HJ27.out; omega
            case rel => exact ⟨(wrap64 (x7_2 + 1)), (x104000_2), (u104000), (by first | rfl | (simp; done) | (simp [*]; done) | (simp; omega)), H', ⟨by have := HJ4.out; have := HK2.out; have := HJ27.out; omega⟩, ⟨by (with_reducible repeat (first | apply Kd.R_alloc | apply Kd.R_drewN | apply Kd.R_drew)); exact HO_104000.out⟩, ⟨by (with_reducible repeat (first | refine blk_drewN ?_ _ | refine blk_drew ?_ | refine blk_alloc ?_ _)); exact BK101.out⟩, ⟨by (with_reducible repeat (first | refine blk_drewN ?_ _ | refine blk_drew ?_ | refine blk_alloc ?_ _)); exact BK103.out⟩, ⟨by repeat (first | (with_reducible first | exact HB.out | apply below_alloc | apply pw_below_drewN | apply below_drew1 | refine below_set ?_ GE101.out | refine below_set ?_ GE103.out) | exact HB.out)⟩⟩
           ·rw [if_neg c33] at H
            have c33b0 : (((rd_T43 l0 x7_2).f0) == a1_0) = false := beq_eq_false_iff_ne.mpr c33
            have c33b1 : (((rd_T43 l0 x7_2).f0) != a1_0) = true := bne_iff_ne.mpr c33
            replace H := Option.bind_eq_some_iff.mp H
            obtain ⟨⟨t117, t120⟩, A350, H⟩ := H
            replace H : (substationlaw16_TwinOnce.l1 kj27 l0 (wrap64 (x7_2 + 1)) a1_0 a1_1 t117) = some r := H
            have A35 := Aside0.mk A350
            clear A350
            have H' := Aside0.mk H
            clear H
            try go_wp2
            have n0_ := Aside0.mk (Kd.R_drew HO_104000.out)
            have n1_ := Aside0.mk (blk_drew BK101.out)
            have n2_ := Aside0.mk (blk_drew BK103.out)
            have n3_ := Aside0.mk (below_drew1 HB.out)
            clear HO_104000
            clear BK101
            clear BK103
            clear HB
            have HO_104000 := n0_
            have BK101 := n1_
            have BK103 := n2_
            have HB := n3_
            clear n0_ n1_ n2_ n3_
            have p114 : 0 ≤ (x7_2 : Int) := of_decide_eq_true (by first | (with_reducible assumption) | assumption)
            have q114 : x7_2 < (l0.length : Int) := of_decide_eq_true (by first | (with_reducible assumption) | assumption)
            obtain ⟨ad114, e114, hx114_0, hx114_1⟩ := at_T43 HR0.out x7_2 p114 q114
            have hw114_1 := hx114_1
            have hw114_0 := hx114_0
            cases e114
            replace hx114_0 := (HB.out.cell (World.block_lt_of_cell? w _ hx114_0)).trans hx114_0
            replace hx114_1 := (HB.out.cell (World.block_lt_of_cell? w _ hx114_1)).trans hx114_1
            replace p114 := eq_true p114
            replace q114 := eq_true q114
            refine start_ (n := 8) (S := fun w' => w'.cell? ⟨gb101, 0, none⟩ = some (.int .i64 a1_0) ∧ w'.cell? ⟨gb101, 1, none⟩ = some (.int .i64 a1_1) ∧ w'.cell? (ad114.add ((x7_2).toNat * 2)) = some (.int .i64 ((rd_T43 l0 x7_2).f0)) ∧ w'.cell? ⟨(ad114.add ((x7_2).toNat * 2)).block, (ad114.add ((x7_2).toNat * 2)).off + 1, none⟩ = some (.int .i64 ((rd_T43 l0 x7_2).f1))) (ds := []) #[false, false, false, false, false, false, false, false] (by kernel_rfl) rfl rfl ⟨(blk_cell BK101.out 0).trans rfl, (blk_cell BK101.out 1).trans rfl, ((HB.out.cell (World.block_lt_of_cell? w _ hw114_0)).trans hw114_0), ((HB.out.cell (World.block_lt_of_cell? w _ hw114_1)).trans hw114_1)⟩ (fun hHeld => ?_); refine with_tabW substationlaw16_TwinOnce.tab12 substationlaw16_TwinOnce.bits12 (fun HT_ HW_ => ?_)
            generalize wc.drew = w36 at HO_104000 BK101 BK103 HB hx114_0 hx114_1 hHeld ⊢
            refine pure_ (i := 0) (N := some 57) (v := ?_) (a' := ?_) #[true, false, false, false, false, false, false, false] rfl rfl (any_of HT_.out (by kernel_rfl)) (fun _ _ _ h => h) (Or.inl ⟨by rfl, ?_⟩) ?_ ?_
            rotate_left
            ·intro w'
             go_simp
             with_reducible rfl
            rotate_left
            ·simp only [Act.put, List.setIfInBounds_toArray, List.set_cons_zero, List.set_cons_succ, i64_w, i32_w]
             rfl
            refine pure_ (i := 1) (N := some 58) (v := ?_) (a' := ?_) #[true, true, false, false, false, false, false, false] rfl rfl (any_of HT_.out (by kernel_rfl)) (fun _ _ _ h => h) (Or.inl ⟨by rfl, ?_⟩) ?_ ?_
            rotate_left
            ·intro w'
             go_simp
             with_reducible rfl
            rotate_left
            ·simp only [Act.put, List.setIfInBounds_toArray, List.set_cons_zero, List.set_cons_succ, i64_w, i32_w]
             rfl
            refine pure_ (i := 2) (N := some 59) (v := ?_) (a' := ?_) #[true, true, true, false, false, false, false, false] rfl rfl (any_of HT_.out (by kernel_rfl)) (fun _ _ _ h => h) (Or.inl ⟨by rfl, ?_⟩) ?_ ?_
            rotate_left
            ·intro w'
             go_simp
             with_reducible rfl
            rotate_left
            ·simp only [Act.put, List.setIfInBounds_toArray, List.set_cons_zero, List.set_cons_succ, i64_w, i32_w]
             rfl
            refine pure_ (i := 3) (N := some 60) (v := ?_) (a' := ?_) #[true, true, true, true, false, false, false, false] rfl rfl (any_of HT_.out (by kernel_rfl)) (fun _ _ _ h => h) (Or.inl ⟨by rfl, ?_⟩) ?_ ?_
            rotate_left
            ·intro w'
             go_simp
             with_reducible rfl
            rotate_left
            ·simp only [Act.put, List.setIfInBounds_toArray, List.set_cons_zero, List.set_cons_succ, i64_w, i32_w]
             rfl
            refine pure_ (i := 5) (N := some 62) (v := ?_) (a' := ?_) #[true, true, true, true, false, true, false, false] rfl rfl (any_of HT_.out (by kernel_rfl)) (fun _ _ _ h => h) (Or.inl ⟨by rfl, ?_⟩) ?_ ?_
            rotate_left
            ·intro w'
             go_simp
             with_reducible rfl
            rotate_left
            ·simp only [Act.put, List.setIfInBounds_toArray, List.set_cons_zero, List.set_cons_succ, i64_w, i32_w]
             rfl
            refine take_ (i := 4) (N := some 61) (v := ?_) (a' := ?_) #[true, true, true, true, true, true, false, false] rfl rfl (take_ofW HT_.out HW_.out (by kernel_rfl)) (fun _ _ _ h => h) (Or.inl ⟨by rfl, ?_⟩) hHeld ?_ ?_
            rotate_left
            ·rintro w' ⟨s0, s1, s2, s3⟩
             go_simp
             with_reducible rfl
            rotate_left
            ·simp only [Act.put, List.setIfInBounds_toArray, List.set_cons_zero, List.set_cons_succ, i64_w, i32_w]
             rfl
            refine take_ (i := 6) (N := some 63) (v := ?_) (a' := ?_) #[true, true, true, true, true, true, true, false] rfl rfl (take_ofW HT_.out HW_.out (by kernel_rfl)) (fun _ _ _ h => h) (Or.inl ⟨by rfl, ?_⟩) hHeld ?_ ?_
            rotate_left
            ·rintro w' ⟨s0, s1, s2, s3⟩
             go_simp
             with_reducible rfl
            rotate_left
            ·simp only [Act.put, List.setIfInBounds_toArray, List.set_cons_zero, List.set_cons_succ, i64_w, i32_w]
             rfl
            refine pure_ (i := 7) (N := some 64) (v := ?_) (a' := ?_) #[true, true, true, true, true, true, true, true] rfl rfl (any_of HT_.out (by kernel_rfl)) (fun _ _ _ h => h) (Or.inl ⟨by rfl, ?_⟩) ?_ ?_
            rotate_left
            ·intro w'
             go_simp
             with_reducible rfl
            rotate_left
            ·simp only [Act.put, List.setIfInBounds_toArray, List.set_cons_zero, List.set_cons_succ, i64_w, i32_w]
             rfl
            refine done_ (done_of HT_.out (by kernel_rfl)) ?_
            try go_wp2
            have n0_ := Aside0.mk (Kd.R_drew HO_104000.out)
            have n1_ := Aside0.mk (blk_drew BK101.out)
            have n2_ := Aside0.mk (blk_drew BK103.out)
            have n3_ := Aside0.mk (below_drew1 HB.out)
            clear HO_104000
            clear BK101
            clear BK103
            clear HB
            have HO_104000 := n0_
            have BK101 := n1_
            have BK103 := n2_
            have HB := n3_
            clear n0_ n1_ n2_ n3_
            have p115 : 0 ≤ (x7_2 : Int) := of_decide_eq_true (by first | (with_reducible assumption) | assumption)
            have q115 : x7_2 < (l0.length : Int) := of_decide_eq_true (by first | (with_reducible assumption) | assumption)
            obtain ⟨ad115, e115, hx115_0, hx115_1⟩ := at_T43 HR0.out x7_2 p115 q115
            have hw115_1 := hx115_1
            have hw115_0 := hx115_0
            obtain rfl : ad114 = ad115 := (by injection e115)
            replace hx115_0 := (HB.out.cell (World.block_lt_of_cell? w _ hx115_0)).trans hx115_0
            replace hx115_1 := (HB.out.cell (World.block_lt_of_cell? w _ hx115_1)).trans hx115_1
            replace p115 := eq_true p115
            replace q115 := eq_true q115
            have p116 : 0 ≤ (x7_2 : Int) := of_decide_eq_true (by first | (with_reducible assumption) | assumption)
            have q116 : x7_2 < (l0.length : Int) := of_decide_eq_true (by first | (with_reducible assumption) | assumption)
            obtain ⟨ad116, e116, hx116_0, hx116_1⟩ := at_T43 HR0.out x7_2 p116 q116
            have hw116_1 := hx116_1
            have hw116_0 := hx116_0
            obtain rfl : ad114 = ad116 := (by injection e116)
            replace hx116_0 := (HB.out.cell (World.block_lt_of_cell? w _ hx116_0)).trans hx116_0
            replace hx116_1 := (HB.out.cell (World.block_lt_of_cell? w _ hx116_1)).trans hx116_1
            replace p116 := eq_true p116
            replace q116 := eq_true q116
            obtain ⟨Ao38, co38, eo38⟩ := Kd.R_slice HO_104000.out
            (first | subst eo38 | (injection eo38 with f1_ f2_ f3_; have f4_ := f1_.symm; have f5_ := f3_.symm; clear f1_ f2_ f3_; subst f4_; subst f5_))
            refine start_ (n := 16) (S := fun w' => w'.cell? ⟨gb103, 0, none⟩ = some (.slice Ao38 x104000_2.length co38) ∧ w'.cell? (ad114.add ((x7_2).toNat * 2)) = some (.int .i64 ((rd_T43 l0 x7_2).f0)) ∧ w'.cell? ⟨(ad114.add ((x7_2).toNat * 2)).block, (ad114.add ((x7_2).toNat * 2)).off + 1, none⟩ = some (.int .i64 ((rd_T43 l0 x7_2).f1)) ∧ w'.cell? (ad114.add ((x7_2).toNat * 2)) = some (.int .i64 ((rd_T43 l0 x7_2).f0)) ∧ w'.cell? ⟨(ad114.add ((x7_2).toNat * 2)).block, (ad114.add ((x7_2).toNat * 2)).off + 1, none⟩ = some (.int .i64 ((rd_T43 l0 x7_2).f1))) (ds := [15]) #[false, false, false, false, false, false, false, false, false, false, false, false, false, false, false, false] (by kernel_rfl) rfl rfl ⟨(blk_cell BK103.out 0).trans rfl, ((HB.out.cell (World.block_lt_of_cell? w _ hw115_0)).trans hw115_0), ((HB.out.cell (World.block_lt_of_cell? w _ hw115_1)).trans hw115_1), ((HB.out.cell (World.block_lt_of_cell? w _ hw116_0)).trans hw116_0), ((HB.out.cell (World.block_lt_of_cell? w _ hw116_1)).trans hw116_1)⟩ (fun hHeld => ?_); refine with_tabW substationlaw16_TwinOnce.tab13 substationlaw16_TwinOnce.bits13 (fun HT_ HW_ => ?_)
            generalize w36.drew = w37 at HO_104000 BK101 BK103 HB hx115_0 hx115_1 hx116_0 hx116_1 hHeld ⊢
            refine pure_ (i := 1) (N := some 67) (v := ?_) (a' := ?_) #[false, true, false, false, false, false, false, false, false, false, false, false, false, false, false, false] rfl rfl (any_of HT_.out (by kernel_rfl)) (fun _ _ _ h => h) (Or.inl ⟨by rfl, ?_⟩) ?_ ?_
            rotate_left
            ·intro w'
             go_simp
             with_reducible rfl
            rotate_left
            ·simp only [Act.put, List.setIfInBounds_toArray, List.set_cons_zero, List.set_cons_succ, i64_w, i32_w]
             rfl
            refine pure_ (i := 2) (N := some 68) (v := ?_) (a' := ?_) #[false, true, true, false, false, false, false, false, false, false, false, false, false, false, false, false] rfl rfl (any_of HT_.out (by kernel_rfl)) (fun _ _ _ h => h) (Or.inl ⟨by rfl, ?_⟩) ?_ ?_
            rotate_left
            ·intro w'
             go_simp
             with_reducible rfl
            rotate_left
            ·simp only [Act.put, List.setIfInBounds_toArray, List.set_cons_zero, List.set_cons_succ, i64_w, i32_w]
             rfl
            refine pure_ (i := 3) (N := some 69) (v := ?_) (a' := ?_) #[false, true, true, true, false, false, false, false, false, false, false, false, false, false, false, false] rfl rfl (any_of HT_.out (by kernel_rfl)) (fun _ _ _ h => h) (Or.inl ⟨by rfl, ?_⟩) ?_ ?_
            rotate_left
            ·intro w'
             go_simp
             with_reducible rfl
            rotate_left
            ·simp only [Act.put, List.setIfInBounds_toArray, List.set_cons_zero, List.set_cons_succ, i64_w, i32_w]
             rfl
            refine pure_ (i := 4) (N := some 70) (v := ?_) (a' := ?_) #[false, true, true, true, true, false, false, false, false, false, false, false, false, false, false, false] rfl rfl (any_of HT_.out (by kernel_rfl)) (fun _ _ _ h => h) (Or.inl ⟨by rfl, ?_⟩) ?_ ?_
            rotate_left
            ·intro w'
             go_simp
             with_reducible rfl
            rotate_left
            ·simp only [Act.put, List.setIfInBounds_toArray, List.set_cons_zero, List.set_cons_succ, i64_w, i32_w]
             rfl
            refine pure_ (i := 6) (N := some 72) (v := ?_) (a' := ?_) #[false, true, true, true, true, false, true, false, false, false, false, false, false, false, false, false] rfl rfl (any_of HT_.out (by kernel_rfl)) (fun _ _ _ h => h) (Or.inl ⟨by rfl, ?_⟩) ?_ ?_
            rotate_left
            ·intro w'
             go_simp
             with_reducible rfl
            rotate_left
            ·simp only [Act.put, List.setIfInBounds_toArray, List.set_cons_zero, List.set_cons_succ, i64_w, i32_w]
             rfl
            refine pure_ (i := 7) (N := some 73) (v := ?_) (a' := ?_) #[false, true, true, true, true, false, true, true, false, false, false, false, false, false, false, false] rfl rfl (any_of HT_.out (by kernel_rfl)) (fun _ _ _ h => h) (Or.inl ⟨by rfl, ?_⟩) ?_ ?_
            rotate_left
            ·intro w'
             go_simp
             with_reducible rfl
            rotate_left
            ·simp only [Act.put, List.setIfInBounds_toArray, List.set_cons_zero, List.set_cons_succ, i64_w, i32_w]
             rfl
            refine pure_ (i := 8) (N := some 74) (v := ?_) (a' := ?_) #[false, true, true, true, true, false, true, true, true, false, false, false, false, false, false, false] rfl rfl (any_of HT_.out (by kernel_rfl)) (fun _ _ _ h => h) (Or.inl ⟨by rfl, ?_⟩) ?_ ?_
            rotate_left
            ·intro w'
             go_simp
             with_reducible rfl
            rotate_left
            ·simp only [Act.put, List.setIfInBounds_toArray, List.set_cons_zero, List.set_cons_succ, i64_w, i32_w]
             rfl
            refine pure_ (i := 9) (N := some 75) (v := ?_) (a' := ?_) #[false, true, true, true, true, false, true, true, true, true, false, false, false, false, false, false] rfl rfl (any_of HT_.out (by kernel_rfl)) (fun _ _ _ h => h) (Or.inl ⟨by rfl, ?_⟩) ?_ ?_
            rotate_left
            ·intro w'
             go_simp
             with_reducible rfl
            rotate_left
            ·simp only [Act.put, List.setIfInBounds_toArray, List.set_cons_zero, List.set_cons_succ, i64_w, i32_w]
             rfl
            refine take_ (i := 0) (N := some 66) (v := ?_) (a' := ?_) #[true, true, true, true, true, false, true, true, true, true, false, false, false, false, false, false] rfl rfl (take_ofW HT_.out HW_.out (by kernel_rfl)) (fun _ _ _ h => h) (Or.inl ⟨by rfl, ?_⟩) hHeld ?_ ?_
            rotate_left
            ·rintro w' ⟨s0, s1, s2, s3, s4⟩
             go_simp
             with_reducible rfl
            rotate_left
            ·simp only [Act.put, List.setIfInBounds_toArray, List.set_cons_zero, List.set_cons_succ, i64_w, i32_w]
             rfl
            refine take_ (i := 5) (N := some 71) (v := ?_) (a' := ?_) #[true, true, true, true, true, true, true, true, true, true, false, false, false, false, false, false] rfl rfl (take_ofW HT_.out HW_.out (by kernel_rfl)) (fun _ _ _ h => h) (Or.inl ⟨by rfl, ?_⟩) hHeld ?_ ?_
            rotate_left
            ·rintro w' ⟨s0, s1, s2, s3, s4⟩
             go_simp
             with_reducible rfl
            rotate_left
            ·simp only [Act.put, List.setIfInBounds_toArray, List.set_cons_zero, List.set_cons_succ, i64_w, i32_w]
             rfl
            refine take_ (i := 10) (N := some 76) (v := ?_) (a' := ?_) #[true, true, true, true, true, true, true, true, true, true, true, false, false, false, false, false] rfl rfl (take_ofW HT_.out HW_.out (by kernel_rfl)) (fun _ _ _ h => h) (Or.inl ⟨by rfl, ?_⟩) hHeld ?_ ?_
            rotate_left
            ·rintro w' ⟨s0, s1, s2, s3, s4⟩
             go_simp
             with_reducible rfl
            rotate_left
            ·simp only [Act.put, List.setIfInBounds_toArray, List.set_cons_zero, List.set_cons_succ, i64_w, i32_w]
             rfl
            refine one_ (i := 11) (N := some 77) #[true, true, true, true, true, true, true, true, true, true, true, true, false, false, false, false] rfl rfl (one_of HT_.out (by kernel_rfl)) (by decide) (fun K hK => ?_)
            refine goes_ Try.func17 (by kernel_rfl) rfl #[.agg #[.slice Ao38 x104000_2.length co38], .int .i64 ((rd_T43 l0 x7_2).f0), .int .i64 ((rd_T43 l0 x7_2).f1)] (by rfl) rfl rfl (by (try simp only [List.map_toArray, List.map_cons, List.map_nil]); first | done | rfl | (simp only [List.length_drop, List.length_take]; rfl)) ?_
            with_reducible refine (twin_Accept.calls _ _ x104000_2 ((rd_T43 l0 x7_2).f0) ((rd_T43 l0 x7_2).f1) t117 t120 _ ?side1 ?side2 A35.out).mono ?_
            (case side1 => repeat (first | exact (Kd.R_reads' HO_104000.out).2.2 | (with_reducible refine Kd.C_alloc ?_ _) | (with_reducible refine Kd.C_drewN ?_ _) | (with_reducible refine Kd.C_drew ?_)))
            (case side2 => exact (Kd.R_reads' HO_104000.out).2.1)
            rintro e w39 ⟨v118, rfl, ho0, hb⟩
            refine ⟨_, rfl, ?_⟩
            have n0_ := Aside0.mk (Kd.R_elder' (by (with_reducible repeat (first | apply Kd.R_alloc | apply Kd.R_drewN | apply Kd.R_drew)); exact HO_104000.out) (Kd.R_base ho0) hb)
            have n1_ := Aside0.mk (Kd.R_lower (Kd.R_new' ho0 (Kd.R_lt (by (with_reducible repeat (first | apply Kd.R_alloc | apply Kd.R_drewN | apply Kd.R_drew)); exact HO_104000.out))) (below_size (by repeat (first | (with_reducible first | exact HB.out | apply below_alloc | apply pw_below_drewN | apply below_drew1 | refine below_set ?_ GE101.out | refine below_set ?_ GE103.out) | exact HB.out))))
            have n2_ := Aside0.mk (blk_below (g := gb101) (o := .cells #[.int .i64 a1_0, .int .i64 a1_1] 43 (0, 0)) (by (with_reducible repeat (first | refine blk_drewN ?_ _ | refine blk_drew ?_ | refine blk_alloc ?_ _)); exact BK101.out) hb)
            have n3_ := Aside0.mk (blk_below (g := gb103) (o := .cells #[.slice Ao38 x104000_2.length co38] 28 (0, 0)) (by (with_reducible repeat (first | refine blk_drewN ?_ _ | refine blk_drew ?_ | refine blk_alloc ?_ _)); exact BK103.out) hb)
            have n4_ := Aside0.mk (below_step (by repeat (first | (with_reducible first | exact HB.out | apply below_alloc | apply pw_below_drewN | apply below_drew1 | refine below_set ?_ GE101.out | refine below_set ?_ GE103.out) | exact HB.out)) hb)
            clear HO_104000
            clear BK101
            clear BK103
            clear HB
            have HO_104000 := n0_
            have HO119 := n1_
            have BK101 := n2_
            have BK103 := n3_
            have HB := n4_
            clear n0_ n1_ n2_ n3_ n4_
            (try clear hb)
            (try clear hb2)
            (try clear hk)
            (try clear hi)
            (try clear ho0)
            obtain ⟨Ao40, co40, eo40⟩ := Kd.R_slice HO119.out
            (first | subst eo40 | (injection eo40 with f1_ f2_ f3_; have f4_ := f1_.symm; have f5_ := f3_.symm; clear f1_ f2_ f3_; subst f4_; subst f5_))
            refine hK.out _ _ ⟨(blk_cell BK103.out 0).trans rfl, ((HB.out.cell (World.block_lt_of_cell? w _ hw115_0)).trans hw115_0), ((HB.out.cell (World.block_lt_of_cell? w _ hw115_1)).trans hw115_1), ((HB.out.cell (World.block_lt_of_cell? w _ hw116_0)).trans hw116_0), ((HB.out.cell (World.block_lt_of_cell? w _ hw116_1)).trans hw116_1)⟩ (fun hHeld => ?_)
            clear hK K
            refine norm_ (a' := ?_) ?_ ?_
            rotate_left
            ·show Act.put _ (some 77) _ = _
             simp only [Act.put, List.setIfInBounds_toArray, List.set_cons_zero, List.set_cons_succ, i64_w, i32_w]
             rfl
            refine pure_ (i := 12) (N := some 65) (v := ?_) (a' := ?_) #[true, true, true, true, true, true, true, true, true, true, true, true, true, false, false, false] rfl rfl (any_of HT_.out (by kernel_rfl)) (fun _ _ _ h => h) (Or.inl ⟨by rfl, ?_⟩) ?_ ?_
            rotate_left
            ·intro w'
             go_simp
             with_reducible rfl
            rotate_left
            ·simp only [Act.put, List.setIfInBounds_toArray, List.set_cons_zero, List.set_cons_succ, i64_w, i32_w]
             rfl
            refine pure_ (i := 13) (N := some 78) (v := ?_) (a' := ?_) #[true, true, true, true, true, true, true, true, true, true, true, true, true, true, false, false] rfl rfl (any_of HT_.out (by kernel_rfl)) (fun _ _ _ h => h) (Or.inl ⟨by rfl, ?_⟩) ?_ ?_
            rotate_left
            ·intro w'
             go_simp
             with_reducible rfl
            rotate_left
            ·simp only [Act.put, List.setIfInBounds_toArray, List.set_cons_zero, List.set_cons_succ, i64_w, i32_w]
             rfl
            refine pure_ (i := 14) (N := some 79) (v := ?_) (a' := ?_) #[true, true, true, true, true, true, true, true, true, true, true, true, true, true, true, false] rfl rfl (any_of HT_.out (by kernel_rfl)) (fun _ _ _ h => h) (Or.inl ⟨by rfl, ?_⟩) ?_ ?_
            rotate_left
            ·intro w'
             go_simp
             with_reducible rfl
            rotate_left
            ·simp only [Act.put, List.setIfInBounds_toArray, List.set_cons_zero, List.set_cons_succ, i64_w, i32_w]
             rfl
            refine last_ (i := 15) (N := none) #[true, true, true, true, true, true, true, true, true, true, true, true, true, true, true, true] rfl rfl (one_of HT_.out (by kernel_rfl)) (by decide) (fun K hK => ?_)
            have hs41 : w39.cell? ⟨gb103, 0, none⟩ = some (.slice Ao38 x104000_2.length co38) := (blk_cell BK103.out 0).trans rfl
            have hfs41 := blk_frozen BK103.out 0
            have hns41_0 := NB101_103.out
            have hms41_0 := NB103_101.out
            refine skip_ (w1 := ?_) (by rfl) rfl ?_ ?_
            rotate_left
            ·go_simp
             rfl
            refine hK.out _ _ ?_
            clear hK K
            refine done_ (done_of HT_.out (by kernel_rfl)) ?_
            try go_wp2
            go_roundg kj27
            case measure => have := HJ4.out; have := HK2.out; have := HJ27.out; omega
            case rel => exact ⟨(wrap64 (x7_2 + 1)), (t117), (.slice Ao40 t117.length co40), (by first | rfl | (simp; done) | (simp [*]; done) | (simp; omega)), H', ⟨by have := HJ4.out; have := HK2.out; have := HJ27.out; omega⟩, ⟨by (with_reducible repeat (first | apply Kd.R_alloc | apply Kd.R_drewN | apply Kd.R_drew)); exact Kd.R_mono (Kd.R_far (p := ⟨gb103, 0, none⟩) (Kd.R_types HO119.out BK103.out (by decide)) (fun _ hk => hk.2) (.slice Ao40 t117.length co40)) (fun _ hk => trivial)⟩, ⟨by (with_reducible repeat (first | refine blk_drewN ?_ _ | refine blk_drew ?_ | refine blk_alloc ?_ _)); refine blk_far ?_ NB101_103.out _; (with_reducible repeat (first | refine blk_drewN ?_ _ | refine blk_drew ?_ | refine blk_alloc ?_ _)); exact BK101.out⟩, ⟨by (with_reducible repeat (first | refine blk_drewN ?_ _ | refine blk_drew ?_ | refine blk_alloc ?_ _)); refine blk_put (cs := #[.slice Ao38 x104000_2.length co38]) ?_ 0 _ rfl; (with_reducible repeat (first | refine blk_drewN ?_ _ | refine blk_drew ?_ | refine blk_alloc ?_ _)); exact BK103.out⟩, ⟨by repeat (first | (with_reducible first | exact HB.out | apply below_alloc | apply pw_below_drewN | apply below_drew1 | refine below_set ?_ GE101.out | refine below_set ?_ GE103.out) | exact HB.out)⟩⟩
          ·rw [if_neg c32] at H
           exact absurd H (by simp)
         ·rw [if_neg c31] at H
          exact absurd H (by simp)
        ·replace c30 := Bool.eq_false_iff.mpr c30
         subst c30
         have H1 : ((twin_Accept.f x104000_2 a1_0 a1_1).bind fun bt121 => (if bt121.2 = true then (some false) else ((twin_Same.f kj27 x104000_2 bt121.1).bind fun t126 => (some t126)))) = some r := by rw [if_neg (show ¬ (false = true) by decide)] at H; exact H
         clear H
         have H := H1
         clear H1
         replace H := Option.bind_eq_some_iff.mp H
         obtain ⟨⟨t121, t124⟩, A420, H⟩ := H
         replace H : (if t124 = true then (some false) else ((twin_Same.f kj27 x104000_2 t121).bind fun t126 => (some t126))) = some r := H
         have A42 := Aside0.mk A420
         clear A420
         by_cases c43 : t124 = true
         ·subst c43
          have H1 : (some false) = some r := by rw [if_pos rfl] at H; exact H
          clear H
          have H := H1
          clear H1
          exact absurd (hr_.symm.trans (Option.some.inj H).symm) (by decide)
         ·replace c43 := Bool.eq_false_iff.mpr c43
          subst c43
          have H1 : ((twin_Same.f kj27 x104000_2 t121).bind fun t126 => (some t126)) = some r := by rw [if_neg (show ¬ (false = true) by decide)] at H; exact H
          clear H
          have H := H1
          clear H1
          replace H := Option.bind_eq_some_iff.mp H
          obtain ⟨t126, A540, H⟩ := H
          replace H : (some t126) = some r := H
          have A54 := Aside0.mk A540
          clear A540
          obtain rfl := Option.some.inj H
          have hnb55 := NB103_101.out
          have hnc55 := NB101_103.out
          have hcz56_0 : wc.cell? ⟨gb103, 0, none⟩ = some (u104000) := (blk_cell BK103.out 0).trans rfl
          have hfz56_0 := blk_frozen BK103.out 0
          have hcz57_0 : wc.cell? ⟨gb101, 0, none⟩ = some (.int .i64 a1_0) := (blk_cell BK101.out 0).trans rfl
          have hcz57_1 : wc.cell? ⟨gb101, 1, none⟩ = some (.int .i64 a1_1) := (blk_cell BK101.out 1).trans rfl
          have hfz57_0 := blk_frozen BK101.out 0
          have hfz57_1 := blk_frozen BK101.out 1
          obtain ⟨Ao58, co58, eo58⟩ := Kd.R_slice HO_104000.out
          subst eo58
          go_wp2_with (first | ((with_reducible refine gate_callee (f := 17) rfl ?_); refine goesL_ (some 86) rfl rfl Try.func17 (by kernel_rfl) rfl #[.agg #[.slice Ao58 x104000_2.length co58], .int .i64 a1_0, .int .i64 a1_1] rfl (by (try simp only [List.map_toArray, List.map_cons, List.map_nil]); first | done | rfl | (simp only [List.length_drop, List.length_take]; rfl)) ?_; (with_reducible refine (twin_Accept.calls _ _ x104000_2 a1_0 a1_1 t121 false _ ?side1 ?side2 A42.out).mono ?_); (case side1 => repeat (first | exact (Kd.R_reads' HO_104000.out).2.2 | (with_reducible refine Kd.C_alloc ?_ _) | (with_reducible refine Kd.C_drewN ?_ _) | (with_reducible refine Kd.C_drew ?_))); (case side2 => exact (Kd.R_reads' HO_104000.out).2.1); rintro e w59 ⟨v122, rfl, ho0, hb⟩; refine ⟨_, rfl, ?_⟩; have n0_ := Aside0.mk (Kd.R_elder' (by (with_reducible repeat (first | apply Kd.R_alloc | apply Kd.R_drewN | apply Kd.R_drew)); exact HO_104000.out) (Kd.R_base ho0) hb); have n1_ := Aside0.mk (Kd.R_lower (Kd.R_new' ho0 (Kd.R_lt (by (with_reducible repeat (first | apply Kd.R_alloc | apply Kd.R_drewN | apply Kd.R_drew)); exact HO_104000.out))) (below_size (by repeat (first | (with_reducible first | exact HB.out | apply below_alloc | apply pw_below_drewN | apply below_drew1 | refine below_set ?_ GE101.out | refine below_set ?_ GE103.out) | exact HB.out)))); have n2_ := Aside0.mk (blk_below (g := gb101) (o := .cells #[.int .i64 a1_0, .int .i64 a1_1] 43 (0, 0)) (by (with_reducible repeat (first | refine blk_drewN ?_ _ | refine blk_drew ?_ | refine blk_alloc ?_ _)); exact BK101.out) hb); have n3_ := Aside0.mk (blk_below (g := gb103) (o := .cells #[.slice Ao58 x104000_2.length co58] 28 (0, 0)) (by (with_reducible repeat (first | refine blk_drewN ?_ _ | refine blk_drew ?_ | refine blk_alloc ?_ _)); exact BK103.out) hb); have n4_ := Aside0.mk (below_step (by repeat (first | (with_reducible first | exact HB.out | apply below_alloc | apply pw_below_drewN | apply below_drew1 | refine below_set ?_ GE101.out | refine below_set ?_ GE103.out) | exact HB.out)) hb); clear HO_104000; clear BK101; clear BK103; clear HB; have HO_104000 := n0_; have HO123 := n1_; have BK101 := n2_; have BK103 := n3_; have HB := n4_; clear n0_ n1_ n2_ n3_ n4_; (try clear hb); (try clear hb2); (try clear hk); (try clear hi); (try clear ho0)) | ((with_reducible refine gate_dst (N := 8) rfl ?_); refine box_event ?hg (N := 8) ?hd (cs := #[.slice none 0 0]) (t := 28) ?hr ?_; (case hd => rfl); (case hg => rfl); (case hr => first | (go_simp; done) | (go_simp; rfl)); intro gb125 hg w60 hbox hb; have n0_ := Aside0.mk (Kd.R_below (by (with_reducible repeat (first | apply Kd.R_alloc | apply Kd.R_drewN | apply Kd.R_drew)); exact HO_104000.out) hb); have n1_ := Aside0.mk (Kd.R_below (by (with_reducible repeat (first | apply Kd.R_alloc | apply Kd.R_drewN | apply Kd.R_drew)); exact HO123.out) hb); have n2_ := Aside0.mk (blk_below (g := gb101) (o := .cells #[.int .i64 a1_0, .int .i64 a1_1] 43 (0, 0)) (by (with_reducible repeat (first | refine blk_drewN ?_ _ | refine blk_drew ?_ | refine blk_alloc ?_ _)); exact BK101.out) hb); have n3_ := Aside0.mk (blk_below (g := gb103) (o := .cells #[.slice Ao58 x104000_2.length co58] 28 (0, 0)) (by (with_reducible repeat (first | refine blk_drewN ?_ _ | refine blk_drew ?_ | refine blk_alloc ?_ _)); exact BK103.out) hb); have n4_ := Aside0.mk (below_step (by repeat (first | (with_reducible first | exact HB.out | apply below_alloc | apply pw_below_drewN | apply below_drew1 | refine below_set ?_ GE101.out | refine below_set ?_ GE103.out) | exact HB.out)) hb); have n5_ := Aside0.mk (hbox); have n6_ := Aside0.mk ((by rw [hg]; exact (below_size (by repeat (first | (with_reducible first | exact HB.out | apply below_alloc | apply pw_below_drewN | apply below_drew1 | refine below_set ?_ GE101.out | refine below_set ?_ GE103.out) | exact HB.out))) : w.heap.size ≤ gb125)); have n7_ := Aside0.mk ((by rw [hg]; exact (below_size (by repeat (first | (with_reducible first | exact HB.out | apply below_alloc | apply pw_below_drewN | apply below_drew1 | refine below_set ?_ GE101.out | refine below_set ?_ GE103.out) | exact HB.out))) : w.heap.size ≤ gb125)); have n8_ := Aside0.mk ((by rw [hg]; exact Nat.ne_of_lt (blk_lt (g := gb101) (o := .cells #[.int .i64 a1_0, .int .i64 a1_1] 43 (0, 0)) (by (with_reducible repeat (first | refine blk_drewN ?_ _ | refine blk_drew ?_ | refine blk_alloc ?_ _)); exact BK101.out)) : gb101 ≠ gb125)); have n9_ := Aside0.mk ((by rw [hg]; exact Nat.ne_of_gt (blk_lt (g := gb101) (o := .cells #[.int .i64 a1_0, .int .i64 a1_1] 43 (0, 0)) (by (with_reducible repeat (first | refine blk_drewN ?_ _ | refine blk_drew ?_ | refine blk_alloc ?_ _)); exact BK101.out)) : gb125 ≠ gb101)); have n10_ := Aside0.mk ((by rw [hg]; exact Nat.ne_of_lt (blk_lt (g := gb103) (o := .cells #[.slice Ao58 x104000_2.length co58] 28 (0, 0)) (by (with_reducible repeat (first | refine blk_drewN ?_ _ | refine blk_drew ?_ | refine blk_alloc ?_ _)); exact BK103.out)) : gb103 ≠ gb125)); have n11_ := Aside0.mk ((by rw [hg]; exact Nat.ne_of_gt (blk_lt (g := gb103) (o := .cells #[.slice Ao58 x104000_2.length co58] 28 (0, 0)) (by (with_reducible repeat (first | refine blk_drewN ?_ _ | refine blk_drew ?_ | refine blk_alloc ?_ _)); exact BK103.out)) : gb125 ≠ gb103)); clear HO_104000; clear HO123; clear BK101; clear BK103; clear HB; have HO_104000 := n0_; have HO123 := n1_; have BK101 := n2_; have BK103 := n3_; have HB := n4_; have BK125 := n5_; have GW125 := n6_; have GE125 := n7_; have NB101_125 := n8_; have NB125_101 := n9_; have NB103_125 := n10_; have NB125_103 := n11_; clear n0_ n1_ n2_ n3_ n4_ n5_ n6_ n7_ n8_ n9_ n10_ n11_; clear hb hbox hg; obtain ⟨Ao61, co61, eo61⟩ := Kd.R_slice HO123.out; subst eo61; have hnb62 := NB125_101.out; have hnc62 := NB101_125.out; have hnb63 := NB125_103.out; have hnc63 := NB103_125.out; have hcz64_0 : w60.cell? ⟨gb125, 0, none⟩ = some (.slice none 0 0) := (blk_cell BK125.out 0).trans rfl; have hfz64_0 := blk_frozen BK125.out 0; have hcz65_0 : w60.cell? ⟨gb103, 0, none⟩ = some (.slice Ao58 x104000_2.length co58) := (blk_cell BK103.out 0).trans rfl; have hfz65_0 := blk_frozen BK103.out 0) | (go_at_call 21; (with_reducible refine (twin_Same.calls kj27 _ _ x104000_2 _ _ t121 t126 _ ?side1 ?side2 ?side3 ?side4 A54.out).mono ?_); (case side1 => refine (Kd.R_reads' (e := 36) (base := w.heap.size) (ok := fun k_ => (True ∧ some k_ ≠ (.slice Ao61 t121.length co61 : Value).ownBlock)) (n := x104000_2.length) (c := co58) ?_).2.2; exact (by (with_reducible repeat (first | apply Kd.R_alloc | apply Kd.R_drewN | apply Kd.R_drew)); exact (Kd.R_mono (Kd.R_far (p := ⟨gb125, 0, none⟩) (Kd.R_types HO_104000.out BK125.out (by decide)) (fun _ hk => hk.2) (.slice Ao61 t121.length co61)) (fun _ h_ => h_.1)))); (case side2 => exact (Kd.R_reads' HO_104000.out).2.1); (case side3 => refine (Kd.R_reads' (e := 36) (base := w.heap.size) (ok := fun k_ => (True ∧ some k_ ≠ (.slice Ao58 x104000_2.length co58 : Value).ownBlock)) (n := t121.length) (c := co61) ?_).2.2; exact (by (with_reducible repeat (first | apply Kd.R_alloc | apply Kd.R_drewN | apply Kd.R_drew)); exact (Kd.R_mono (Kd.R_far (p := ⟨gb125, 0, none⟩) (Kd.R_types HO123.out BK125.out (by decide)) (fun _ hk => hk.2) (.slice Ao61 t121.length co61)) (fun _ h_ => h_.1)))); (case side4 => exact (Kd.R_reads' HO123.out).2.1); rintro e w66 ⟨rfl, hb⟩; have n0_ := Aside0.mk (Kd.R_below (by (with_reducible repeat (first | apply Kd.R_alloc | apply Kd.R_drewN | apply Kd.R_drew)); exact (Kd.R_mono (Kd.R_far (p := ⟨gb125, 0, none⟩) (Kd.R_types HO_104000.out BK125.out (by decide)) (fun _ hk => hk.2) (.slice Ao61 t121.length co61)) (fun _ h_ => h_.1))) hb); have n1_ := Aside0.mk (Kd.R_below (by (with_reducible repeat (first | apply Kd.R_alloc | apply Kd.R_drewN | apply Kd.R_drew)); exact (Kd.R_mono (Kd.R_far (p := ⟨gb125, 0, none⟩) (Kd.R_types HO123.out BK125.out (by decide)) (fun _ hk => hk.2) (.slice Ao61 t121.length co61)) (fun _ h_ => h_.1))) hb); have n2_ := Aside0.mk (blk_below (g := gb101) (o := .cells #[.int .i64 a1_0, .int .i64 a1_1] 43 (0, 0)) (by (with_reducible repeat (first | refine blk_drewN ?_ _ | refine blk_drew ?_ | refine blk_alloc ?_ _)); refine blk_far ?_ NB101_125.out _; (with_reducible repeat (first | refine blk_drewN ?_ _ | refine blk_drew ?_ | refine blk_alloc ?_ _)); exact BK101.out) hb); have n3_ := Aside0.mk (blk_below (g := gb103) (o := .cells #[.slice Ao58 x104000_2.length co58] 28 (0, 0)) (by (with_reducible repeat (first | refine blk_drewN ?_ _ | refine blk_drew ?_ | refine blk_alloc ?_ _)); refine blk_far ?_ NB103_125.out _; (with_reducible repeat (first | refine blk_drewN ?_ _ | refine blk_drew ?_ | refine blk_alloc ?_ _)); exact BK103.out) hb); have n4_ := Aside0.mk (blk_below (g := gb125) (o := .cells #[.slice Ao61 t121.length co61] 28 (0, 0)) (by (with_reducible repeat (first | refine blk_drewN ?_ _ | refine blk_drew ?_ | refine blk_alloc ?_ _)); refine blk_put (cs := #[.slice none 0 0]) ?_ 0 _ rfl; (with_reducible repeat (first | refine blk_drewN ?_ _ | refine blk_drew ?_ | refine blk_alloc ?_ _)); exact BK125.out) hb); have n5_ := Aside0.mk (below_step (by repeat (first | (with_reducible first | exact HB.out | apply below_alloc | apply pw_below_drewN | apply below_drew1 | refine below_set ?_ GE101.out | refine below_set ?_ GE103.out | refine below_set ?_ GE125.out) | exact HB.out)) hb); clear HO_104000; clear HO123; clear BK101; clear BK103; clear BK125; clear HB; have HO_104000 := n0_; have HO123 := n1_; have BK101 := n2_; have BK103 := n3_; have BK125 := n4_; have HB := n5_; clear n0_ n1_ n2_ n3_ n4_ n5_; (try clear hb); (try clear hb2); (try clear hk); (try clear hi)))
          go_ret
          exact ⟨by first | rfl | (simp [errW_none, errW_some] <;> rfl) | (simp [*, errW_none, errW_some] <;> rfl), by repeat (first | (with_reducible first | exact HB.out | apply below_alloc | apply pw_below_drewN | apply below_drew1 | refine below_set ?_ GE101.out | refine below_set ?_ GE103.out | refine below_set ?_ GE125.out) | exact HB.out)⟩
 ·replace c4 := Bool.eq_false_iff.mpr c4
  subst c4
  have H1 : (some false) = some r := by rw [if_neg (show ¬ (false = true) by decide)] at H; exact H
  clear H
  have H := H1
  clear H1
  exact absurd (hr_.symm.trans (Option.some.inj H).symm) (by decide)
end Go.Proofs.Ytnjddjpohobelaa.XB
end
section
namespace Go.Proofs.Ytnjddjpohobelaa.RTwinOnce
open Go.RowKit Go.Proofs.YtnjddjpohobelaaW.PrintWords Go.Proofs.YtnjddjpohobelaaW.PrintLast Go.Proofs.YtnjddjpohobelaaW.PrintMore Go.Proofs.Ytnjddjpohobelaa.XB Go.Proofs.Ytnjddjpohobelaa.XOpen
set_option linter.unusedVariables false
def ok43 (x : S43) : Prop := (Lit.int .i64 x.f0).wf = true ∧ (Lit.int .i64 x.f1).wf = true
theorem opens43 : Opens Try.prog k43 43 ok43 := fun H enc w base spare held fuel cs x hx => by
  obtain ⟨xs, n, _, _, hl, hlen, hf⟩ := DataW.trod_struct Try.underlying43 hx
  have hcells : Try.prog.cellsOf 43 = 2 := by kernel_rfl
  rw [hcells] at hl
  have hx0 : ∃ z, xs[0]? = some z := by rw [List.getElem?_eq_getElem (show 0 < xs.length by rw [hlen]; decide)]; exact ⟨_, rfl⟩
  obtain ⟨z0, hz0⟩ := hx0
  have hg0 : Try.prog.cellsOf 3 = 1 := by kernel_rfl
  obtain ⟨y0, hk0, ho0⟩ := (opens_int Try.underlying3) H enc w base spare held n _ z0 ((hf 0 _ rfl).trans hz0)
  change (Kd.int .i64).K w y0 (List.take (Try.prog.cellsOf 3) (List.drop 0 cs)) at hk0
  rw [hg0] at hk0
  have hx1 : ∃ z, xs[1]? = some z := by rw [List.getElem?_eq_getElem (show 1 < xs.length by rw [hlen]; decide)]; exact ⟨_, rfl⟩
  obtain ⟨z1, hz1⟩ := hx1
  have hg1 : Try.prog.cellsOf 3 = 1 := by kernel_rfl
  obtain ⟨y1, hk1, ho1⟩ := (opens_int Try.underlying3) H enc w base spare held n _ z1 ((hf 1 _ rfl).trans hz1)
  change (Kd.int .i64).K w y1 (List.take (Try.prog.cellsOf 3) (List.drop 1 cs)) at hk1
  rw [hg1] at hk1
  obtain ⟨c0, t0, rfl, hl0⟩ := len_cons (n := 1) hl
  obtain ⟨c1, t1, rfl, hl1⟩ := len_cons (n := 0) hl0
  obtain rfl := List.eq_nil_of_length_eq_zero hl1
  exact ⟨⟨y0, y1⟩, ⟨[c0], [c1], rfl, hk0, hk1⟩, ⟨ho0, ho1⟩⟩
/-- The pure statement of the law. -/
def Pure : Prop := ∀ (x0 : List S43) (x1 : S43), (x0.length ≤ 9223372036854775807 ∧ ∀ y_ ∈ x0, ok43 y_) → ok43 x1 → ∃ k, substationlaw16_TwinOnce.f k x0 x1.f0 x1.f1 = some true
end Go.Proofs.Ytnjddjpohobelaa.RTwinOnce
end
section
namespace Go.Proofs.Ytnjddjpohobelaa.Pure
open Go.RowKit Go.Proofs.YtnjddjpohobelaaW.PrintWords Go.Proofs.YtnjddjpohobelaaW.PrintMore Go.Proofs.Ytnjddjpohobelaa.XB Go.Proofs.Ytnjddjpohobelaa.TwA Go.Proofs.Ytnjddjpohobelaa.TwB
set_option linter.unusedVariables false
/-- A source that the number s does not change. -/
def Fix (x : S36) (s : Int) : Prop := twNew x s = x
theorem or_idem {a b : Int} (ha0 : 0 ≤ a) (ha : a < 18446744073709551616) (hb0 : 0 ≤ b) (hb : b < 18446744073709551616) : Go.bits .or .u64 (Go.bits .or .u64 a b) b = Go.bits .or .u64 a b := by
  have h := or_bd ha0 ha hb0 hb
  rw [or_nat h.1 h.2 hb0 hb, or_nat ha0 ha hb0 hb, Int.toNat_natCast, Nat.or_assoc, Nat.or_self]
theorem fix_new {x : S36} {s : Int} (h : Bd x) (hs0 : 0 ≤ s) (hs1 : s < 65536) : Fix (twNew x s) s := by
  obtain ⟨hb0, ⟨hb1, hb2⟩, hb3, hb4⟩ := h
  unfold Fix
  by_cases ha : 1 ≤ (s - x.f1 + 65536) % 65536 ∧ (s - x.f1 + 65536) % 65536 < 32768
  · have e : twNew x s = ⟨x.f0, s, Go.bits .or .u64 (IntKind.u64.wrap (x.f2 * 2 ^ min ((s - x.f1 + 65536) % 65536).toNat 64)) 1⟩ := tw_new_a ha.1 ha.2
    rw [e]
    unfold twNew
    simp only
    have hd : (s - s + 65536) % 65536 = 0 := by omega
    rw [hd, if_neg (by omega), if_pos rfl, or_idem (wrap_bd _).1 (wrap_bd _).2 (by omega) (by omega)]
  · by_cases h0 : (s - x.f1 + 65536) % 65536 = 0
    · have e : twNew x s = ⟨x.f0, x.f1, Go.bits .or .u64 x.f2 1⟩ := by unfold twNew; rw [if_neg ha, if_pos h0]
      rw [e]
      unfold twNew
      simp only
      rw [if_neg ha, if_pos h0, or_idem hb3 hb4 (by omega) (by omega)]
    · by_cases hg : (s - x.f1 + 65536) % 65536 > 65472
      · have e : twNew x s = ⟨x.f0, x.f1, Go.bits .or .u64 x.f2 (IntKind.u64.wrap (2 ^ (-((s - x.f1 + 65536) % 65536) % 65536).toNat))⟩ := by unfold twNew; rw [if_neg ha, if_neg h0, if_pos hg]
        rw [e]
        unfold twNew
        simp only
        rw [if_neg ha, if_neg h0, if_pos hg, or_idem hb3 hb4 (wrap_bd _).1 (wrap_bd _).2]
      · have e : twNew x s = x := by unfold twNew; rw [if_neg ha, if_neg h0, if_neg hg]
        rw [e, e]
theorem fix_one (a s : Int) (hs0 : 0 ≤ s) (hs1 : s < 65536) : Fix ⟨a, s, 1⟩ s := by
  unfold Fix twNew
  simp only
  have hd : (s - s + 65536) % 65536 = 0 := by omega
  rw [hd, if_neg (by omega), if_pos rfl, or_nat (by omega) (by omega) (by omega) (by omega)]
  rfl
/-- A number that comes again is dropped, and changes nothing. -/
def Again (l : List S36) (a s : Int) : Prop := (twIn a && twIn s) = false ∨ ∃ x ∈ l, x.f0 = a ∧ Fix x s
theorem again_accept {l : List S36} {a s : Int} (h : TwOk l) (hag : Again l a s) : twin_Accept.f l a s = some (l, false) := by
  have hk := (tw_ok_iff l).2 h
  unfold twin_Accept.f
  rw [if_pos hk]
  rcases hag with hi | ⟨x, hx, rfl, hf⟩
  · rw [hi, if_neg (by simp)]
  · by_cases hi : (twIn x.f0 && twIn s) = true
    · obtain ⟨h1, h2⟩ := has_mem h hx
      obtain ⟨hl, e⟩ := at_mem h hx
      rw [if_pos hi, if_pos h1, h2, hf]
      have h3 : l.set (twAt l x.f0) x = l := by
        apply List.ext_getElem
        · simp
        · intro i h4 h5
          rw [List.getElem_set]
          split
          · rename_i h6; subst h6; exact e.symm
          · rfl
      rw [h3]
      unfold twNe
      simp
    · rw [if_neg hi]
theorem again_first {l : List S36} (a s : Int) (h : TwOk l) (hl : l.length < 999999) : ∃ l' f, twin_Accept.f l a s = some (l', f) ∧ TwOk l' ∧ l'.length ≤ l.length + 1 ∧ Again l' a s := by
  obtain ⟨l', f, e, hok, hlen, _⟩ := accept_any a s h hl
  refine ⟨l', f, e, hok, hlen, ?_⟩
  by_cases hi : (twIn a && twIn s) = true
  · right
    have hk := (tw_ok_iff l).2 h
    unfold twin_Accept.f at e
    rw [if_pos hk, if_pos hi] at e
    simp only [Bool.and_eq_true] at hi
    have hb := in_of hi.2
    cases hh : twHas l a with
    | true =>
      obtain ⟨hlt, h0⟩ := has_true hh
      rw [if_pos hh, tw_rd l _ hlt] at e
      simp only [Option.some.injEq, Prod.mk.injEq] at e
      obtain ⟨rfl, rfl⟩ := e
      exact ⟨_, List.mem_iff_getElem.2 ⟨twAt l a, by rw [List.length_set]; exact hlt, by rw [List.getElem_set, if_pos rfl]⟩, by rw [new_f0, h0], fix_new (bd_of h (List.getElem_mem _)) hb.1 hb.2⟩
    | false =>
      rw [if_neg (by simp [hh])] at e
      simp only [Option.some.injEq, Prod.mk.injEq] at e
      obtain ⟨rfl, rfl⟩ := e
      exact ⟨⟨a, s, 1⟩, List.mem_append_right _ List.mem_cons_self, rfl, fix_one a s hb.1 hb.2⟩
  · left; simpa using hi
theorem once_l1 (q : List S43) (a s : Int) : ∀ (d i : Nat) (l : List S36), i + d = min q.length 100 → TwOk l → l.length ≤ 200 + i → Again l a s →
    Ev (fun k => substationlaw16_TwinOnce.l1 k q (i : Int) a s l) true
  | 0, i, l, hi, hok, hlen, hag => by
    have e := again_accept hok hag
    refine Ev.step (f := fun k => substationlaw16_TwinOnce.j3 k q (i : Int) false a s l) (fun k => ?_) (Ev.step (f := fun k => (twin_Same.f k l l).bind fun t => some t) (fun k => ?_) (Ev.bind (Same l (by omega)) (Ev.now _)))
    · simp only [substationlaw16_TwinOnce.l1]
      by_cases h1 : (i : Int) < (q.length : Int)
      · rw [if_pos h1]
        have : decide ((i : Int) < 100) = false := by rw [decide_eq_false_iff_not]; omega
        rw [this]
      · rw [if_neg h1]
    · simp only [substationlaw16_TwinOnce.j3]
      rw [if_neg (by simp), e]
      simp
  | d + 1, i, l, hi, hok, hlen, hag => by
    have hw : wrap64 ((i : Int) + 1) = ((i + 1 : Nat) : Int) := by rw [w64 (by omega) (by omega)]; rfl
    have hi100 : i < 100 := by omega
    have first : ∀ k, substationlaw16_TwinOnce.l1 (k + 1) q (i : Int) a s l = substationlaw16_TwinOnce.j3 k q (i : Int) true a s l := fun k => by
      simp only [substationlaw16_TwinOnce.l1]
      rw [if_pos (by omega)]
      have : decide ((i : Int) < 100) = true := by rw [decide_eq_true_eq]; omega
      rw [this]
    by_cases hs : (rd_T43 q (i : Int)).f0 = a
    · refine Ev.step first (Ev.step (fun k => ?_) (once_l1 q a s d (i + 1) l (by omega) hok (by omega) hag))
      simp only [substationlaw16_TwinOnce.j3]
      rw [if_pos trivial, if_pos (by omega), if_pos (by omega), if_pos hs, hw]
    · obtain ⟨l', f, e, hok', hlen', hmem⟩ := accept_any (rd_T43 q (i : Int)).f0 (rd_T43 q (i : Int)).f1 hok (by omega)
      have hag' : Again l' a s := by
        rcases hag with h | ⟨x, hx, h0, hf⟩
        · exact .inl h
        · exact .inr ⟨x, hmem x hx (by rw [h0]; exact fun h => hs h.symm), h0, hf⟩
      refine Ev.step first (Ev.step (fun k => ?_) (once_l1 q a s d (i + 1) l' (by omega) hok' (by omega) hag'))
      simp only [substationlaw16_TwinOnce.j3]
      rw [if_pos trivial, if_pos (by omega), if_pos (by omega), if_neg hs, e]
      simp only [Option.bind_some, hw]
theorem once_l0 (q : List S43) (a s : Int) : ∀ (d i : Nat) (l : List S36), i + d = min q.length 100 → TwOk l → l.length ≤ i → Ev (fun k => substationlaw16_TwinOnce.l0 k q (i : Int) a s l) true
  | 0, i, l, hi, hok, hlen => by
    obtain ⟨l', f, e, hok', hlen', hag⟩ := again_first a s hok (by omega)
    refine Ev.step (f := fun k => substationlaw16_TwinOnce.j1 k q a s l) (fun k => ?_) (Ev.step (fun k => ?_) (once_l1 q a s (min q.length 100) 0 l' (by omega) hok' (by omega) hag))
    · simp only [substationlaw16_TwinOnce.l0]
      by_cases h1 : (i : Int) < (q.length : Int)
      · rw [if_pos h1, if_neg (by omega)]
      · rw [if_neg h1]
    · simp only [substationlaw16_TwinOnce.j1]
      rw [e]
      rfl
  | d + 1, i, l, hi, hok, hlen => by
    have hw : wrap64 ((i : Int) + 1) = ((i + 1 : Nat) : Int) := by rw [w64 (by omega) (by omega)]; rfl
    obtain ⟨l', f, e, hok', hlen', _⟩ := accept_any (rd_T43 q (i : Int)).f0 (rd_T43 q (i : Int)).f1 hok (by omega)
    refine Ev.step (fun k => ?_) (once_l0 q a s d (i + 1) l' (by omega) hok' (by omega))
    simp only [substationlaw16_TwinOnce.l0]
    rw [if_pos (by omega), if_pos (by omega), if_pos (by omega), e]
    simp only [Option.bind_some, hw]
theorem ok_nil : TwOk [] := ⟨by simp, by simp, fun x hx => by simp at hx, fun x hx => by simp at hx⟩
theorem TwinOnce : RTwinOnce.Pure := by
  intro q n hq hn
  refine Ev.rounds (g := fun k => substationlaw16_TwinOnce.f k q n.f0 n.f1) (r := true) ?_
  unfold substationlaw16_TwinOnce.f
  rw [known]
  simp only [Option.bind_some, if_true]
  exact once_l0 q n.f0 n.f1 (min q.length 100) 0 [] (by omega) ok_nil (by simp)
end Go.Proofs.Ytnjddjpohobelaa.Pure
end
