/- A part of the proof of the law twinAccepts_holds: general lemmas, functions of the program as plain functions with proofs that the calls compute them, and what they compute; merged from this session's texts. -/
import Derived.Test.YtnjddjpohobelaaMTwAcc6
section
namespace Go.Proofs.Ytnjddjpohobelaa.XB
open Go.RowKit Go.Proofs.YtnjddjpohobelaaW.PrintWords Go.Proofs.YtnjddjpohobelaaW.PrintLast Go.Proofs.YtnjddjpohobelaaW.PrintMore
attribute [local go_sem] max2_int min2_int max_two min_two max_three min_three max_four min_four   -- for this text's walks alone
set_option linter.unusedVariables false
set_option linter.unusedSimpArgs false
/-! ### substationlaw16_TwinAccepts: function 5 -/
mutual
def substationlaw16_TwinAccepts.l0 : Nat → List (S43) → Int → List (S36) → List (S103) → Option (Bool)
 | 0, _, _, _, _ => none
 | k + 1, x0, x5, x103000, x104000 => if x5 < (x0.length : Int) then (substationlaw16_TwinAccepts.j1 k x0 x5 (decide (x5 < 300)) x103000 x104000) else (substationlaw16_TwinAccepts.j1 k x0 x5 false x103000 x104000)
def substationlaw16_TwinAccepts.j1 : Nat → List (S43) → Int → Bool → List (S36) → List (S103) → Option (Bool)
 | 0, _, _, _, _, _ => none
 | k + 1, x0, x5, x21, x103000, x104000 => if x21 = true then (if 0 ≤ x5 then (if x5 < (x0.length : Int) then ((twin_Accept.f x103000 ((rd_T43 x0 x5).f0) ((rd_T43 x0 x5).f1)).bind fun bt106 => ((substationref16_Accept.f k x104000 ((rd_T43 x0 x5).f0) ((rd_T43 x0 x5).f1)).bind fun bt113 => (if (bt106.2 != bt113.2) = true then (some false) else ((substationlaw16_To.f k bt106.1).bind fun t118 => ((substationref16_Same.f k t118 bt113.1).bind fun t121 => (if t121 = true then ((twin_Same.f k bt106.1 bt106.1).bind fun t122 => (if t122 = true then ((twin_Same.f k bt106.1 x103000).bind fun t123 => ((substationref16_Same.f k bt113.1 x104000).bind fun t124 => (if (t123 != t124) = true then (some false) else (substationlaw16_TwinAccepts.l0 k x0 (wrap64 (x5 + 1)) bt106.1 bt113.1)))) else (some false))) else (some false))))))) else (none)) else (none)) else (some true)
end
def substationlaw16_TwinAccepts.f (k : Nat) (l0 : List (S43)) : Option (Bool) := (substationlaw16_known.f).bind fun t101 => (if t101 = true then (substationlaw16_TwinAccepts.l0 k l0 0 ([] : List (S36)) ([] : List (S103))) else (some false))
theorem substationlaw16_TwinAccepts.mono_l : ∀ k, (∀ y0 y1 y2 y3, LeO (substationlaw16_TwinAccepts.l0 k y0 y1 y2 y3) (substationlaw16_TwinAccepts.l0 (k + 1) y0 y1 y2 y3)) ∧ (∀ y0 y1 y2 y3 y4, LeO (substationlaw16_TwinAccepts.j1 k y0 y1 y2 y3 y4) (substationlaw16_TwinAccepts.j1 (k + 1) y0 y1 y2 y3 y4))
 | 0 => ⟨fun _ _ _ _ r h => by simp [substationlaw16_TwinAccepts.l0] at h, fun _ _ _ _ _ r h => by simp [substationlaw16_TwinAccepts.j1] at h⟩
 | k + 1 => by
  obtain ⟨ih0, ih1⟩ := substationlaw16_TwinAccepts.mono_l k
  refine ⟨?_, ?_⟩
  ·intro y0 y1 y2 y3
   unfold substationlaw16_TwinAccepts.l0
   repeat' first
   | (with_reducible exact ih0 _ _ _ _)
   | (with_reducible exact ih1 _ _ _ _ _)
   | (with_reducible exact substationlaw16_To.mono _ _)
   | (with_reducible exact substationref16_Accept.mono _ _ _ _)
   | (with_reducible exact substationref16_Same.mono _ _ _)
   | (with_reducible exact twin_Same.mono _ _ _)
   | (with_reducible exact LeO.refl _)
   | (with_reducible exact LeO.none _)
   | (with_reducible refine LeO.ite ?_ ?_)
   | (with_reducible refine LeO.bind ?_ (fun _ => ?_))
   | exact ih0 _ _ _ _
   | exact ih1 _ _ _ _ _
   | exact substationlaw16_To.mono _ _
   | exact substationref16_Accept.mono _ _ _ _
   | exact substationref16_Same.mono _ _ _
   | exact twin_Same.mono _ _ _
   | exact LeO.none _
   | refine LeO.ite ?_ ?_
   | refine LeO.bind ?_ (fun _ => ?_)
  ·intro y0 y1 y2 y3 y4
   unfold substationlaw16_TwinAccepts.j1
   repeat' first
   | (with_reducible exact ih0 _ _ _ _)
   | (with_reducible exact ih1 _ _ _ _ _)
   | (with_reducible exact substationlaw16_To.mono _ _)
   | (with_reducible exact substationref16_Accept.mono _ _ _ _)
   | (with_reducible exact substationref16_Same.mono _ _ _)
   | (with_reducible exact twin_Same.mono _ _ _)
   | (with_reducible exact LeO.refl _)
   | (with_reducible exact LeO.none _)
   | (with_reducible refine LeO.ite ?_ ?_)
   | (with_reducible refine LeO.bind ?_ (fun _ => ?_))
   | exact ih0 _ _ _ _
   | exact ih1 _ _ _ _ _
   | exact substationlaw16_To.mono _ _
   | exact substationref16_Accept.mono _ _ _ _
   | exact substationref16_Same.mono _ _ _
   | exact twin_Same.mono _ _ _
   | exact LeO.none _
   | refine LeO.ite ?_ ?_
   | refine LeO.bind ?_ (fun _ => ?_)
theorem substationlaw16_TwinAccepts.mono : ∀ a0 k, LeO (substationlaw16_TwinAccepts.f k a0) (substationlaw16_TwinAccepts.f (k + 1) a0) := by
 intro a0 k
 obtain ⟨ih0, ih1⟩ := substationlaw16_TwinAccepts.mono_l k
 unfold substationlaw16_TwinAccepts.f
 repeat' first
   | (with_reducible exact ih0 _ _ _ _)
   | (with_reducible exact ih1 _ _ _ _ _)
   | (with_reducible exact substationlaw16_To.mono _ _)
   | (with_reducible exact substationref16_Accept.mono _ _ _ _)
   | (with_reducible exact substationref16_Same.mono _ _ _)
   | (with_reducible exact twin_Same.mono _ _ _)
   | (with_reducible exact LeO.refl _)
   | (with_reducible exact LeO.none _)
   | (with_reducible refine LeO.ite ?_ ?_)
   | (with_reducible refine LeO.bind ?_ (fun _ => ?_))
   | exact ih0 _ _ _ _
   | exact ih1 _ _ _ _ _
   | exact substationlaw16_To.mono _ _
   | exact substationref16_Accept.mono _ _ _ _
   | exact substationref16_Same.mono _ _ _
   | exact twin_Same.mono _ _ _
   | exact LeO.none _
   | refine LeO.ite ?_ ?_
   | refine LeO.bind ?_ (fun _ => ?_)
def substationlaw16_TwinAccepts.T7 : Bool × List (List Nat × List Nat) := (true, [([], []), ([], []), ([], []), ([1, 2], [1, 2]), ([3], [3]), ([4], [4]), ([], []), ([], []), ([6, 7], [6, 7]), ([8], [8]), ([9], [9]), ([0, 5, 10], [0, 5, 10]), ([11], [11]), ([12], [12]), ([12], [12]), ([], []), ([15, 13, 11, 0, 1, 2, 3, 4, 5, 6, 7, 8, 9, 10, 11, 12, 13, 15], [13, 15]), ([14, 16, 0, 1, 2, 3, 4, 5, 6, 7, 8, 9, 10, 11, 12, 13, 14, 15, 16], [14])])
def substationlaw16_TwinAccepts.B7 : List Nat := [0, 0, 0, 6, 14, 30, 0, 0, 192, 448, 960, 2047, 4095, 8191, 8191, 0, 49151, 131071]
theorem substationlaw16_TwinAccepts.tab7 : rtab .any (opsOf Try.f5 7) = substationlaw16_TwinAccepts.T7 := by kernel_rfl
theorem substationlaw16_TwinAccepts.bits7 : waitsOk substationlaw16_TwinAccepts.T7.2 substationlaw16_TwinAccepts.B7 = true := by kernel_rfl
def substationlaw16_TwinAccepts.T8 : Bool × List (List Nat × List Nat) := (true, [([], []), ([], []), ([], []), ([1, 2], [1, 2]), ([3], [3]), ([4], [4]), ([], []), ([], []), ([6, 7], [6, 7]), ([8], [8]), ([9], [9]), ([0, 5, 10], [0, 5, 10]), ([11], [11]), ([12], [12]), ([12], [12]), ([], []), ([15, 13, 11, 0, 1, 2, 3, 4, 5, 6, 7, 8, 9, 10, 11, 12, 13, 15], [13, 15]), ([14, 16, 0, 1, 2, 3, 4, 5, 6, 7, 8, 9, 10, 11, 12, 13, 14, 15, 16], [14])])
def substationlaw16_TwinAccepts.B8 : List Nat := [0, 0, 0, 6, 14, 30, 0, 0, 192, 448, 960, 2047, 4095, 8191, 8191, 0, 49151, 131071]
theorem substationlaw16_TwinAccepts.tab8 : rtab .any (opsOf Try.f5 8) = substationlaw16_TwinAccepts.T8 := by kernel_rfl
theorem substationlaw16_TwinAccepts.bits8 : waitsOk substationlaw16_TwinAccepts.T8.2 substationlaw16_TwinAccepts.B8 = true := by kernel_rfl
def substationlaw16_TwinAccepts.T9 : Bool × List (List Nat × List Nat) := (true, [([], []), ([], []), ([0, 1], [0, 1]), ([2], [2]), ([3], [3]), ([4, 3, 3], [3, 4]), ([3], [3]), ([5, 6, 5, 3], [3, 5, 6]), ([7, 3], [3, 7]), ([3, 8], [3, 8]), ([9, 7], [9]), ([10], [10]), ([10], [10]), ([11, 12, 10, 10], [10, 11, 12]), ([13, 10], [10, 13]), ([10, 14], [10, 14]), ([15, 13], [15]), ([16], [16]), ([16], [16]), ([17, 18, 16, 16], [16, 17, 18]), ([16], [16]), ([16], [16]), ([20, 21, 19, 16], [16, 20, 21]), ([19, 22, 16], [16, 19, 22]), ([16, 23], [16, 23])])
def substationlaw16_TwinAccepts.B9 : List Nat := [0, 0, 3, 7, 15, 31, 15, 127, 255, 511, 1023, 2047, 2047, 8191, 16383, 32767, 65535, 131071, 131071, 524287, 131071, 131071, 4194303, 8388607, 16777215]
theorem substationlaw16_TwinAccepts.tab9 : rtab .any (opsOf Try.f5 9) = substationlaw16_TwinAccepts.T9 := by kernel_rfl
theorem substationlaw16_TwinAccepts.bits9 : waitsOk substationlaw16_TwinAccepts.T9.2 substationlaw16_TwinAccepts.B9 = true := by kernel_rfl
set_option maxHeartbeats 8000000 in
set_option maxRecDepth 100000 in
theorem substationlaw16_TwinAccepts.calls (k : Nat) (A0 : Option Addr) (c0 : Nat) (l0 : List (S43)) (r : Bool) (w : World) (hr0 : Kd.C k43 w A0 l0.length l0) (hc0 : l0.length ≤ c0) (hr_ : r = true) (h : substationlaw16_TwinAccepts.f k l0 = some r) :
  Calls Try.prog 5 #[.slice A0 l0.length c0] w fun e w' => e = .returned (.bool r) ∧ Below w.heap.size w w' := by
 have hu28 := Try.underlying28
 have hu41 := Try.underlying41
 have HR0 := Aside0.mk hr0
 have HC0 := Aside0.mk hc0
 clear hr0 hc0
 have HB := Aside0.mk (Below.refl w.heap.size w)
 have H : ((substationlaw16_known.f).bind fun t101 => (if t101 = true then (substationlaw16_TwinAccepts.l0 k l0 0 ([] : List (S36)) ([] : List (S103))) else (some false))) = some r := h
 clear h
 replace H := Option.bind_eq_some_iff.mp H
 obtain ⟨t101, A20, H⟩ := H
 replace H : (if t101 = true then (substationlaw16_TwinAccepts.l0 k l0 0 ([] : List (S36)) ([] : List (S103))) else (some false)) = some r := H
 have A2 := Aside0.mk A20
 clear A20
 by_cases c3 : t101 = true
 ·subst c3
  have H1 : (substationlaw16_TwinAccepts.l0 k l0 0 ([] : List (S36)) ([] : List (S103))) = some r := by rw [if_pos rfl] at H; exact H
  clear H
  have H := H1
  clear H1
  have H' := Aside0.mk H
  clear H
  go_enter Try.func5, Try.ntmps5
  go_wp2_with (first | ((with_reducible refine gate_callee (f := 15) rfl ?_); refine goesL_ (some 10) rfl rfl Try.func15 (by kernel_rfl) rfl #[] rfl (by (try simp only [List.map_toArray, List.map_cons, List.map_nil]); first | done | rfl | (simp only [List.length_drop, List.length_take]; rfl)) ?_; (with_reducible refine (substationlaw16_known.calls  true _ A2.out).mono ?_); rintro e w4 ⟨rfl, hb⟩; refine ⟨_, rfl, ?_⟩; have n0_ := Aside0.mk (below_step (by repeat (first | (with_reducible first | exact HB.out | apply below_alloc | apply pw_below_drewN | apply below_drew1) | exact HB.out)) hb); clear HB; have HB := n0_; clear n0_; (try clear hb); (try clear hb2); (try clear hk); (try clear hi)) | ((with_reducible refine gate_dst (N := 3) rfl ?_); refine box_event ?hg (N := 3) ?hd (cs := #[.slice none 0 0]) (t := 28) ?hr ?_; (case hd => rfl); (case hg => rfl); (case hr => first | (go_simp; done) | (go_simp; rfl)); intro gb102 hg w5 hbox hb; have n0_ := Aside0.mk (below_step (by repeat (first | (with_reducible first | exact HB.out | apply below_alloc | apply pw_below_drewN | apply below_drew1) | exact HB.out)) hb); have n1_ := Aside0.mk (hbox); have n2_ := Aside0.mk ((by rw [hg]; exact (below_size (by repeat (first | (with_reducible first | exact HB.out | apply below_alloc | apply pw_below_drewN | apply below_drew1) | exact HB.out))) : w.heap.size ≤ gb102)); have n3_ := Aside0.mk ((by rw [hg]; exact (below_size (by repeat (first | (with_reducible first | exact HB.out | apply below_alloc | apply pw_below_drewN | apply below_drew1) | exact HB.out))) : w.heap.size ≤ gb102)); clear HB; have HB := n0_; have BK102 := n1_; have GW102 := n2_; have GE102 := n3_; clear n0_ n1_ n2_ n3_; clear hb hbox hg) | ((with_reducible refine gate_dst (N := 4) rfl ?_); refine box_event ?hg (N := 4) ?hd (cs := #[.slice none 0 0]) (t := 41) ?hr ?_; (case hd => rfl); (case hg => rfl); (case hr => first | (go_simp; done) | (go_simp; rfl)); intro gb103 hg w6 hbox hb; have n0_ := Aside0.mk (blk_below (g := gb102) (o := .cells #[.slice none 0 0] 28 (0, 0)) (by (with_reducible repeat (first | refine blk_drewN ?_ _ | refine blk_drew ?_ | refine blk_alloc ?_ _)); exact BK102.out) hb); have n1_ := Aside0.mk (below_step (by repeat (first | (with_reducible first | exact HB.out | apply below_alloc | apply pw_below_drewN | apply below_drew1 | refine below_set ?_ GE102.out) | exact HB.out)) hb); have n2_ := Aside0.mk (hbox); have n3_ := Aside0.mk ((by rw [hg]; exact (below_size (by repeat (first | (with_reducible first | exact HB.out | apply below_alloc | apply pw_below_drewN | apply below_drew1 | refine below_set ?_ GE102.out) | exact HB.out))) : w.heap.size ≤ gb103)); have n4_ := Aside0.mk ((by rw [hg]; exact (below_size (by repeat (first | (with_reducible first | exact HB.out | apply below_alloc | apply pw_below_drewN | apply below_drew1 | refine below_set ?_ GE102.out) | exact HB.out))) : w.heap.size ≤ gb103)); have n5_ := Aside0.mk ((by rw [hg]; exact Nat.ne_of_lt (blk_lt (g := gb102) (o := .cells #[.slice none 0 0] 28 (0, 0)) (by (with_reducible repeat (first | refine blk_drewN ?_ _ | refine blk_drew ?_ | refine blk_alloc ?_ _)); exact BK102.out)) : gb102 ≠ gb103)); have n6_ := Aside0.mk ((by rw [hg]; exact Nat.ne_of_gt (blk_lt (g := gb102) (o := .cells #[.slice none 0 0] 28 (0, 0)) (by (with_reducible repeat (first | refine blk_drewN ?_ _ | refine blk_drew ?_ | refine blk_alloc ?_ _)); exact BK102.out)) : gb103 ≠ gb102)); clear BK102; clear HB; have BK102 := n0_; have HB := n1_; have BK103 := n2_; have GW103 := n3_; have GE103 := n4_; have NB102_103 := n5_; have NB103_102 := n6_; clear n0_ n1_ n2_ n3_ n4_ n5_ n6_; clear hb hbox hg; have hnb7 := NB102_103.out; have hnc7 := NB103_102.out; have hcz8_0 : w6.cell? ⟨gb102, 0, none⟩ = some (.slice none 0 0) := (blk_cell BK102.out 0).trans rfl; have hfz8_0 := blk_frozen BK102.out 0; have hcz9_0 : w6.cell? ⟨gb103, 0, none⟩ = some (.slice none 0 0) := (blk_cell BK103.out 0).trans rfl; have hfz9_0 := blk_frozen BK103.out 0))
  go_loopg [5] k (fun kq v5 w' => ∃ (x5_1 : Int) (x103000_1 : List (S36)) (x104000_1 : List (S103)) (u103000 : Value) (u104000 : Value), v5 = .int .i64 x5_1 ∧ Aside0 (substationlaw16_TwinAccepts.l0 kq l0 x5_1 x103000_1 x104000_1 = some r) ∧ Aside0 (kq ≤ k) ∧ Aside0 (Kd.R k36 36 w' w.heap.size (fun _ => True) u103000 x103000_1) ∧ Aside0 (Kd.R k103 103 w' w.heap.size (fun _ => True) u104000 x104000_1) ∧ Aside0 (w'.heap[gb102]? = some (.cells #[u103000] 28 (0, 0))) ∧ Aside0 (w'.heap[gb103]? = some (.cells #[u104000] 41 (0, 0))) ∧ Aside0 (Below w.heap.size w w'))
  case atStart => exact ⟨(0), (([] : List (S36))), (([] : List (S103))), (.slice none 0 0), (.slice none 0 0), (by first | rfl | (simp; done) | (simp [*]; done) | (simp; omega)), H', ⟨Nat.le_refl _⟩, ⟨by first | exact Kd.R_nil _ _ _ _ _ | exact Kd.N_nil _ _ _ _ _ | exact Kd.V_nil _ _ _ _ _ | exact Kd.Q_nil _ _ _ _ _ | exact Kd.S_nil _ _ _ _ _⟩, ⟨by first | exact Kd.R_nil _ _ _ _ _ | exact Kd.N_nil _ _ _ _ _ | exact Kd.V_nil _ _ _ _ _ | exact Kd.Q_nil _ _ _ _ _ | exact Kd.S_nil _ _ _ _ _⟩, ⟨by (with_reducible repeat (first | refine blk_drewN ?_ _ | refine blk_drew ?_ | refine blk_alloc ?_ _)); refine blk_far ?_ NB102_103.out _; (with_reducible repeat (first | refine blk_drewN ?_ _ | refine blk_drew ?_ | refine blk_alloc ?_ _)); refine blk_put (cs := #[.slice none 0 0]) ?_ 0 _ rfl; (with_reducible repeat (first | refine blk_drewN ?_ _ | refine blk_drew ?_ | refine blk_alloc ?_ _)); exact BK102.out⟩, ⟨by (with_reducible repeat (first | refine blk_drewN ?_ _ | refine blk_drew ?_ | refine blk_alloc ?_ _)); refine blk_put (cs := #[.slice none 0 0]) ?_ 0 _ rfl; (with_reducible repeat (first | refine blk_drewN ?_ _ | refine blk_drew ?_ | refine blk_alloc ?_ _)); refine blk_far ?_ NB103_102.out _; (with_reducible repeat (first | refine blk_drewN ?_ _ | refine blk_drew ?_ | refine blk_alloc ?_ _)); exact BK103.out⟩, ⟨by repeat (first | (with_reducible first | exact HB.out | apply below_alloc | apply pw_below_drewN | apply below_drew1 | refine below_set ?_ GE102.out | refine below_set ?_ GE103.out) | exact HB.out)⟩⟩
  case round =>
   clear H'
   try clear c1
   try clear p2
   try clear c3
   try clear c5
   try clear c7
   try clear hcz8_0
   try clear hcz9_0
   try clear hfz8_0
   try clear hfz9_0
   obtain ⟨x5_1, x103000_1, x104000_1, u103000, u104000, rfl, HA, HK1, HO_103000, HO_104000, BK102, BK103, HB⟩ := hrel
   cases gk with
   | zero => exact absurd HA.out (by simp [substationlaw16_TwinAccepts.l0])
   | succ k1 =>
    have H := HA.out
    clear HA
    simp only [substationlaw16_TwinAccepts.l0] at H
    have HC10 := Aside0.mk H
    clear H
    go_upto_region 5 with (fail)
    go_cut [21] (fun v21 wc => ∃ (kq : Nat) (x21_9 : Bool), v21 = .bool x21_9 ∧ Aside0 (substationlaw16_TwinAccepts.j1 kq l0 x5_1 x21_9 x103000_1 x104000_1 = some r) ∧ Aside0 (kq ≤ k1) ∧ Aside0 (Kd.R k36 36 wc w.heap.size (fun _ => True) u103000 x103000_1) ∧ Aside0 (Kd.R k103 103 wc w.heap.size (fun _ => True) u104000 x104000_1) ∧ Aside0 (wc.heap[gb102]? = some (.cells #[u103000] 28 (0, 0))) ∧ Aside0 (wc.heap[gb103]? = some (.cells #[u104000] 41 (0, 0))) ∧ Aside0 (Below w.heap.size w wc))
    case first =>
     have H := HC10.out
     clear HC10
     by_cases c11 : x5_1 < (l0.length : Int)
     ·rw [if_pos c11] at H
      have c11b0 : decide (x5_1 < (l0.length : Int)) = true := decide_eq_true c11
      clear c11
      (first | rw [c11b0] | (simp only [i64_w, i32_w]; rw [c11b0]) | skip)
      have H' := Aside0.mk H
      clear H
      go_wp2
      go_meet
      case rel => exact ⟨_, (decide (x5_1 < 300)), (by first | rfl | (simp; done) | (simp [*]; done) | (simp; omega)), H', ⟨by have := HK1.out; first | omega | exact Nat.le_refl _⟩, ⟨by (with_reducible repeat (first | apply Kd.R_alloc | apply Kd.R_drewN | apply Kd.R_drew)); exact HO_103000.out⟩, ⟨by (with_reducible repeat (first | apply Kd.R_alloc | apply Kd.R_drewN | apply Kd.R_drew)); exact HO_104000.out⟩, ⟨by (with_reducible repeat (first | refine blk_drewN ?_ _ | refine blk_drew ?_ | refine blk_alloc ?_ _)); exact BK102.out⟩, ⟨by (with_reducible repeat (first | refine blk_drewN ?_ _ | refine blk_drew ?_ | refine blk_alloc ?_ _)); exact BK103.out⟩, ⟨by repeat (first | (with_reducible first | exact HB.out | apply below_alloc | apply pw_below_drewN | apply below_drew1 | refine below_set ?_ GE102.out | refine below_set ?_ GE103.out) | exact HB.out)⟩⟩
     ·rw [if_neg c11] at H
      have c11b0 : decide (x5_1 < (l0.length : Int)) = false := decide_eq_false c11
      clear c11
      (first | rw [c11b0] | (simp only [i64_w, i32_w]; rw [c11b0]) | skip)
      have H' := Aside0.mk H
      clear H
      go_wp2
      go_meet
      case rel => exact ⟨_, (false), (by first | rfl | (simp; done) | (simp [*]; done) | (simp; omega)), H', ⟨by have := HK1.out; first | omega | exact Nat.le_refl _⟩, ⟨by (with_reducible repeat (first | apply Kd.R_alloc | apply Kd.R_drewN | apply Kd.R_drew)); exact HO_103000.out⟩, ⟨by (with_reducible repeat (first | apply Kd.R_alloc | apply Kd.R_drewN | apply Kd.R_drew)); exact HO_104000.out⟩, ⟨by (with_reducible repeat (first | refine blk_drewN ?_ _ | refine blk_drew ?_ | refine blk_alloc ?_ _)); exact BK102.out⟩, ⟨by (with_reducible repeat (first | refine blk_drewN ?_ _ | refine blk_drew ?_ | refine blk_alloc ?_ _)); exact BK103.out⟩, ⟨by repeat (first | (with_reducible first | exact HB.out | apply below_alloc | apply pw_below_drewN | apply below_drew1 | refine below_set ?_ GE102.out | refine below_set ?_ GE103.out) | exact HB.out)⟩⟩
    case rest =>
     clear HC10
     try clear c1
     try clear p2
     try clear c3
     try clear c5
     try clear c7
     try clear c11
     try clear c11b0
     try clear hcz8_0
     try clear hcz9_0
     try clear hfz8_0
     try clear hfz9_0
     try clear p2
     obtain ⟨kq, x21_9, rfl, HA, HJ9, HO_103000, HO_104000, BK102, BK103, HB⟩ := hcut
     cases kq with
     | zero => exact absurd HA.out (by simp [substationlaw16_TwinAccepts.j1])
     | succ kj9 =>
      have H := HA.out
      clear HA
      simp only [substationlaw16_TwinAccepts.j1] at H
      by_cases c12 : x21_9 = true
      ·subst c12
       have H1 : (if 0 ≤ x5_1 then (if x5_1 < (l0.length : Int) then ((twin_Accept.f x103000_1 ((rd_T43 l0 x5_1).f0) ((rd_T43 l0 x5_1).f1)).bind fun bt106 => ((substationref16_Accept.f kj9 x104000_1 ((rd_T43 l0 x5_1).f0) ((rd_T43 l0 x5_1).f1)).bind fun bt113 => (if (bt106.2 != bt113.2) = true then (some false) else ((substationlaw16_To.f kj9 bt106.1).bind fun t118 => ((substationref16_Same.f kj9 t118 bt113.1).bind fun t121 => (if t121 = true then ((twin_Same.f kj9 bt106.1 bt106.1).bind fun t122 => (if t122 = true then ((twin_Same.f kj9 bt106.1 x103000_1).bind fun t123 => ((substationref16_Same.f kj9 bt113.1 x104000_1).bind fun t124 => (if (t123 != t124) = true then (some false) else (substationlaw16_TwinAccepts.l0 kj9 l0 (wrap64 (x5_1 + 1)) bt106.1 bt113.1)))) else (some false))) else (some false))))))) else (none)) else (none)) = some r := by rw [if_pos rfl] at H; exact H
       clear H
       have H := H1
       clear H1
       by_cases c13 : 0 ≤ x5_1
       ·rw [if_pos c13] at H
        have c13b0 : decide (0 ≤ x5_1) = true := decide_eq_true c13
        clear c13
        by_cases c14 : x5_1 < (l0.length : Int)
        ·rw [if_pos c14] at H
         have c14b0 : decide (x5_1 < (l0.length : Int)) = true := decide_eq_true c14
         clear c14
         replace H := Option.bind_eq_some_iff.mp H
         obtain ⟨⟨t106, t109⟩, A150, H⟩ := H
         replace H : ((substationref16_Accept.f kj9 x104000_1 ((rd_T43 l0 x5_1).f0) ((rd_T43 l0 x5_1).f1)).bind fun bt113 => (if (t109 != bt113.2) = true then (some false) else ((substationlaw16_To.f kj9 t106).bind fun t118 => ((substationref16_Same.f kj9 t118 bt113.1).bind fun t121 => (if t121 = true then ((twin_Same.f kj9 t106 t106).bind fun t122 => (if t122 = true then ((twin_Same.f kj9 t106 x103000_1).bind fun t123 => ((substationref16_Same.f kj9 bt113.1 x104000_1).bind fun t124 => (if (t123 != t124) = true then (some false) else (substationlaw16_TwinAccepts.l0 kj9 l0 (wrap64 (x5_1 + 1)) t106 bt113.1)))) else (some false))) else (some false)))))) = some r := H
         have A15 := Aside0.mk A150
         clear A150
         replace H := Option.bind_eq_some_iff.mp H
         obtain ⟨⟨t113, t116⟩, A160, H⟩ := H
         replace H : (if (t109 != t116) = true then (some false) else ((substationlaw16_To.f kj9 t106).bind fun t118 => ((substationref16_Same.f kj9 t118 t113).bind fun t121 => (if t121 = true then ((twin_Same.f kj9 t106 t106).bind fun t122 => (if t122 = true then ((twin_Same.f kj9 t106 x103000_1).bind fun t123 => ((substationref16_Same.f kj9 t113 x104000_1).bind fun t124 => (if (t123 != t124) = true then (some false) else (substationlaw16_TwinAccepts.l0 kj9 l0 (wrap64 (x5_1 + 1)) t106 t113)))) else (some false))) else (some false))))) = some r := H
         have A16 := Aside0.mk A160
         clear A160
         by_cases c17 : (t109 != t116) = true
         ·rw [if_pos c17] at H
          have c17b0 : (t109 != t116) = true := c17
          (try (have c17b1 : decide (t109 = t116) = false := by simpa using c17))
          (try (have c17b2 : (t109 == t116) = false := by simpa using c17))
          (try (have c17b3 : ¬ (t109 = t116) := by simpa using c17))
          clear c17
          exact absurd (hr_.symm.trans (Option.some.inj H).symm) (by decide)
         ·rw [if_neg c17] at H
          have c17b0 : (t109 != t116) = false := by simpa using c17
          (try (have c17b1 : decide (t109 = t116) = true := by simpa using c17))
          (try (have c17b2 : (t109 == t116) = true := by simpa using c17))
          clear c17
          replace H := Option.bind_eq_some_iff.mp H
          obtain ⟨t118, A350, H⟩ := H
          replace H : ((substationref16_Same.f kj9 t118 t113).bind fun t121 => (if t121 = true then ((twin_Same.f kj9 t106 t106).bind fun t122 => (if t122 = true then ((twin_Same.f kj9 t106 x103000_1).bind fun t123 => ((substationref16_Same.f kj9 t113 x104000_1).bind fun t124 => (if (t123 != t124) = true then (some false) else (substationlaw16_TwinAccepts.l0 kj9 l0 (wrap64 (x5_1 + 1)) t106 t113)))) else (some false))) else (some false))) = some r := H
          have A35 := Aside0.mk A350
          clear A350
          replace H := Option.bind_eq_some_iff.mp H
          obtain ⟨t121, A360, H⟩ := H
          replace H : (if t121 = true then ((twin_Same.f kj9 t106 t106).bind fun t122 => (if t122 = true then ((twin_Same.f kj9 t106 x103000_1).bind fun t123 => ((substationref16_Same.f kj9 t113 x104000_1).bind fun t124 => (if (t123 != t124) = true then (some false) else (substationlaw16_TwinAccepts.l0 kj9 l0 (wrap64 (x5_1 + 1)) t106 t113)))) else (some false))) else (some false)) = some r := H
          have A36 := Aside0.mk A360
          clear A360
          by_cases c37 : t121 = true
          ·subst c37
           have H1 : ((twin_Same.f kj9 t106 t106).bind fun t122 => (if t122 = true then ((twin_Same.f kj9 t106 x103000_1).bind fun t123 => ((substationref16_Same.f kj9 t113 x104000_1).bind fun t124 => (if (t123 != t124) = true then (some false) else (substationlaw16_TwinAccepts.l0 kj9 l0 (wrap64 (x5_1 + 1)) t106 t113)))) else (some false))) = some r := by rw [if_pos rfl] at H; exact H
           clear H
           have H := H1
           clear H1
           replace H := Option.bind_eq_some_iff.mp H
           obtain ⟨t122, A380, H⟩ := H
           replace H : (if t122 = true then ((twin_Same.f kj9 t106 x103000_1).bind fun t123 => ((substationref16_Same.f kj9 t113 x104000_1).bind fun t124 => (if (t123 != t124) = true then (some false) else (substationlaw16_TwinAccepts.l0 kj9 l0 (wrap64 (x5_1 + 1)) t106 t113)))) else (some false)) = some r := H
           have A38 := Aside0.mk A380
           clear A380
           by_cases c39 : t122 = true
           ·subst c39
            have H1 : ((twin_Same.f kj9 t106 x103000_1).bind fun t123 => ((substationref16_Same.f kj9 t113 x104000_1).bind fun t124 => (if (t123 != t124) = true then (some false) else (substationlaw16_TwinAccepts.l0 kj9 l0 (wrap64 (x5_1 + 1)) t106 t113)))) = some r := by rw [if_pos rfl] at H; exact H
            clear H
            have H := H1
            clear H1
            replace H := Option.bind_eq_some_iff.mp H
            obtain ⟨t123, A400, H⟩ := H
            replace H : ((substationref16_Same.f kj9 t113 x104000_1).bind fun t124 => (if (t123 != t124) = true then (some false) else (substationlaw16_TwinAccepts.l0 kj9 l0 (wrap64 (x5_1 + 1)) t106 t113))) = some r := H
            have A40 := Aside0.mk A400
            clear A400
            replace H := Option.bind_eq_some_iff.mp H
            obtain ⟨t124, A410, H⟩ := H
            replace H : (if (t123 != t124) = true then (some false) else (substationlaw16_TwinAccepts.l0 kj9 l0 (wrap64 (x5_1 + 1)) t106 t113)) = some r := H
            have A41 := Aside0.mk A410
            clear A410
            by_cases c42 : (t123 != t124) = true
            ·rw [if_pos c42] at H
             have c42b0 : (t123 != t124) = true := c42
             (try (have c42b1 : decide (t123 = t124) = false := by simpa using c42))
             (try (have c42b2 : (t123 == t124) = false := by simpa using c42))
             (try (have c42b3 : ¬ (t123 = t124) := by simpa using c42))
             clear c42
             exact absurd (hr_.symm.trans (Option.some.inj H).symm) (by decide)
            ·rw [if_neg c42] at H
             have c42b0 : (t123 != t124) = false := by simpa using c42
             (try (have c42b1 : decide (t123 = t124) = true := by simpa using c42))
             (try (have c42b2 : (t123 == t124) = true := by simpa using c42))
             clear c42
             have H' := Aside0.mk H
             clear H
             obtain ⟨Ao66, co66, eo66⟩ := Kd.R_slice HO_103000.out
             subst eo66
             try go_wp2
             have n0_ := Aside0.mk (Kd.R_drew HO_103000.out)
             have n1_ := Aside0.mk (Kd.R_drew HO_104000.out)
             have n2_ := Aside0.mk (blk_drew BK102.out)
             have n3_ := Aside0.mk (blk_drew BK103.out)
             have n4_ := Aside0.mk (below_drew1 HB.out)
             clear HO_103000
             clear HO_104000
             clear BK102
             clear BK103
             clear HB
             have HO_103000 := n0_
             have HO_104000 := n1_
             have BK102 := n2_
             have BK103 := n3_
             have HB := n4_
             clear n0_ n1_ n2_ n3_ n4_
             have p104 : 0 ≤ (x5_1 : Int) := of_decide_eq_true (by first | (with_reducible assumption) | assumption)
             have q104 : x5_1 < (l0.length : Int) := of_decide_eq_true (by first | (with_reducible assumption) | assumption)
             obtain ⟨ad104, e104, hx104_0, hx104_1⟩ := at_T43 HR0.out x5_1 p104 q104
             have hw104_1 := hx104_1
             have hw104_0 := hx104_0
             cases e104
             replace hx104_0 := (HB.out.cell (World.block_lt_of_cell? w _ hx104_0)).trans hx104_0
             replace hx104_1 := (HB.out.cell (World.block_lt_of_cell? w _ hx104_1)).trans hx104_1
             replace p104 := eq_true p104
             replace q104 := eq_true q104
             have p105 : 0 ≤ (x5_1 : Int) := of_decide_eq_true (by first | (with_reducible assumption) | assumption)
             have q105 : x5_1 < (l0.length : Int) := of_decide_eq_true (by first | (with_reducible assumption) | assumption)
             obtain ⟨ad105, e105, hx105_0, hx105_1⟩ := at_T43 HR0.out x5_1 p105 q105
             have hw105_1 := hx105_1
             have hw105_0 := hx105_0
             obtain rfl : ad104 = ad105 := (by injection e105)
             replace hx105_0 := (HB.out.cell (World.block_lt_of_cell? w _ hx105_0)).trans hx105_0
             replace hx105_1 := (HB.out.cell (World.block_lt_of_cell? w _ hx105_1)).trans hx105_1
             replace p105 := eq_true p105
             replace q105 := eq_true q105
             refine start_ (n := 18) (S := fun w' => w'.cell? ⟨gb102, 0, none⟩ = some (.slice Ao66 x103000_1.length co66) ∧ w'.cell? (ad104.add ((x5_1).toNat * 2)) = some (.int .i64 ((rd_T43 l0 x5_1).f0)) ∧ w'.cell? ⟨(ad104.add ((x5_1).toNat * 2)).block, (ad104.add ((x5_1).toNat * 2)).off + 1, none⟩ = some (.int .i64 ((rd_T43 l0 x5_1).f1)) ∧ w'.cell? (ad104.add ((x5_1).toNat * 2)) = some (.int .i64 ((rd_T43 l0 x5_1).f0)) ∧ w'.cell? ⟨(ad104.add ((x5_1).toNat * 2)).block, (ad104.add ((x5_1).toNat * 2)).off + 1, none⟩ = some (.int .i64 ((rd_T43 l0 x5_1).f1))) (ds := []) #[false, false, false, false, false, false, false, false, false, false, false, false, false, false, false, false, false, false] (by kernel_rfl) rfl rfl ⟨(blk_cell BK102.out 0).trans rfl, ((HB.out.cell (World.block_lt_of_cell? w _ hw104_0)).trans hw104_0), ((HB.out.cell (World.block_lt_of_cell? w _ hw104_1)).trans hw104_1), ((HB.out.cell (World.block_lt_of_cell? w _ hw105_0)).trans hw105_0), ((HB.out.cell (World.block_lt_of_cell? w _ hw105_1)).trans hw105_1)⟩ (fun hHeld => ?_); refine with_tabW substationlaw16_TwinAccepts.tab7 substationlaw16_TwinAccepts.bits7 (fun HT_ HW_ => ?_)
             generalize wc.drew = w67 at HO_103000 HO_104000 BK102 BK103 HB hx104_0 hx104_1 hx105_0 hx105_1 hHeld ⊢
             refine pure_ (i := 1) (N := some 26) (v := ?_) (a' := ?_) #[false, true, false, false, false, false, false, false, false, false, false, false, false, false, false, false, false, false] rfl rfl (any_of HT_.out (by kernel_rfl)) (fun _ _ _ h => h) (Or.inl ⟨by rfl, ?_⟩) ?_ ?_
             rotate_left
             ·intro w'
              go_simp
              with_reducible rfl
             rotate_left
             ·simp only [Act.put, List.setIfInBounds_toArray, List.set_cons_zero, List.set_cons_succ, i64_w, i32_w]
              rfl
             refine pure_ (i := 2) (N := some 27) (v := ?_) (a' := ?_) #[false, true, true, false, false, false, false, false, false, false, false, false, false, false, false, false, false, false] rfl rfl (any_of HT_.out (by kernel_rfl)) (fun _ _ _ h => h) (Or.inl ⟨by rfl, ?_⟩) ?_ ?_
             rotate_left
             ·intro w'
              go_simp
              with_reducible rfl
             rotate_left
             ·simp only [Act.put, List.setIfInBounds_toArray, List.set_cons_zero, List.set_cons_succ, i64_w, i32_w]
              rfl
             refine pure_ (i := 3) (N := some 28) (v := ?_) (a' := ?_) #[false, true, true, true, false, false, false, false, false, false, false, false, false, false, false, false, false, false] rfl rfl (any_of HT_.out (by kernel_rfl)) (fun _ _ _ h => h) (Or.inl ⟨by rfl, ?_⟩) ?_ ?_
             rotate_left
             ·intro w'
              go_simp
              with_reducible rfl
             rotate_left
             ·simp only [Act.put, List.setIfInBounds_toArray, List.set_cons_zero, List.set_cons_succ, i64_w, i32_w]
              rfl
             refine pure_ (i := 4) (N := some 29) (v := ?_) (a' := ?_) #[false, true, true, true, true, false, false, false, false, false, false, false, false, false, false, false, false, false] rfl rfl (any_of HT_.out (by kernel_rfl)) (fun _ _ _ h => h) (Or.inl ⟨by rfl, ?_⟩) ?_ ?_
             rotate_left
             ·intro w'
              go_simp
              with_reducible rfl
             rotate_left
             ·simp only [Act.put, List.setIfInBounds_toArray, List.set_cons_zero, List.set_cons_succ, i64_w, i32_w]
              rfl
             refine pure_ (i := 6) (N := some 31) (v := ?_) (a' := ?_) #[false, true, true, true, true, false, true, false, false, false, false, false, false, false, false, false, false, false] rfl rfl (any_of HT_.out (by kernel_rfl)) (fun _ _ _ h => h) (Or.inl ⟨by rfl, ?_⟩) ?_ ?_
             rotate_left
             ·intro w'
              go_simp
              with_reducible rfl
             rotate_left
             ·simp only [Act.put, List.setIfInBounds_toArray, List.set_cons_zero, List.set_cons_succ, i64_w, i32_w]
              rfl
             refine pure_ (i := 7) (N := some 32) (v := ?_) (a' := ?_) #[false, true, true, true, true, false, true, true, false, false, false, false, false, false, false, false, false, false] rfl rfl (any_of HT_.out (by kernel_rfl)) (fun _ _ _ h => h) (Or.inl ⟨by rfl, ?_⟩) ?_ ?_
             rotate_left
             ·intro w'
              go_simp
              with_reducible rfl
             rotate_left
             ·simp only [Act.put, List.setIfInBounds_toArray, List.set_cons_zero, List.set_cons_succ, i64_w, i32_w]
              rfl
             refine pure_ (i := 8) (N := some 33) (v := ?_) (a' := ?_) #[false, true, true, true, true, false, true, true, true, false, false, false, false, false, false, false, false, false] rfl rfl (any_of HT_.out (by kernel_rfl)) (fun _ _ _ h => h) (Or.inl ⟨by rfl, ?_⟩) ?_ ?_
             rotate_left
             ·intro w'
              go_simp
              with_reducible rfl
             rotate_left
             ·simp only [Act.put, List.setIfInBounds_toArray, List.set_cons_zero, List.set_cons_succ, i64_w, i32_w]
              rfl
             refine pure_ (i := 9) (N := some 34) (v := ?_) (a' := ?_) #[false, true, true, true, true, false, true, true, true, true, false, false, false, false, false, false, false, false] rfl rfl (any_of HT_.out (by kernel_rfl)) (fun _ _ _ h => h) (Or.inl ⟨by rfl, ?_⟩) ?_ ?_
             rotate_left
             ·intro w'
              go_simp
              with_reducible rfl
             rotate_left
             ·simp only [Act.put, List.setIfInBounds_toArray, List.set_cons_zero, List.set_cons_succ, i64_w, i32_w]
              rfl
             refine take_ (i := 0) (N := some 25) (v := ?_) (a' := ?_) #[true, true, true, true, true, false, true, true, true, true, false, false, false, false, false, false, false, false] rfl rfl (take_ofW HT_.out HW_.out (by kernel_rfl)) (fun _ _ _ h => h) (Or.inl ⟨by rfl, ?_⟩) hHeld ?_ ?_
             rotate_left
             ·rintro w' ⟨s0, s1, s2, s3, s4⟩
              go_simp
              with_reducible rfl
             rotate_left
             ·simp only [Act.put, List.setIfInBounds_toArray, List.set_cons_zero, List.set_cons_succ, i64_w, i32_w]
              rfl
             refine take_ (i := 5) (N := some 30) (v := ?_) (a' := ?_) #[true, true, true, true, true, true, true, true, true, true, false, false, false, false, false, false, false, false] rfl rfl (take_ofW HT_.out HW_.out (by kernel_rfl)) (fun _ _ _ h => h) (Or.inl ⟨by rfl, ?_⟩) hHeld ?_ ?_
             rotate_left
             ·rintro w' ⟨s0, s1, s2, s3, s4⟩
              go_simp
              with_reducible rfl
             rotate_left
             ·simp only [Act.put, List.setIfInBounds_toArray, List.set_cons_zero, List.set_cons_succ, i64_w, i32_w]
              rfl
             refine take_ (i := 10) (N := some 35) (v := ?_) (a' := ?_) #[true, true, true, true, true, true, true, true, true, true, true, false, false, false, false, false, false, false] rfl rfl (take_ofW HT_.out HW_.out (by kernel_rfl)) (fun _ _ _ h => h) (Or.inl ⟨by rfl, ?_⟩) hHeld ?_ ?_
             rotate_left
             ·rintro w' ⟨s0, s1, s2, s3, s4⟩
              go_simp
              with_reducible rfl
             rotate_left
             ·simp only [Act.put, List.setIfInBounds_toArray, List.set_cons_zero, List.set_cons_succ, i64_w, i32_w]
              rfl
             refine join_ (σ := Value × Nat) 2 #[true, true, true, true, true, true, true, true, true, true, true, true, true, true, true, true, false, false] (fun s_ => [(36, .tuple #[.agg #[s_.1], .bool t109]), (6, .pointer (some ⟨s_.2, 0, none⟩)), (24, .tuple #[.agg #[s_.1], .bool t109]), (37, .agg #[s_.1]), (38, .bool t109)]) (fun s_ w' => (w'.cell? ⟨gb102, 0, none⟩ = some (.slice Ao66 x103000_1.length co66) ∧ w'.cell? (ad104.add ((x5_1).toNat * 2)) = some (.int .i64 ((rd_T43 l0 x5_1).f0)) ∧ w'.cell? ⟨(ad104.add ((x5_1).toNat * 2)).block, (ad104.add ((x5_1).toNat * 2)).off + 1, none⟩ = some (.int .i64 ((rd_T43 l0 x5_1).f1)) ∧ w'.cell? (ad104.add ((x5_1).toNat * 2)) = some (.int .i64 ((rd_T43 l0 x5_1).f0)) ∧ w'.cell? ⟨(ad104.add ((x5_1).toNat * 2)).block, (ad104.add ((x5_1).toNat * 2)).off + 1, none⟩ = some (.int .i64 ((rd_T43 l0 x5_1).f1))) ∧ (Kd.R k36 36 w' w.heap.size (fun k_ => some k_ ≠ (.slice Ao66 x103000_1.length co66 : Value).ownBlock) s_.1 t106) ∧ (Kd.R k36 36 w' w.heap.size (fun k_ => some k_ ≠ (s_.1 : Value).ownBlock) (.slice Ao66 x103000_1.length co66) x103000_1) ∧ (Kd.R k103 103 w' w.heap.size (fun _ => True) u104000 x104000_1) ∧ (w'.heap[gb102]? = some (.cells #[.slice Ao66 x103000_1.length co66] 28 (0, 0))) ∧ (w'.heap[gb103]? = some (.cells #[u104000] 41 (0, 0))) ∧ (w'.heap[s_.2]? = some (.cells #[.slice none 0 0] 28 (0, 0))) ∧ (w.heap.size ≤ s_.2) ∧ (w.heap.size ≤ s_.2) ∧ (gb102 ≠ s_.2) ∧ (s_.2 ≠ gb102) ∧ (gb103 ≠ s_.2) ∧ (s_.2 ≠ gb103) ∧ (Below w.heap.size w w')) ?_ ?_
             rotate_left
             ·intro hCont
              refine two_ (i := 11) (j := 15) (Ni := some 36) (Nj := some 6) #[true, true, true, true, true, true, true, true, true, true, true, true, false, false, false, false, false, false] #[true, true, true, true, true, true, true, true, true, true, true, false, false, false, false, true, false, false] rfl rfl rfl rfl (two_of HT_.out (by kernel_rfl)) (by decide) (by decide) (fun K hK => ?_) (fun K hK => ?_)
              ·skip
               refine goes_ Try.func17 (by kernel_rfl) rfl #[.agg #[.slice Ao66 x103000_1.length co66], .int .i64 ((rd_T43 l0 x5_1).f0), .int .i64 ((rd_T43 l0 x5_1).f1)] (by rfl) rfl rfl (by (try simp only [List.map_toArray, List.map_cons, List.map_nil]); first | done | rfl | (simp only [List.length_drop, List.length_take]; rfl)) ?_
               with_reducible refine (twin_Accept.calls _ _ x103000_1 ((rd_T43 l0 x5_1).f0) ((rd_T43 l0 x5_1).f1) t106 t109 _ ?side1 ?side2 A15.out).mono ?_
               (case side1 => repeat (first | exact (Kd.R_reads' HO_103000.out).2.2 | (with_reducible refine Kd.C_alloc ?_ _) | (with_reducible refine Kd.C_drewN ?_ _) | (with_reducible refine Kd.C_drew ?_)))
               (case side2 => exact (Kd.R_reads' HO_103000.out).2.1)
               rintro e w68 ⟨v107, rfl, ho0, hb⟩
               refine ⟨_, rfl, ?_⟩
               have n0_ := Aside0.mk (Kd.R_elder' (by (with_reducible repeat (first | apply Kd.R_alloc | apply Kd.R_drewN | apply Kd.R_drew)); exact HO_103000.out) (Kd.R_base ho0) hb)
               have n1_ := Aside0.mk (Kd.R_below (by (with_reducible repeat (first | apply Kd.R_alloc | apply Kd.R_drewN | apply Kd.R_drew)); exact HO_104000.out) hb)
               have n2_ := Aside0.mk (Kd.R_lower (Kd.R_new' ho0 (Kd.R_lt (by (with_reducible repeat (first | apply Kd.R_alloc | apply Kd.R_drewN | apply Kd.R_drew)); exact HO_103000.out))) (below_size (by repeat (first | (with_reducible first | exact HB.out | apply below_alloc | apply pw_below_drewN | apply below_drew1 | refine below_set ?_ GE102.out | refine below_set ?_ GE103.out) | exact HB.out))))
               have n3_ := Aside0.mk (blk_below (g := gb102) (o := .cells #[.slice Ao66 x103000_1.length co66] 28 (0, 0)) (by (with_reducible repeat (first | refine blk_drewN ?_ _ | refine blk_drew ?_ | refine blk_alloc ?_ _)); exact BK102.out) hb)
               have n4_ := Aside0.mk (blk_below (g := gb103) (o := .cells #[u104000] 41 (0, 0)) (by (with_reducible repeat (first | refine blk_drewN ?_ _ | refine blk_drew ?_ | refine blk_alloc ?_ _)); exact BK103.out) hb)
               have n5_ := Aside0.mk (below_step (by repeat (first | (with_reducible first | exact HB.out | apply below_alloc | apply pw_below_drewN | apply below_drew1 | refine below_set ?_ GE102.out | refine below_set ?_ GE103.out) | exact HB.out)) hb)
               clear HO_103000
               clear HO_104000
               clear BK102
               clear BK103
               clear HB
               have HO_103000 := n0_
               have HO_104000 := n1_
               have HO108 := n2_
               have BK102 := n3_
               have BK103 := n4_
               have HB := n5_
               clear n0_ n1_ n2_ n3_ n4_ n5_
               (try clear hb)
               (try clear hb2)
               (try clear hk)
               (try clear hi)
               (try clear ho0)
               refine hK.out _ _ ⟨(blk_cell BK102.out 0).trans rfl, ((HB.out.cell (World.block_lt_of_cell? w _ hw104_0)).trans hw104_0), ((HB.out.cell (World.block_lt_of_cell? w _ hw104_1)).trans hw104_1), ((HB.out.cell (World.block_lt_of_cell? w _ hw105_0)).trans hw105_0), ((HB.out.cell (World.block_lt_of_cell? w _ hw105_1)).trans hw105_1)⟩ (fun hHeld => ?_)
               clear hK K
               refine norm_ (a' := ?_) ?_ ?_
               rotate_left
               ·show Act.put _ (some 36) _ = _
                simp only [Act.put, List.setIfInBounds_toArray, List.set_cons_zero, List.set_cons_succ, i64_w, i32_w]
                rfl
               refine pure_ (i := 12) (N := some 24) (v := ?_) (a' := ?_) #[true, true, true, true, true, true, true, true, true, true, true, true, true, false, false, false, false, false] rfl rfl (any_of HT_.out (by kernel_rfl)) (fun _ _ _ h => h) (Or.inl ⟨by rfl, ?_⟩) ?_ ?_
               rotate_left
               ·intro w'
                go_simp
                with_reducible rfl
               rotate_left
               ·simp only [Act.put, List.setIfInBounds_toArray, List.set_cons_zero, List.set_cons_succ, i64_w, i32_w]
                rfl
               refine pure_ (i := 13) (N := some 37) (v := ?_) (a' := ?_) #[true, true, true, true, true, true, true, true, true, true, true, true, true, true, false, false, false, false] rfl rfl (any_of HT_.out (by kernel_rfl)) (fun _ _ _ h => h) (Or.inl ⟨by rfl, ?_⟩) ?_ ?_
               rotate_left
               ·intro w'
                go_simp
                with_reducible rfl
               rotate_left
               ·simp only [Act.put, List.setIfInBounds_toArray, List.set_cons_zero, List.set_cons_succ, i64_w, i32_w]
                rfl
               refine pure_ (i := 14) (N := some 38) (v := ?_) (a' := ?_) #[true, true, true, true, true, true, true, true, true, true, true, true, true, true, true, false, false, false] rfl rfl (any_of HT_.out (by kernel_rfl)) (fun _ _ _ h => h) (Or.inl ⟨by rfl, ?_⟩) ?_ ?_
               rotate_left
               ·intro w'
                go_simp
                with_reducible rfl
               rotate_left
               ·simp only [Act.put, List.setIfInBounds_toArray, List.set_cons_zero, List.set_cons_succ, i64_w, i32_w]
                rfl
               refine one_ (i := 15) (N := some 6) #[true, true, true, true, true, true, true, true, true, true, true, true, true, true, true, true, false, false] rfl rfl (one_of HT_.out (by kernel_rfl)) (by decide) (fun K hK => ?_)
               refine box_step ?hg (N := 6) ?hd (cs := #[.slice none 0 0]) (t := 28) ?hr ?_; (case hd => rfl); (case hg => rfl); (case hr => first | (go_simp; done) | (go_simp; rfl))
               intro gb110 hg w69 hbox hb
               have n0_ := Aside0.mk (Kd.R_below (by (with_reducible repeat (first | apply Kd.R_alloc | apply Kd.R_drewN | apply Kd.R_drew)); exact HO_103000.out) hb)
               have n1_ := Aside0.mk (Kd.R_below (by (with_reducible repeat (first | apply Kd.R_alloc | apply Kd.R_drewN | apply Kd.R_drew)); exact HO_104000.out) hb)
               have n2_ := Aside0.mk (Kd.R_below (by (with_reducible repeat (first | apply Kd.R_alloc | apply Kd.R_drewN | apply Kd.R_drew)); exact HO108.out) hb)
               have n3_ := Aside0.mk (blk_below (g := gb102) (o := .cells #[.slice Ao66 x103000_1.length co66] 28 (0, 0)) (by (with_reducible repeat (first | refine blk_drewN ?_ _ | refine blk_drew ?_ | refine blk_alloc ?_ _)); exact BK102.out) hb)
               have n4_ := Aside0.mk (blk_below (g := gb103) (o := .cells #[u104000] 41 (0, 0)) (by (with_reducible repeat (first | refine blk_drewN ?_ _ | refine blk_drew ?_ | refine blk_alloc ?_ _)); exact BK103.out) hb)
               have n5_ := Aside0.mk (below_step (by repeat (first | (with_reducible first | exact HB.out | apply below_alloc | apply pw_below_drewN | apply below_drew1 | refine below_set ?_ GE102.out | refine below_set ?_ GE103.out) | exact HB.out)) hb)
               have n6_ := Aside0.mk (hbox)
               have n7_ := Aside0.mk ((by rw [hg]; exact (below_size (by repeat (first | (with_reducible first | exact HB.out | apply below_alloc | apply pw_below_drewN | apply below_drew1 | refine below_set ?_ GE102.out | refine below_set ?_ GE103.out) | exact HB.out))) : w.heap.size ≤ gb110))
               have n8_ := Aside0.mk ((by rw [hg]; exact (below_size (by repeat (first | (with_reducible first | exact HB.out | apply below_alloc | apply pw_below_drewN | apply below_drew1 | refine below_set ?_ GE102.out | refine below_set ?_ GE103.out) | exact HB.out))) : w.heap.size ≤ gb110))
               have n9_ := Aside0.mk ((by rw [hg]; exact Nat.ne_of_lt (blk_lt (g := gb102) (o := .cells #[.slice Ao66 x103000_1.length co66] 28 (0, 0)) (by (with_reducible repeat (first | refine blk_drewN ?_ _ | refine blk_drew ?_ | refine blk_alloc ?_ _)); exact BK102.out)) : gb102 ≠ gb110))
               have n10_ := Aside0.mk ((by rw [hg]; exact Nat.ne_of_gt (blk_lt (g := gb102) (o := .cells #[.slice Ao66 x103000_1.length co66] 28 (0, 0)) (by (with_reducible repeat (first | refine blk_drewN ?_ _ | refine blk_drew ?_ | refine blk_alloc ?_ _)); exact BK102.out)) : gb110 ≠ gb102))
               have n11_ := Aside0.mk ((by rw [hg]; exact Nat.ne_of_lt (blk_lt (g := gb103) (o := .cells #[u104000] 41 (0, 0)) (by (with_reducible repeat (first | refine blk_drewN ?_ _ | refine blk_drew ?_ | refine blk_alloc ?_ _)); exact BK103.out)) : gb103 ≠ gb110))
               have n12_ := Aside0.mk ((by rw [hg]; exact Nat.ne_of_gt (blk_lt (g := gb103) (o := .cells #[u104000] 41 (0, 0)) (by (with_reducible repeat (first | refine blk_drewN ?_ _ | refine blk_drew ?_ | refine blk_alloc ?_ _)); exact BK103.out)) : gb110 ≠ gb103))
               clear HO_103000
               clear HO_104000
               clear HO108
               clear BK102
               clear BK103
               clear HB
               have HO_103000 := n0_
               have HO_104000 := n1_
               have HO108 := n2_
               have BK102 := n3_
               have BK103 := n4_
               have HB := n5_
               have BK110 := n6_
               have GW110 := n7_
               have GE110 := n8_
               have NB102_110 := n9_
               have NB110_102 := n10_
               have NB103_110 := n11_
               have NB110_103 := n12_
               clear n0_ n1_ n2_ n3_ n4_ n5_ n6_ n7_ n8_ n9_ n10_ n11_ n12_
               clear hb hbox hg
               refine hK.out _ _ ⟨(blk_cell BK102.out 0).trans rfl, ((HB.out.cell (World.block_lt_of_cell? w _ hw104_0)).trans hw104_0), ((HB.out.cell (World.block_lt_of_cell? w _ hw104_1)).trans hw104_1), ((HB.out.cell (World.block_lt_of_cell? w _ hw105_0)).trans hw105_0), ((HB.out.cell (World.block_lt_of_cell? w _ hw105_1)).trans hw105_1)⟩ (fun hHeld => ?_)
               clear hK K
               refine norm_ (a' := ?_) ?_ ?_
               rotate_left
               ·show Act.put _ (some 6) _ = _
                simp only [Act.put, List.setIfInBounds_toArray, List.set_cons_zero, List.set_cons_succ, i64_w, i32_w]
                rfl
               exact norm_ (by simp only [putAll, Act.put, List.setIfInBounds_toArray, List.set_cons_zero, List.set_cons_succ]) (hCont (v107, gb110) _ ⟨hHeld, (by (with_reducible repeat (first | apply Kd.R_alloc | apply Kd.R_drewN | apply Kd.R_drew)); (first | exact HO108.out | exact Kd.R_mono HO108.out (fun _ _ => trivial) | exact Kd.R_mono HO108.out (fun _ hk => hk.2) | exact Kd.R_mono HO108.out (fun _ hk => hk.1) | exact Kd.R_mono HO108.out (fun _ hk => hk.1.2) | exact Kd.R_mono HO108.out (fun _ hk => hk.1.1) | exact Kd.R_mono HO108.out (fun _ hk => hk.1.1.2) | exact Kd.R_mono HO108.out (fun _ hk => hk.1.1.1) | exact Kd.R_mono HO108.out (fun _ hk => hk.1.1.1.2))), (by (with_reducible repeat (first | apply Kd.R_alloc | apply Kd.R_drewN | apply Kd.R_drew)); (first | exact HO_103000.out | exact Kd.R_mono HO_103000.out (fun _ _ => trivial) | exact Kd.R_mono HO_103000.out (fun _ hk => hk.2) | exact Kd.R_mono HO_103000.out (fun _ hk => hk.1) | exact Kd.R_mono HO_103000.out (fun _ hk => hk.1.2) | exact Kd.R_mono HO_103000.out (fun _ hk => hk.1.1) | exact Kd.R_mono HO_103000.out (fun _ hk => hk.1.1.2) | exact Kd.R_mono HO_103000.out (fun _ hk => hk.1.1.1) | exact Kd.R_mono HO_103000.out (fun _ hk => hk.1.1.1.2))), (by (with_reducible repeat (first | apply Kd.R_alloc | apply Kd.R_drewN | apply Kd.R_drew)); exact HO_104000.out), (by (with_reducible repeat (first | refine blk_drewN ?_ _ | refine blk_drew ?_ | refine blk_alloc ?_ _)); exact BK102.out), (by (with_reducible repeat (first | refine blk_drewN ?_ _ | refine blk_drew ?_ | refine blk_alloc ?_ _)); exact BK103.out), (by (with_reducible repeat (first | refine blk_drewN ?_ _ | refine blk_drew ?_ | refine blk_alloc ?_ _)); exact BK110.out), GW110.out, GE110.out, NB102_110.out, NB110_102.out, NB103_110.out, NB110_103.out, (by repeat (first | (with_reducible first | exact HB.out | apply below_alloc | apply pw_below_drewN | apply below_drew1 | refine below_set ?_ GE102.out | refine below_set ?_ GE103.out | refine below_set ?_ GE110.out) | exact HB.out))⟩)
              ·skip
               refine box_step ?hg (N := 6) ?hd (cs := #[.slice none 0 0]) (t := 28) ?hr ?_; (case hd => rfl); (case hg => rfl); (case hr => first | (go_simp; done) | (go_simp; rfl))
               intro gb110 hg w68 hbox hb
               have n0_ := Aside0.mk (Kd.R_below (by (with_reducible repeat (first | apply Kd.R_alloc | apply Kd.R_drewN | apply Kd.R_drew)); exact HO_103000.out) hb)
               have n1_ := Aside0.mk (Kd.R_below (by (with_reducible repeat (first | apply Kd.R_alloc | apply Kd.R_drewN | apply Kd.R_drew)); exact HO_104000.out) hb)
               have n2_ := Aside0.mk (blk_below (g := gb102) (o := .cells #[.slice Ao66 x103000_1.length co66] 28 (0, 0)) (by (with_reducible repeat (first | refine blk_drewN ?_ _ | refine blk_drew ?_ | refine blk_alloc ?_ _)); exact BK102.out) hb)
               have n3_ := Aside0.mk (blk_below (g := gb103) (o := .cells #[u104000] 41 (0, 0)) (by (with_reducible repeat (first | refine blk_drewN ?_ _ | refine blk_drew ?_ | refine blk_alloc ?_ _)); exact BK103.out) hb)
               have n4_ := Aside0.mk (below_step (by repeat (first | (with_reducible first | exact HB.out | apply below_alloc | apply pw_below_drewN | apply below_drew1 | refine below_set ?_ GE102.out | refine below_set ?_ GE103.out) | exact HB.out)) hb)
               have n5_ := Aside0.mk (hbox)
               have n6_ := Aside0.mk ((by rw [hg]; exact (below_size (by repeat (first | (with_reducible first | exact HB.out | apply below_alloc | apply pw_below_drewN | apply below_drew1 | refine below_set ?_ GE102.out | refine below_set ?_ GE103.out) | exact HB.out))) : w.heap.size ≤ gb110))
               have n7_ := Aside0.mk ((by rw [hg]; exact (below_size (by repeat (first | (with_reducible first | exact HB.out | apply below_alloc | apply pw_below_drewN | apply below_drew1 | refine below_set ?_ GE102.out | refine below_set ?_ GE103.out) | exact HB.out))) : w.heap.size ≤ gb110))
               have n8_ := Aside0.mk ((by rw [hg]; exact Nat.ne_of_lt (blk_lt (g := gb102) (o := .cells #[.slice Ao66 x103000_1.length co66] 28 (0, 0)) (by (with_reducible repeat (first | refine blk_drewN ?_ _ | refine blk_drew ?_ | refine blk_alloc ?_ _)); exact BK102.out)) : gb102 ≠ gb110))
               have n9_ := Aside0.mk ((by rw [hg]; exact Nat.ne_of_gt (blk_lt (g := gb102) (o := .cells #[.slice Ao66 x103000_1.length co66] 28 (0, 0)) (by (with_reducible repeat (first | refine blk_drewN ?_ _ | refine blk_drew ?_ | refine blk_alloc ?_ _)); exact BK102.out)) : gb110 ≠ gb102))
               have n10_ := Aside0.mk ((by rw [hg]; exact Nat.ne_of_lt (blk_lt (g := gb103) (o := .cells #[u104000] 41 (0, 0)) (by (with_reducible repeat (first | refine blk_drewN ?_ _ | refine blk_drew ?_ | refine blk_alloc ?_ _)); exact BK103.out)) : gb103 ≠ gb110))
               have n11_ := Aside0.mk ((by rw [hg]; exact Nat.ne_of_gt (blk_lt (g := gb103) (o := .cells #[u104000] 41 (0, 0)) (by (with_reducible repeat (first | refine blk_drewN ?_ _ | refine blk_drew ?_ | refine blk_alloc ?_ _)); exact BK103.out)) : gb110 ≠ gb103))
               clear HO_103000
               clear HO_104000
               clear BK102
               clear BK103
               clear HB
               have HO_103000 := n0_
               have HO_104000 := n1_
               have BK102 := n2_
               have BK103 := n3_
               have HB := n4_
               have BK110 := n5_
               have GW110 := n6_
               have GE110 := n7_
               have NB102_110 := n8_
               have NB110_102 := n9_
               have NB103_110 := n10_
               have NB110_103 := n11_
               clear n0_ n1_ n2_ n3_ n4_ n5_ n6_ n7_ n8_ n9_ n10_ n11_
               clear hb hbox hg
               refine hK.out _ _ ⟨(blk_cell BK102.out 0).trans rfl, ((HB.out.cell (World.block_lt_of_cell? w _ hw104_0)).trans hw104_0), ((HB.out.cell (World.block_lt_of_cell? w _ hw104_1)).trans hw104_1), ((HB.out.cell (World.block_lt_of_cell? w _ hw105_0)).trans hw105_0), ((HB.out.cell (World.block_lt_of_cell? w _ hw105_1)).trans hw105_1)⟩ (fun hHeld => ?_)
               clear hK K
               refine norm_ (a' := ?_) ?_ ?_
               rotate_left
               ·show Act.put _ (some 6) _ = _
                simp only [Act.put, List.setIfInBounds_toArray, List.set_cons_zero, List.set_cons_succ, i64_w, i32_w]
                rfl
               refine one_ (i := 11) (N := some 36) #[true, true, true, true, true, true, true, true, true, true, true, true, false, false, false, true, false, false] rfl rfl (one_of HT_.out (by kernel_rfl)) (by decide) (fun K hK => ?_)
               refine goes_ Try.func17 (by kernel_rfl) rfl #[.agg #[.slice Ao66 x103000_1.length co66], .int .i64 ((rd_T43 l0 x5_1).f0), .int .i64 ((rd_T43 l0 x5_1).f1)] (by rfl) rfl rfl (by (try simp only [List.map_toArray, List.map_cons, List.map_nil]); first | done | rfl | (simp only [List.length_drop, List.length_take]; rfl)) ?_
               with_reducible refine (twin_Accept.calls _ _ x103000_1 ((rd_T43 l0 x5_1).f0) ((rd_T43 l0 x5_1).f1) t106 t109 _ ?side1 ?side2 A15.out).mono ?_
               (case side1 => repeat (first | exact (Kd.R_reads' HO_103000.out).2.2 | (with_reducible refine Kd.C_alloc ?_ _) | (with_reducible refine Kd.C_drewN ?_ _) | (with_reducible refine Kd.C_drew ?_)))
               (case side2 => exact (Kd.R_reads' HO_103000.out).2.1)
               rintro e w69 ⟨v107, rfl, ho0, hb⟩
               refine ⟨_, rfl, ?_⟩
               have n0_ := Aside0.mk (Kd.R_elder' (by (with_reducible repeat (first | apply Kd.R_alloc | apply Kd.R_drewN | apply Kd.R_drew)); exact HO_103000.out) (Kd.R_base ho0) hb)
               have n1_ := Aside0.mk (Kd.R_below (by (with_reducible repeat (first | apply Kd.R_alloc | apply Kd.R_drewN | apply Kd.R_drew)); exact HO_104000.out) hb)
               have n2_ := Aside0.mk (Kd.R_lower (Kd.R_new' ho0 (Kd.R_lt (by (with_reducible repeat (first | apply Kd.R_alloc | apply Kd.R_drewN | apply Kd.R_drew)); exact HO_103000.out))) (below_size (by repeat (first | (with_reducible first | exact HB.out | apply below_alloc | apply pw_below_drewN | apply below_drew1 | refine below_set ?_ GE102.out | refine below_set ?_ GE103.out | refine below_set ?_ GE110.out) | exact HB.out))))
               have n3_ := Aside0.mk (blk_below (g := gb102) (o := .cells #[.slice Ao66 x103000_1.length co66] 28 (0, 0)) (by (with_reducible repeat (first | refine blk_drewN ?_ _ | refine blk_drew ?_ | refine blk_alloc ?_ _)); exact BK102.out) hb)
               have n4_ := Aside0.mk (blk_below (g := gb103) (o := .cells #[u104000] 41 (0, 0)) (by (with_reducible repeat (first | refine blk_drewN ?_ _ | refine blk_drew ?_ | refine blk_alloc ?_ _)); exact BK103.out) hb)
               have n5_ := Aside0.mk (blk_below (g := gb110) (o := .cells #[.slice none 0 0] 28 (0, 0)) (by (with_reducible repeat (first | refine blk_drewN ?_ _ | refine blk_drew ?_ | refine blk_alloc ?_ _)); exact BK110.out) hb)
               have n6_ := Aside0.mk (below_step (by repeat (first | (with_reducible first | exact HB.out | apply below_alloc | apply pw_below_drewN | apply below_drew1 | refine below_set ?_ GE102.out | refine below_set ?_ GE103.out | refine below_set ?_ GE110.out) | exact HB.out)) hb)
               clear HO_103000
               clear HO_104000
               clear BK102
               clear BK103
               clear BK110
               clear HB
               have HO_103000 := n0_
               have HO_104000 := n1_
               have HO108 := n2_
               have BK102 := n3_
               have BK103 := n4_
               have BK110 := n5_
               have HB := n6_
               clear n0_ n1_ n2_ n3_ n4_ n5_ n6_
               (try clear hb)
               (try clear hb2)
               (try clear hk)
               (try clear hi)
               (try clear ho0)
               refine hK.out _ _ ⟨(blk_cell BK102.out 0).trans rfl, ((HB.out.cell (World.block_lt_of_cell? w _ hw104_0)).trans hw104_0), ((HB.out.cell (World.block_lt_of_cell? w _ hw104_1)).trans hw104_1), ((HB.out.cell (World.block_lt_of_cell? w _ hw105_0)).trans hw105_0), ((HB.out.cell (World.block_lt_of_cell? w _ hw105_1)).trans hw105_1)⟩ (fun hHeld => ?_)
               clear hK K
               refine norm_ (a' := ?_) ?_ ?_
               rotate_left
               ·show Act.put _ (some 36) _ = _
                simp only [Act.put, List.setIfInBounds_toArray, List.set_cons_zero, List.set_cons_succ, i64_w, i32_w]
                rfl
               refine pure_ (i := 12) (N := some 24) (v := ?_) (a' := ?_) #[true, true, true, true, true, true, true, true, true, true, true, true, true, false, false, true, false, false] rfl rfl (any_of HT_.out (by kernel_rfl)) (fun _ _ _ h => h) (Or.inl ⟨by rfl, ?_⟩) ?_ ?_
               rotate_left
               ·intro w'
                go_simp
                with_reducible rfl
               rotate_left
               ·simp only [Act.put, List.setIfInBounds_toArray, List.set_cons_zero, List.set_cons_succ, i64_w, i32_w]
                rfl
               refine pure_ (i := 13) (N := some 37) (v := ?_) (a' := ?_) #[true, true, true, true, true, true, true, true, true, true, true, true, true, true, false, true, false, false] rfl rfl (any_of HT_.out (by kernel_rfl)) (fun _ _ _ h => h) (Or.inl ⟨by rfl, ?_⟩) ?_ ?_
               rotate_left
               ·intro w'
                go_simp
                with_reducible rfl
               rotate_left
               ·simp only [Act.put, List.setIfInBounds_toArray, List.set_cons_zero, List.set_cons_succ, i64_w, i32_w]
                rfl
               refine pure_ (i := 14) (N := some 38) (v := ?_) (a' := ?_) #[true, true, true, true, true, true, true, true, true, true, true, true, true, true, true, true, false, false] rfl rfl (any_of HT_.out (by kernel_rfl)) (fun _ _ _ h => h) (Or.inl ⟨by rfl, ?_⟩) ?_ ?_
               rotate_left
               ·intro w'
                go_simp
                with_reducible rfl
               rotate_left
               ·simp only [Act.put, List.setIfInBounds_toArray, List.set_cons_zero, List.set_cons_succ, i64_w, i32_w]
                rfl
               exact norm_ (by simp only [putAll, Act.put, List.setIfInBounds_toArray, List.set_cons_zero, List.set_cons_succ]) (hCont (v107, gb110) _ ⟨hHeld, (by (with_reducible repeat (first | apply Kd.R_alloc | apply Kd.R_drewN | apply Kd.R_drew)); (first | exact HO108.out | exact Kd.R_mono HO108.out (fun _ _ => trivial) | exact Kd.R_mono HO108.out (fun _ hk => hk.2) | exact Kd.R_mono HO108.out (fun _ hk => hk.1) | exact Kd.R_mono HO108.out (fun _ hk => hk.1.2) | exact Kd.R_mono HO108.out (fun _ hk => hk.1.1) | exact Kd.R_mono HO108.out (fun _ hk => hk.1.1.2) | exact Kd.R_mono HO108.out (fun _ hk => hk.1.1.1) | exact Kd.R_mono HO108.out (fun _ hk => hk.1.1.1.2))), (by (with_reducible repeat (first | apply Kd.R_alloc | apply Kd.R_drewN | apply Kd.R_drew)); (first | exact HO_103000.out | exact Kd.R_mono HO_103000.out (fun _ _ => trivial) | exact Kd.R_mono HO_103000.out (fun _ hk => hk.2) | exact Kd.R_mono HO_103000.out (fun _ hk => hk.1) | exact Kd.R_mono HO_103000.out (fun _ hk => hk.1.2) | exact Kd.R_mono HO_103000.out (fun _ hk => hk.1.1) | exact Kd.R_mono HO_103000.out (fun _ hk => hk.1.1.2) | exact Kd.R_mono HO_103000.out (fun _ hk => hk.1.1.1) | exact Kd.R_mono HO_103000.out (fun _ hk => hk.1.1.1.2))), (by (with_reducible repeat (first | apply Kd.R_alloc | apply Kd.R_drewN | apply Kd.R_drew)); exact HO_104000.out), (by (with_reducible repeat (first | refine blk_drewN ?_ _ | refine blk_drew ?_ | refine blk_alloc ?_ _)); exact BK102.out), (by (with_reducible repeat (first | refine blk_drewN ?_ _ | refine blk_drew ?_ | refine blk_alloc ?_ _)); exact BK103.out), (by (with_reducible repeat (first | refine blk_drewN ?_ _ | refine blk_drew ?_ | refine blk_alloc ?_ _)); exact BK110.out), GW110.out, GE110.out, NB102_110.out, NB110_102.out, NB103_110.out, NB110_103.out, (by repeat (first | (with_reducible first | exact HB.out | apply below_alloc | apply pw_below_drewN | apply below_drew1 | refine below_set ?_ GE102.out | refine below_set ?_ GE103.out | refine below_set ?_ GE110.out) | exact HB.out))⟩)
             rintro ⟨v107, gb110⟩ w70 ⟨hS_, h0_, h1_, h2_, h3_, h4_, h5_, h6_, h7_, h8_, h9_, h10_, h11_, h12_⟩
             have n0_ : Aside0 (Kd.R k36 36 w70 w.heap.size (fun k_ => some k_ ≠ (.slice Ao66 x103000_1.length co66 : Value).ownBlock) v107 t106) := ⟨h0_⟩
             have n1_ : Aside0 (Kd.R k36 36 w70 w.heap.size (fun k_ => some k_ ≠ (v107 : Value).ownBlock) (.slice Ao66 x103000_1.length co66) x103000_1) := ⟨h1_⟩
             have n2_ : Aside0 (Kd.R k103 103 w70 w.heap.size (fun _ => True) u104000 x104000_1) := ⟨h2_⟩
             have n3_ : Aside0 (w70.heap[gb102]? = some (.cells #[.slice Ao66 x103000_1.length co66] 28 (0, 0))) := ⟨h3_⟩
             have n4_ : Aside0 (w70.heap[gb103]? = some (.cells #[u104000] 41 (0, 0))) := ⟨h4_⟩
             have n5_ : Aside0 (w70.heap[gb110]? = some (.cells #[.slice none 0 0] 28 (0, 0))) := ⟨h5_⟩
             have n6_ : Aside0 (w.heap.size ≤ gb110) := ⟨h6_⟩
             have n7_ : Aside0 (w.heap.size ≤ gb110) := ⟨h7_⟩
             have n8_ : Aside0 (gb102 ≠ gb110) := ⟨h8_⟩
             have n9_ : Aside0 (gb110 ≠ gb102) := ⟨h9_⟩
             have n10_ : Aside0 (gb103 ≠ gb110) := ⟨h10_⟩
             have n11_ : Aside0 (gb110 ≠ gb103) := ⟨h11_⟩
             have n12_ : Aside0 (Below w.heap.size w w70) := ⟨h12_⟩
             clear HO_103000
             clear HO_104000
             clear BK102
             clear BK103
             clear HB
             clear h0_ h1_ h2_ h3_ h4_ h5_ h6_ h7_ h8_ h9_ h10_ h11_ h12_
             have HO108 := n0_
             have HO_103000 := n1_
             have HO_104000 := n2_
             have BK102 := n3_
             have BK103 := n4_
             have BK110 := n5_
             have GW110 := n6_
             have GE110 := n7_
             have NB102_110 := n8_
             have NB110_102 := n9_
             have NB103_110 := n10_
             have NB110_103 := n11_
             have HB := n12_
             clear n0_ n1_ n2_ n3_ n4_ n5_ n6_ n7_ n8_ n9_ n10_ n11_ n12_
             have hHeld : w70.cell? ⟨gb102, 0, none⟩ = some (.slice Ao66 x103000_1.length co66) ∧ w70.cell? (ad104.add ((x5_1).toNat * 2)) = some (.int .i64 ((rd_T43 l0 x5_1).f0)) ∧ w70.cell? ⟨(ad104.add ((x5_1).toNat * 2)).block, (ad104.add ((x5_1).toNat * 2)).off + 1, none⟩ = some (.int .i64 ((rd_T43 l0 x5_1).f1)) ∧ w70.cell? (ad104.add ((x5_1).toNat * 2)) = some (.int .i64 ((rd_T43 l0 x5_1).f0)) ∧ w70.cell? ⟨(ad104.add ((x5_1).toNat * 2)).block, (ad104.add ((x5_1).toNat * 2)).off + 1, none⟩ = some (.int .i64 ((rd_T43 l0 x5_1).f1)) := hS_
             obtain ⟨Ao71, co71, eo71⟩ := Kd.R_slice HO108.out
             (first | subst eo71 | (injection eo71 with f1_ f2_ f3_; have f4_ := f1_.symm; have f5_ := f3_.symm; clear f1_ f2_ f3_; subst f4_; subst f5_))
             refine norm_ (a' := ?_) ?_ ?_
             rotate_left
             ·simp only [putAll, Act.put, List.setIfInBounds_toArray, List.set_cons_zero, List.set_cons_succ]
              rfl
             refine one_ (i := 16) (N := none) #[true, true, true, true, true, true, true, true, true, true, true, true, true, true, true, true, true, false] rfl rfl (one_of HT_.out (by kernel_rfl)) (by decide) (fun K hK => ?_)
             have hs72 : w70.cell? ⟨gb110, 0, none⟩ = some (.slice none 0 0) := (blk_cell BK110.out 0).trans rfl
             have hfs72 := blk_frozen BK110.out 0
             have hns72_0 := NB102_110.out
             have hns72_1 := NB103_110.out
             have hms72_0 := NB110_102.out
             have hms72_1 := NB110_103.out
             refine skip_ (w1 := ?_) (by rfl) rfl ?_ ?_
             rotate_left
             ·go_simp
              rfl
             refine hK.out _ _ ⟨((cell_far (p := ⟨gb110, _, none⟩) NB102_110.out _).trans (hHeld.1)), ((cell_far (p := ⟨gb110, _, none⟩) (by first | exact Nat.ne_of_lt (Nat.lt_of_lt_of_le (by have := World.block_lt_of_cell? _ _ hw104_0; first | rwa [add_block] at this | exact this) GW110.out) | (rw [add_block]; exact Nat.ne_of_lt (Nat.lt_of_lt_of_le (by have := World.block_lt_of_cell? _ _ hw104_0; first | rwa [add_block] at this | exact this) GW110.out)) | (show (Addr.add _ _).block ≠ _; rw [add_block]; exact Nat.ne_of_lt (Nat.lt_of_lt_of_le (by have := World.block_lt_of_cell? _ _ hw104_0; first | rwa [add_block] at this | exact this) GW110.out)) | (dsimp only; exact Nat.ne_of_lt (Nat.lt_of_lt_of_le (by have := World.block_lt_of_cell? _ _ hw104_0; first | rwa [add_block] at this | exact this) GW110.out))) _).trans (hHeld.2.1)), ((cell_far (p := ⟨gb110, _, none⟩) (by first | exact Nat.ne_of_lt (Nat.lt_of_lt_of_le (by have := World.block_lt_of_cell? _ _ hw104_1; first | rwa [add_block] at this | exact this) GW110.out) | (rw [add_block]; exact Nat.ne_of_lt (Nat.lt_of_lt_of_le (by have := World.block_lt_of_cell? _ _ hw104_1; first | rwa [add_block] at this | exact this) GW110.out)) | (show (Addr.add _ _).block ≠ _; rw [add_block]; exact Nat.ne_of_lt (Nat.lt_of_lt_of_le (by have := World.block_lt_of_cell? _ _ hw104_1; first | rwa [add_block] at this | exact this) GW110.out)) | (dsimp only; exact Nat.ne_of_lt (Nat.lt_of_lt_of_le (by have := World.block_lt_of_cell? _ _ hw104_1; first | rwa [add_block] at this | exact this) GW110.out))) _).trans (hHeld.2.2.1)), ((cell_far (p := ⟨gb110, _, none⟩) (by first | exact Nat.ne_of_lt (Nat.lt_of_lt_of_le (by have := World.block_lt_of_cell? _ _ hw105_0; first | rwa [add_block] at this | exact this) GW110.out) | (rw [add_block]; exact Nat.ne_of_lt (Nat.lt_of_lt_of_le (by have := World.block_lt_of_cell? _ _ hw105_0; first | rwa [add_block] at this | exact this) GW110.out)) | (show (Addr.add _ _).block ≠ _; rw [add_block]; exact Nat.ne_of_lt (Nat.lt_of_lt_of_le (by have := World.block_lt_of_cell? _ _ hw105_0; first | rwa [add_block] at this | exact this) GW110.out)) | (dsimp only; exact Nat.ne_of_lt (Nat.lt_of_lt_of_le (by have := World.block_lt_of_cell? _ _ hw105_0; first | rwa [add_block] at this | exact this) GW110.out))) _).trans (hHeld.2.2.2.1)), ((cell_far (p := ⟨gb110, _, none⟩) (by first | exact Nat.ne_of_lt (Nat.lt_of_lt_of_le (by have := World.block_lt_of_cell? _ _ hw105_1; first | rwa [add_block] at this | exact this) GW110.out) | (rw [add_block]; exact Nat.ne_of_lt (Nat.lt_of_lt_of_le (by have := World.block_lt_of_cell? _ _ hw105_1; first | rwa [add_block] at this | exact this) GW110.out)) | (show (Addr.add _ _).block ≠ _; rw [add_block]; exact Nat.ne_of_lt (Nat.lt_of_lt_of_le (by have := World.block_lt_of_cell? _ _ hw105_1; first | rwa [add_block] at this | exact this) GW110.out)) | (dsimp only; exact Nat.ne_of_lt (Nat.lt_of_lt_of_le (by have := World.block_lt_of_cell? _ _ hw105_1; first | rwa [add_block] at this | exact this) GW110.out))) _).trans (hHeld.2.2.2.2))⟩ (fun hHeld => ?_)
             clear hK K
             refine pure_ (i := 17) (N := some 7) (v := ?_) (a' := ?_) #[true, true, true, true, true, true, true, true, true, true, true, true, true, true, true, true, true, true] rfl rfl (any_of HT_.out (by kernel_rfl)) (fun _ _ _ h => h) (Or.inl ⟨by rfl, ?_⟩) ?_ ?_
             rotate_left
             ·intro w'
              go_simp
              with_reducible rfl
             rotate_left
             ·simp only [Act.put, List.setIfInBounds_toArray, List.set_cons_zero, List.set_cons_succ, i64_w, i32_w]
              rfl
             refine done_ (done_of HT_.out (by kernel_rfl)) ?_
             obtain ⟨Ao73, co73, eo73⟩ := Kd.R_slice HO_104000.out
             subst eo73
             try go_wp2
             have n0_ : Aside0 (Kd.R k36 36 (w70.setCell ⟨gb110, 0, none⟩ (.slice Ao71 t106.length co71)) w.heap.size (fun k_ => some k_ ≠ (.slice Ao71 t106.length co71 : Value).ownBlock) (.slice Ao66 x103000_1.length co66) x103000_1) := ⟨by (with_reducible repeat (first | apply Kd.R_alloc | apply Kd.R_drewN | apply Kd.R_drew)); exact Kd.R_mono (Kd.R_far (p := ⟨gb110, 0, none⟩) (Kd.R_types HO_103000.out BK110.out (by decide)) (fun _ hk => hk.2) (.slice Ao71 t106.length co71)) (fun _ hk => hk.1)⟩
             have n1_ : Aside0 (Kd.R k103 103 (w70.setCell ⟨gb110, 0, none⟩ (.slice Ao71 t106.length co71)) w.heap.size (fun _ => True) (.slice Ao73 x104000_1.length co73) x104000_1) := ⟨by (with_reducible repeat (first | apply Kd.R_alloc | apply Kd.R_drewN | apply Kd.R_drew)); exact Kd.R_mono (Kd.R_far (p := ⟨gb110, 0, none⟩) (Kd.R_types HO_104000.out BK110.out (by decide)) (fun _ hk => hk.2) (.slice Ao71 t106.length co71)) (fun _ hk => trivial)⟩
             have n2_ : Aside0 (Kd.R k36 36 (w70.setCell ⟨gb110, 0, none⟩ (.slice Ao71 t106.length co71)) w.heap.size (fun k_ => some k_ ≠ (.slice Ao66 x103000_1.length co66 : Value).ownBlock) (.slice Ao71 t106.length co71) t106) := ⟨by (with_reducible repeat (first | apply Kd.R_alloc | apply Kd.R_drewN | apply Kd.R_drew)); exact Kd.R_mono (Kd.R_far (p := ⟨gb110, 0, none⟩) (Kd.R_types HO108.out BK110.out (by decide)) (fun _ hk => hk.2) (.slice Ao71 t106.length co71)) (fun _ hk => hk.1)⟩
             have n3_ : Aside0 ((w70.setCell ⟨gb110, 0, none⟩ (.slice Ao71 t106.length co71)).heap[gb102]? = some (.cells #[.slice Ao66 x103000_1.length co66] 28 (0, 0))) := ⟨by (with_reducible repeat (first | refine blk_drewN ?_ _ | refine blk_drew ?_ | refine blk_alloc ?_ _)); refine blk_far ?_ NB102_110.out _; (with_reducible repeat (first | refine blk_drewN ?_ _ | refine blk_drew ?_ | refine blk_alloc ?_ _)); exact BK102.out⟩
             have n4_ : Aside0 ((w70.setCell ⟨gb110, 0, none⟩ (.slice Ao71 t106.length co71)).heap[gb103]? = some (.cells #[.slice Ao73 x104000_1.length co73] 41 (0, 0))) := ⟨by (with_reducible repeat (first | refine blk_drewN ?_ _ | refine blk_drew ?_ | refine blk_alloc ?_ _)); refine blk_far ?_ NB103_110.out _; (with_reducible repeat (first | refine blk_drewN ?_ _ | refine blk_drew ?_ | refine blk_alloc ?_ _)); exact BK103.out⟩
             have n5_ : Aside0 ((w70.setCell ⟨gb110, 0, none⟩ (.slice Ao71 t106.length co71)).heap[gb110]? = some (.cells #[.slice Ao71 t106.length co71] 28 (0, 0))) := ⟨by (with_reducible repeat (first | refine blk_drewN ?_ _ | refine blk_drew ?_ | refine blk_alloc ?_ _)); refine blk_put (cs := #[.slice none 0 0]) ?_ 0 _ rfl; (with_reducible repeat (first | refine blk_drewN ?_ _ | refine blk_drew ?_ | refine blk_alloc ?_ _)); exact BK110.out⟩
             have n6_ : Aside0 (Below w.heap.size w (w70.setCell ⟨gb110, 0, none⟩ (.slice Ao71 t106.length co71))) := ⟨by repeat (first | (with_reducible first | exact HB.out | apply below_alloc | apply pw_below_drewN | apply below_drew1 | refine below_set ?_ GE102.out | refine below_set ?_ GE103.out | refine below_set ?_ GE110.out) | exact HB.out)⟩
             (try clear HO_103000)
             (try clear HO_104000)
             (try clear HO108)
             (try clear BK102)
             (try clear BK103)
             (try clear BK110)
             (try clear HB)
             generalize (w70.setCell ⟨gb110, 0, none⟩ (.slice Ao71 t106.length co71)) = w74 at n0_ n1_ n2_ n3_ n4_ n5_ n6_ ⊢
             have HO_103000 := n0_
             have HO_104000 := n1_
             have HO108 := n2_
             have BK102 := n3_
             have BK103 := n4_
             have BK110 := n5_
             have HB := n6_
             clear n0_ n1_ n2_ n3_ n4_ n5_ n6_
             have n0_ := Aside0.mk (Kd.R_drew HO_103000.out)
             have n1_ := Aside0.mk (Kd.R_drew HO_104000.out)
             have n2_ := Aside0.mk (Kd.R_drew HO108.out)
             have n3_ := Aside0.mk (blk_drew BK102.out)
             have n4_ := Aside0.mk (blk_drew BK103.out)
             have n5_ := Aside0.mk (blk_drew BK110.out)
             have n6_ := Aside0.mk (below_drew1 HB.out)
             clear HO_103000
             clear HO_104000
             clear HO108
             clear BK102
             clear BK103
             clear BK110
             clear HB
             have HO_103000 := n0_
             have HO_104000 := n1_
             have HO108 := n2_
             have BK102 := n3_
             have BK103 := n4_
             have BK110 := n5_
             have HB := n6_
             clear n0_ n1_ n2_ n3_ n4_ n5_ n6_
             have p111 : 0 ≤ (x5_1 : Int) := of_decide_eq_true (by first | (with_reducible assumption) | assumption)
             have q111 : x5_1 < (l0.length : Int) := of_decide_eq_true (by first | (with_reducible assumption) | assumption)
             obtain ⟨ad111, e111, hx111_0, hx111_1⟩ := at_T43 HR0.out x5_1 p111 q111
             have hw111_1 := hx111_1
             have hw111_0 := hx111_0
             obtain rfl : ad104 = ad111 := (by injection e111)
             replace hx111_0 := (HB.out.cell (World.block_lt_of_cell? w _ hx111_0)).trans hx111_0
             replace hx111_1 := (HB.out.cell (World.block_lt_of_cell? w _ hx111_1)).trans hx111_1
             replace p111 := eq_true p111
             replace q111 := eq_true q111
             have p112 : 0 ≤ (x5_1 : Int) := of_decide_eq_true (by first | (with_reducible assumption) | assumption)
             have q112 : x5_1 < (l0.length : Int) := of_decide_eq_true (by first | (with_reducible assumption) | assumption)
             obtain ⟨ad112, e112, hx112_0, hx112_1⟩ := at_T43 HR0.out x5_1 p112 q112
             have hw112_1 := hx112_1
             have hw112_0 := hx112_0
             obtain rfl : ad104 = ad112 := (by injection e112)
             replace hx112_0 := (HB.out.cell (World.block_lt_of_cell? w _ hx112_0)).trans hx112_0
             replace hx112_1 := (HB.out.cell (World.block_lt_of_cell? w _ hx112_1)).trans hx112_1
             replace p112 := eq_true p112
             replace q112 := eq_true q112
             refine start_ (n := 18) (S := fun w' => w'.cell? ⟨gb103, 0, none⟩ = some (.slice Ao73 x104000_1.length co73) ∧ w'.cell? (ad104.add ((x5_1).toNat * 2)) = some (.int .i64 ((rd_T43 l0 x5_1).f0)) ∧ w'.cell? ⟨(ad104.add ((x5_1).toNat * 2)).block, (ad104.add ((x5_1).toNat * 2)).off + 1, none⟩ = some (.int .i64 ((rd_T43 l0 x5_1).f1)) ∧ w'.cell? (ad104.add ((x5_1).toNat * 2)) = some (.int .i64 ((rd_T43 l0 x5_1).f0)) ∧ w'.cell? ⟨(ad104.add ((x5_1).toNat * 2)).block, (ad104.add ((x5_1).toNat * 2)).off + 1, none⟩ = some (.int .i64 ((rd_T43 l0 x5_1).f1))) (ds := []) #[false, false, false, false, false, false, false, false, false, false, false, false, false, false, false, false, false, false] (by kernel_rfl) rfl rfl ⟨(blk_cell BK103.out 0).trans rfl, ((HB.out.cell (World.block_lt_of_cell? w _ hw111_0)).trans hw111_0), ((HB.out.cell (World.block_lt_of_cell? w _ hw111_1)).trans hw111_1), ((HB.out.cell (World.block_lt_of_cell? w _ hw112_0)).trans hw112_0), ((HB.out.cell (World.block_lt_of_cell? w _ hw112_1)).trans hw112_1)⟩ (fun hHeld => ?_); refine with_tabW substationlaw16_TwinAccepts.tab8 substationlaw16_TwinAccepts.bits8 (fun HT_ HW_ => ?_)
             generalize w74.drew = w75 at HO_103000 HO_104000 HO108 BK102 BK103 BK110 HB hx111_0 hx111_1 hx112_0 hx112_1 hHeld ⊢
             refine pure_ (i := 1) (N := some 41) (v := ?_) (a' := ?_) #[false, true, false, false, false, false, false, false, false, false, false, false, false, false, false, false, false, false] rfl rfl (any_of HT_.out (by kernel_rfl)) (fun _ _ _ h => h) (Or.inl ⟨by rfl, ?_⟩) ?_ ?_
             rotate_left
             ·intro w'
              go_simp
              with_reducible rfl
             rotate_left
             ·simp only [Act.put, List.setIfInBounds_toArray, List.set_cons_zero, List.set_cons_succ, i64_w, i32_w]
              rfl
             refine pure_ (i := 2) (N := some 42) (v := ?_) (a' := ?_) #[false, true, true, false, false, false, false, false, false, false, false, false, false, false, false, false, false, false] rfl rfl (any_of HT_.out (by kernel_rfl)) (fun _ _ _ h => h) (Or.inl ⟨by rfl, ?_⟩) ?_ ?_
             rotate_left
             ·intro w'
              go_simp
              with_reducible rfl
             rotate_left
             ·simp only [Act.put, List.setIfInBounds_toArray, List.set_cons_zero, List.set_cons_succ, i64_w, i32_w]
              rfl
             refine pure_ (i := 3) (N := some 43) (v := ?_) (a' := ?_) #[false, true, true, true, false, false, false, false, false, false, false, false, false, false, false, false, false, false] rfl rfl (any_of HT_.out (by kernel_rfl)) (fun _ _ _ h => h) (Or.inl ⟨by rfl, ?_⟩) ?_ ?_
             rotate_left
             ·intro w'
              go_simp
              with_reducible rfl
             rotate_left
             ·simp only [Act.put, List.setIfInBounds_toArray, List.set_cons_zero, List.set_cons_succ, i64_w, i32_w]
              rfl
             refine pure_ (i := 4) (N := some 44) (v := ?_) (a' := ?_) #[false, true, true, true, true, false, false, false, false, false, false, false, false, false, false, false, false, false] rfl rfl (any_of HT_.out (by kernel_rfl)) (fun _ _ _ h => h) (Or.inl ⟨by rfl, ?_⟩) ?_ ?_
             rotate_left
             ·intro w'
              go_simp
              with_reducible rfl
             rotate_left
             ·simp only [Act.put, List.setIfInBounds_toArray, List.set_cons_zero, List.set_cons_succ, i64_w, i32_w]
              rfl
             refine pure_ (i := 6) (N := some 46) (v := ?_) (a' := ?_) #[false, true, true, true, true, false, true, false, false, false, false, false, false, false, false, false, false, false] rfl rfl (any_of HT_.out (by kernel_rfl)) (fun _ _ _ h => h) (Or.inl ⟨by rfl, ?_⟩) ?_ ?_
             rotate_left
             ·intro w'
              go_simp
              with_reducible rfl
             rotate_left
             ·simp only [Act.put, List.setIfInBounds_toArray, List.set_cons_zero, List.set_cons_succ, i64_w, i32_w]
              rfl
             refine pure_ (i := 7) (N := some 47) (v := ?_) (a' := ?_) #[false, true, true, true, true, false, true, true, false, false, false, false, false, false, false, false, false, false] rfl rfl (any_of HT_.out (by kernel_rfl)) (fun _ _ _ h => h) (Or.inl ⟨by rfl, ?_⟩) ?_ ?_
             rotate_left
             ·intro w'
              go_simp
              with_reducible rfl
             rotate_left
             ·simp only [Act.put, List.setIfInBounds_toArray, List.set_cons_zero, List.set_cons_succ, i64_w, i32_w]
              rfl
             refine pure_ (i := 8) (N := some 48) (v := ?_) (a' := ?_) #[false, true, true, true, true, false, true, true, true, false, false, false, false, false, false, false, false, false] rfl rfl (any_of HT_.out (by kernel_rfl)) (fun _ _ _ h => h) (Or.inl ⟨by rfl, ?_⟩) ?_ ?_
             rotate_left
             ·intro w'
              go_simp
              with_reducible rfl
             rotate_left
             ·simp only [Act.put, List.setIfInBounds_toArray, List.set_cons_zero, List.set_cons_succ, i64_w, i32_w]
              rfl
             refine pure_ (i := 9) (N := some 49) (v := ?_) (a' := ?_) #[false, true, true, true, true, false, true, true, true, true, false, false, false, false, false, false, false, false] rfl rfl (any_of HT_.out (by kernel_rfl)) (fun _ _ _ h => h) (Or.inl ⟨by rfl, ?_⟩) ?_ ?_
             rotate_left
             ·intro w'
              go_simp
              with_reducible rfl
             rotate_left
             ·simp only [Act.put, List.setIfInBounds_toArray, List.set_cons_zero, List.set_cons_succ, i64_w, i32_w]
              rfl
             refine take_ (i := 0) (N := some 40) (v := ?_) (a' := ?_) #[true, true, true, true, true, false, true, true, true, true, false, false, false, false, false, false, false, false] rfl rfl (take_ofW HT_.out HW_.out (by kernel_rfl)) (fun _ _ _ h => h) (Or.inl ⟨by rfl, ?_⟩) hHeld ?_ ?_
             rotate_left
             ·rintro w' ⟨s0, s1, s2, s3, s4⟩
              go_simp
              with_reducible rfl
             rotate_left
             ·simp only [Act.put, List.setIfInBounds_toArray, List.set_cons_zero, List.set_cons_succ, i64_w, i32_w]
              rfl
             refine take_ (i := 5) (N := some 45) (v := ?_) (a' := ?_) #[true, true, true, true, true, true, true, true, true, true, false, false, false, false, false, false, false, false] rfl rfl (take_ofW HT_.out HW_.out (by kernel_rfl)) (fun _ _ _ h => h) (Or.inl ⟨by rfl, ?_⟩) hHeld ?_ ?_
             rotate_left
             ·rintro w' ⟨s0, s1, s2, s3, s4⟩
              go_simp
              with_reducible rfl
             rotate_left
             ·simp only [Act.put, List.setIfInBounds_toArray, List.set_cons_zero, List.set_cons_succ, i64_w, i32_w]
              rfl
             refine take_ (i := 10) (N := some 50) (v := ?_) (a' := ?_) #[true, true, true, true, true, true, true, true, true, true, true, false, false, false, false, false, false, false] rfl rfl (take_ofW HT_.out HW_.out (by kernel_rfl)) (fun _ _ _ h => h) (Or.inl ⟨by rfl, ?_⟩) hHeld ?_ ?_
             rotate_left
             ·rintro w' ⟨s0, s1, s2, s3, s4⟩
              go_simp
              with_reducible rfl
             rotate_left
             ·simp only [Act.put, List.setIfInBounds_toArray, List.set_cons_zero, List.set_cons_succ, i64_w, i32_w]
              rfl
             refine join_ (σ := Value × Nat) 2 #[true, true, true, true, true, true, true, true, true, true, true, true, true, true, true, true, false, false] (fun s_ => [(51, .tuple #[.agg #[s_.1], .bool t116]), (8, .pointer (some ⟨s_.2, 0, none⟩)), (39, .tuple #[.agg #[s_.1], .bool t116]), (52, .agg #[s_.1]), (53, .bool t116)]) (fun s_ w' => (w'.cell? ⟨gb103, 0, none⟩ = some (.slice Ao73 x104000_1.length co73) ∧ w'.cell? (ad104.add ((x5_1).toNat * 2)) = some (.int .i64 ((rd_T43 l0 x5_1).f0)) ∧ w'.cell? ⟨(ad104.add ((x5_1).toNat * 2)).block, (ad104.add ((x5_1).toNat * 2)).off + 1, none⟩ = some (.int .i64 ((rd_T43 l0 x5_1).f1)) ∧ w'.cell? (ad104.add ((x5_1).toNat * 2)) = some (.int .i64 ((rd_T43 l0 x5_1).f0)) ∧ w'.cell? ⟨(ad104.add ((x5_1).toNat * 2)).block, (ad104.add ((x5_1).toNat * 2)).off + 1, none⟩ = some (.int .i64 ((rd_T43 l0 x5_1).f1))) ∧ (Kd.R k36 36 w' w.heap.size (fun k_ => some k_ ≠ (.slice Ao66 x103000_1.length co66 : Value).ownBlock) (.slice Ao71 t106.length co71) t106) ∧ (Kd.R k103 103 w' w.heap.size (fun _ => True) s_.1 t113) ∧ (Kd.R k36 36 w' w.heap.size (fun k_ => some k_ ≠ (.slice Ao71 t106.length co71 : Value).ownBlock) (.slice Ao66 x103000_1.length co66) x103000_1) ∧ (Kd.R k103 103 w' w.heap.size (fun _ => True) (.slice Ao73 x104000_1.length co73) x104000_1) ∧ (w'.heap[gb102]? = some (.cells #[.slice Ao66 x103000_1.length co66] 28 (0, 0))) ∧ (w'.heap[gb103]? = some (.cells #[.slice Ao73 x104000_1.length co73] 41 (0, 0))) ∧ (w'.heap[gb110]? = some (.cells #[.slice Ao71 t106.length co71] 28 (0, 0))) ∧ (w'.heap[s_.2]? = some (.cells #[.slice none 0 0] 41 (0, 0))) ∧ (w.heap.size ≤ s_.2) ∧ (w.heap.size ≤ s_.2) ∧ (gb102 ≠ s_.2) ∧ (s_.2 ≠ gb102) ∧ (gb103 ≠ s_.2) ∧ (s_.2 ≠ gb103) ∧ (gb110 ≠ s_.2) ∧ (s_.2 ≠ gb110) ∧ (Below w.heap.size w w')) ?_ ?_
             rotate_left
             ·intro hCont
              refine two_ (i := 11) (j := 15) (Ni := some 51) (Nj := some 8) #[true, true, true, true, true, true, true, true, true, true, true, true, false, false, false, false, false, false] #[true, true, true, true, true, true, true, true, true, true, true, false, false, false, false, true, false, false] rfl rfl rfl rfl (two_of HT_.out (by kernel_rfl)) (by decide) (by decide) (fun K hK => ?_) (fun K hK => ?_)
              ·skip
               refine goes_ Try.func18 (by kernel_rfl) rfl #[.agg #[.slice Ao73 x104000_1.length co73], .int .i64 ((rd_T43 l0 x5_1).f0), .int .i64 ((rd_T43 l0 x5_1).f1)] (by rfl) rfl rfl (by (try simp only [List.map_toArray, List.map_cons, List.map_nil]); first | done | rfl | (simp only [List.length_drop, List.length_take]; rfl)) ?_
               with_reducible refine (substationref16_Accept.callsR kj9 _ _ x104000_1 ((rd_T43 l0 x5_1).f0) ((rd_T43 l0 x5_1).f1) t113 t116 w _ ?side1 ?side2 A16.out).mono ?_
               (case side1 => exact (by repeat (first | (with_reducible first | exact HB.out | apply below_alloc | apply pw_below_drewN | apply below_drew1 | refine below_set ?_ GE102.out | refine below_set ?_ GE103.out | refine below_set ?_ GE110.out) | exact HB.out)))
               (case side2 => (with_reducible repeat (first | apply Kd.R_alloc | apply Kd.R_drewN | apply Kd.R_drew)); exact HO_104000.out)
               rintro e w76 ⟨v114, rfl, ho0, hb⟩
               refine ⟨_, rfl, ?_⟩
               have n0_ := Aside0.mk (Kd.R_below (by (with_reducible repeat (first | apply Kd.R_alloc | apply Kd.R_drewN | apply Kd.R_drew)); exact HO_103000.out) hb)
               have n1_ := Aside0.mk (Kd.R_below (by (with_reducible repeat (first | apply Kd.R_alloc | apply Kd.R_drewN | apply Kd.R_drew)); exact HO_104000.out) hb)
               have n2_ := Aside0.mk (Kd.R_below (by (with_reducible repeat (first | apply Kd.R_alloc | apply Kd.R_drewN | apply Kd.R_drew)); exact HO108.out) hb)
               have n3_ := Aside0.mk ho0
               have n4_ := Aside0.mk (blk_below (g := gb102) (o := .cells #[.slice Ao66 x103000_1.length co66] 28 (0, 0)) (by (with_reducible repeat (first | refine blk_drewN ?_ _ | refine blk_drew ?_ | refine blk_alloc ?_ _)); exact BK102.out) hb)
               have n5_ := Aside0.mk (blk_below (g := gb103) (o := .cells #[.slice Ao73 x104000_1.length co73] 41 (0, 0)) (by (with_reducible repeat (first | refine blk_drewN ?_ _ | refine blk_drew ?_ | refine blk_alloc ?_ _)); exact BK103.out) hb)
               have n6_ := Aside0.mk (blk_below (g := gb110) (o := .cells #[.slice Ao71 t106.length co71] 28 (0, 0)) (by (with_reducible repeat (first | refine blk_drewN ?_ _ | refine blk_drew ?_ | refine blk_alloc ?_ _)); exact BK110.out) hb)
               have n7_ := Aside0.mk (below_step (by repeat (first | (with_reducible first | exact HB.out | apply below_alloc | apply pw_below_drewN | apply below_drew1 | refine below_set ?_ GE102.out | refine below_set ?_ GE103.out | refine below_set ?_ GE110.out) | exact HB.out)) hb)
               clear HO_103000
               clear HO_104000
               clear HO108
               clear BK102
               clear BK103
               clear BK110
               clear HB
               have HO_103000 := n0_
               have HO_104000 := n1_
               have HO108 := n2_
               have HO115 := n3_
               have BK102 := n4_
               have BK103 := n5_
               have BK110 := n6_
               have HB := n7_
               clear n0_ n1_ n2_ n3_ n4_ n5_ n6_ n7_
               (try clear hb)
               (try clear hb2)
               (try clear hk)
               (try clear hi)
               (try clear ho0)
               refine hK.out _ _ ⟨(blk_cell BK103.out 0).trans rfl, ((HB.out.cell (World.block_lt_of_cell? w _ hw111_0)).trans hw111_0), ((HB.out.cell (World.block_lt_of_cell? w _ hw111_1)).trans hw111_1), ((HB.out.cell (World.block_lt_of_cell? w _ hw112_0)).trans hw112_0), ((HB.out.cell (World.block_lt_of_cell? w _ hw112_1)).trans hw112_1)⟩ (fun hHeld => ?_)
               clear hK K
               refine norm_ (a' := ?_) ?_ ?_
               rotate_left
               ·show Act.put _ (some 51) _ = _
                simp only [Act.put, List.setIfInBounds_toArray, List.set_cons_zero, List.set_cons_succ, i64_w, i32_w]
                rfl
               refine pure_ (i := 12) (N := some 39) (v := ?_) (a' := ?_) #[true, true, true, true, true, true, true, true, true, true, true, true, true, false, false, false, false, false] rfl rfl (any_of HT_.out (by kernel_rfl)) (fun _ _ _ h => h) (Or.inl ⟨by rfl, ?_⟩) ?_ ?_
               rotate_left
               ·intro w'
                go_simp
                with_reducible rfl
               rotate_left
               ·simp only [Act.put, List.setIfInBounds_toArray, List.set_cons_zero, List.set_cons_succ, i64_w, i32_w]
                rfl
               refine pure_ (i := 13) (N := some 52) (v := ?_) (a' := ?_) #[true, true, true, true, true, true, true, true, true, true, true, true, true, true, false, false, false, false] rfl rfl (any_of HT_.out (by kernel_rfl)) (fun _ _ _ h => h) (Or.inl ⟨by rfl, ?_⟩) ?_ ?_
               rotate_left
               ·intro w'
                go_simp
                with_reducible rfl
               rotate_left
               ·simp only [Act.put, List.setIfInBounds_toArray, List.set_cons_zero, List.set_cons_succ, i64_w, i32_w]
                rfl
               refine pure_ (i := 14) (N := some 53) (v := ?_) (a' := ?_) #[true, true, true, true, true, true, true, true, true, true, true, true, true, true, true, false, false, false] rfl rfl (any_of HT_.out (by kernel_rfl)) (fun _ _ _ h => h) (Or.inl ⟨by rfl, ?_⟩) ?_ ?_
               rotate_left
               ·intro w'
                go_simp
                with_reducible rfl
               rotate_left
               ·simp only [Act.put, List.setIfInBounds_toArray, List.set_cons_zero, List.set_cons_succ, i64_w, i32_w]
                rfl
               refine one_ (i := 15) (N := some 8) #[true, true, true, true, true, true, true, true, true, true, true, true, true, true, true, true, false, false] rfl rfl (one_of HT_.out (by kernel_rfl)) (by decide) (fun K hK => ?_)
               refine box_step ?hg (N := 8) ?hd (cs := #[.slice none 0 0]) (t := 41) ?hr ?_; (case hd => rfl); (case hg => rfl); (case hr => first | (go_simp; done) | (go_simp; rfl))
               intro gb117 hg w77 hbox hb
               have n0_ := Aside0.mk (Kd.R_below (by (with_reducible repeat (first | apply Kd.R_alloc | apply Kd.R_drewN | apply Kd.R_drew)); exact HO_103000.out) hb)
               have n1_ := Aside0.mk (Kd.R_below (by (with_reducible repeat (first | apply Kd.R_alloc | apply Kd.R_drewN | apply Kd.R_drew)); exact HO_104000.out) hb)
               have n2_ := Aside0.mk (Kd.R_below (by (with_reducible repeat (first | apply Kd.R_alloc | apply Kd.R_drewN | apply Kd.R_drew)); exact HO108.out) hb)
               have n3_ := Aside0.mk (Kd.R_below (by (with_reducible repeat (first | apply Kd.R_alloc | apply Kd.R_drewN | apply Kd.R_drew)); exact HO115.out) hb)
               have n4_ := Aside0.mk (blk_below (g := gb102) (o := .cells #[.slice Ao66 x103000_1.length co66] 28 (0, 0)) (by (with_reducible repeat (first | refine blk_drewN ?_ _ | refine blk_drew ?_ | refine blk_alloc ?_ _)); exact BK102.out) hb)
               have n5_ := Aside0.mk (blk_below (g := gb103) (o := .cells #[.slice Ao73 x104000_1.length co73] 41 (0, 0)) (by (with_reducible repeat (first | refine blk_drewN ?_ _ | refine blk_drew ?_ | refine blk_alloc ?_ _)); exact BK103.out) hb)
               have n6_ := Aside0.mk (blk_below (g := gb110) (o := .cells #[.slice Ao71 t106.length co71] 28 (0, 0)) (by (with_reducible repeat (first | refine blk_drewN ?_ _ | refine blk_drew ?_ | refine blk_alloc ?_ _)); exact BK110.out) hb)
               have n7_ := Aside0.mk (below_step (by repeat (first | (with_reducible first | exact HB.out | apply below_alloc | apply pw_below_drewN | apply below_drew1 | refine below_set ?_ GE102.out | refine below_set ?_ GE103.out | refine below_set ?_ GE110.out) | exact HB.out)) hb)
               have n8_ := Aside0.mk (hbox)
               have n9_ := Aside0.mk ((by rw [hg]; exact (below_size (by repeat (first | (with_reducible first | exact HB.out | apply below_alloc | apply pw_below_drewN | apply below_drew1 | refine below_set ?_ GE102.out | refine below_set ?_ GE103.out | refine below_set ?_ GE110.out) | exact HB.out))) : w.heap.size ≤ gb117))
               have n10_ := Aside0.mk ((by rw [hg]; exact (below_size (by repeat (first | (with_reducible first | exact HB.out | apply below_alloc | apply pw_below_drewN | apply below_drew1 | refine below_set ?_ GE102.out | refine below_set ?_ GE103.out | refine below_set ?_ GE110.out) | exact HB.out))) : w.heap.size ≤ gb117))
               have n11_ := Aside0.mk ((by rw [hg]; exact Nat.ne_of_lt (blk_lt (g := gb102) (o := .cells #[.slice Ao66 x103000_1.length co66] 28 (0, 0)) (by (with_reducible repeat (first | refine blk_drewN ?_ _ | refine blk_drew ?_ | refine blk_alloc ?_ _)); exact BK102.out)) : gb102 ≠ gb117))
               have n12_ := Aside0.mk ((by rw [hg]; exact Nat.ne_of_gt (blk_lt (g := gb102) (o := .cells #[.slice Ao66 x103000_1.length co66] 28 (0, 0)) (by (with_reducible repeat (first | refine blk_drewN ?_ _ | refine blk_drew ?_ | refine blk_alloc ?_ _)); exact BK102.out)) : gb117 ≠ gb102))
               have n13_ := Aside0.mk ((by rw [hg]; exact Nat.ne_of_lt (blk_lt (g := gb103) (o := .cells #[.slice Ao73 x104000_1.length co73] 41 (0, 0)) (by (with_reducible repeat (first | refine blk_drewN ?_ _ | refine blk_drew ?_ | refine blk_alloc ?_ _)); exact BK103.out)) : gb103 ≠ gb117))
               have n14_ := Aside0.mk ((by rw [hg]; exact Nat.ne_of_gt (blk_lt (g := gb103) (o := .cells #[.slice Ao73 x104000_1.length co73] 41 (0, 0)) (by (with_reducible repeat (first | refine blk_drewN ?_ _ | refine blk_drew ?_ | refine blk_alloc ?_ _)); exact BK103.out)) : gb117 ≠ gb103))
               have n15_ := Aside0.mk ((by rw [hg]; exact Nat.ne_of_lt (blk_lt (g := gb110) (o := .cells #[.slice Ao71 t106.length co71] 28 (0, 0)) (by (with_reducible repeat (first | refine blk_drewN ?_ _ | refine blk_drew ?_ | refine blk_alloc ?_ _)); exact BK110.out)) : gb110 ≠ gb117))
               have n16_ := Aside0.mk ((by rw [hg]; exact Nat.ne_of_gt (blk_lt (g := gb110) (o := .cells #[.slice Ao71 t106.length co71] 28 (0, 0)) (by (with_reducible repeat (first | refine blk_drewN ?_ _ | refine blk_drew ?_ | refine blk_alloc ?_ _)); exact BK110.out)) : gb117 ≠ gb110))
               clear HO_103000
               clear HO_104000
               clear HO108
               clear HO115
               clear BK102
               clear BK103
               clear BK110
               clear HB
               have HO_103000 := n0_
               have HO_104000 := n1_
               have HO108 := n2_
               have HO115 := n3_
               have BK102 := n4_
               have BK103 := n5_
               have BK110 := n6_
               have HB := n7_
               have BK117 := n8_
               have GW117 := n9_
               have GE117 := n10_
               have NB102_117 := n11_
               have NB117_102 := n12_
               have NB103_117 := n13_
               have NB117_103 := n14_
               have NB110_117 := n15_
               have NB117_110 := n16_
               clear n0_ n1_ n2_ n3_ n4_ n5_ n6_ n7_ n8_ n9_ n10_ n11_ n12_ n13_ n14_ n15_ n16_
               clear hb hbox hg
               refine hK.out _ _ ⟨(blk_cell BK103.out 0).trans rfl, ((HB.out.cell (World.block_lt_of_cell? w _ hw111_0)).trans hw111_0), ((HB.out.cell (World.block_lt_of_cell? w _ hw111_1)).trans hw111_1), ((HB.out.cell (World.block_lt_of_cell? w _ hw112_0)).trans hw112_0), ((HB.out.cell (World.block_lt_of_cell? w _ hw112_1)).trans hw112_1)⟩ (fun hHeld => ?_)
               clear hK K
               refine norm_ (a' := ?_) ?_ ?_
               rotate_left
               ·show Act.put _ (some 8) _ = _
                simp only [Act.put, List.setIfInBounds_toArray, List.set_cons_zero, List.set_cons_succ, i64_w, i32_w]
                rfl
               exact norm_ (by simp only [putAll, Act.put, List.setIfInBounds_toArray, List.set_cons_zero, List.set_cons_succ]) (hCont (v114, gb117) _ ⟨hHeld, (by (with_reducible repeat (first | apply Kd.R_alloc | apply Kd.R_drewN | apply Kd.R_drew)); exact HO108.out), (by (with_reducible repeat (first | apply Kd.R_alloc | apply Kd.R_drewN | apply Kd.R_drew)); (first | exact HO115.out | exact Kd.R_mono HO115.out (fun _ _ => trivial) | exact Kd.R_mono HO115.out (fun _ hk => hk.2) | exact Kd.R_mono HO115.out (fun _ hk => hk.1) | exact Kd.R_mono HO115.out (fun _ hk => hk.1.2) | exact Kd.R_mono HO115.out (fun _ hk => hk.1.1) | exact Kd.R_mono HO115.out (fun _ hk => hk.1.1.2) | exact Kd.R_mono HO115.out (fun _ hk => hk.1.1.1) | exact Kd.R_mono HO115.out (fun _ hk => hk.1.1.1.2))), (by (with_reducible repeat (first | apply Kd.R_alloc | apply Kd.R_drewN | apply Kd.R_drew)); exact HO_103000.out), (by (with_reducible repeat (first | apply Kd.R_alloc | apply Kd.R_drewN | apply Kd.R_drew)); (first | exact HO_104000.out | exact Kd.R_mono HO_104000.out (fun _ _ => trivial) | exact Kd.R_mono HO_104000.out (fun _ hk => hk.2) | exact Kd.R_mono HO_104000.out (fun _ hk => hk.1) | exact Kd.R_mono HO_104000.out (fun _ hk => hk.1.2) | exact Kd.R_mono HO_104000.out (fun _ hk => hk.1.1) | exact Kd.R_mono HO_104000.out (fun _ hk => hk.1.1.2) | exact Kd.R_mono HO_104000.out (fun _ hk => hk.1.1.1) | exact Kd.R_mono HO_104000.out (fun _ hk => hk.1.1.1.2))), (by (with_reducible repeat (first | refine blk_drewN ?_ _ | refine blk_drew ?_ | refine blk_alloc ?_ _)); exact BK102.out), (by (with_reducible repeat (first | refine blk_drewN ?_ _ | refine blk_drew ?_ | refine blk_alloc ?_ _)); exact BK103.out), (by (with_reducible repeat (first | refine blk_drewN ?_ _ | refine blk_drew ?_ | refine blk_alloc ?_ _)); exact BK110.out), (by (with_reducible repeat (first | refine blk_drewN ?_ _ | refine blk_drew ?_ | refine blk_alloc ?_ _)); exact BK117.out), GW117.out, GE117.out, NB102_117.out, NB117_102.out, NB103_117.out, NB117_103.out, NB110_117.out, NB117_110.out, (by repeat (first | (with_reducible first | exact HB.out | apply below_alloc | apply pw_below_drewN | apply below_drew1 | refine below_set ?_ GE102.out | refine below_set ?_ GE103.out | refine below_set ?_ GE110.out | refine below_set ?_ GE117.out) | exact HB.out))⟩)
              ·skip
               refine box_step ?hg (N := 8) ?hd (cs := #[.slice none 0 0]) (t := 41) ?hr ?_; (case hd => rfl); (case hg => rfl); (case hr => first | (go_simp; done) | (go_simp; rfl))
               intro gb117 hg w76 hbox hb
               have n0_ := Aside0.mk (Kd.R_below (by (with_reducible repeat (first | apply Kd.R_alloc | apply Kd.R_drewN | apply Kd.R_drew)); exact HO_103000.out) hb)
               have n1_ := Aside0.mk (Kd.R_below (by (with_reducible repeat (first | apply Kd.R_alloc | apply Kd.R_drewN | apply Kd.R_drew)); exact HO_104000.out) hb)
               have n2_ := Aside0.mk (Kd.R_below (by (with_reducible repeat (first | apply Kd.R_alloc | apply Kd.R_drewN | apply Kd.R_drew)); exact HO108.out) hb)
               have n3_ := Aside0.mk (blk_below (g := gb102) (o := .cells #[.slice Ao66 x103000_1.length co66] 28 (0, 0)) (by (with_reducible repeat (first | refine blk_drewN ?_ _ | refine blk_drew ?_ | refine blk_alloc ?_ _)); exact BK102.out) hb)
               have n4_ := Aside0.mk (blk_below (g := gb103) (o := .cells #[.slice Ao73 x104000_1.length co73] 41 (0, 0)) (by (with_reducible repeat (first | refine blk_drewN ?_ _ | refine blk_drew ?_ | refine blk_alloc ?_ _)); exact BK103.out) hb)
               have n5_ := Aside0.mk (blk_below (g := gb110) (o := .cells #[.slice Ao71 t106.length co71] 28 (0, 0)) (by (with_reducible repeat (first | refine blk_drewN ?_ _ | refine blk_drew ?_ | refine blk_alloc ?_ _)); exact BK110.out) hb)
               have n6_ := Aside0.mk (below_step (by repeat (first | (with_reducible first | exact HB.out | apply below_alloc | apply pw_below_drewN | apply below_drew1 | refine below_set ?_ GE102.out | refine below_set ?_ GE103.out | refine below_set ?_ GE110.out) | exact HB.out)) hb)
               have n7_ := Aside0.mk (hbox)
               have n8_ := Aside0.mk ((by rw [hg]; exact (below_size (by repeat (first | (with_reducible first | exact HB.out | apply below_alloc | apply pw_below_drewN | apply below_drew1 | refine below_set ?_ GE102.out | refine below_set ?_ GE103.out | refine below_set ?_ GE110.out) | exact HB.out))) : w.heap.size ≤ gb117))
               have n9_ := Aside0.mk ((by rw [hg]; exact (below_size (by repeat (first | (with_reducible first | exact HB.out | apply below_alloc | apply pw_below_drewN | apply below_drew1 | refine below_set ?_ GE102.out | refine below_set ?_ GE103.out | refine below_set ?_ GE110.out) | exact HB.out))) : w.heap.size ≤ gb117))
               have n10_ := Aside0.mk ((by rw [hg]; exact Nat.ne_of_lt (blk_lt (g := gb102) (o := .cells #[.slice Ao66 x103000_1.length co66] 28 (0, 0)) (by (with_reducible repeat (first | refine blk_drewN ?_ _ | refine blk_drew ?_ | refine blk_alloc ?_ _)); exact BK102.out)) : gb102 ≠ gb117))
               have n11_ := Aside0.mk ((by rw [hg]; exact Nat.ne_of_gt (blk_lt (g := gb102) (o := .cells #[.slice Ao66 x103000_1.length co66] 28 (0, 0)) (by (with_reducible repeat (first | refine blk_drewN ?_ _ | refine blk_drew ?_ | refine blk_alloc ?_ _)); exact BK102.out)) : gb117 ≠ gb102))
               have n12_ := Aside0.mk ((by rw [hg]; exact Nat.ne_of_lt (blk_lt (g := gb103) (o := .cells #[.slice Ao73 x104000_1.length co73] 41 (0, 0)) (by (with_reducible repeat (first | refine blk_drewN ?_ _ | refine blk_drew ?_ | refine blk_alloc ?_ _)); exact BK103.out)) : gb103 ≠ gb117))
               have n13_ := Aside0.mk ((by rw [hg]; exact Nat.ne_of_gt (blk_lt (g := gb103) (o := .cells #[.slice Ao73 x104000_1.length co73] 41 (0, 0)) (by (with_reducible repeat (first | refine blk_drewN ?_ _ | refine blk_drew ?_ | refine blk_alloc ?_ _)); exact BK103.out)) : gb117 ≠ gb103))
               have n14_ := Aside0.mk ((by rw [hg]; exact Nat.ne_of_lt (blk_lt (g := gb110) (o := .cells #[.slice Ao71 t106.length co71] 28 (0, 0)) (by (with_reducible repeat (first | refine blk_drewN ?_ _ | refine blk_drew ?_ | refine blk_alloc ?_ _)); exact BK110.out)) : gb110 ≠ gb117))
               have n15_ := Aside0.mk ((by rw [hg]; exact Nat.ne_of_gt (blk_lt (g := gb110) (o := .cells #[.slice Ao71 t106.length co71] 28 (0, 0)) (by (with_reducible repeat (first | refine blk_drewN ?_ _ | refine blk_drew ?_ | refine blk_alloc ?_ _)); exact BK110.out)) : gb117 ≠ gb110))
               clear HO_103000
               clear HO_104000
               clear HO108
               clear BK102
               clear BK103
               clear BK110
               clear HB
               have HO_103000 := n0_
               have HO_104000 := n1_
               have HO108 := n2_
               have BK102 := n3_
               have BK103 := n4_
               have BK110 := n5_
               have HB := n6_
               have BK117 := n7_
               have GW117 := n8_
               have GE117 := n9_
               have NB102_117 := n10_
               have NB117_102 := n11_
               have NB103_117 := n12_
               have NB117_103 := n13_
               have NB110_117 := n14_
               have NB117_110 := n15_
               clear n0_ n1_ n2_ n3_ n4_ n5_ n6_ n7_ n8_ n9_ n10_ n11_ n12_ n13_ n14_ n15_
               clear hb hbox hg
               refine hK.out _ _ ⟨(blk_cell BK103.out 0).trans rfl, ((HB.out.cell (World.block_lt_of_cell? w _ hw111_0)).trans hw111_0), ((HB.out.cell (World.block_lt_of_cell? w _ hw111_1)).trans hw111_1), ((HB.out.cell (World.block_lt_of_cell? w _ hw112_0)).trans hw112_0), ((HB.out.cell (World.block_lt_of_cell? w _ hw112_1)).trans hw112_1)⟩ (fun hHeld => ?_)
               clear hK K
               refine norm_ (a' := ?_) ?_ ?_
               rotate_left
               ·show Act.put _ (some 8) _ = _
                simp only [Act.put, List.setIfInBounds_toArray, List.set_cons_zero, List.set_cons_succ, i64_w, i32_w]
                rfl
               refine one_ (i := 11) (N := some 51) #[true, true, true, true, true, true, true, true, true, true, true, true, false, false, false, true, false, false] rfl rfl (one_of HT_.out (by kernel_rfl)) (by decide) (fun K hK => ?_)
               refine goes_ Try.func18 (by kernel_rfl) rfl #[.agg #[.slice Ao73 x104000_1.length co73], .int .i64 ((rd_T43 l0 x5_1).f0), .int .i64 ((rd_T43 l0 x5_1).f1)] (by rfl) rfl rfl (by (try simp only [List.map_toArray, List.map_cons, List.map_nil]); first | done | rfl | (simp only [List.length_drop, List.length_take]; rfl)) ?_
               with_reducible refine (substationref16_Accept.callsR kj9 _ _ x104000_1 ((rd_T43 l0 x5_1).f0) ((rd_T43 l0 x5_1).f1) t113 t116 w _ ?side1 ?side2 A16.out).mono ?_
               (case side1 => exact (by repeat (first | (with_reducible first | exact HB.out | apply below_alloc | apply pw_below_drewN | apply below_drew1 | refine below_set ?_ GE102.out | refine below_set ?_ GE103.out | refine below_set ?_ GE110.out | refine below_set ?_ GE117.out) | exact HB.out)))
               (case side2 => (with_reducible repeat (first | apply Kd.R_alloc | apply Kd.R_drewN | apply Kd.R_drew)); exact HO_104000.out)
               rintro e w77 ⟨v114, rfl, ho0, hb⟩
               refine ⟨_, rfl, ?_⟩
               have n0_ := Aside0.mk (Kd.R_below (by (with_reducible repeat (first | apply Kd.R_alloc | apply Kd.R_drewN | apply Kd.R_drew)); exact HO_103000.out) hb)
               have n1_ := Aside0.mk (Kd.R_below (by (with_reducible repeat (first | apply Kd.R_alloc | apply Kd.R_drewN | apply Kd.R_drew)); exact HO_104000.out) hb)
               have n2_ := Aside0.mk (Kd.R_below (by (with_reducible repeat (first | apply Kd.R_alloc | apply Kd.R_drewN | apply Kd.R_drew)); exact HO108.out) hb)
               have n3_ := Aside0.mk ho0
               have n4_ := Aside0.mk (blk_below (g := gb102) (o := .cells #[.slice Ao66 x103000_1.length co66] 28 (0, 0)) (by (with_reducible repeat (first | refine blk_drewN ?_ _ | refine blk_drew ?_ | refine blk_alloc ?_ _)); exact BK102.out) hb)
               have n5_ := Aside0.mk (blk_below (g := gb103) (o := .cells #[.slice Ao73 x104000_1.length co73] 41 (0, 0)) (by (with_reducible repeat (first | refine blk_drewN ?_ _ | refine blk_drew ?_ | refine blk_alloc ?_ _)); exact BK103.out) hb)
               have n6_ := Aside0.mk (blk_below (g := gb110) (o := .cells #[.slice Ao71 t106.length co71] 28 (0, 0)) (by (with_reducible repeat (first | refine blk_drewN ?_ _ | refine blk_drew ?_ | refine blk_alloc ?_ _)); exact BK110.out) hb)
               have n7_ := Aside0.mk (blk_below (g := gb117) (o := .cells #[.slice none 0 0] 41 (0, 0)) (by (with_reducible repeat (first | refine blk_drewN ?_ _ | refine blk_drew ?_ | refine blk_alloc ?_ _)); exact BK117.out) hb)
               have n8_ := Aside0.mk (below_step (by repeat (first | (with_reducible first | exact HB.out | apply below_alloc | apply pw_below_drewN | apply below_drew1 | refine below_set ?_ GE102.out | refine below_set ?_ GE103.out | refine below_set ?_ GE110.out | refine below_set ?_ GE117.out) | exact HB.out)) hb)
               clear HO_103000
               clear HO_104000
               clear HO108
               clear BK102
               clear BK103
               clear BK110
               clear BK117
               clear HB
               have HO_103000 := n0_
               have HO_104000 := n1_
               have HO108 := n2_
               have HO115 := n3_
               have BK102 := n4_
               have BK103 := n5_
               have BK110 := n6_
               have BK117 := n7_
               have HB := n8_
               clear n0_ n1_ n2_ n3_ n4_ n5_ n6_ n7_ n8_
               (try clear hb)
               (try clear hb2)
               (try clear hk)
               (try clear hi)
               (try clear ho0)
               refine hK.out _ _ ⟨(blk_cell BK103.out 0).trans rfl, ((HB.out.cell (World.block_lt_of_cell? w _ hw111_0)).trans hw111_0), ((HB.out.cell (World.block_lt_of_cell? w _ hw111_1)).trans hw111_1), ((HB.out.cell (World.block_lt_of_cell? w _ hw112_0)).trans hw112_0), ((HB.out.cell (World.block_lt_of_cell? w _ hw112_1)).trans hw112_1)⟩ (fun hHeld => ?_)
               clear hK K
               refine norm_ (a' := ?_) ?_ ?_
               rotate_left
               ·show Act.put _ (some 51) _ = _
                simp only [Act.put, List.setIfInBounds_toArray, List.set_cons_zero, List.set_cons_succ, i64_w, i32_w]
                rfl
               refine pure_ (i := 12) (N := some 39) (v := ?_) (a' := ?_) #[true, true, true, true, true, true, true, true, true, true, true, true, true, false, false, true, false, false] rfl rfl (any_of HT_.out (by kernel_rfl)) (fun _ _ _ h => h) (Or.inl ⟨by rfl, ?_⟩) ?_ ?_
               rotate_left
               ·intro w'
                go_simp
                with_reducible rfl
               rotate_left
               ·simp only [Act.put, List.setIfInBounds_toArray, List.set_cons_zero, List.set_cons_succ, i64_w, i32_w]
                rfl
               refine pure_ (i := 13) (N := some 52) (v := ?_) (a' := ?_) #[true, true, true, true, true, true, true, true, true, true, true, true, true, true, false, true, false, false] rfl rfl (any_of HT_.out (by kernel_rfl)) (fun _ _ _ h => h) (Or.inl ⟨by rfl, ?_⟩) ?_ ?_
               rotate_left
               ·intro w'
                go_simp
                with_reducible rfl
               rotate_left
               ·simp only [Act.put, List.setIfInBounds_toArray, List.set_cons_zero, List.set_cons_succ, i64_w, i32_w]
                rfl
               refine pure_ (i := 14) (N := some 53) (v := ?_) (a' := ?_) #[true, true, true, true, true, true, true, true, true, true, true, true, true, true, true, true, false, false] rfl rfl (any_of HT_.out (by kernel_rfl)) (fun _ _ _ h => h) (Or.inl ⟨by rfl, ?_⟩) ?_ ?_
               rotate_left
               ·intro w'
                go_simp
                with_reducible rfl
               rotate_left
               ·simp only [Act.put, List.setIfInBounds_toArray, List.set_cons_zero, List.set_cons_succ, i64_w, i32_w]
                rfl
               exact norm_ (by simp only [putAll, Act.put, List.setIfInBounds_toArray, List.set_cons_zero, List.set_cons_succ]) (hCont (v114, gb117) _ ⟨hHeld, (by (with_reducible repeat (first | apply Kd.R_alloc | apply Kd.R_drewN | apply Kd.R_drew)); exact HO108.out), (by (with_reducible repeat (first | apply Kd.R_alloc | apply Kd.R_drewN | apply Kd.R_drew)); (first | exact HO115.out | exact Kd.R_mono HO115.out (fun _ _ => trivial) | exact Kd.R_mono HO115.out (fun _ hk => hk.2) | exact Kd.R_mono HO115.out (fun _ hk => hk.1) | exact Kd.R_mono HO115.out (fun _ hk => hk.1.2) | exact Kd.R_mono HO115.out (fun _ hk => hk.1.1) | exact Kd.R_mono HO115.out (fun _ hk => hk.1.1.2) | exact Kd.R_mono HO115.out (fun _ hk => hk.1.1.1) | exact Kd.R_mono HO115.out (fun _ hk => hk.1.1.1.2))), (by (with_reducible repeat (first | apply Kd.R_alloc | apply Kd.R_drewN | apply Kd.R_drew)); exact HO_103000.out), (by (with_reducible repeat (first | apply Kd.R_alloc | apply Kd.R_drewN | apply Kd.R_drew)); (first | exact HO_104000.out | exact Kd.R_mono HO_104000.out (fun _ _ => trivial) | exact Kd.R_mono HO_104000.out (fun _ hk => hk.2) | exact Kd.R_mono HO_104000.out (fun _ hk => hk.1) | exact Kd.R_mono HO_104000.out (fun _ hk => hk.1.2) | exact Kd.R_mono HO_104000.out (fun _ hk => hk.1.1) | exact Kd.R_mono HO_104000.out (fun _ hk => hk.1.1.2) | exact Kd.R_mono HO_104000.out (fun _ hk => hk.1.1.1) | exact Kd.R_mono HO_104000.out (fun _ hk => hk.1.1.1.2))), (by (with_reducible repeat (first | refine blk_drewN ?_ _ | refine blk_drew ?_ | refine blk_alloc ?_ _)); exact BK102.out), (by (with_reducible repeat (first | refine blk_drewN ?_ _ | refine blk_drew ?_ | refine blk_alloc ?_ _)); exact BK103.out), (by (with_reducible repeat (first | refine blk_drewN ?_ _ | refine blk_drew ?_ | refine blk_alloc ?_ _)); exact BK110.out), (by (with_reducible repeat (first | refine blk_drewN ?_ _ | refine blk_drew ?_ | refine blk_alloc ?_ _)); exact BK117.out), GW117.out, GE117.out, NB102_117.out, NB117_102.out, NB103_117.out, NB117_103.out, NB110_117.out, NB117_110.out, (by repeat (first | (with_reducible first | exact HB.out | apply below_alloc | apply pw_below_drewN | apply below_drew1 | refine below_set ?_ GE102.out | refine below_set ?_ GE103.out | refine below_set ?_ GE110.out | refine below_set ?_ GE117.out) | exact HB.out))⟩)
             rintro ⟨v114, gb117⟩ w78 ⟨hS_, h0_, h1_, h2_, h3_, h4_, h5_, h6_, h7_, h8_, h9_, h10_, h11_, h12_, h13_, h14_, h15_, h16_⟩
             have n0_ : Aside0 (Kd.R k36 36 w78 w.heap.size (fun k_ => some k_ ≠ (.slice Ao66 x103000_1.length co66 : Value).ownBlock) (.slice Ao71 t106.length co71) t106) := ⟨h0_⟩
             have n1_ : Aside0 (Kd.R k103 103 w78 w.heap.size (fun _ => True) v114 t113) := ⟨h1_⟩
             have n2_ : Aside0 (Kd.R k36 36 w78 w.heap.size (fun k_ => some k_ ≠ (.slice Ao71 t106.length co71 : Value).ownBlock) (.slice Ao66 x103000_1.length co66) x103000_1) := ⟨h2_⟩
             have n3_ : Aside0 (Kd.R k103 103 w78 w.heap.size (fun _ => True) (.slice Ao73 x104000_1.length co73) x104000_1) := ⟨h3_⟩
             have n4_ : Aside0 (w78.heap[gb102]? = some (.cells #[.slice Ao66 x103000_1.length co66] 28 (0, 0))) := ⟨h4_⟩
             have n5_ : Aside0 (w78.heap[gb103]? = some (.cells #[.slice Ao73 x104000_1.length co73] 41 (0, 0))) := ⟨h5_⟩
             have n6_ : Aside0 (w78.heap[gb110]? = some (.cells #[.slice Ao71 t106.length co71] 28 (0, 0))) := ⟨h6_⟩
             have n7_ : Aside0 (w78.heap[gb117]? = some (.cells #[.slice none 0 0] 41 (0, 0))) := ⟨h7_⟩
             have n8_ : Aside0 (w.heap.size ≤ gb117) := ⟨h8_⟩
             have n9_ : Aside0 (w.heap.size ≤ gb117) := ⟨h9_⟩
             have n10_ : Aside0 (gb102 ≠ gb117) := ⟨h10_⟩
             have n11_ : Aside0 (gb117 ≠ gb102) := ⟨h11_⟩
             have n12_ : Aside0 (gb103 ≠ gb117) := ⟨h12_⟩
             have n13_ : Aside0 (gb117 ≠ gb103) := ⟨h13_⟩
             have n14_ : Aside0 (gb110 ≠ gb117) := ⟨h14_⟩
             have n15_ : Aside0 (gb117 ≠ gb110) := ⟨h15_⟩
             have n16_ : Aside0 (Below w.heap.size w w78) := ⟨h16_⟩
             clear HO_103000
             clear HO_104000
             clear HO108
             clear BK102
             clear BK103
             clear BK110
             clear HB
             clear h0_ h1_ h2_ h3_ h4_ h5_ h6_ h7_ h8_ h9_ h10_ h11_ h12_ h13_ h14_ h15_ h16_
             have HO108 := n0_
             have HO115 := n1_
             have HO_103000 := n2_
             have HO_104000 := n3_
             have BK102 := n4_
             have BK103 := n5_
             have BK110 := n6_
             have BK117 := n7_
             have GW117 := n8_
             have GE117 := n9_
             have NB102_117 := n10_
             have NB117_102 := n11_
             have NB103_117 := n12_
             have NB117_103 := n13_
             have NB110_117 := n14_
             have NB117_110 := n15_
             have HB := n16_
             clear n0_ n1_ n2_ n3_ n4_ n5_ n6_ n7_ n8_ n9_ n10_ n11_ n12_ n13_ n14_ n15_ n16_
             have hHeld : w78.cell? ⟨gb103, 0, none⟩ = some (.slice Ao73 x104000_1.length co73) ∧ w78.cell? (ad104.add ((x5_1).toNat * 2)) = some (.int .i64 ((rd_T43 l0 x5_1).f0)) ∧ w78.cell? ⟨(ad104.add ((x5_1).toNat * 2)).block, (ad104.add ((x5_1).toNat * 2)).off + 1, none⟩ = some (.int .i64 ((rd_T43 l0 x5_1).f1)) ∧ w78.cell? (ad104.add ((x5_1).toNat * 2)) = some (.int .i64 ((rd_T43 l0 x5_1).f0)) ∧ w78.cell? ⟨(ad104.add ((x5_1).toNat * 2)).block, (ad104.add ((x5_1).toNat * 2)).off + 1, none⟩ = some (.int .i64 ((rd_T43 l0 x5_1).f1)) := hS_
             obtain ⟨Ao79, co79, eo79⟩ := Kd.R_slice HO115.out
             (first | subst eo79 | (injection eo79 with f1_ f2_ f3_; have f4_ := f1_.symm; have f5_ := f3_.symm; clear f1_ f2_ f3_; subst f4_; subst f5_))
             refine norm_ (a' := ?_) ?_ ?_
             rotate_left
             ·simp only [putAll, Act.put, List.setIfInBounds_toArray, List.set_cons_zero, List.set_cons_succ]
              rfl
             refine one_ (i := 16) (N := none) #[true, true, true, true, true, true, true, true, true, true, true, true, true, true, true, true, true, false] rfl rfl (one_of HT_.out (by kernel_rfl)) (by decide) (fun K hK => ?_)
             have hs80 : w78.cell? ⟨gb117, 0, none⟩ = some (.slice none 0 0) := (blk_cell BK117.out 0).trans rfl
             have hfs80 := blk_frozen BK117.out 0
             have hns80_0 := NB102_117.out
             have hns80_1 := NB103_117.out
             have hns80_2 := NB110_117.out
             have hms80_0 := NB117_102.out
             have hms80_1 := NB117_103.out
             have hms80_2 := NB117_110.out
             refine skip_ (w1 := ?_) (by rfl) rfl ?_ ?_
             rotate_left
             ·go_simp
              rfl
             refine hK.out _ _ ⟨((cell_far (p := ⟨gb117, _, none⟩) NB103_117.out _).trans (hHeld.1)), ((cell_far (p := ⟨gb117, _, none⟩) (by first | exact Nat.ne_of_lt (Nat.lt_of_lt_of_le (by have := World.block_lt_of_cell? _ _ hw111_0; first | rwa [add_block] at this | exact this) GW117.out) | (rw [add_block]; exact Nat.ne_of_lt (Nat.lt_of_lt_of_le (by have := World.block_lt_of_cell? _ _ hw111_0; first | rwa [add_block] at this | exact this) GW117.out)) | (show (Addr.add _ _).block ≠ _; rw [add_block]; exact Nat.ne_of_lt (Nat.lt_of_lt_of_le (by have := World.block_lt_of_cell? _ _ hw111_0; first | rwa [add_block] at this | exact this) GW117.out)) | (dsimp only; exact Nat.ne_of_lt (Nat.lt_of_lt_of_le (by have := World.block_lt_of_cell? _ _ hw111_0; first | rwa [add_block] at this | exact this) GW117.out))) _).trans (hHeld.2.1)), ((cell_far (p := ⟨gb117, _, none⟩) (by first | exact Nat.ne_of_lt (Nat.lt_of_lt_of_le (by have := World.block_lt_of_cell? _ _ hw111_1; first | rwa [add_block] at this | exact this) GW117.out) | (rw [add_block]; exact Nat.ne_of_lt (Nat.lt_of_lt_of_le (by have := World.block_lt_of_cell? _ _ hw111_1; first | rwa [add_block] at this | exact this) GW117.out)) | (show (Addr.add _ _).block ≠ _; rw [add_block]; exact Nat.ne_of_lt (Nat.lt_of_lt_of_le (by have := World.block_lt_of_cell? _ _ hw111_1; first | rwa [add_block] at this | exact this) GW117.out)) | (dsimp only; exact Nat.ne_of_lt (Nat.lt_of_lt_of_le (by have := World.block_lt_of_cell? _ _ hw111_1; first | rwa [add_block] at this | exact this) GW117.out))) _).trans (hHeld.2.2.1)), ((cell_far (p := ⟨gb117, _, none⟩) (by first | exact Nat.ne_of_lt (Nat.lt_of_lt_of_le (by have := World.block_lt_of_cell? _ _ hw112_0; first | rwa [add_block] at this | exact this) GW117.out) | (rw [add_block]; exact Nat.ne_of_lt (Nat.lt_of_lt_of_le (by have := World.block_lt_of_cell? _ _ hw112_0; first | rwa [add_block] at this | exact this) GW117.out)) | (show (Addr.add _ _).block ≠ _; rw [add_block]; exact Nat.ne_of_lt (Nat.lt_of_lt_of_le (by have := World.block_lt_of_cell? _ _ hw112_0; first | rwa [add_block] at this | exact this) GW117.out)) | (dsimp only; exact Nat.ne_of_lt (Nat.lt_of_lt_of_le (by have := World.block_lt_of_cell? _ _ hw112_0; first | rwa [add_block] at this | exact this) GW117.out))) _).trans (hHeld.2.2.2.1)), ((cell_far (p := ⟨gb117, _, none⟩) (by first | exact Nat.ne_of_lt (Nat.lt_of_lt_of_le (by have := World.block_lt_of_cell? _ _ hw112_1; first | rwa [add_block] at this | exact this) GW117.out) | (rw [add_block]; exact Nat.ne_of_lt (Nat.lt_of_lt_of_le (by have := World.block_lt_of_cell? _ _ hw112_1; first | rwa [add_block] at this | exact this) GW117.out)) | (show (Addr.add _ _).block ≠ _; rw [add_block]; exact Nat.ne_of_lt (Nat.lt_of_lt_of_le (by have := World.block_lt_of_cell? _ _ hw112_1; first | rwa [add_block] at this | exact this) GW117.out)) | (dsimp only; exact Nat.ne_of_lt (Nat.lt_of_lt_of_le (by have := World.block_lt_of_cell? _ _ hw112_1; first | rwa [add_block] at this | exact this) GW117.out))) _).trans (hHeld.2.2.2.2))⟩ (fun hHeld => ?_)
             clear hK K
             refine pure_ (i := 17) (N := some 9) (v := ?_) (a' := ?_) #[true, true, true, true, true, true, true, true, true, true, true, true, true, true, true, true, true, true] rfl rfl (any_of HT_.out (by kernel_rfl)) (fun _ _ _ h => h) (Or.inl ⟨by rfl, ?_⟩) ?_ ?_
             rotate_left
             ·intro w'
              go_simp
              with_reducible rfl
             rotate_left
             ·simp only [Act.put, List.setIfInBounds_toArray, List.set_cons_zero, List.set_cons_succ, i64_w, i32_w]
              rfl
             refine done_ (done_of HT_.out (by kernel_rfl)) ?_
             try go_wp2
             have n0_ : Aside0 (Kd.R k36 36 (w78.setCell ⟨gb117, 0, none⟩ (.slice Ao79 t113.length co79)) w.heap.size (fun k_ => some k_ ≠ (.slice Ao71 t106.length co71 : Value).ownBlock) (.slice Ao66 x103000_1.length co66) x103000_1) := ⟨by (with_reducible repeat (first | apply Kd.R_alloc | apply Kd.R_drewN | apply Kd.R_drew)); exact Kd.R_mono (Kd.R_far (p := ⟨gb117, 0, none⟩) (Kd.R_types HO_103000.out BK117.out (by decide)) (fun _ hk => hk.2) (.slice Ao79 t113.length co79)) (fun _ hk => hk.1)⟩
             have n1_ : Aside0 (Kd.R k103 103 (w78.setCell ⟨gb117, 0, none⟩ (.slice Ao79 t113.length co79)) w.heap.size (fun _ => True) (.slice Ao73 x104000_1.length co73) x104000_1) := ⟨by (with_reducible repeat (first | apply Kd.R_alloc | apply Kd.R_drewN | apply Kd.R_drew)); exact Kd.R_mono (Kd.R_far (p := ⟨gb117, 0, none⟩) (Kd.R_types HO_104000.out BK117.out (by decide)) (fun _ hk => hk.2) (.slice Ao79 t113.length co79)) (fun _ hk => hk.1)⟩
             have n2_ : Aside0 (Kd.R k36 36 (w78.setCell ⟨gb117, 0, none⟩ (.slice Ao79 t113.length co79)) w.heap.size (fun k_ => some k_ ≠ (.slice Ao66 x103000_1.length co66 : Value).ownBlock) (.slice Ao71 t106.length co71) t106) := ⟨by (with_reducible repeat (first | apply Kd.R_alloc | apply Kd.R_drewN | apply Kd.R_drew)); exact Kd.R_mono (Kd.R_far (p := ⟨gb117, 0, none⟩) (Kd.R_types HO108.out BK117.out (by decide)) (fun _ hk => hk.2) (.slice Ao79 t113.length co79)) (fun _ hk => hk.1)⟩
             have n3_ : Aside0 (Kd.R k103 103 (w78.setCell ⟨gb117, 0, none⟩ (.slice Ao79 t113.length co79)) w.heap.size (fun _ => True) (.slice Ao79 t113.length co79) t113) := ⟨by (with_reducible repeat (first | apply Kd.R_alloc | apply Kd.R_drewN | apply Kd.R_drew)); exact Kd.R_mono (Kd.R_far (p := ⟨gb117, 0, none⟩) (Kd.R_types HO115.out BK117.out (by decide)) (fun _ hk => hk.2) (.slice Ao79 t113.length co79)) (fun _ hk => hk.1)⟩
             have n4_ : Aside0 ((w78.setCell ⟨gb117, 0, none⟩ (.slice Ao79 t113.length co79)).heap[gb102]? = some (.cells #[.slice Ao66 x103000_1.length co66] 28 (0, 0))) := ⟨by (with_reducible repeat (first | refine blk_drewN ?_ _ | refine blk_drew ?_ | refine blk_alloc ?_ _)); refine blk_far ?_ NB102_117.out _; (with_reducible repeat (first | refine blk_drewN ?_ _ | refine blk_drew ?_ | refine blk_alloc ?_ _)); exact BK102.out⟩
             have n5_ : Aside0 ((w78.setCell ⟨gb117, 0, none⟩ (.slice Ao79 t113.length co79)).heap[gb103]? = some (.cells #[.slice Ao73 x104000_1.length co73] 41 (0, 0))) := ⟨by (with_reducible repeat (first | refine blk_drewN ?_ _ | refine blk_drew ?_ | refine blk_alloc ?_ _)); refine blk_far ?_ NB103_117.out _; (with_reducible repeat (first | refine blk_drewN ?_ _ | refine blk_drew ?_ | refine blk_alloc ?_ _)); exact BK103.out⟩
             have n6_ : Aside0 ((w78.setCell ⟨gb117, 0, none⟩ (.slice Ao79 t113.length co79)).heap[gb110]? = some (.cells #[.slice Ao71 t106.length co71] 28 (0, 0))) := ⟨by (with_reducible repeat (first | refine blk_drewN ?_ _ | refine blk_drew ?_ | refine blk_alloc ?_ _)); refine blk_far ?_ NB110_117.out _; (with_reducible repeat (first | refine blk_drewN ?_ _ | refine blk_drew ?_ | refine blk_alloc ?_ _)); exact BK110.out⟩
             have n7_ : Aside0 ((w78.setCell ⟨gb117, 0, none⟩ (.slice Ao79 t113.length co79)).heap[gb117]? = some (.cells #[.slice Ao79 t113.length co79] 41 (0, 0))) := ⟨by (with_reducible repeat (first | refine blk_drewN ?_ _ | refine blk_drew ?_ | refine blk_alloc ?_ _)); refine blk_put (cs := #[.slice none 0 0]) ?_ 0 _ rfl; (with_reducible repeat (first | refine blk_drewN ?_ _ | refine blk_drew ?_ | refine blk_alloc ?_ _)); exact BK117.out⟩
             have n8_ : Aside0 (Below w.heap.size w (w78.setCell ⟨gb117, 0, none⟩ (.slice Ao79 t113.length co79))) := ⟨by repeat (first | (with_reducible first | exact HB.out | apply below_alloc | apply pw_below_drewN | apply below_drew1 | refine below_set ?_ GE102.out | refine below_set ?_ GE103.out | refine below_set ?_ GE110.out | refine below_set ?_ GE117.out) | exact HB.out)⟩
             (try clear HO_103000)
             (try clear HO_104000)
             (try clear HO108)
             (try clear HO115)
             (try clear BK102)
             (try clear BK103)
             (try clear BK110)
             (try clear BK117)
             (try clear HB)
             generalize (w78.setCell ⟨gb117, 0, none⟩ (.slice Ao79 t113.length co79)) = w81 at n0_ n1_ n2_ n3_ n4_ n5_ n6_ n7_ n8_ ⊢
             have HO_103000 := n0_
             have HO_104000 := n1_
             have HO108 := n2_
             have HO115 := n3_
             have BK102 := n4_
             have BK103 := n5_
             have BK110 := n6_
             have BK117 := n7_
             have HB := n8_
             clear n0_ n1_ n2_ n3_ n4_ n5_ n6_ n7_ n8_
             have n0_ := Aside0.mk (Kd.R_drew HO_103000.out)
             have n1_ := Aside0.mk (Kd.R_drew HO_104000.out)
             have n2_ := Aside0.mk (Kd.R_drew HO108.out)
             have n3_ := Aside0.mk (Kd.R_drew HO115.out)
             have n4_ := Aside0.mk (blk_drew BK102.out)
             have n5_ := Aside0.mk (blk_drew BK103.out)
             have n6_ := Aside0.mk (blk_drew BK110.out)
             have n7_ := Aside0.mk (blk_drew BK117.out)
             have n8_ := Aside0.mk (below_drew1 HB.out)
             clear HO_103000
             clear HO_104000
             clear HO108
             clear HO115
             clear BK102
             clear BK103
             clear BK110
             clear BK117
             clear HB
             have HO_103000 := n0_
             have HO_104000 := n1_
             have HO108 := n2_
             have HO115 := n3_
             have BK102 := n4_
             have BK103 := n5_
             have BK110 := n6_
             have BK117 := n7_
             have HB := n8_
             clear n0_ n1_ n2_ n3_ n4_ n5_ n6_ n7_ n8_
             refine start_ (n := 25) (S := fun w' => w'.cell? ⟨gb110, 0, none⟩ = some (.slice Ao71 t106.length co71) ∧ w'.cell? ⟨gb117, 0, none⟩ = some (.slice Ao79 t113.length co79) ∧ w'.cell? ⟨gb102, 0, none⟩ = some (.slice Ao66 x103000_1.length co66) ∧ w'.cell? ⟨gb103, 0, none⟩ = some (.slice Ao73 x104000_1.length co73)) (ds := []) #[false, false, false, false, false, false, false, false, false, false, false, false, false, false, false, false, false, false, false, false, false, false, false, false, false] (by kernel_rfl) rfl rfl ⟨(blk_cell BK110.out 0).trans rfl, (blk_cell BK117.out 0).trans rfl, (blk_cell BK102.out 0).trans rfl, (blk_cell BK103.out 0).trans rfl⟩ (fun hHeld => ?_); refine with_tabW substationlaw16_TwinAccepts.tab9 substationlaw16_TwinAccepts.bits9 (fun HT_ HW_ => ?_)
             generalize w81.drew = w82 at HO_103000 HO_104000 HO108 HO115 BK102 BK103 BK110 BK117 HB hHeld ⊢
             refine pure_ (i := 0) (N := some 54) (v := ?_) (a' := ?_) #[true, false, false, false, false, false, false, false, false, false, false, false, false, false, false, false, false, false, false, false, false, false, false, false, false] rfl rfl (any_of HT_.out (by kernel_rfl)) (fun _ _ _ h => h) (Or.inl ⟨by rfl, ?_⟩) ?_ ?_
             rotate_left
             ·intro w'
              go_simp
              with_reducible rfl
             rotate_left
             ·simp only [Act.put, List.setIfInBounds_toArray, List.set_cons_zero, List.set_cons_succ, i64_w, i32_w]
              rfl
             refine pure_ (i := 1) (N := some 55) (v := ?_) (a' := ?_) #[true, true, false, false, false, false, false, false, false, false, false, false, false, false, false, false, false, false, false, false, false, false, false, false, false] rfl rfl (any_of HT_.out (by kernel_rfl)) (fun _ _ _ h => h) (Or.inl ⟨by rfl, ?_⟩) ?_ ?_
             rotate_left
             ·intro w'
              go_simp
              with_reducible rfl
             rotate_left
             ·simp only [Act.put, List.setIfInBounds_toArray, List.set_cons_zero, List.set_cons_succ, i64_w, i32_w]
              rfl
             refine pure_ (i := 2) (N := some 56) (v := ?_) (a' := ?_) #[true, true, true, false, false, false, false, false, false, false, false, false, false, false, false, false, false, false, false, false, false, false, false, false, false] rfl rfl (any_of HT_.out (by kernel_rfl)) (fun _ _ _ h => h) (Or.inl ⟨by rfl, ?_⟩) ?_ ?_
             rotate_left
             ·intro w'
              go_simp
              with_reducible rfl
             rotate_left
             ·simp only [Act.put, List.setIfInBounds_toArray, List.set_cons_zero, List.set_cons_succ, i64_w, i32_w]
              rfl
             refine pure_ (i := 3) (N := some 57) (v := ?_) (a' := ?_) #[true, true, true, true, false, false, false, false, false, false, false, false, false, false, false, false, false, false, false, false, false, false, false, false, false] rfl rfl (any_of HT_.out (by kernel_rfl)) (fun _ _ _ h => h) (Or.inl ⟨by rfl, ?_⟩) ?_ ?_
             rotate_left
             ·intro w'
              go_simp
              with_reducible rfl
             rotate_left
             ·simp only [Act.put, List.setIfInBounds_toArray, List.set_cons_zero, List.set_cons_succ, i64_w, i32_w]
              rfl
             refine take_ (i := 4) (N := some 58) (v := ?_) (a' := ?_) #[true, true, true, true, true, false, false, false, false, false, false, false, false, false, false, false, false, false, false, false, false, false, false, false, false] rfl rfl (take_ofW HT_.out HW_.out (by kernel_rfl)) (fun _ _ _ h => h) (Or.inl ⟨by rfl, ?_⟩) hHeld ?_ ?_
             rotate_left
             ·rintro w' ⟨s0, s1, s2, s3⟩
              go_simp
              with_reducible rfl
             rotate_left
             ·simp only [Act.put, List.setIfInBounds_toArray, List.set_cons_zero, List.set_cons_succ, i64_w, i32_w]
              rfl
             refine take_ (i := 6) (N := some 60) (v := ?_) (a' := ?_) #[true, true, true, true, true, false, true, false, false, false, false, false, false, false, false, false, false, false, false, false, false, false, false, false, false] rfl rfl (take_ofW HT_.out HW_.out (by kernel_rfl)) (fun _ _ _ h => h) (Or.inl ⟨by rfl, ?_⟩) hHeld ?_ ?_
             rotate_left
             ·rintro w' ⟨s0, s1, s2, s3⟩
              go_simp
              with_reducible rfl
             rotate_left
             ·simp only [Act.put, List.setIfInBounds_toArray, List.set_cons_zero, List.set_cons_succ, i64_w, i32_w]
              rfl
             refine one_ (i := 5) (N := some 59) #[true, true, true, true, true, true, true, false, false, false, false, false, false, false, false, false, false, false, false, false, false, false, false, false, false] rfl rfl (one_of HT_.out (by kernel_rfl)) (by decide) (fun K hK => ?_)
             refine goes_ Try.func20 (by kernel_rfl) rfl #[.agg #[.slice Ao71 t106.length co71]] (by rfl) rfl rfl (by (try simp only [List.map_toArray, List.map_cons, List.map_nil]); first | done | rfl | (simp only [List.length_drop, List.length_take]; rfl)) ?_
             with_reducible refine (substationlaw16_To.calls kj9 _ _ t106 t118 _ ?side1 ?side2 A35.out).mono ?_
             (case side1 => repeat (first | exact (Kd.R_reads' HO108.out).2.2 | (with_reducible refine Kd.C_alloc ?_ _) | (with_reducible refine Kd.C_drewN ?_ _) | (with_reducible refine Kd.C_drew ?_)))
             (case side2 => exact (Kd.R_reads' HO108.out).2.1)
             rintro e w83 ⟨v119, rfl, ho0, hb⟩
             refine ⟨_, rfl, ?_⟩
             have n0_ := Aside0.mk (Kd.R_below (by (with_reducible repeat (first | apply Kd.R_alloc | apply Kd.R_drewN | apply Kd.R_drew)); exact HO_103000.out) hb)
             have n1_ := Aside0.mk (Kd.R_elder' (by (with_reducible repeat (first | apply Kd.R_alloc | apply Kd.R_drewN | apply Kd.R_drew)); exact HO_104000.out) (Kd.R_base ho0) hb)
             have n2_ := Aside0.mk (Kd.R_below (by (with_reducible repeat (first | apply Kd.R_alloc | apply Kd.R_drewN | apply Kd.R_drew)); exact HO108.out) hb)
             have n3_ := Aside0.mk (Kd.R_elder' (by (with_reducible repeat (first | apply Kd.R_alloc | apply Kd.R_drewN | apply Kd.R_drew)); exact HO115.out) (Kd.R_base ho0) hb)
             have n4_ := Aside0.mk (Kd.R_lower (Kd.R_new' (Kd.R_new' ho0 (Kd.R_lt (by (with_reducible repeat (first | apply Kd.R_alloc | apply Kd.R_drewN | apply Kd.R_drew)); exact HO_104000.out))) (Kd.R_lt (by (with_reducible repeat (first | apply Kd.R_alloc | apply Kd.R_drewN | apply Kd.R_drew)); exact HO115.out))) (below_size (by repeat (first | (with_reducible first | exact HB.out | apply below_alloc | apply pw_below_drewN | apply below_drew1 | refine below_set ?_ GE102.out | refine below_set ?_ GE103.out | refine below_set ?_ GE110.out | refine below_set ?_ GE117.out) | exact HB.out))))
             have n5_ := Aside0.mk (blk_below (g := gb102) (o := .cells #[.slice Ao66 x103000_1.length co66] 28 (0, 0)) (by (with_reducible repeat (first | refine blk_drewN ?_ _ | refine blk_drew ?_ | refine blk_alloc ?_ _)); exact BK102.out) hb)
             have n6_ := Aside0.mk (blk_below (g := gb103) (o := .cells #[.slice Ao73 x104000_1.length co73] 41 (0, 0)) (by (with_reducible repeat (first | refine blk_drewN ?_ _ | refine blk_drew ?_ | refine blk_alloc ?_ _)); exact BK103.out) hb)
             have n7_ := Aside0.mk (blk_below (g := gb110) (o := .cells #[.slice Ao71 t106.length co71] 28 (0, 0)) (by (with_reducible repeat (first | refine blk_drewN ?_ _ | refine blk_drew ?_ | refine blk_alloc ?_ _)); exact BK110.out) hb)
             have n8_ := Aside0.mk (blk_below (g := gb117) (o := .cells #[.slice Ao79 t113.length co79] 41 (0, 0)) (by (with_reducible repeat (first | refine blk_drewN ?_ _ | refine blk_drew ?_ | refine blk_alloc ?_ _)); exact BK117.out) hb)
             have n9_ := Aside0.mk (below_step (by repeat (first | (with_reducible first | exact HB.out | apply below_alloc | apply pw_below_drewN | apply below_drew1 | refine below_set ?_ GE102.out | refine below_set ?_ GE103.out | refine below_set ?_ GE110.out | refine below_set ?_ GE117.out) | exact HB.out)) hb)
             clear HO_103000
             clear HO_104000
             clear HO108
             clear HO115
             clear BK102
             clear BK103
             clear BK110
             clear BK117
             clear HB
             have HO_103000 := n0_
             have HO_104000 := n1_
             have HO108 := n2_
             have HO115 := n3_
             have HO120 := n4_
             have BK102 := n5_
             have BK103 := n6_
             have BK110 := n7_
             have BK117 := n8_
             have HB := n9_
             clear n0_ n1_ n2_ n3_ n4_ n5_ n6_ n7_ n8_ n9_
             (try clear hb)
             (try clear hb2)
             (try clear hk)
             (try clear hi)
             (try clear ho0)
             obtain ⟨Ao84, co84, eo84⟩ := Kd.R_slice HO120.out
             (first | subst eo84 | (injection eo84 with f1_ f2_ f3_; have f4_ := f1_.symm; have f5_ := f3_.symm; clear f1_ f2_ f3_; subst f4_; subst f5_))
             refine hK.out _ _ ⟨(blk_cell BK110.out 0).trans rfl, (blk_cell BK117.out 0).trans rfl, (blk_cell BK102.out 0).trans rfl, (blk_cell BK103.out 0).trans rfl⟩ (fun hHeld => ?_)
             clear hK K
             refine norm_ (a' := ?_) ?_ ?_
             rotate_left
             ·show Act.put _ (some 59) _ = _
              simp only [Act.put, List.setIfInBounds_toArray, List.set_cons_zero, List.set_cons_succ, i64_w, i32_w]
              rfl
             refine one_ (i := 7) (N := some 61) #[true, true, true, true, true, true, true, true, false, false, false, false, false, false, false, false, false, false, false, false, false, false, false, false, false] rfl rfl (one_of HT_.out (by kernel_rfl)) (by decide) (fun K hK => ?_)
             refine goes_ Try.func19 (by kernel_rfl) rfl #[.agg #[.slice Ao84 t118.length co84], .agg #[.slice Ao79 t113.length co79]] (by rfl) rfl rfl (by (try simp only [List.map_toArray, List.map_cons, List.map_nil]); first | done | rfl | (simp only [List.length_drop, List.length_take]; rfl)) ?_
             with_reducible refine (substationref16_Same.calls kj9 _ _ t118 _ _ t113 true _ ?side1 ?side2 ?side3 ?side4 A36.out).mono ?_
             (case side1 => repeat (first | exact (Kd.R_reads' HO120.out).2.2 | (with_reducible refine Kd.C_alloc ?_ _) | (with_reducible refine Kd.C_drewN ?_ _) | (with_reducible refine Kd.C_drew ?_)))
             (case side2 => exact (Kd.R_reads' HO120.out).2.1)
             (case side3 => repeat (first | exact (Kd.R_reads' HO115.out).2.2 | (with_reducible refine Kd.C_alloc ?_ _) | (with_reducible refine Kd.C_drewN ?_ _) | (with_reducible refine Kd.C_drew ?_)))
             (case side4 => exact (Kd.R_reads' HO115.out).2.1)
             rintro e w85 ⟨rfl, hb⟩
             refine ⟨_, rfl, ?_⟩
             have n0_ := Aside0.mk (Kd.R_below (by (with_reducible repeat (first | apply Kd.R_alloc | apply Kd.R_drewN | apply Kd.R_drew)); exact HO_103000.out) hb)
             have n1_ := Aside0.mk (Kd.R_below (by (with_reducible repeat (first | apply Kd.R_alloc | apply Kd.R_drewN | apply Kd.R_drew)); exact HO_104000.out) hb)
             have n2_ := Aside0.mk (Kd.R_below (by (with_reducible repeat (first | apply Kd.R_alloc | apply Kd.R_drewN | apply Kd.R_drew)); exact HO108.out) hb)
             have n3_ := Aside0.mk (Kd.R_below (by (with_reducible repeat (first | apply Kd.R_alloc | apply Kd.R_drewN | apply Kd.R_drew)); exact HO115.out) hb)
             have n4_ := Aside0.mk (Kd.R_below (by (with_reducible repeat (first | apply Kd.R_alloc | apply Kd.R_drewN | apply Kd.R_drew)); exact HO120.out) hb)
             have n5_ := Aside0.mk (blk_below (g := gb102) (o := .cells #[.slice Ao66 x103000_1.length co66] 28 (0, 0)) (by (with_reducible repeat (first | refine blk_drewN ?_ _ | refine blk_drew ?_ | refine blk_alloc ?_ _)); exact BK102.out) hb)
             have n6_ := Aside0.mk (blk_below (g := gb103) (o := .cells #[.slice Ao73 x104000_1.length co73] 41 (0, 0)) (by (with_reducible repeat (first | refine blk_drewN ?_ _ | refine blk_drew ?_ | refine blk_alloc ?_ _)); exact BK103.out) hb)
             have n7_ := Aside0.mk (blk_below (g := gb110) (o := .cells #[.slice Ao71 t106.length co71] 28 (0, 0)) (by (with_reducible repeat (first | refine blk_drewN ?_ _ | refine blk_drew ?_ | refine blk_alloc ?_ _)); exact BK110.out) hb)
             have n8_ := Aside0.mk (blk_below (g := gb117) (o := .cells #[.slice Ao79 t113.length co79] 41 (0, 0)) (by (with_reducible repeat (first | refine blk_drewN ?_ _ | refine blk_drew ?_ | refine blk_alloc ?_ _)); exact BK117.out) hb)
             have n9_ := Aside0.mk (below_step (by repeat (first | (with_reducible first | exact HB.out | apply below_alloc | apply pw_below_drewN | apply below_drew1 | refine below_set ?_ GE102.out | refine below_set ?_ GE103.out | refine below_set ?_ GE110.out | refine below_set ?_ GE117.out) | exact HB.out)) hb)
             clear HO_103000
             clear HO_104000
             clear HO108
             clear HO115
             clear HO120
             clear BK102
             clear BK103
             clear BK110
             clear BK117
             clear HB
             have HO_103000 := n0_
             have HO_104000 := n1_
             have HO108 := n2_
             have HO115 := n3_
             have HO120 := n4_
             have BK102 := n5_
             have BK103 := n6_
             have BK110 := n7_
             have BK117 := n8_
             have HB := n9_
             clear n0_ n1_ n2_ n3_ n4_ n5_ n6_ n7_ n8_ n9_
             (try clear hb)
             (try clear hb2)
             (try clear hk)
             (try clear hi)
             refine hK.out _ _ ⟨(blk_cell BK110.out 0).trans rfl, (blk_cell BK117.out 0).trans rfl, (blk_cell BK102.out 0).trans rfl, (blk_cell BK103.out 0).trans rfl⟩ (fun hHeld => ?_)
             clear hK K
             refine norm_ (a' := ?_) ?_ ?_
             rotate_left
             ·show Act.put _ (some 61) _ = _
              simp only [Act.put, List.setIfInBounds_toArray, List.set_cons_zero, List.set_cons_succ, i64_w, i32_w]
              rfl
             refine pure_ (i := 8) (N := some 62) (v := ?_) (a' := ?_) #[true, true, true, true, true, true, true, true, true, false, false, false, false, false, false, false, false, false, false, false, false, false, false, false, false] rfl rfl (any_of HT_.out (by kernel_rfl)) (fun _ _ _ h => h) (Or.inl ⟨by rfl, ?_⟩) ?_ ?_
             rotate_left
             ·intro w'
              go_simp
              with_reducible rfl
             rotate_left
             ·simp only [Act.put, List.setIfInBounds_toArray, List.set_cons_zero, List.set_cons_succ, i64_w, i32_w]
              rfl
             refine pure_ (i := 9) (N := some 63) (v := ?_) (a' := ?_) #[true, true, true, true, true, true, true, true, true, true, false, false, false, false, false, false, false, false, false, false, false, false, false, false, false] rfl rfl (any_of HT_.out (by kernel_rfl)) (fun _ _ _ h => h) (Or.inl ⟨by rfl, ?_⟩) ?_ ?_
             rotate_left
             ·intro w'
              go_simp
              with_reducible rfl
             rotate_left
             ·simp only [Act.put, List.setIfInBounds_toArray, List.set_cons_zero, List.set_cons_succ, i64_w, i32_w]
              rfl
             refine pure_ (i := 10) (N := some 64) (v := ?_) (a' := ?_) #[true, true, true, true, true, true, true, true, true, true, true, false, false, false, false, false, false, false, false, false, false, false, false, false, false] rfl rfl (any_of HT_.out (by kernel_rfl)) (fun _ _ _ h => h) (Or.inl ⟨by rfl, ?_⟩) ?_ ?_
             rotate_left
             ·intro w'
              go_simp
              with_reducible rfl
             rotate_left
             ·simp only [Act.put, List.setIfInBounds_toArray, List.set_cons_zero, List.set_cons_succ, i64_w, i32_w]
              rfl
             refine take_ (i := 11) (N := some 65) (v := ?_) (a' := ?_) #[true, true, true, true, true, true, true, true, true, true, true, true, false, false, false, false, false, false, false, false, false, false, false, false, false] rfl rfl (take_ofW HT_.out HW_.out (by kernel_rfl)) (fun _ _ _ h => h) (Or.inl ⟨by rfl, ?_⟩) hHeld ?_ ?_
             rotate_left
             ·rintro w' ⟨s0, s1, s2, s3⟩
              go_simp
              with_reducible rfl
             rotate_left
             ·simp only [Act.put, List.setIfInBounds_toArray, List.set_cons_zero, List.set_cons_succ, i64_w, i32_w]
              rfl
             refine take_ (i := 12) (N := some 66) (v := ?_) (a' := ?_) #[true, true, true, true, true, true, true, true, true, true, true, true, true, false, false, false, false, false, false, false, false, false, false, false, false] rfl rfl (take_ofW HT_.out HW_.out (by kernel_rfl)) (fun _ _ _ h => h) (Or.inl ⟨by rfl, ?_⟩) hHeld ?_ ?_
             rotate_left
             ·rintro w' ⟨s0, s1, s2, s3⟩
              go_simp
              with_reducible rfl
             rotate_left
             ·simp only [Act.put, List.setIfInBounds_toArray, List.set_cons_zero, List.set_cons_succ, i64_w, i32_w]
              rfl
             refine one_ (i := 13) (N := some 67) #[true, true, true, true, true, true, true, true, true, true, true, true, true, true, false, false, false, false, false, false, false, false, false, false, false] rfl rfl (one_of HT_.out (by kernel_rfl)) (by decide) (fun K hK => ?_)
             refine goes_ Try.func21 (by kernel_rfl) rfl #[.agg #[.slice Ao71 t106.length co71], .agg #[.slice Ao71 t106.length co71]] (by rfl) rfl rfl (by (try simp only [List.map_toArray, List.map_cons, List.map_nil]); first | done | rfl | (simp only [List.length_drop, List.length_take]; rfl)) ?_
             with_reducible refine (twin_Same.calls kj9 _ _ t106 _ _ t106 true _ ?side1 ?side2 ?side3 ?side4 A38.out).mono ?_
             (case side1 => repeat (first | exact (Kd.R_reads' HO108.out).2.2 | (with_reducible refine Kd.C_alloc ?_ _) | (with_reducible refine Kd.C_drewN ?_ _) | (with_reducible refine Kd.C_drew ?_)))
             (case side2 => exact (Kd.R_reads' HO108.out).2.1)
             (case side3 => repeat (first | exact (Kd.R_reads' HO108.out).2.2 | (with_reducible refine Kd.C_alloc ?_ _) | (with_reducible refine Kd.C_drewN ?_ _) | (with_reducible refine Kd.C_drew ?_)))
             (case side4 => exact (Kd.R_reads' HO108.out).2.1)
             rintro e w86 ⟨rfl, hb⟩
             refine ⟨_, rfl, ?_⟩
             have n0_ := Aside0.mk (Kd.R_below (by (with_reducible repeat (first | apply Kd.R_alloc | apply Kd.R_drewN | apply Kd.R_drew)); exact HO_103000.out) hb)
             have n1_ := Aside0.mk (Kd.R_below (by (with_reducible repeat (first | apply Kd.R_alloc | apply Kd.R_drewN | apply Kd.R_drew)); exact HO_104000.out) hb)
             have n2_ := Aside0.mk (Kd.R_below (by (with_reducible repeat (first | apply Kd.R_alloc | apply Kd.R_drewN | apply Kd.R_drew)); exact HO108.out) hb)
             have n3_ := Aside0.mk (Kd.R_below (by (with_reducible repeat (first | apply Kd.R_alloc | apply Kd.R_drewN | apply Kd.R_drew)); exact HO115.out) hb)
             have n4_ := Aside0.mk (Kd.R_below (by (with_reducible repeat (first | apply Kd.R_alloc | apply Kd.R_drewN | apply Kd.R_drew)); exact HO120.out) hb)
             have n5_ := Aside0.mk (blk_below (g := gb102) (o := .cells #[.slice Ao66 x103000_1.length co66] 28 (0, 0)) (by (with_reducible repeat (first | refine blk_drewN ?_ _ | refine blk_drew ?_ | refine blk_alloc ?_ _)); exact BK102.out) hb)
             have n6_ := Aside0.mk (blk_below (g := gb103) (o := .cells #[.slice Ao73 x104000_1.length co73] 41 (0, 0)) (by (with_reducible repeat (first | refine blk_drewN ?_ _ | refine blk_drew ?_ | refine blk_alloc ?_ _)); exact BK103.out) hb)
             have n7_ := Aside0.mk (blk_below (g := gb110) (o := .cells #[.slice Ao71 t106.length co71] 28 (0, 0)) (by (with_reducible repeat (first | refine blk_drewN ?_ _ | refine blk_drew ?_ | refine blk_alloc ?_ _)); exact BK110.out) hb)
             have n8_ := Aside0.mk (blk_below (g := gb117) (o := .cells #[.slice Ao79 t113.length co79] 41 (0, 0)) (by (with_reducible repeat (first | refine blk_drewN ?_ _ | refine blk_drew ?_ | refine blk_alloc ?_ _)); exact BK117.out) hb)
             have n9_ := Aside0.mk (below_step (by repeat (first | (with_reducible first | exact HB.out | apply below_alloc | apply pw_below_drewN | apply below_drew1 | refine below_set ?_ GE102.out | refine below_set ?_ GE103.out | refine below_set ?_ GE110.out | refine below_set ?_ GE117.out) | exact HB.out)) hb)
             clear HO_103000
             clear HO_104000
             clear HO108
             clear HO115
             clear HO120
             clear BK102
             clear BK103
             clear BK110
             clear BK117
             clear HB
             have HO_103000 := n0_
             have HO_104000 := n1_
             have HO108 := n2_
             have HO115 := n3_
             have HO120 := n4_
             have BK102 := n5_
             have BK103 := n6_
             have BK110 := n7_
             have BK117 := n8_
             have HB := n9_
             clear n0_ n1_ n2_ n3_ n4_ n5_ n6_ n7_ n8_ n9_
             (try clear hb)
             (try clear hb2)
             (try clear hk)
             (try clear hi)
             refine hK.out _ _ ⟨(blk_cell BK110.out 0).trans rfl, (blk_cell BK117.out 0).trans rfl, (blk_cell BK102.out 0).trans rfl, (blk_cell BK103.out 0).trans rfl⟩ (fun hHeld => ?_)
             clear hK K
             refine norm_ (a' := ?_) ?_ ?_
             rotate_left
             ·show Act.put _ (some 67) _ = _
              simp only [Act.put, List.setIfInBounds_toArray, List.set_cons_zero, List.set_cons_succ, i64_w, i32_w]
              rfl
             refine pure_ (i := 14) (N := some 68) (v := ?_) (a' := ?_) #[true, true, true, true, true, true, true, true, true, true, true, true, true, true, true, false, false, false, false, false, false, false, false, false, false] rfl rfl (any_of HT_.out (by kernel_rfl)) (fun _ _ _ h => h) (Or.inl ⟨by rfl, ?_⟩) ?_ ?_
             rotate_left
             ·intro w'
              go_simp
              with_reducible rfl
             rotate_left
             ·simp only [Act.put, List.setIfInBounds_toArray, List.set_cons_zero, List.set_cons_succ, i64_w, i32_w]
              rfl
             refine pure_ (i := 15) (N := some 69) (v := ?_) (a' := ?_) #[true, true, true, true, true, true, true, true, true, true, true, true, true, true, true, true, false, false, false, false, false, false, false, false, false] rfl rfl (any_of HT_.out (by kernel_rfl)) (fun _ _ _ h => h) (Or.inl ⟨by rfl, ?_⟩) ?_ ?_
             rotate_left
             ·intro w'
              go_simp
              with_reducible rfl
             rotate_left
             ·simp only [Act.put, List.setIfInBounds_toArray, List.set_cons_zero, List.set_cons_succ, i64_w, i32_w]
              rfl
             refine pure_ (i := 16) (N := some 70) (v := ?_) (a' := ?_) #[true, true, true, true, true, true, true, true, true, true, true, true, true, true, true, true, true, false, false, false, false, false, false, false, false] rfl rfl (any_of HT_.out (by kernel_rfl)) (fun _ _ _ h => h) (Or.inl ⟨by rfl, ?_⟩) ?_ ?_
             rotate_left
             ·intro w'
              go_simp
              with_reducible rfl
             rotate_left
             ·simp only [Act.put, List.setIfInBounds_toArray, List.set_cons_zero, List.set_cons_succ, i64_w, i32_w]
              rfl
             refine take_ (i := 17) (N := some 71) (v := ?_) (a' := ?_) #[true, true, true, true, true, true, true, true, true, true, true, true, true, true, true, true, true, true, false, false, false, false, false, false, false] rfl rfl (take_ofW HT_.out HW_.out (by kernel_rfl)) (fun _ _ _ h => h) (Or.inl ⟨by rfl, ?_⟩) hHeld ?_ ?_
             rotate_left
             ·rintro w' ⟨s0, s1, s2, s3⟩
              go_simp
              with_reducible rfl
             rotate_left
             ·simp only [Act.put, List.setIfInBounds_toArray, List.set_cons_zero, List.set_cons_succ, i64_w, i32_w]
              rfl
             refine take_ (i := 18) (N := some 72) (v := ?_) (a' := ?_) #[true, true, true, true, true, true, true, true, true, true, true, true, true, true, true, true, true, true, true, false, false, false, false, false, false] rfl rfl (take_ofW HT_.out HW_.out (by kernel_rfl)) (fun _ _ _ h => h) (Or.inl ⟨by rfl, ?_⟩) hHeld ?_ ?_
             rotate_left
             ·rintro w' ⟨s0, s1, s2, s3⟩
              go_simp
              with_reducible rfl
             rotate_left
             ·simp only [Act.put, List.setIfInBounds_toArray, List.set_cons_zero, List.set_cons_succ, i64_w, i32_w]
              rfl
             refine take_ (i := 20) (N := some 74) (v := ?_) (a' := ?_) #[true, true, true, true, true, true, true, true, true, true, true, true, true, true, true, true, true, true, true, false, true, false, false, false, false] rfl rfl (take_ofW HT_.out HW_.out (by kernel_rfl)) (fun _ _ _ h => h) (Or.inl ⟨by rfl, ?_⟩) hHeld ?_ ?_
             rotate_left
             ·rintro w' ⟨s0, s1, s2, s3⟩
              go_simp
              with_reducible rfl
             rotate_left
             ·simp only [Act.put, List.setIfInBounds_toArray, List.set_cons_zero, List.set_cons_succ, i64_w, i32_w]
              rfl
             refine take_ (i := 21) (N := some 75) (v := ?_) (a' := ?_) #[true, true, true, true, true, true, true, true, true, true, true, true, true, true, true, true, true, true, true, false, true, true, false, false, false] rfl rfl (take_ofW HT_.out HW_.out (by kernel_rfl)) (fun _ _ _ h => h) (Or.inl ⟨by rfl, ?_⟩) hHeld ?_ ?_
             rotate_left
             ·rintro w' ⟨s0, s1, s2, s3⟩
              go_simp
              with_reducible rfl
             rotate_left
             ·simp only [Act.put, List.setIfInBounds_toArray, List.set_cons_zero, List.set_cons_succ, i64_w, i32_w]
              rfl
             refine one_ (i := 19) (N := some 73) #[true, true, true, true, true, true, true, true, true, true, true, true, true, true, true, true, true, true, true, true, true, true, false, false, false] rfl rfl (one_of HT_.out (by kernel_rfl)) (by decide) (fun K hK => ?_)
             refine goes_ Try.func21 (by kernel_rfl) rfl #[.agg #[.slice Ao71 t106.length co71], .agg #[.slice Ao66 x103000_1.length co66]] (by rfl) rfl rfl (by (try simp only [List.map_toArray, List.map_cons, List.map_nil]); first | done | rfl | (simp only [List.length_drop, List.length_take]; rfl)) ?_
             with_reducible refine (twin_Same.calls kj9 _ _ t106 _ _ x103000_1 t123 _ ?side1 ?side2 ?side3 ?side4 A40.out).mono ?_
             (case side1 => repeat (first | exact (Kd.R_reads' HO108.out).2.2 | (with_reducible refine Kd.C_alloc ?_ _) | (with_reducible refine Kd.C_drewN ?_ _) | (with_reducible refine Kd.C_drew ?_)))
             (case side2 => exact (Kd.R_reads' HO108.out).2.1)
             (case side3 => repeat (first | exact (Kd.R_reads' HO_103000.out).2.2 | (with_reducible refine Kd.C_alloc ?_ _) | (with_reducible refine Kd.C_drewN ?_ _) | (with_reducible refine Kd.C_drew ?_)))
             (case side4 => exact (Kd.R_reads' HO_103000.out).2.1)
             rintro e w87 ⟨rfl, hb⟩
             refine ⟨_, rfl, ?_⟩
             have n0_ := Aside0.mk (Kd.R_below (by (with_reducible repeat (first | apply Kd.R_alloc | apply Kd.R_drewN | apply Kd.R_drew)); exact HO_103000.out) hb)
             have n1_ := Aside0.mk (Kd.R_below (by (with_reducible repeat (first | apply Kd.R_alloc | apply Kd.R_drewN | apply Kd.R_drew)); exact HO_104000.out) hb)
             have n2_ := Aside0.mk (Kd.R_below (by (with_reducible repeat (first | apply Kd.R_alloc | apply Kd.R_drewN | apply Kd.R_drew)); exact HO108.out) hb)
             have n3_ := Aside0.mk (Kd.R_below (by (with_reducible repeat (first | apply Kd.R_alloc | apply Kd.R_drewN | apply Kd.R_drew)); exact HO115.out) hb)
             have n4_ := Aside0.mk (Kd.R_below (by (with_reducible repeat (first | apply Kd.R_alloc | apply Kd.R_drewN | apply Kd.R_drew)); exact HO120.out) hb)
             have n5_ := Aside0.mk (blk_below (g := gb102) (o := .cells #[.slice Ao66 x103000_1.length co66] 28 (0, 0)) (by (with_reducible repeat (first | refine blk_drewN ?_ _ | refine blk_drew ?_ | refine blk_alloc ?_ _)); exact BK102.out) hb)
             have n6_ := Aside0.mk (blk_below (g := gb103) (o := .cells #[.slice Ao73 x104000_1.length co73] 41 (0, 0)) (by (with_reducible repeat (first | refine blk_drewN ?_ _ | refine blk_drew ?_ | refine blk_alloc ?_ _)); exact BK103.out) hb)
             have n7_ := Aside0.mk (blk_below (g := gb110) (o := .cells #[.slice Ao71 t106.length co71] 28 (0, 0)) (by (with_reducible repeat (first | refine blk_drewN ?_ _ | refine blk_drew ?_ | refine blk_alloc ?_ _)); exact BK110.out) hb)
             have n8_ := Aside0.mk (blk_below (g := gb117) (o := .cells #[.slice Ao79 t113.length co79] 41 (0, 0)) (by (with_reducible repeat (first | refine blk_drewN ?_ _ | refine blk_drew ?_ | refine blk_alloc ?_ _)); exact BK117.out) hb)
             have n9_ := Aside0.mk (below_step (by repeat (first | (with_reducible first | exact HB.out | apply below_alloc | apply pw_below_drewN | apply below_drew1 | refine below_set ?_ GE102.out | refine below_set ?_ GE103.out | refine below_set ?_ GE110.out | refine below_set ?_ GE117.out) | exact HB.out)) hb)
             clear HO_103000
             clear HO_104000
             clear HO108
             clear HO115
             clear HO120
             clear BK102
             clear BK103
             clear BK110
             clear BK117
             clear HB
             have HO_103000 := n0_
             have HO_104000 := n1_
             have HO108 := n2_
             have HO115 := n3_
             have HO120 := n4_
             have BK102 := n5_
             have BK103 := n6_
             have BK110 := n7_
             have BK117 := n8_
             have HB := n9_
             clear n0_ n1_ n2_ n3_ n4_ n5_ n6_ n7_ n8_ n9_
             (try clear hb)
             (try clear hb2)
             (try clear hk)
             (try clear hi)
             refine hK.out _ _ ⟨(blk_cell BK110.out 0).trans rfl, (blk_cell BK117.out 0).trans rfl, (blk_cell BK102.out 0).trans rfl, (blk_cell BK103.out 0).trans rfl⟩ (fun hHeld => ?_)
             clear hK K
             refine norm_ (a' := ?_) ?_ ?_
             rotate_left
             ·show Act.put _ (some 73) _ = _
              simp only [Act.put, List.setIfInBounds_toArray, List.set_cons_zero, List.set_cons_succ, i64_w, i32_w]
              rfl
             refine one_ (i := 22) (N := some 76) #[true, true, true, true, true, true, true, true, true, true, true, true, true, true, true, true, true, true, true, true, true, true, true, false, false] rfl rfl (one_of HT_.out (by kernel_rfl)) (by decide) (fun K hK => ?_)
             refine goes_ Try.func19 (by kernel_rfl) rfl #[.agg #[.slice Ao79 t113.length co79], .agg #[.slice Ao73 x104000_1.length co73]] (by rfl) rfl rfl (by (try simp only [List.map_toArray, List.map_cons, List.map_nil]); first | done | rfl | (simp only [List.length_drop, List.length_take]; rfl)) ?_
             with_reducible refine (substationref16_Same.calls kj9 _ _ t113 _ _ x104000_1 t124 _ ?side1 ?side2 ?side3 ?side4 A41.out).mono ?_
             (case side1 => repeat (first | exact (Kd.R_reads' HO115.out).2.2 | (with_reducible refine Kd.C_alloc ?_ _) | (with_reducible refine Kd.C_drewN ?_ _) | (with_reducible refine Kd.C_drew ?_)))
             (case side2 => exact (Kd.R_reads' HO115.out).2.1)
             (case side3 => repeat (first | exact (Kd.R_reads' HO_104000.out).2.2 | (with_reducible refine Kd.C_alloc ?_ _) | (with_reducible refine Kd.C_drewN ?_ _) | (with_reducible refine Kd.C_drew ?_)))
             (case side4 => exact (Kd.R_reads' HO_104000.out).2.1)
             rintro e w88 ⟨rfl, hb⟩
             refine ⟨_, rfl, ?_⟩
             have n0_ := Aside0.mk (Kd.R_below (by (with_reducible repeat (first | apply Kd.R_alloc | apply Kd.R_drewN | apply Kd.R_drew)); exact HO_103000.out) hb)
             have n1_ := Aside0.mk (Kd.R_below (by (with_reducible repeat (first | apply Kd.R_alloc | apply Kd.R_drewN | apply Kd.R_drew)); exact HO_104000.out) hb)
             have n2_ := Aside0.mk (Kd.R_below (by (with_reducible repeat (first | apply Kd.R_alloc | apply Kd.R_drewN | apply Kd.R_drew)); exact HO108.out) hb)
             have n3_ := Aside0.mk (Kd.R_below (by (with_reducible repeat (first | apply Kd.R_alloc | apply Kd.R_drewN | apply Kd.R_drew)); exact HO115.out) hb)
             have n4_ := Aside0.mk (Kd.R_below (by (with_reducible repeat (first | apply Kd.R_alloc | apply Kd.R_drewN | apply Kd.R_drew)); exact HO120.out) hb)
             have n5_ := Aside0.mk (blk_below (g := gb102) (o := .cells #[.slice Ao66 x103000_1.length co66] 28 (0, 0)) (by (with_reducible repeat (first | refine blk_drewN ?_ _ | refine blk_drew ?_ | refine blk_alloc ?_ _)); exact BK102.out) hb)
             have n6_ := Aside0.mk (blk_below (g := gb103) (o := .cells #[.slice Ao73 x104000_1.length co73] 41 (0, 0)) (by (with_reducible repeat (first | refine blk_drewN ?_ _ | refine blk_drew ?_ | refine blk_alloc ?_ _)); exact BK103.out) hb)
             have n7_ := Aside0.mk (blk_below (g := gb110) (o := .cells #[.slice Ao71 t106.length co71] 28 (0, 0)) (by (with_reducible repeat (first | refine blk_drewN ?_ _ | refine blk_drew ?_ | refine blk_alloc ?_ _)); exact BK110.out) hb)
             have n8_ := Aside0.mk (blk_below (g := gb117) (o := .cells #[.slice Ao79 t113.length co79] 41 (0, 0)) (by (with_reducible repeat (first | refine blk_drewN ?_ _ | refine blk_drew ?_ | refine blk_alloc ?_ _)); exact BK117.out) hb)
             have n9_ := Aside0.mk (below_step (by repeat (first | (with_reducible first | exact HB.out | apply below_alloc | apply pw_below_drewN | apply below_drew1 | refine below_set ?_ GE102.out | refine below_set ?_ GE103.out | refine below_set ?_ GE110.out | refine below_set ?_ GE117.out) | exact HB.out)) hb)
             clear HO_103000
             clear HO_104000
             clear HO108
             clear HO115
             clear HO120
             clear BK102
             clear BK103
             clear BK110
             clear BK117
             clear HB
             have HO_103000 := n0_
             have HO_104000 := n1_
             have HO108 := n2_
             have HO115 := n3_
             have HO120 := n4_
             have BK102 := n5_
             have BK103 := n6_
             have BK110 := n7_
             have BK117 := n8_
             have HB := n9_
             clear n0_ n1_ n2_ n3_ n4_ n5_ n6_ n7_ n8_ n9_
             (try clear hb)
             (try clear hb2)
             (try clear hk)
             (try clear hi)
             refine hK.out _ _ ⟨(blk_cell BK110.out 0).trans rfl, (blk_cell BK117.out 0).trans rfl, (blk_cell BK102.out 0).trans rfl, (blk_cell BK103.out 0).trans rfl⟩ (fun hHeld => ?_)
             clear hK K
             refine norm_ (a' := ?_) ?_ ?_
             rotate_left
             ·show Act.put _ (some 76) _ = _
              simp only [Act.put, List.setIfInBounds_toArray, List.set_cons_zero, List.set_cons_succ, i64_w, i32_w]
              rfl
             refine pure_ (i := 23) (N := some 77) (v := ?_) (a' := ?_) #[true, true, true, true, true, true, true, true, true, true, true, true, true, true, true, true, true, true, true, true, true, true, true, true, false] rfl rfl (any_of HT_.out (by kernel_rfl)) (fun _ _ _ h => h) (Or.inl ⟨by rfl, ?_⟩) ?_ ?_
             rotate_left
             ·intro w'
              go_simp
              with_reducible rfl
             rotate_left
             ·simp only [Act.put, List.setIfInBounds_toArray, List.set_cons_zero, List.set_cons_succ, i64_w, i32_w]
              rfl
             refine pure_ (i := 24) (N := some 78) (v := ?_) (a' := ?_) #[true, true, true, true, true, true, true, true, true, true, true, true, true, true, true, true, true, true, true, true, true, true, true, true, true] rfl rfl (any_of HT_.out (by kernel_rfl)) (fun _ _ _ h => h) (Or.inl ⟨by rfl, ?_⟩) ?_ ?_
             rotate_left
             ·intro w'
              go_simp
              with_reducible rfl
             rotate_left
             ·simp only [Act.put, List.setIfInBounds_toArray, List.set_cons_zero, List.set_cons_succ, i64_w, i32_w]
              rfl
             refine done_ (done_of HT_.out (by kernel_rfl)) ?_
             try go_wp2
             have n0_ := Aside0.mk (Kd.R_drew HO_103000.out)
             have n1_ := Aside0.mk (Kd.R_drew HO_104000.out)
             have n2_ := Aside0.mk (Kd.R_drew HO108.out)
             have n3_ := Aside0.mk (Kd.R_drew HO115.out)
             have n4_ := Aside0.mk (Kd.R_drew HO120.out)
             have n5_ := Aside0.mk (blk_drew BK102.out)
             have n6_ := Aside0.mk (blk_drew BK103.out)
             have n7_ := Aside0.mk (blk_drew BK110.out)
             have n8_ := Aside0.mk (blk_drew BK117.out)
             have n9_ := Aside0.mk (below_drew1 HB.out)
             clear HO_103000
             clear HO_104000
             clear HO108
             clear HO115
             clear HO120
             clear BK102
             clear BK103
             clear BK110
             clear BK117
             clear HB
             have HO_103000 := n0_
             have HO_104000 := n1_
             have HO108 := n2_
             have HO115 := n3_
             have HO120 := n4_
             have BK102 := n5_
             have BK103 := n6_
             have BK110 := n7_
             have BK117 := n8_
             have HB := n9_
             clear n0_ n1_ n2_ n3_ n4_ n5_ n6_ n7_ n8_ n9_
             refine start_ (n := 4) (S := fun w' => w'.cell? ⟨gb110, 0, none⟩ = some (.slice Ao71 t106.length co71) ∧ w'.cell? ⟨gb117, 0, none⟩ = some (.slice Ao79 t113.length co79)) (ds := []) #[false, false, false, false] (by kernel_rfl) rfl rfl ⟨(blk_cell BK110.out 0).trans rfl, (blk_cell BK117.out 0).trans rfl⟩ (fun hHeld => ?_)
             generalize w88.drew = w89 at HO_103000 HO_104000 HO108 HO115 HO120 BK102 BK103 BK110 BK117 HB hHeld ⊢
             refine take_ (i := 0) (N := some 79) (v := ?_) (a' := ?_) #[true, false, false, false] rfl rfl (by kernel_rfl) (fun _ _ _ h => h) (Or.inl ⟨by rfl, ?_⟩) hHeld ?_ ?_
             rotate_left
             ·rintro w' ⟨s0, s1⟩
              go_simp
              with_reducible rfl
             rotate_left
             ·simp only [Act.put, List.setIfInBounds_toArray, List.set_cons_zero, List.set_cons_succ, i64_w, i32_w]
              rfl
             refine take_ (i := 1) (N := some 80) (v := ?_) (a' := ?_) #[true, true, false, false] rfl rfl (by kernel_rfl) (fun _ _ _ h => h) (Or.inl ⟨by rfl, ?_⟩) hHeld ?_ ?_
             rotate_left
             ·rintro w' ⟨s0, s1⟩
              go_simp
              with_reducible rfl
             rotate_left
             ·simp only [Act.put, List.setIfInBounds_toArray, List.set_cons_zero, List.set_cons_succ, i64_w, i32_w]
              rfl
             refine one_ (i := 2) (N := none) #[true, true, true, false] rfl rfl (by kernel_rfl) (by decide) (fun K hK => ?_)
             have hs90 : w89.cell? ⟨gb102, 0, none⟩ = some (.slice Ao66 x103000_1.length co66) := (blk_cell BK102.out 0).trans rfl
             have hfs90 := blk_frozen BK102.out 0
             have hns90_1 := NB103_102.out
             have hns90_2 := NB110_102.out
             have hns90_3 := NB117_102.out
             have hms90_1 := NB102_103.out
             have hms90_2 := NB102_110.out
             have hms90_3 := NB102_117.out
             refine skip_ (w1 := ?_) (by rfl) rfl ?_ ?_
             rotate_left
             ·go_simp
              rfl
             refine hK.out _ _ ⟨((cell_far (p := ⟨gb102, _, none⟩) NB110_102.out _).trans (hHeld.1)), ((cell_far (p := ⟨gb102, _, none⟩) NB117_102.out _).trans (hHeld.2))⟩ (fun hHeld => ?_)
             clear hK K
             refine one_ (i := 3) (N := none) #[true, true, true, true] rfl rfl (by kernel_rfl) (by decide) (fun K hK => ?_)
             have hs91 : w89.cell? ⟨gb103, 0, none⟩ = some (.slice Ao73 x104000_1.length co73) := (blk_cell BK103.out 0).trans rfl
             have hfs91 := blk_frozen BK103.out 0
             have hns91_0 := NB102_103.out
             have hns91_2 := NB110_103.out
             have hns91_3 := NB117_103.out
             have hms91_0 := NB103_102.out
             have hms91_2 := NB103_110.out
             have hms91_3 := NB103_117.out
             refine skip_ (w1 := ?_) (by rfl) rfl ?_ ?_
             rotate_left
             ·go_simp
              rfl
             refine hK.out _ _ ⟨((cell_far (p := ⟨gb103, _, none⟩) NB110_103.out _).trans (hHeld.1)), ((cell_far (p := ⟨gb103, _, none⟩) NB117_103.out _).trans (hHeld.2))⟩ (fun hHeld => ?_)
             clear hK K
             refine done_ (by kernel_rfl) ?_
             try go_wp2
             go_roundg kj9
             case measure => have := HK1.out; have := HJ9.out; omega
             case rel => exact ⟨(wrap64 (x5_1 + 1)), (t106), (t113), (.slice Ao71 t106.length co71), (.slice Ao79 t113.length co79), (by first | rfl | (simp; done) | (simp [*]; done) | (simp; omega)), H', ⟨by have := HK1.out; have := HJ9.out; omega⟩, ⟨by (with_reducible repeat (first | apply Kd.R_alloc | apply Kd.R_drewN | apply Kd.R_drew)); exact Kd.R_mono (Kd.R_far (p := ⟨gb103, 0, none⟩) (Kd.R_far (p := ⟨gb102, 0, none⟩) (Kd.R_types (Kd.R_types HO108.out BK102.out (by decide)) BK103.out (by decide)) (fun _ hk => hk.1.2) (.slice Ao71 t106.length co71)) (fun _ hk => hk.2) (.slice Ao79 t113.length co79)) (fun _ hk => trivial)⟩, ⟨by (with_reducible repeat (first | apply Kd.R_alloc | apply Kd.R_drewN | apply Kd.R_drew)); exact Kd.R_mono (Kd.R_far (p := ⟨gb103, 0, none⟩) (Kd.R_far (p := ⟨gb102, 0, none⟩) (Kd.R_types (Kd.R_types HO115.out BK102.out (by decide)) BK103.out (by decide)) (fun _ hk => hk.1.2) (.slice Ao71 t106.length co71)) (fun _ hk => hk.2) (.slice Ao79 t113.length co79)) (fun _ hk => trivial)⟩, ⟨by (with_reducible repeat (first | refine blk_drewN ?_ _ | refine blk_drew ?_ | refine blk_alloc ?_ _)); refine blk_far ?_ NB102_103.out _; (with_reducible repeat (first | refine blk_drewN ?_ _ | refine blk_drew ?_ | refine blk_alloc ?_ _)); refine blk_put (cs := #[.slice Ao66 x103000_1.length co66]) ?_ 0 _ rfl; (with_reducible repeat (first | refine blk_drewN ?_ _ | refine blk_drew ?_ | refine blk_alloc ?_ _)); exact BK102.out⟩, ⟨by (with_reducible repeat (first | refine blk_drewN ?_ _ | refine blk_drew ?_ | refine blk_alloc ?_ _)); refine blk_put (cs := #[.slice Ao73 x104000_1.length co73]) ?_ 0 _ rfl; (with_reducible repeat (first | refine blk_drewN ?_ _ | refine blk_drew ?_ | refine blk_alloc ?_ _)); refine blk_far ?_ NB103_102.out _; (with_reducible repeat (first | refine blk_drewN ?_ _ | refine blk_drew ?_ | refine blk_alloc ?_ _)); exact BK103.out⟩, ⟨by repeat (first | (with_reducible first | exact HB.out | apply below_alloc | apply pw_below_drewN | apply below_drew1 | refine below_set ?_ GE102.out | refine below_set ?_ GE103.out | refine below_set ?_ GE110.out | refine below_set ?_ GE117.out) | exact HB.out)⟩⟩
           ·replace c39 := Bool.eq_false_iff.mpr c39
            subst c39
            have H1 : (some false) = some r := by rw [if_neg (show ¬ (false = true) by decide)] at H; exact H
            clear H
            have H := H1
            clear H1
            exact absurd (hr_.symm.trans (Option.some.inj H).symm) (by decide)
          ·replace c37 := Bool.eq_false_iff.mpr c37
           subst c37
           have H1 : (some false) = some r := by rw [if_neg (show ¬ (false = true) by decide)] at H; exact H
           clear H
           have H := H1
           clear H1
           exact absurd (hr_.symm.trans (Option.some.inj H).symm) (by decide)
        ·rw [if_neg c14] at H
         exact absurd H (by simp)
       ·rw [if_neg c13] at H
        exact absurd H (by simp)
      ·replace c12 := Bool.eq_false_iff.mpr c12
       subst c12
       have H1 : (some true) = some r := by rw [if_neg (show ¬ (false = true) by decide)] at H; exact H
       clear H
       have H := H1
       clear H1
       obtain rfl := Option.some.inj H
       go_wp2
       go_ret
       exact ⟨by first | rfl | (simp [errW_none, errW_some] <;> rfl) | (simp [*, errW_none, errW_some] <;> rfl), by repeat (first | (with_reducible first | exact HB.out | apply below_alloc | apply pw_below_drewN | apply below_drew1 | refine below_set ?_ GE102.out | refine below_set ?_ GE103.out) | exact HB.out)⟩
 ·replace c3 := Bool.eq_false_iff.mpr c3
  subst c3
  have H1 : (some false) = some r := by rw [if_neg (show ¬ (false = true) by decide)] at H; exact H
  clear H
  have H := H1
  clear H1
  exact absurd (hr_.symm.trans (Option.some.inj H).symm) (by decide)
end Go.Proofs.Ytnjddjpohobelaa.XB
end
section
namespace Go.Proofs.Ytnjddjpohobelaa.RTwinAccepts
open Go.RowKit Go.Proofs.YtnjddjpohobelaaW.PrintWords Go.Proofs.YtnjddjpohobelaaW.PrintLast Go.Proofs.YtnjddjpohobelaaW.PrintMore Go.Proofs.Ytnjddjpohobelaa.XB Go.Proofs.Ytnjddjpohobelaa.XOpen
set_option linter.unusedVariables false
def ok43 (x : S43) : Prop := (Lit.int .i64 x.f0).wf = true ∧ (Lit.int .i64 x.f1).wf = true
theorem opens43 : Opens Try.prog k43 43 ok43 := fun H enc w base spare held fuel cs x hx => by
  obtain ⟨xs, n, _, _, hl, hlen, hf⟩ := DataW.trod_struct Try.underlying43 hx
  have hcells : Try.prog.cellsOf 43 = 2 := by kernel_rfl
  rw [hcells] at hl
  have hx0 : ∃ z, xs[0]? = some z := by rw [List.getElem?_eq_getElem (show 0 < xs.length by rw [hlen]; decide)]; exact ⟨_, rfl⟩
  obtain ⟨z0, hz0⟩ := hx0
  have hg0 : Try.prog.cellsOf 3 = 1 := by kernel_rfl
  obtain ⟨y0, hk0, ho0⟩ := (opens_int Try.underlying3) H enc w base spare held n _ z0 ((hf 0 _ rfl).trans hz0)
  change (Kd.int .i64).K w y0 (List.take (Try.prog.cellsOf 3) (List.drop 0 cs)) at hk0
  rw [hg0] at hk0
  have hx1 : ∃ z, xs[1]? = some z := by rw [List.getElem?_eq_getElem (show 1 < xs.length by rw [hlen]; decide)]; exact ⟨_, rfl⟩
  obtain ⟨z1, hz1⟩ := hx1
  have hg1 : Try.prog.cellsOf 3 = 1 := by kernel_rfl
  obtain ⟨y1, hk1, ho1⟩ := (opens_int Try.underlying3) H enc w base spare held n _ z1 ((hf 1 _ rfl).trans hz1)
  change (Kd.int .i64).K w y1 (List.take (Try.prog.cellsOf 3) (List.drop 1 cs)) at hk1
  rw [hg1] at hk1
  obtain ⟨c0, t0, rfl, hl0⟩ := len_cons (n := 1) hl
  obtain ⟨c1, t1, rfl, hl1⟩ := len_cons (n := 0) hl0
  obtain rfl := List.eq_nil_of_length_eq_zero hl1
  exact ⟨⟨y0, y1⟩, ⟨[c0], [c1], rfl, hk0, hk1⟩, ⟨ho0, ho1⟩⟩
/-- The pure statement of the law. -/
def Pure : Prop := ∀ (x0 : List S43), (x0.length ≤ 9223372036854775807 ∧ ∀ y_ ∈ x0, ok43 y_) → ∃ k, substationlaw16_TwinAccepts.f k x0 = some true
end Go.Proofs.Ytnjddjpohobelaa.RTwinAccepts
end
section
namespace Go.Proofs.Ytnjddjpohobelaa.Pure
set_option linter.unusedVariables false
set_option linter.unusedSimpArgs false
open Go.RowKit Go.Proofs.YtnjddjpohobelaaW.PrintWords Go.Proofs.YtnjddjpohobelaaW.PrintMore Go.Proofs.Ytnjddjpohobelaa.XB Go.Proofs.Ytnjddjpohobelaa.TwA Go.Proofs.Ytnjddjpohobelaa.TwB Go.Proofs.Ytnjddjpohobelaa.TwC Go.Proofs.Ytnjddjpohobelaa.TwD
theorem accepts_loop (L : List S43) : ∀ (r i : Nat), i + r = min L.length 300 → ∀ l : List S36, TwOk l → l.length ≤ i → Evt fun K => substationlaw16_TwinAccepts.l0 K L (i : Int) l (l.map cw) = some true
  | 0, i, hi, l, hok, hl => by
    refine ⟨2, fun K hK => ?_⟩
    obtain ⟨K, rfl⟩ : ∃ K', K = K' + 2 := ⟨K - 2, by omega⟩
    show substationlaw16_TwinAccepts.l0 (K + 2) L (i : Int) l (l.map cw) = some true
    rw [substationlaw16_TwinAccepts.l0]
    by_cases h : (i : Int) < L.length
    · rw [if_pos h, decide_eq_false (by omega), substationlaw16_TwinAccepts.j1, if_neg (by decide)]
    · rw [if_neg h, substationlaw16_TwinAccepts.j1, if_neg (by decide)]
  | r + 1, i, hi, l, hok, hl => by
    have h1 : (i : Int) < L.length := by omega
    have h2 : (i : Int) < 300 := by omega
    have h0 : (0 : Int) ≤ i := by omega
    generalize ha : (rd_T43 L (i : Int)).f0 = a
    generalize hs : (rd_T43 L (i : Int)).f1 = s
    obtain ⟨l', f, hf, hev⟩ := accept_eq l a s hok (by omega)
    obtain ⟨l2, f2, hf2, hok2, hlen2, _⟩ := accept_any a s hok (by omega)
    have he : some (l', f) = some (l2, f2) := hf.symm.trans hf2
    injection he with he
    injection he with he1 he2
    subst he1
    have HW : Aside0 (wrap64 ((i : Int) + 1) = ((i + 1 : Nat) : Int)) := ⟨w64s (by omega)⟩
    have ih := accepts_loop L r (i + 1) (by omega) l' hok2 (by omega)
    have hl' : l'.length < 1000000 := by omega
    have e1 := to_f l' hl'
    have e2 := ref_same l' l' hl'
    have e3 := twin_same l' l' hl'
    have e4 := twin_same l' l hl'
    have e5 := ref_same l' l hl'
    refine ((hev.both (e1.both (e2.both (e3.both (e4.both (e5.both ih)))))).step (Q := fun K => substationlaw16_TwinAccepts.j1 K L (i : Int) true l (l.map cw) = some true) fun K hK => ?_).step fun K hK => ?_
    · obtain ⟨k0, k1, k2, k3, k4, k5, k6⟩ := hK
      rw [substationlaw16_TwinAccepts.j1, if_pos rfl, if_pos h0, if_pos h1, ha, hs, hf, Option.bind_some, k0, Option.bind_some]
      simp only
      rw [if_neg (by simp), k1, Option.bind_some, k2, Option.bind_some, if_pos (by simp), k3, Option.bind_some, if_pos (by simp), k4, Option.bind_some, k5, Option.bind_some, if_neg (by simp), HW.out]
      exact k6
    · rw [substationlaw16_TwinAccepts.l0, if_pos h1, decide_eq_true h2]
      exact hK
theorem TwinAccepts : RTwinAccepts.Pure := by
  intro L _
  have h := accepts_loop L (min L.length 300) 0 (by omega) [] ⟨by simp, List.Pairwise.nil, (fun x hx => by cases hx), (fun x hx => by cases hx)⟩ (by simp)
  obtain ⟨K0, h0⟩ := h
  refine ⟨K0, ?_⟩
  unfold substationlaw16_TwinAccepts.f
  rw [known, Option.bind_some, if_pos rfl]
  exact h0 K0 (Nat.le_refl _)
end Go.Proofs.Ytnjddjpohobelaa.Pure
end
