/- A part of the proof of the law ringWays_holds: general lemmas, functions of the program as plain functions with proofs that the calls compute them, and what they compute; merged from this session's texts. -/
import Derived.Test.YtnjddjpohobelaaMRWays8
section
namespace Go.Proofs.Ytnjddjpohobelaa.XB
open Go.RowKit Go.Proofs.YtnjddjpohobelaaW.PrintWords Go.Proofs.YtnjddjpohobelaaW.PrintLast Go.Proofs.YtnjddjpohobelaaW.PrintMore
attribute [local go_sem] max2_int min2_int max_two min_two max_three min_three max_four min_four   -- for this text's walks alone
set_option linter.unusedVariables false
set_option linter.unusedSimpArgs false
/-! ### substationlaw17_RingWays: function 13 -/
set_option maxHeartbeats 4000000 in
set_option maxRecDepth 100000 in
theorem rg_to13 (A : Option Addr) (n c : Nat) (w : World) : Calls Try.prog 30 #[.agg #[.slice A n c]] w fun e w' => e = .returned (.agg #[.slice A n c]) ∧ Below w.heap.size w w' := by
 have hu67 := Try.underlying67
 have hu78 := Try.underlying78
 go_enter Try.func30, Try.ntmps30
 go_wp2
 have hb2 : ((w.alloc (.cells #[.slice A n c] 67)).alloc (.cells #[.slice A n c] 78)).heap[w.heap.size + 1]? = some (.cells #[.slice A n c] 78 (0, 0)) := by
  have h_ := blk_new (w.alloc (.cells #[.slice A n c] 67)) (.cells #[.slice A n c] 78)
  rwa [World.size_alloc] at h_
 refine bodyPost_ret (results_cell_row rfl _ _ (w.heap.size + 1) 78 #[.slice A n c] (0, 0) _ rfl hb2 Try.underlying78 rfl (by kernel_rfl)) rfl ?_
 exact ⟨rfl, ((Below.refl _ _).alloc (Nat.le_refl _) _).alloc (by simp) _⟩
mutual
def substationlaw17_RingWays.j0 : Nat → Int → Int → List Bool → List Bool → Bool → List Bool → Option (Bool)
 | 0, _, _, _, _, _, _ => none
 | k + 1, x1, x2, x7, x8, x51, x102000 => if x51 = true then (some false) else (substationlaw17_RingWays.l0 k x1 x2 x7 x8 0 x102000)
def substationlaw17_RingWays.l0 : Nat → Int → Int → List Bool → List Bool → Int → List Bool → Option (Bool)
 | 0, _, _, _, _, _, _ => none
 | k + 1, x1, x2, x7, x8, x9, x102000 => if x9 < (x7.length : Int) then (if 0 ≤ x9 then (if x9 < (x8.length : Int) then (if ((rdOf false x7 x9) != (rdOf false x8 x9)) = true then (some false) else (substationlaw17_RingWays.l0 k x1 x2 x7 x8 (wrap64 (x9 + 1)) x102000)) else (none)) else (none)) else (substationlaw17_RingWays.l1 k x1 x2 (-1) x102000)
def substationlaw17_RingWays.l1 : Nat → Int → Int → Int → List Bool → Option (Bool)
 | 0, _, _, _, _ => none
 | k + 1, x1, x2, x10, x102000 => if x10 < 3 then ((ring_Hops.f x102000 x1 x2 x10).bind fun bt129 => ((substationlaw17_to.f x102000).bind fun t131 => ((substationref17_Hops.f k t131 x1 x2 x10).bind fun bt134 => (if bt129.1 = bt134.1 then (if (bt129.2 != bt134.2) = true then (some false) else (substationlaw17_RingWays.l1 k x1 x2 (wrap64 (x10 + 1)) x102000)) else (some false))))) else (some true)
end
def substationlaw17_RingWays.f (k : Nat) (l0_0 : List Bool) (a1 : Int) (a2 : Int) : Option (Bool) := (substationlaw17_known.f).bind fun t102 => (if t102 = true then (if (l0_0.length : Int) > 100 then (some true) else ((ring_Reached.f l0_0 a1).bind fun t103 => ((substationlaw17_to.f l0_0).bind fun t106 => ((substationref17_Reached.f k t106 a1).bind fun t109 => ((ring_Check.f l0_0).bind fun t112 => ((substationlaw17_to.f l0_0).bind fun t113 => ((substationref17_Check.f t113).bind fun t116 => (if t112 = t116 then (if (t103.length : Int) = (t109.length : Int) then ((ring_Arrivals.f l0_0 a1).bind fun t117 => ((substationlaw17_to.f l0_0).bind fun t120 => ((substationref17_Arrivals.f k t120 a1).bind fun t123 => ((substationlaw17_same.f k t117 t123).bind fun t126 => (substationlaw17_RingWays.j0 k a1 a2 t103 t109 (!t126) l0_0))))) else (substationlaw17_RingWays.j0 k a1 a2 t103 t109 true l0_0)) else (substationlaw17_RingWays.j0 k a1 a2 t103 t109 true l0_0))))))))) else (some false))
theorem substationlaw17_RingWays.mono_l : ∀ k, (∀ y0 y1 y2 y3 y4 y5, LeO (substationlaw17_RingWays.j0 k y0 y1 y2 y3 y4 y5) (substationlaw17_RingWays.j0 (k + 1) y0 y1 y2 y3 y4 y5)) ∧ (∀ y0 y1 y2 y3 y4 y5, LeO (substationlaw17_RingWays.l0 k y0 y1 y2 y3 y4 y5) (substationlaw17_RingWays.l0 (k + 1) y0 y1 y2 y3 y4 y5)) ∧ (∀ y0 y1 y2 y3, LeO (substationlaw17_RingWays.l1 k y0 y1 y2 y3) (substationlaw17_RingWays.l1 (k + 1) y0 y1 y2 y3))
 | 0 => ⟨fun _ _ _ _ _ _ r h => by simp [substationlaw17_RingWays.j0] at h, fun _ _ _ _ _ _ r h => by simp [substationlaw17_RingWays.l0] at h, fun _ _ _ _ r h => by simp [substationlaw17_RingWays.l1] at h⟩
 | k + 1 => by
  obtain ⟨ih0, ih1, ih2⟩ := substationlaw17_RingWays.mono_l k
  refine ⟨?_, ?_, ?_⟩
  ·intro y0 y1 y2 y3 y4 y5
   unfold substationlaw17_RingWays.j0
   repeat' first
   | (with_reducible exact ih0 _ _ _ _ _ _)
   | (with_reducible exact ih1 _ _ _ _ _ _)
   | (with_reducible exact ih2 _ _ _ _)
   | (with_reducible exact substationlaw17_same.mono _ _ _)
   | (with_reducible exact substationref17_Arrivals.mono _ _ _)
   | (with_reducible exact substationref17_Hops.mono _ _ _ _ _)
   | (with_reducible exact substationref17_Reached.mono _ _ _)
   | (with_reducible exact LeO.refl _)
   | (with_reducible exact LeO.none _)
   | (with_reducible refine LeO.ite ?_ ?_)
   | (with_reducible refine LeO.bind ?_ (fun _ => ?_))
   | exact ih0 _ _ _ _ _ _
   | exact ih1 _ _ _ _ _ _
   | exact ih2 _ _ _ _
   | exact substationlaw17_same.mono _ _ _
   | exact substationref17_Arrivals.mono _ _ _
   | exact substationref17_Hops.mono _ _ _ _ _
   | exact substationref17_Reached.mono _ _ _
   | exact LeO.none _
   | refine LeO.ite ?_ ?_
   | refine LeO.bind ?_ (fun _ => ?_)
  ·intro y0 y1 y2 y3 y4 y5
   unfold substationlaw17_RingWays.l0
   repeat' first
   | (with_reducible exact ih0 _ _ _ _ _ _)
   | (with_reducible exact ih1 _ _ _ _ _ _)
   | (with_reducible exact ih2 _ _ _ _)
   | (with_reducible exact substationlaw17_same.mono _ _ _)
   | (with_reducible exact substationref17_Arrivals.mono _ _ _)
   | (with_reducible exact substationref17_Hops.mono _ _ _ _ _)
   | (with_reducible exact substationref17_Reached.mono _ _ _)
   | (with_reducible exact LeO.refl _)
   | (with_reducible exact LeO.none _)
   | (with_reducible refine LeO.ite ?_ ?_)
   | (with_reducible refine LeO.bind ?_ (fun _ => ?_))
   | exact ih0 _ _ _ _ _ _
   | exact ih1 _ _ _ _ _ _
   | exact ih2 _ _ _ _
   | exact substationlaw17_same.mono _ _ _
   | exact substationref17_Arrivals.mono _ _ _
   | exact substationref17_Hops.mono _ _ _ _ _
   | exact substationref17_Reached.mono _ _ _
   | exact LeO.none _
   | refine LeO.ite ?_ ?_
   | refine LeO.bind ?_ (fun _ => ?_)
  ·intro y0 y1 y2 y3
   unfold substationlaw17_RingWays.l1
   repeat' first
   | (with_reducible exact ih0 _ _ _ _ _ _)
   | (with_reducible exact ih1 _ _ _ _ _ _)
   | (with_reducible exact ih2 _ _ _ _)
   | (with_reducible exact substationlaw17_same.mono _ _ _)
   | (with_reducible exact substationref17_Arrivals.mono _ _ _)
   | (with_reducible exact substationref17_Hops.mono _ _ _ _ _)
   | (with_reducible exact substationref17_Reached.mono _ _ _)
   | (with_reducible exact LeO.refl _)
   | (with_reducible exact LeO.none _)
   | (with_reducible refine LeO.ite ?_ ?_)
   | (with_reducible refine LeO.bind ?_ (fun _ => ?_))
   | exact ih0 _ _ _ _ _ _
   | exact ih1 _ _ _ _ _ _
   | exact ih2 _ _ _ _
   | exact substationlaw17_same.mono _ _ _
   | exact substationref17_Arrivals.mono _ _ _
   | exact substationref17_Hops.mono _ _ _ _ _
   | exact substationref17_Reached.mono _ _ _
   | exact LeO.none _
   | refine LeO.ite ?_ ?_
   | refine LeO.bind ?_ (fun _ => ?_)
theorem substationlaw17_RingWays.mono : ∀ a0 a1 a2 k, LeO (substationlaw17_RingWays.f k a0 a1 a2) (substationlaw17_RingWays.f (k + 1) a0 a1 a2) := by
 intro a0 a1 a2 k
 obtain ⟨ih0, ih1, ih2⟩ := substationlaw17_RingWays.mono_l k
 unfold substationlaw17_RingWays.f
 repeat' first
   | (with_reducible exact ih0 _ _ _ _ _ _)
   | (with_reducible exact ih1 _ _ _ _ _ _)
   | (with_reducible exact ih2 _ _ _ _)
   | (with_reducible exact substationlaw17_same.mono _ _ _)
   | (with_reducible exact substationref17_Arrivals.mono _ _ _)
   | (with_reducible exact substationref17_Hops.mono _ _ _ _ _)
   | (with_reducible exact substationref17_Reached.mono _ _ _)
   | (with_reducible exact LeO.refl _)
   | (with_reducible exact LeO.none _)
   | (with_reducible refine LeO.ite ?_ ?_)
   | (with_reducible refine LeO.bind ?_ (fun _ => ?_))
   | exact ih0 _ _ _ _ _ _
   | exact ih1 _ _ _ _ _ _
   | exact ih2 _ _ _ _
   | exact substationlaw17_same.mono _ _ _
   | exact substationref17_Arrivals.mono _ _ _
   | exact substationref17_Hops.mono _ _ _ _ _
   | exact substationref17_Reached.mono _ _ _
   | exact LeO.none _
   | refine LeO.ite ?_ ?_
   | refine LeO.bind ?_ (fun _ => ?_)
def substationlaw17_RingWays.T5 : Bool × List (List Nat × List Nat) := (true, [([], []), ([], []), ([0, 1], [0, 1]), ([], []), ([3, 2], [3]), ([], []), ([4, 5, 4], [4, 5]), ([2, 6, 0, 1, 2], [2]), ([6, 7, 0, 1, 2, 3, 4, 5, 6, 7], [6])])
def substationlaw17_RingWays.B5 : List Nat := [0, 0, 3, 0, 15, 0, 63, 127, 255]
theorem substationlaw17_RingWays.tab5 : rtab .any (opsOf Try.f13 5) = substationlaw17_RingWays.T5 := by kernel_rfl
theorem substationlaw17_RingWays.bits5 : waitsOk substationlaw17_RingWays.T5.2 substationlaw17_RingWays.B5 = true := by kernel_rfl
def substationlaw17_RingWays.T6 : Bool × List (List Nat × List Nat) := (true, [([], []), ([0], [0]), ([], []), ([2, 1], [2]), ([3, 3], [3]), ([1, 4], [1, 4]), ([5, 4], [5]), ([6], [6]), ([7, 6], [6, 7]), ([6], [6]), ([9, 6], [6, 9]), ([8, 10, 6], [6, 8, 10]), ([6, 11], [6, 11]), ([12, 6], [12]), ([13], [13]), ([13], [13]), ([14, 15, 13, 13], [13, 14, 15]), ([13], [13]), ([17, 16, 13], [13, 17]), ([13], [13]), ([18, 19, 18, 13], [13, 18, 19]), ([16, 20, 20, 13], [13, 16, 20]), ([21, 13], [13, 21]), ([13, 22], [13, 22])])
def substationlaw17_RingWays.B6 : List Nat := [0, 1, 0, 7, 15, 31, 63, 127, 255, 127, 639, 2047, 4095, 8191, 16383, 16383, 65535, 16383, 262143, 16383, 1048575, 2097151, 4194303, 8388607]
theorem substationlaw17_RingWays.tab6 : rtab .any (opsOf Try.f13 6) = substationlaw17_RingWays.T6 := by kernel_rfl
theorem substationlaw17_RingWays.bits6 : waitsOk substationlaw17_RingWays.T6.2 substationlaw17_RingWays.B6 = true := by kernel_rfl
def substationlaw17_RingWays.T11 : Bool × List (List Nat × List Nat) := (true, [([], []), ([], []), ([0, 1], [0, 1]), ([2], [2]), ([], []), ([], []), ([4, 5], [4, 5]), ([6], [6]), ([3, 7], [3, 7])])
def substationlaw17_RingWays.B11 : List Nat := [0, 0, 3, 7, 0, 0, 48, 112, 255]
theorem substationlaw17_RingWays.tab11 : rtab .any (opsOf Try.f13 11) = substationlaw17_RingWays.T11 := by kernel_rfl
theorem substationlaw17_RingWays.bits11 : waitsOk substationlaw17_RingWays.T11.2 substationlaw17_RingWays.B11 = true := by kernel_rfl
set_option maxHeartbeats 8000000 in
set_option maxRecDepth 100000 in
theorem substationlaw17_RingWays.calls (k : Nat) (A0_0 : Option Addr) (c0_0 : Nat) (l0_0 : List Bool) (a1 : Int) (a2 : Int) (r : Bool) (w : World) (hr0_0 : Kd.C Kd.bool w A0_0 l0_0.length l0_0) (hc0_0 : l0_0.length ≤ c0_0) (hr_ : r = true) (h : substationlaw17_RingWays.f k l0_0 a1 a2 = some r) :
  Calls Try.prog 13 #[.agg #[.slice A0_0 l0_0.length c0_0], .int .i64 a1, .int .i64 a2] w fun e w' => e = .returned (.bool r) ∧ Below w.heap.size w w' := by
 have hu67 := Try.underlying67
 have HR0_0 := Aside0.mk hr0_0
 have HC0_0 := Aside0.mk hc0_0
 clear hr0_0 hc0_0
 have HB := Aside0.mk (Below.refl w.heap.size w)
 have H : ((substationlaw17_known.f).bind fun t102 => (if t102 = true then (if (l0_0.length : Int) > 100 then (some true) else ((ring_Reached.f l0_0 a1).bind fun t103 => ((substationlaw17_to.f l0_0).bind fun t106 => ((substationref17_Reached.f k t106 a1).bind fun t109 => ((ring_Check.f l0_0).bind fun t112 => ((substationlaw17_to.f l0_0).bind fun t113 => ((substationref17_Check.f t113).bind fun t116 => (if t112 = t116 then (if (t103.length : Int) = (t109.length : Int) then ((ring_Arrivals.f l0_0 a1).bind fun t117 => ((substationlaw17_to.f l0_0).bind fun t120 => ((substationref17_Arrivals.f k t120 a1).bind fun t123 => ((substationlaw17_same.f k t117 t123).bind fun t126 => (substationlaw17_RingWays.j0 k a1 a2 t103 t109 (!t126) l0_0))))) else (substationlaw17_RingWays.j0 k a1 a2 t103 t109 true l0_0)) else (substationlaw17_RingWays.j0 k a1 a2 t103 t109 true l0_0))))))))) else (some false))) = some r := h
 clear h
 replace H := Option.bind_eq_some_iff.mp H
 obtain ⟨t102, A40, H⟩ := H
 replace H : (if t102 = true then (if (l0_0.length : Int) > 100 then (some true) else ((ring_Reached.f l0_0 a1).bind fun t103 => ((substationlaw17_to.f l0_0).bind fun t106 => ((substationref17_Reached.f k t106 a1).bind fun t109 => ((ring_Check.f l0_0).bind fun t112 => ((substationlaw17_to.f l0_0).bind fun t113 => ((substationref17_Check.f t113).bind fun t116 => (if t112 = t116 then (if (t103.length : Int) = (t109.length : Int) then ((ring_Arrivals.f l0_0 a1).bind fun t117 => ((substationlaw17_to.f l0_0).bind fun t120 => ((substationref17_Arrivals.f k t120 a1).bind fun t123 => ((substationlaw17_same.f k t117 t123).bind fun t126 => (substationlaw17_RingWays.j0 k a1 a2 t103 t109 (!t126) l0_0))))) else (substationlaw17_RingWays.j0 k a1 a2 t103 t109 true l0_0)) else (substationlaw17_RingWays.j0 k a1 a2 t103 t109 true l0_0))))))))) else (some false)) = some r := H
 have A4 := Aside0.mk A40
 clear A40
 by_cases c5 : t102 = true
 ·subst c5
  have H1 : (if (l0_0.length : Int) > 100 then (some true) else ((ring_Reached.f l0_0 a1).bind fun t103 => ((substationlaw17_to.f l0_0).bind fun t106 => ((substationref17_Reached.f k t106 a1).bind fun t109 => ((ring_Check.f l0_0).bind fun t112 => ((substationlaw17_to.f l0_0).bind fun t113 => ((substationref17_Check.f t113).bind fun t116 => (if t112 = t116 then (if (t103.length : Int) = (t109.length : Int) then ((ring_Arrivals.f l0_0 a1).bind fun t117 => ((substationlaw17_to.f l0_0).bind fun t120 => ((substationref17_Arrivals.f k t120 a1).bind fun t123 => ((substationlaw17_same.f k t117 t123).bind fun t126 => (substationlaw17_RingWays.j0 k a1 a2 t103 t109 (!t126) l0_0))))) else (substationlaw17_RingWays.j0 k a1 a2 t103 t109 true l0_0)) else (substationlaw17_RingWays.j0 k a1 a2 t103 t109 true l0_0))))))))) = some r := by rw [if_pos rfl] at H; exact H
  clear H
  have H := H1
  clear H1
  by_cases c6 : (l0_0.length : Int) > 100
  ·rw [if_pos c6] at H
   have c6b0 : decide (100 < (l0_0.length : Int)) = true := decide_eq_true c6
   have c6b1 : decide (100 < l0_0.length) = true := decide_eq_true (by omega)
   clear c6
   obtain rfl := Option.some.inj H
   go_enter Try.func13, Try.ntmps13
   go_wp2_with (first | ((with_reducible refine gate_dst (N := 3) rfl ?_); (try (refine gate_guard (by rfl) ?_; dsimp only)); refine box_event ?hg (N := 3) ?hd (cs := #[.slice A0_0 l0_0.length c0_0]) (t := 67) ?hr ?_; (case hd => rfl); (case hg => rfl); (case hr => first | (go_simp; done) | (go_simp; rfl)); intro gb101 hg w7 hbox hb; have n0_ := Aside0.mk (below_step (by repeat (first | (with_reducible first | exact HB.out | apply below_alloc | apply pw_below_drewN | apply below_drew1) | exact HB.out)) hb); have n1_ := Aside0.mk (hbox); have n2_ := Aside0.mk ((by rw [hg]; exact (below_size (by repeat (first | (with_reducible first | exact HB.out | apply below_alloc | apply pw_below_drewN | apply below_drew1) | exact HB.out))) : w.heap.size ≤ gb101)); have n3_ := Aside0.mk ((by rw [hg]; exact (below_size (by repeat (first | (with_reducible first | exact HB.out | apply below_alloc | apply pw_below_drewN | apply below_drew1) | exact HB.out))) : w.heap.size ≤ gb101)); clear HB; have HB := n0_; have BK101 := n1_; have GW101 := n2_; have GE101 := n3_; clear n0_ n1_ n2_ n3_; clear hb hbox hg) | ((with_reducible refine gate_callee (f := 26) rfl ?_); refine goesL_ (some 15) rfl rfl Try.func26 (by kernel_rfl) rfl #[] rfl (by (try simp only [List.map_toArray, List.map_cons, List.map_nil]); first | done | rfl | (simp only [List.length_drop, List.length_take]; rfl)) ?_; (with_reducible refine (substationlaw17_known.calls  true _ A4.out).mono ?_); rintro e w8 ⟨rfl, hb⟩; refine ⟨_, rfl, ?_⟩; have n0_ := Aside0.mk (blk_below (g := gb101) (o := .cells #[.slice A0_0 l0_0.length c0_0] 67 (0, 0)) (by (with_reducible repeat (first | refine blk_drewN ?_ _ | refine blk_drew ?_ | refine blk_alloc ?_ _)); exact BK101.out) hb); have n1_ := Aside0.mk (below_step (by repeat (first | (with_reducible first | exact HB.out | apply below_alloc | apply pw_below_drewN | apply below_drew1 | refine below_set ?_ GE101.out) | exact HB.out)) hb); clear BK101; clear HB; have BK101 := n0_; have HB := n1_; clear n0_ n1_; (try clear hb); (try clear hb2); (try clear hk); (try clear hi); have hcz9_0 : w8.cell? ⟨gb101, 0, none⟩ = some (.slice A0_0 l0_0.length c0_0) := (blk_cell BK101.out 0).trans rfl; have hfz9_0 := blk_frozen BK101.out 0))
   go_ret
   exact ⟨by first | rfl | (simp [errW_none, errW_some] <;> rfl) | (simp [*, errW_none, errW_some] <;> rfl), by repeat (first | (with_reducible first | exact HB.out | apply below_alloc | apply pw_below_drewN | apply below_drew1 | refine below_set ?_ GE101.out) | exact HB.out)⟩
  ·rw [if_neg c6] at H
   have c6b0 : decide (100 < (l0_0.length : Int)) = false := decide_eq_false c6
   have c6b1 : decide (100 < l0_0.length) = false := decide_eq_false (by omega)
   clear c6
   replace H := Option.bind_eq_some_iff.mp H
   obtain ⟨t103, A100, H⟩ := H
   replace H : ((substationlaw17_to.f l0_0).bind fun t106 => ((substationref17_Reached.f k t106 a1).bind fun t109 => ((ring_Check.f l0_0).bind fun t112 => ((substationlaw17_to.f l0_0).bind fun t113 => ((substationref17_Check.f t113).bind fun t116 => (if t112 = t116 then (if (t103.length : Int) = (t109.length : Int) then ((ring_Arrivals.f l0_0 a1).bind fun t117 => ((substationlaw17_to.f l0_0).bind fun t120 => ((substationref17_Arrivals.f k t120 a1).bind fun t123 => ((substationlaw17_same.f k t117 t123).bind fun t126 => (substationlaw17_RingWays.j0 k a1 a2 t103 t109 (!t126) l0_0))))) else (substationlaw17_RingWays.j0 k a1 a2 t103 t109 true l0_0)) else (substationlaw17_RingWays.j0 k a1 a2 t103 t109 true l0_0))))))) = some r := H
   have A10 := Aside0.mk A100
   clear A100
   replace H := Option.bind_eq_some_iff.mp H
   obtain ⟨t106, A110, H⟩ := H
   replace H : ((substationref17_Reached.f k t106 a1).bind fun t109 => ((ring_Check.f l0_0).bind fun t112 => ((substationlaw17_to.f l0_0).bind fun t113 => ((substationref17_Check.f t113).bind fun t116 => (if t112 = t116 then (if (t103.length : Int) = (t109.length : Int) then ((ring_Arrivals.f l0_0 a1).bind fun t117 => ((substationlaw17_to.f l0_0).bind fun t120 => ((substationref17_Arrivals.f k t120 a1).bind fun t123 => ((substationlaw17_same.f k t117 t123).bind fun t126 => (substationlaw17_RingWays.j0 k a1 a2 t103 t109 (!t126) l0_0))))) else (substationlaw17_RingWays.j0 k a1 a2 t103 t109 true l0_0)) else (substationlaw17_RingWays.j0 k a1 a2 t103 t109 true l0_0)))))) = some r := H
   have A11 := Aside0.mk A110
   clear A110
   replace H := Option.bind_eq_some_iff.mp H
   obtain ⟨t109, A120, H⟩ := H
   replace H : ((ring_Check.f l0_0).bind fun t112 => ((substationlaw17_to.f l0_0).bind fun t113 => ((substationref17_Check.f t113).bind fun t116 => (if t112 = t116 then (if (t103.length : Int) = (t109.length : Int) then ((ring_Arrivals.f l0_0 a1).bind fun t117 => ((substationlaw17_to.f l0_0).bind fun t120 => ((substationref17_Arrivals.f k t120 a1).bind fun t123 => ((substationlaw17_same.f k t117 t123).bind fun t126 => (substationlaw17_RingWays.j0 k a1 a2 t103 t109 (!t126) l0_0))))) else (substationlaw17_RingWays.j0 k a1 a2 t103 t109 true l0_0)) else (substationlaw17_RingWays.j0 k a1 a2 t103 t109 true l0_0))))) = some r := H
   have A12 := Aside0.mk A120
   clear A120
   have HC13 := Aside0.mk H
   clear H
   go_enter Try.func13, Try.ntmps13
   try go_wp2_with (first | ((with_reducible refine gate_dst (N := 3) rfl ?_); (try (refine gate_guard (by rfl) ?_; dsimp only)); refine box_event ?hg (N := 3) ?hd (cs := #[.slice A0_0 l0_0.length c0_0]) (t := 67) ?hr ?_; (case hd => rfl); (case hg => rfl); (case hr => first | (go_simp; done) | (go_simp; rfl)); intro gb101 hg w14 hbox hb; have n0_ := Aside0.mk (below_step (by repeat (first | (with_reducible first | exact HB.out | apply below_alloc | apply pw_below_drewN | apply below_drew1) | exact HB.out)) hb); have n1_ := Aside0.mk (hbox); have n2_ := Aside0.mk ((by rw [hg]; exact (below_size (by repeat (first | (with_reducible first | exact HB.out | apply below_alloc | apply pw_below_drewN | apply below_drew1) | exact HB.out))) : w.heap.size ≤ gb101)); have n3_ := Aside0.mk ((by rw [hg]; exact (below_size (by repeat (first | (with_reducible first | exact HB.out | apply below_alloc | apply pw_below_drewN | apply below_drew1) | exact HB.out))) : w.heap.size ≤ gb101)); clear HB; have HB := n0_; have BK101 := n1_; have GW101 := n2_; have GE101 := n3_; clear n0_ n1_ n2_ n3_; clear hb hbox hg) | ((with_reducible refine gate_callee (f := 26) rfl ?_); refine goesL_ (some 15) rfl rfl Try.func26 (by kernel_rfl) rfl #[] rfl (by (try simp only [List.map_toArray, List.map_cons, List.map_nil]); first | done | rfl | (simp only [List.length_drop, List.length_take]; rfl)) ?_; (with_reducible refine (substationlaw17_known.calls  true _ A4.out).mono ?_); rintro e w15 ⟨rfl, hb⟩; refine ⟨_, rfl, ?_⟩; have n0_ := Aside0.mk (blk_below (g := gb101) (o := .cells #[.slice A0_0 l0_0.length c0_0] 67 (0, 0)) (by (with_reducible repeat (first | refine blk_drewN ?_ _ | refine blk_drew ?_ | refine blk_alloc ?_ _)); exact BK101.out) hb); have n1_ := Aside0.mk (below_step (by repeat (first | (with_reducible first | exact HB.out | apply below_alloc | apply pw_below_drewN | apply below_drew1 | refine below_set ?_ GE101.out) | exact HB.out)) hb); clear BK101; clear HB; have BK101 := n0_; have HB := n1_; clear n0_ n1_; (try clear hb); (try clear hb2); (try clear hk); (try clear hi); have hcz16_0 : w15.cell? ⟨gb101, 0, none⟩ = some (.slice A0_0 l0_0.length c0_0) := (blk_cell BK101.out 0).trans rfl; have hfz16_0 := blk_frozen BK101.out 0))
   have n0_ := Aside0.mk (blk_drew BK101.out)
   have n1_ := Aside0.mk (below_drew1 HB.out)
   clear BK101
   clear HB
   have BK101 := n0_
   have HB := n1_
   clear n0_ n1_
   refine start_ (n := 9) (S := fun w' => w'.cell? ⟨gb101, 0, none⟩ = some (.slice A0_0 l0_0.length c0_0)) (ds := []) #[false, false, false, false, false, false, false, false, false] (by kernel_rfl) rfl rfl ((blk_cell BK101.out 0).trans rfl) (fun hHeld => ?_); refine with_tabW substationlaw17_RingWays.tab5 substationlaw17_RingWays.bits5 (fun HT_ HW_ => ?_)
   generalize w15.drew = w17 at BK101 HB hHeld ⊢
   refine pure_ (i := 1) (N := some 22) (v := ?_) (a' := ?_) #[false, true, false, false, false, false, false, false, false] rfl rfl (any_of HT_.out (by kernel_rfl)) (fun _ _ _ h => h) (Or.inl ⟨by rfl, ?_⟩) ?_ ?_
   rotate_left
   ·intro w'
    go_simp
    with_reducible rfl
   rotate_left
   ·simp only [Act.put, List.setIfInBounds_toArray, List.set_cons_zero, List.set_cons_succ, i64_w, i32_w]
    rfl
   refine pure_ (i := 5) (N := some 26) (v := ?_) (a' := ?_) #[false, true, false, false, false, true, false, false, false] rfl rfl (any_of HT_.out (by kernel_rfl)) (fun _ _ _ h => h) (Or.inl ⟨by rfl, ?_⟩) ?_ ?_
   rotate_left
   ·intro w'
    go_simp
    with_reducible rfl
   rotate_left
   ·simp only [Act.put, List.setIfInBounds_toArray, List.set_cons_zero, List.set_cons_succ, i64_w, i32_w]
    rfl
   refine take_ (i := 0) (N := some 21) (v := ?_) (a' := ?_) #[true, true, false, false, false, true, false, false, false] rfl rfl (take_ofW HT_.out HW_.out (by kernel_rfl)) (fun _ _ _ h => h) (Or.inl ⟨by rfl, ?_⟩) hHeld ?_ ?_
   rotate_left
   ·intro w' s0
    go_simp
    with_reducible rfl
   rotate_left
   ·simp only [Act.put, List.setIfInBounds_toArray, List.set_cons_zero, List.set_cons_succ, i64_w, i32_w]
    rfl
   refine take_ (i := 3) (N := some 24) (v := ?_) (a' := ?_) #[true, true, false, true, false, true, false, false, false] rfl rfl (take_ofW HT_.out HW_.out (by kernel_rfl)) (fun _ _ _ h => h) (Or.inl ⟨by rfl, ?_⟩) hHeld ?_ ?_
   rotate_left
   ·intro w' s0
    go_simp
    with_reducible rfl
   rotate_left
   ·simp only [Act.put, List.setIfInBounds_toArray, List.set_cons_zero, List.set_cons_succ, i64_w, i32_w]
    rfl
   refine one_ (i := 2) (N := some 23) #[true, true, true, true, false, true, false, false, false] rfl rfl (one_of HT_.out (by kernel_rfl)) (by decide) (fun K hK => ?_)
   refine goes_ Try.func35 (by kernel_rfl) rfl #[.agg #[.slice A0_0 l0_0.length c0_0], .int .i64 a1] (by rfl) rfl rfl (by (try simp only [List.map_toArray, List.map_cons, List.map_nil]); first | done | rfl | (simp only [List.length_drop, List.length_take]; rfl)) ?_
   with_reducible refine (ring_Reached.calls _ _ l0_0 a1 t103 _ ?side1 ?side2 A10.out).mono ?_
   (case side1 => repeat (first | exact (Kd.C_below HR0_0.out HB.out) | (with_reducible refine Kd.C_alloc ?_ _) | (with_reducible refine Kd.C_drewN ?_ _) | (with_reducible refine Kd.C_drew ?_)))
   (case side2 => exact HC0_0.out)
   rintro e w18 ⟨v104, rfl, ho0, hb⟩
   refine ⟨_, rfl, ?_⟩
   have n0_ := Aside0.mk (Kd.R_lower ho0 (below_size (by repeat (first | (with_reducible first | exact HB.out | apply below_alloc | apply pw_below_drewN | apply below_drew1 | refine below_set ?_ GE101.out) | exact HB.out))))
   have n1_ := Aside0.mk (blk_below (g := gb101) (o := .cells #[.slice A0_0 l0_0.length c0_0] 67 (0, 0)) (by (with_reducible repeat (first | refine blk_drewN ?_ _ | refine blk_drew ?_ | refine blk_alloc ?_ _)); exact BK101.out) hb)
   have n2_ := Aside0.mk (below_step (by repeat (first | (with_reducible first | exact HB.out | apply below_alloc | apply pw_below_drewN | apply below_drew1 | refine below_set ?_ GE101.out) | exact HB.out)) hb)
   clear BK101
   clear HB
   have HO105 := n0_
   have BK101 := n1_
   have HB := n2_
   clear n0_ n1_ n2_
   (try clear hb)
   (try clear hb2)
   (try clear hk)
   (try clear hi)
   (try clear ho0)
   refine hK.out _ _ ((blk_cell BK101.out 0).trans rfl) (fun hHeld => ?_)
   clear hK K
   refine norm_ (a' := ?_) ?_ ?_
   rotate_left
   ·show Act.put _ (some 23) _ = _
    simp only [Act.put, List.setIfInBounds_toArray, List.set_cons_zero, List.set_cons_succ, i64_w, i32_w]
    rfl
   refine one_ (i := 4) (N := some 25) #[true, true, true, true, true, true, false, false, false] rfl rfl (one_of HT_.out (by kernel_rfl)) (by decide) (fun K hK => ?_)
   refine goes_ Try.func30 (by kernel_rfl) rfl #[.agg #[.slice A0_0 l0_0.length c0_0]] (by rfl) rfl rfl (by (try simp only [List.map_toArray, List.map_cons, List.map_nil]); first | done | rfl | (simp only [List.length_drop, List.length_take]; rfl)) ?_
   with_reducible refine (rg_to13 A0_0 l0_0.length c0_0 _).mono ?_
   rintro e w19 ⟨rfl, hb⟩
   refine ⟨_, rfl, ?_⟩
   have n0_ := Aside0.mk (Kd.R_below (by (with_reducible repeat (first | apply Kd.R_alloc | apply Kd.R_drewN | apply Kd.R_drew)); exact HO105.out) hb)
   have n1_ := Aside0.mk trivial
   have n2_ := Aside0.mk (blk_below (g := gb101) (o := .cells #[.slice A0_0 l0_0.length c0_0] 67 (0, 0)) (by (with_reducible repeat (first | refine blk_drewN ?_ _ | refine blk_drew ?_ | refine blk_alloc ?_ _)); exact BK101.out) hb)
   have n3_ := Aside0.mk (below_step (by repeat (first | (with_reducible first | exact HB.out | apply below_alloc | apply pw_below_drewN | apply below_drew1 | refine below_set ?_ GE101.out) | exact HB.out)) hb)
   clear HO105
   clear BK101
   clear HB
   have HO105 := n0_
   have HO108 := n1_
   have BK101 := n2_
   have HB := n3_
   clear n0_ n1_ n2_ n3_
   (try clear hb)
   (try clear hb2)
   (try clear hk)
   (try clear hi)
   (try clear ho0)
   have et_t106 : Aside0 (l0_0 = t106) := ⟨Option.some.inj A11.out⟩
   refine hK.out _ _ ((blk_cell BK101.out 0).trans rfl) (fun hHeld => ?_)
   clear hK K
   refine norm_ (a' := ?_) ?_ ?_
   rotate_left
   ·show Act.put _ (some 25) _ = _
    simp only [Act.put, List.setIfInBounds_toArray, List.set_cons_zero, List.set_cons_succ, i64_w, i32_w]
    rfl
   refine one_ (i := 6) (N := some 27) #[true, true, true, true, true, true, true, false, false] rfl rfl (one_of HT_.out (by kernel_rfl)) (by decide) (fun K hK => ?_)
   refine goes_ Try.func36 (by kernel_rfl) rfl #[.agg #[.slice A0_0 l0_0.length c0_0], .int .i64 a1] (by rfl) rfl rfl (by (try simp only [List.map_toArray, List.map_cons, List.map_nil]); first | done | rfl | (simp only [List.length_drop, List.length_take]; rfl)) ?_
   with_reducible refine (substationref17_Reached.calls k _ _ l0_0 a1 t109 _ ?side1 ?side2 (by have h_ := A12.out; rw [← et_t106.out] at h_; exact h_)).mono ?_
   (case side1 => repeat (first | exact (Kd.C_below HR0_0.out HB.out) | (with_reducible refine Kd.C_alloc ?_ _) | (with_reducible refine Kd.C_drewN ?_ _) | (with_reducible refine Kd.C_drew ?_)))
   (case side2 => exact HC0_0.out)
   rintro e w21 ⟨v110, rfl, ho0, hb⟩
   refine ⟨_, rfl, ?_⟩
   have n0_ := Aside0.mk (Kd.R_elder' (by (with_reducible repeat (first | apply Kd.R_alloc | apply Kd.R_drewN | apply Kd.R_drew)); exact HO105.out) (Kd.R_base ho0) hb)
   have n1_ := Aside0.mk trivial
   have n2_ := Aside0.mk (Kd.R_lower (Kd.R_new' ho0 (Kd.R_lt (by (with_reducible repeat (first | apply Kd.R_alloc | apply Kd.R_drewN | apply Kd.R_drew)); exact HO105.out))) (below_size (by repeat (first | (with_reducible first | exact HB.out | apply below_alloc | apply pw_below_drewN | apply below_drew1 | refine below_set ?_ GE101.out) | exact HB.out))))
   have n3_ := Aside0.mk (blk_below (g := gb101) (o := .cells #[.slice A0_0 l0_0.length c0_0] 67 (0, 0)) (by (with_reducible repeat (first | refine blk_drewN ?_ _ | refine blk_drew ?_ | refine blk_alloc ?_ _)); exact BK101.out) hb)
   have n4_ := Aside0.mk (below_step (by repeat (first | (with_reducible first | exact HB.out | apply below_alloc | apply pw_below_drewN | apply below_drew1 | refine below_set ?_ GE101.out) | exact HB.out)) hb)
   clear HO105
   clear HO108
   clear BK101
   clear HB
   have HO105 := n0_
   have HO108 := n1_
   have HO111 := n2_
   have BK101 := n3_
   have HB := n4_
   clear n0_ n1_ n2_ n3_ n4_
   (try clear hb)
   (try clear hb2)
   (try clear hk)
   (try clear hi)
   (try clear ho0)
   refine hK.out _ _ ((blk_cell BK101.out 0).trans rfl) (fun hHeld => ?_)
   clear hK K
   refine norm_ (a' := ?_) ?_ ?_
   rotate_left
   ·show Act.put _ (some 27) _ = _
    simp only [Act.put, List.setIfInBounds_toArray, List.set_cons_zero, List.set_cons_succ, i64_w, i32_w]
    rfl
   refine pure_ (i := 7) (N := some 7) (v := ?_) (a' := ?_) #[true, true, true, true, true, true, true, true, false] rfl rfl (any_of HT_.out (by kernel_rfl)) (fun _ _ _ h => h) (Or.inl ⟨by rfl, ?_⟩) ?_ ?_
   rotate_left
   ·intro w'
    go_simp
    with_reducible rfl
   rotate_left
   ·simp only [Act.put, List.setIfInBounds_toArray, List.set_cons_zero, List.set_cons_succ, i64_w, i32_w]
    rfl
   refine pure_ (i := 8) (N := some 8) (v := ?_) (a' := ?_) #[true, true, true, true, true, true, true, true, true] rfl rfl (any_of HT_.out (by kernel_rfl)) (fun _ _ _ h => h) (Or.inl ⟨by rfl, ?_⟩) ?_ ?_
   rotate_left
   ·intro w'
    go_simp
    with_reducible rfl
   rotate_left
   ·simp only [Act.put, List.setIfInBounds_toArray, List.set_cons_zero, List.set_cons_succ, i64_w, i32_w]
    rfl
   refine done_ (done_of HT_.out (by kernel_rfl)) ?_
   go_upto_region 6 with (fail)
   go_cut [51] (fun v51 wc => ∃ (kq : Nat) (x51_12 : Bool), v51 = .bool x51_12 ∧ Aside0 (substationlaw17_RingWays.j0 kq a1 a2 t103 t109 x51_12 l0_0 = some r) ∧ Aside0 (kq ≤ k) ∧ Aside0 (Kd.R Kd.bool 4 wc w.heap.size (fun k_ => some k_ ≠ (v110 : Value).ownBlock) v104 t103) ∧ Aside0 (Kd.R Kd.bool 4 wc w.heap.size (fun k_ => some k_ ≠ (v104 : Value).ownBlock) v110 t109) ∧ Aside0 (wc.heap[gb101]? = some (.cells #[(.slice A0_0 l0_0.length c0_0)] 67 (0, 0))) ∧ Aside0 (Below w.heap.size w wc))
   case first =>
    have H := HC13.out
    clear HC13
    replace H := Option.bind_eq_some_iff.mp H
    obtain ⟨t112, A220, H⟩ := H
    replace H : ((substationlaw17_to.f l0_0).bind fun t113 => ((substationref17_Check.f t113).bind fun t116 => (if t112 = t116 then (if (t103.length : Int) = (t109.length : Int) then ((ring_Arrivals.f l0_0 a1).bind fun t117 => ((substationlaw17_to.f l0_0).bind fun t120 => ((substationref17_Arrivals.f k t120 a1).bind fun t123 => ((substationlaw17_same.f k t117 t123).bind fun t126 => (substationlaw17_RingWays.j0 k a1 a2 t103 t109 (!t126) l0_0))))) else (substationlaw17_RingWays.j0 k a1 a2 t103 t109 true l0_0)) else (substationlaw17_RingWays.j0 k a1 a2 t103 t109 true l0_0)))) = some r := H
    have A22 := Aside0.mk A220
    clear A220
    replace H := Option.bind_eq_some_iff.mp H
    obtain ⟨t113, A230, H⟩ := H
    replace H : ((substationref17_Check.f t113).bind fun t116 => (if t112 = t116 then (if (t103.length : Int) = (t109.length : Int) then ((ring_Arrivals.f l0_0 a1).bind fun t117 => ((substationlaw17_to.f l0_0).bind fun t120 => ((substationref17_Arrivals.f k t120 a1).bind fun t123 => ((substationlaw17_same.f k t117 t123).bind fun t126 => (substationlaw17_RingWays.j0 k a1 a2 t103 t109 (!t126) l0_0))))) else (substationlaw17_RingWays.j0 k a1 a2 t103 t109 true l0_0)) else (substationlaw17_RingWays.j0 k a1 a2 t103 t109 true l0_0))) = some r := H
    have A23 := Aside0.mk A230
    clear A230
    replace H := Option.bind_eq_some_iff.mp H
    obtain ⟨t116, A240, H⟩ := H
    replace H : (if t112 = t116 then (if (t103.length : Int) = (t109.length : Int) then ((ring_Arrivals.f l0_0 a1).bind fun t117 => ((substationlaw17_to.f l0_0).bind fun t120 => ((substationref17_Arrivals.f k t120 a1).bind fun t123 => ((substationlaw17_same.f k t117 t123).bind fun t126 => (substationlaw17_RingWays.j0 k a1 a2 t103 t109 (!t126) l0_0))))) else (substationlaw17_RingWays.j0 k a1 a2 t103 t109 true l0_0)) else (substationlaw17_RingWays.j0 k a1 a2 t103 t109 true l0_0)) = some r := H
    have A24 := Aside0.mk A240
    clear A240
    by_cases c25 : t112 = t116
    ·rw [if_pos c25] at H
     have c25b0 : (t112 == t116) = true := beq_iff_eq.mpr c25
     have c25b1 : (t112 != t116) = false := bne_eq_false_iff_eq.mpr c25
     clear c25
     (first | rw [c25b0] | (simp only [i64_w, i32_w]; rw [c25b0]) | skip)
     by_cases c26 : (t103.length : Int) = (t109.length : Int)
     ·rw [if_pos c26] at H
      have c26b0 : ((t103.length : Int) == (t109.length : Int)) = true := beq_iff_eq.mpr c26
      have c26b1 : ((t103.length : Int) != (t109.length : Int)) = false := bne_eq_false_iff_eq.mpr c26
      have c26b2 : (t103.length == t109.length) = true := by first | simpa using c26 | (simp at c26 ⊢; omega)
      clear c26
      replace H := Option.bind_eq_some_iff.mp H
      obtain ⟨t117, A270, H⟩ := H
      replace H : ((substationlaw17_to.f l0_0).bind fun t120 => ((substationref17_Arrivals.f k t120 a1).bind fun t123 => ((substationlaw17_same.f k t117 t123).bind fun t126 => (substationlaw17_RingWays.j0 k a1 a2 t103 t109 (!t126) l0_0)))) = some r := H
      have A27 := Aside0.mk A270
      clear A270
      replace H := Option.bind_eq_some_iff.mp H
      obtain ⟨t120, A280, H⟩ := H
      replace H : ((substationref17_Arrivals.f k t120 a1).bind fun t123 => ((substationlaw17_same.f k t117 t123).bind fun t126 => (substationlaw17_RingWays.j0 k a1 a2 t103 t109 (!t126) l0_0))) = some r := H
      have A28 := Aside0.mk A280
      clear A280
      replace H := Option.bind_eq_some_iff.mp H
      obtain ⟨t123, A290, H⟩ := H
      replace H : ((substationlaw17_same.f k t117 t123).bind fun t126 => (substationlaw17_RingWays.j0 k a1 a2 t103 t109 (!t126) l0_0)) = some r := H
      have A29 := Aside0.mk A290
      clear A290
      replace H := Option.bind_eq_some_iff.mp H
      obtain ⟨t126, A300, H⟩ := H
      replace H : (substationlaw17_RingWays.j0 k a1 a2 t103 t109 (!t126) l0_0) = some r := H
      have A30 := Aside0.mk A300
      clear A300
      have H' := Aside0.mk H
      clear H
      try go_wp2
      have n0_ := Aside0.mk (Kd.R_drew HO105.out)
      have n1_ := Aside0.mk trivial
      have n2_ := Aside0.mk (Kd.R_drew HO111.out)
      have n3_ := Aside0.mk (blk_drew BK101.out)
      have n4_ := Aside0.mk (below_drew1 HB.out)
      clear HO105
      clear HO108
      clear HO111
      clear BK101
      clear HB
      have HO105 := n0_
      have HO108 := n1_
      have HO111 := n2_
      have BK101 := n3_
      have HB := n4_
      clear n0_ n1_ n2_ n3_ n4_
      refine start_ (n := 24) (S := fun w' => w'.cell? ⟨gb101, 0, none⟩ = some (.slice A0_0 l0_0.length c0_0)) (ds := []) #[false, false, false, false, false, false, false, false, false, false, false, false, false, false, false, false, false, false, false, false, false, false, false, false] (by kernel_rfl) rfl rfl ((blk_cell BK101.out 0).trans rfl) (fun hHeld => ?_); refine with_tabW substationlaw17_RingWays.tab6 substationlaw17_RingWays.bits6 (fun HT_ HW_ => ?_)
      generalize w21.drew = w31 at HO105 HO108 HO111 BK101 HB hHeld ⊢
      refine take_ (i := 0) (N := some 28) (v := ?_) (a' := ?_) #[true, false, false, false, false, false, false, false, false, false, false, false, false, false, false, false, false, false, false, false, false, false, false, false] rfl rfl (take_ofW HT_.out HW_.out (by kernel_rfl)) (fun _ _ _ h => h) (Or.inl ⟨by rfl, ?_⟩) hHeld ?_ ?_
      rotate_left
      ·intro w' s0
       go_simp
       with_reducible rfl
      rotate_left
      ·simp only [Act.put, List.setIfInBounds_toArray, List.set_cons_zero, List.set_cons_succ, i64_w, i32_w]
       rfl
      refine take_ (i := 2) (N := some 30) (v := ?_) (a' := ?_) #[true, false, true, false, false, false, false, false, false, false, false, false, false, false, false, false, false, false, false, false, false, false, false, false] rfl rfl (take_ofW HT_.out HW_.out (by kernel_rfl)) (fun _ _ _ h => h) (Or.inl ⟨by rfl, ?_⟩) hHeld ?_ ?_
      rotate_left
      ·intro w' s0
       go_simp
       with_reducible rfl
      rotate_left
      ·simp only [Act.put, List.setIfInBounds_toArray, List.set_cons_zero, List.set_cons_succ, i64_w, i32_w]
       rfl
      refine one_ (i := 1) (N := some 29) #[true, true, true, false, false, false, false, false, false, false, false, false, false, false, false, false, false, false, false, false, false, false, false, false] rfl rfl (one_of HT_.out (by kernel_rfl)) (by decide) (fun K hK => ?_)
      refine goes_ Try.func37 (by kernel_rfl) rfl #[.agg #[.slice A0_0 l0_0.length c0_0]] (by rfl) rfl rfl (by (try simp only [List.map_toArray, List.map_cons, List.map_nil]); first | done | rfl | (simp only [List.length_drop, List.length_take]; rfl)) ?_
      with_reducible refine (ring_Check.calls _ _ l0_0 t112 _ ?side1 ?side2 A22.out).mono ?_
      (case side1 => repeat (first | exact (Kd.C_below HR0_0.out HB.out) | (with_reducible refine Kd.C_alloc ?_ _) | (with_reducible refine Kd.C_drewN ?_ _) | (with_reducible refine Kd.C_drew ?_)))
      (case side2 => exact HC0_0.out)
      rintro e w32 ⟨rfl, hb⟩
      refine ⟨_, rfl, ?_⟩
      have n0_ := Aside0.mk (Kd.R_below (by (with_reducible repeat (first | apply Kd.R_alloc | apply Kd.R_drewN | apply Kd.R_drew)); exact HO105.out) hb)
      have n1_ := Aside0.mk trivial
      have n2_ := Aside0.mk (Kd.R_below (by (with_reducible repeat (first | apply Kd.R_alloc | apply Kd.R_drewN | apply Kd.R_drew)); exact HO111.out) hb)
      have n3_ := Aside0.mk (blk_below (g := gb101) (o := .cells #[.slice A0_0 l0_0.length c0_0] 67 (0, 0)) (by (with_reducible repeat (first | refine blk_drewN ?_ _ | refine blk_drew ?_ | refine blk_alloc ?_ _)); exact BK101.out) hb)
      have n4_ := Aside0.mk (below_step (by repeat (first | (with_reducible first | exact HB.out | apply below_alloc | apply pw_below_drewN | apply below_drew1 | refine below_set ?_ GE101.out) | exact HB.out)) hb)
      clear HO105
      clear HO108
      clear HO111
      clear BK101
      clear HB
      have HO105 := n0_
      have HO108 := n1_
      have HO111 := n2_
      have BK101 := n3_
      have HB := n4_
      clear n0_ n1_ n2_ n3_ n4_
      (try clear hb)
      (try clear hb2)
      (try clear hk)
      (try clear hi)
      refine hK.out _ _ ((blk_cell BK101.out 0).trans rfl) (fun hHeld => ?_)
      clear hK K
      refine norm_ (a' := ?_) ?_ ?_
      rotate_left
      ·show Act.put _ (some 29) _ = _
       simp only [Act.put, List.setIfInBounds_toArray, List.set_cons_zero, List.set_cons_succ, i64_w, i32_w]
       rfl
      refine one_ (i := 3) (N := some 31) #[true, true, true, true, false, false, false, false, false, false, false, false, false, false, false, false, false, false, false, false, false, false, false, false] rfl rfl (one_of HT_.out (by kernel_rfl)) (by decide) (fun K hK => ?_)
      refine goes_ Try.func30 (by kernel_rfl) rfl #[.agg #[.slice A0_0 l0_0.length c0_0]] (by rfl) rfl rfl (by (try simp only [List.map_toArray, List.map_cons, List.map_nil]); first | done | rfl | (simp only [List.length_drop, List.length_take]; rfl)) ?_
      with_reducible refine (rg_to13 A0_0 l0_0.length c0_0 _).mono ?_
      rintro e w33 ⟨rfl, hb⟩
      refine ⟨_, rfl, ?_⟩
      have n0_ := Aside0.mk (Kd.R_below (by (with_reducible repeat (first | apply Kd.R_alloc | apply Kd.R_drewN | apply Kd.R_drew)); exact HO105.out) hb)
      have n1_ := Aside0.mk trivial
      have n2_ := Aside0.mk (Kd.R_below (by (with_reducible repeat (first | apply Kd.R_alloc | apply Kd.R_drewN | apply Kd.R_drew)); exact HO111.out) hb)
      have n3_ := Aside0.mk trivial
      have n4_ := Aside0.mk (blk_below (g := gb101) (o := .cells #[.slice A0_0 l0_0.length c0_0] 67 (0, 0)) (by (with_reducible repeat (first | refine blk_drewN ?_ _ | refine blk_drew ?_ | refine blk_alloc ?_ _)); exact BK101.out) hb)
      have n5_ := Aside0.mk (below_step (by repeat (first | (with_reducible first | exact HB.out | apply below_alloc | apply pw_below_drewN | apply below_drew1 | refine below_set ?_ GE101.out) | exact HB.out)) hb)
      clear HO105
      clear HO108
      clear HO111
      clear BK101
      clear HB
      have HO105 := n0_
      have HO108 := n1_
      have HO111 := n2_
      have HO115 := n3_
      have BK101 := n4_
      have HB := n5_
      clear n0_ n1_ n2_ n3_ n4_ n5_
      (try clear hb)
      (try clear hb2)
      (try clear hk)
      (try clear hi)
      (try clear ho0)
      have et_t113 : Aside0 (l0_0 = t113) := ⟨Option.some.inj A23.out⟩
      refine hK.out _ _ ((blk_cell BK101.out 0).trans rfl) (fun hHeld => ?_)
      clear hK K
      refine norm_ (a' := ?_) ?_ ?_
      rotate_left
      ·show Act.put _ (some 31) _ = _
       simp only [Act.put, List.setIfInBounds_toArray, List.set_cons_zero, List.set_cons_succ, i64_w, i32_w]
       rfl
      refine one_ (i := 4) (N := some 32) #[true, true, true, true, true, false, false, false, false, false, false, false, false, false, false, false, false, false, false, false, false, false, false, false] rfl rfl (one_of HT_.out (by kernel_rfl)) (by decide) (fun K hK => ?_)
      refine goes_ Try.func38 (by kernel_rfl) rfl #[.agg #[.slice A0_0 l0_0.length c0_0]] (by rfl) rfl rfl (by (try simp only [List.map_toArray, List.map_cons, List.map_nil]); first | done | rfl | (simp only [List.length_drop, List.length_take]; rfl)) ?_
      with_reducible refine (substationref17_Check.calls _ _ l0_0 t116 _ ?side1 ?side2 (by have h_ := A24.out; rw [← et_t113.out] at h_; exact h_)).mono ?_
      (case side1 => repeat (first | exact (Kd.C_below HR0_0.out HB.out) | (with_reducible refine Kd.C_alloc ?_ _) | (with_reducible refine Kd.C_drewN ?_ _) | (with_reducible refine Kd.C_drew ?_)))
      (case side2 => exact HC0_0.out)
      rintro e w35 ⟨rfl, hb⟩
      refine ⟨_, rfl, ?_⟩
      have n0_ := Aside0.mk (Kd.R_below (by (with_reducible repeat (first | apply Kd.R_alloc | apply Kd.R_drewN | apply Kd.R_drew)); exact HO105.out) hb)
      have n1_ := Aside0.mk trivial
      have n2_ := Aside0.mk (Kd.R_below (by (with_reducible repeat (first | apply Kd.R_alloc | apply Kd.R_drewN | apply Kd.R_drew)); exact HO111.out) hb)
      have n3_ := Aside0.mk trivial
      have n4_ := Aside0.mk (blk_below (g := gb101) (o := .cells #[.slice A0_0 l0_0.length c0_0] 67 (0, 0)) (by (with_reducible repeat (first | refine blk_drewN ?_ _ | refine blk_drew ?_ | refine blk_alloc ?_ _)); exact BK101.out) hb)
      have n5_ := Aside0.mk (below_step (by repeat (first | (with_reducible first | exact HB.out | apply below_alloc | apply pw_below_drewN | apply below_drew1 | refine below_set ?_ GE101.out) | exact HB.out)) hb)
      clear HO105
      clear HO108
      clear HO111
      clear HO115
      clear BK101
      clear HB
      have HO105 := n0_
      have HO108 := n1_
      have HO111 := n2_
      have HO115 := n3_
      have BK101 := n4_
      have HB := n5_
      clear n0_ n1_ n2_ n3_ n4_ n5_
      (try clear hb)
      (try clear hb2)
      (try clear hk)
      (try clear hi)
      obtain ⟨Ao36, co36, eo36⟩ := Kd.R_slice HO105.out
      (first | subst eo36 | (injection eo36 with f1_ f2_ f3_; have f4_ := f1_.symm; have f5_ := f3_.symm; clear f1_ f2_ f3_; subst f4_; subst f5_))
      obtain ⟨Ao37, co37, eo37⟩ := Kd.R_slice HO111.out
      (first | subst eo37 | (injection eo37 with f1_ f2_ f3_; have f4_ := f1_.symm; have f5_ := f3_.symm; clear f1_ f2_ f3_; subst f4_; subst f5_))
      refine hK.out _ _ ((blk_cell BK101.out 0).trans rfl) (fun hHeld => ?_)
      clear hK K
      refine norm_ (a' := ?_) ?_ ?_
      rotate_left
      ·show Act.put _ (some 32) _ = _
       simp only [Act.put, List.setIfInBounds_toArray, List.set_cons_zero, List.set_cons_succ, i64_w, i32_w]
       rfl
      refine pure_ (i := 5) (N := some 33) (v := ?_) (a' := ?_) #[true, true, true, true, true, true, false, false, false, false, false, false, false, false, false, false, false, false, false, false, false, false, false, false] rfl rfl (any_of HT_.out (by kernel_rfl)) (fun _ _ _ h => h) (Or.inl ⟨by rfl, ?_⟩) ?_ ?_
      rotate_left
      ·intro w'
       go_simp
       with_reducible rfl
      rotate_left
      ·simp only [Act.put, List.setIfInBounds_toArray, List.set_cons_zero, List.set_cons_succ, i64_w, i32_w]
       rfl
      refine pure_ (i := 6) (N := some 34) (v := ?_) (a' := ?_) #[true, true, true, true, true, true, true, false, false, false, false, false, false, false, false, false, false, false, false, false, false, false, false, false] rfl rfl (any_of HT_.out (by kernel_rfl)) (fun _ _ _ h => h) (Or.inl ⟨by rfl, ?_⟩) ?_ ?_
      rotate_left
      ·intro w'
       go_simp
       with_reducible rfl
      rotate_left
      ·simp only [Act.put, List.setIfInBounds_toArray, List.set_cons_zero, List.set_cons_succ, i64_w, i32_w]
       rfl
      refine pure_ (i := 7) (N := some 35) (v := ?_) (a' := ?_) #[true, true, true, true, true, true, true, true, false, false, false, false, false, false, false, false, false, false, false, false, false, false, false, false] rfl rfl (any_of HT_.out (by kernel_rfl)) (fun _ _ _ h => h) (Or.inl ⟨by rfl, ?_⟩) ?_ ?_
      rotate_left
      ·intro w'
       go_simp
       with_reducible rfl
      rotate_left
      ·simp only [Act.put, List.setIfInBounds_toArray, List.set_cons_zero, List.set_cons_succ, i64_w, i32_w]
       rfl
      refine pure_ (i := 8) (N := some 36) (v := ?_) (a' := ?_) #[true, true, true, true, true, true, true, true, true, false, false, false, false, false, false, false, false, false, false, false, false, false, false, false] rfl rfl (any_of HT_.out (by kernel_rfl)) (fun _ _ _ h => h) (Or.inl ⟨by rfl, ?_⟩) ?_ ?_
      rotate_left
      ·intro w'
       go_simp
       with_reducible rfl
      rotate_left
      ·simp only [Act.put, List.setIfInBounds_toArray, List.set_cons_zero, List.set_cons_succ, i64_w, i32_w]
       rfl
      refine pure_ (i := 9) (N := some 37) (v := ?_) (a' := ?_) #[true, true, true, true, true, true, true, true, true, true, false, false, false, false, false, false, false, false, false, false, false, false, false, false] rfl rfl (any_of HT_.out (by kernel_rfl)) (fun _ _ _ h => h) (Or.inl ⟨by rfl, ?_⟩) ?_ ?_
      rotate_left
      ·intro w'
       go_simp
       with_reducible rfl
      rotate_left
      ·simp only [Act.put, List.setIfInBounds_toArray, List.set_cons_zero, List.set_cons_succ, i64_w, i32_w]
       rfl
      refine pure_ (i := 10) (N := some 38) (v := ?_) (a' := ?_) #[true, true, true, true, true, true, true, true, true, true, true, false, false, false, false, false, false, false, false, false, false, false, false, false] rfl rfl (any_of HT_.out (by kernel_rfl)) (fun _ _ _ h => h) (Or.inl ⟨by rfl, ?_⟩) ?_ ?_
      rotate_left
      ·intro w'
       go_simp
       with_reducible rfl
      rotate_left
      ·simp only [Act.put, List.setIfInBounds_toArray, List.set_cons_zero, List.set_cons_succ, i64_w, i32_w]
       rfl
      refine pure_ (i := 11) (N := some 39) (v := ?_) (a' := ?_) #[true, true, true, true, true, true, true, true, true, true, true, true, false, false, false, false, false, false, false, false, false, false, false, false] rfl rfl (any_of HT_.out (by kernel_rfl)) (fun _ _ _ h => h) (Or.inl ⟨by rfl, ?_⟩) ?_ ?_
      rotate_left
      ·intro w'
       go_simp
       with_reducible rfl
      rotate_left
      ·simp only [Act.put, List.setIfInBounds_toArray, List.set_cons_zero, List.set_cons_succ, i64_w, i32_w]
       rfl
      refine pure_ (i := 12) (N := some 40) (v := ?_) (a' := ?_) #[true, true, true, true, true, true, true, true, true, true, true, true, true, false, false, false, false, false, false, false, false, false, false, false] rfl rfl (any_of HT_.out (by kernel_rfl)) (fun _ _ _ h => h) (Or.inl ⟨by rfl, ?_⟩) ?_ ?_
      rotate_left
      ·intro w'
       go_simp
       with_reducible rfl
      rotate_left
      ·simp only [Act.put, List.setIfInBounds_toArray, List.set_cons_zero, List.set_cons_succ, i64_w, i32_w]
       rfl
      refine pure_ (i := 13) (N := some 41) (v := ?_) (a' := ?_) #[true, true, true, true, true, true, true, true, true, true, true, true, true, true, false, false, false, false, false, false, false, false, false, false] rfl rfl (any_of HT_.out (by kernel_rfl)) (fun _ _ _ h => h) (Or.inl ⟨by rfl, ?_⟩) ?_ ?_
      rotate_left
      ·intro w'
       go_simp
       with_reducible rfl
      rotate_left
      ·simp only [Act.put, List.setIfInBounds_toArray, List.set_cons_zero, List.set_cons_succ, i64_w, i32_w]
       rfl
      refine pure_ (i := 15) (N := some 43) (v := ?_) (a' := ?_) #[true, true, true, true, true, true, true, true, true, true, true, true, true, true, false, true, false, false, false, false, false, false, false, false] rfl rfl (any_of HT_.out (by kernel_rfl)) (fun _ _ _ h => h) (Or.inl ⟨by rfl, ?_⟩) ?_ ?_
      rotate_left
      ·intro w'
       go_simp
       with_reducible rfl
      rotate_left
      ·simp only [Act.put, List.setIfInBounds_toArray, List.set_cons_zero, List.set_cons_succ, i64_w, i32_w]
       rfl
      refine pure_ (i := 19) (N := some 47) (v := ?_) (a' := ?_) #[true, true, true, true, true, true, true, true, true, true, true, true, true, true, false, true, false, false, false, true, false, false, false, false] rfl rfl (any_of HT_.out (by kernel_rfl)) (fun _ _ _ h => h) (Or.inl ⟨by rfl, ?_⟩) ?_ ?_
      rotate_left
      ·intro w'
       go_simp
       with_reducible rfl
      rotate_left
      ·simp only [Act.put, List.setIfInBounds_toArray, List.set_cons_zero, List.set_cons_succ, i64_w, i32_w]
       rfl
      refine take_ (i := 14) (N := some 42) (v := ?_) (a' := ?_) #[true, true, true, true, true, true, true, true, true, true, true, true, true, true, true, true, false, false, false, true, false, false, false, false] rfl rfl (take_ofW HT_.out HW_.out (by kernel_rfl)) (fun _ _ _ h => h) (Or.inl ⟨by rfl, ?_⟩) hHeld ?_ ?_
      rotate_left
      ·intro w' s0
       go_simp
       with_reducible rfl
      rotate_left
      ·simp only [Act.put, List.setIfInBounds_toArray, List.set_cons_zero, List.set_cons_succ, i64_w, i32_w]
       rfl
      refine take_ (i := 17) (N := some 45) (v := ?_) (a' := ?_) #[true, true, true, true, true, true, true, true, true, true, true, true, true, true, true, true, false, true, false, true, false, false, false, false] rfl rfl (take_ofW HT_.out HW_.out (by kernel_rfl)) (fun _ _ _ h => h) (Or.inl ⟨by rfl, ?_⟩) hHeld ?_ ?_
      rotate_left
      ·intro w' s0
       go_simp
       with_reducible rfl
      rotate_left
      ·simp only [Act.put, List.setIfInBounds_toArray, List.set_cons_zero, List.set_cons_succ, i64_w, i32_w]
       rfl
      refine one_ (i := 16) (N := some 44) #[true, true, true, true, true, true, true, true, true, true, true, true, true, true, true, true, true, true, false, true, false, false, false, false] rfl rfl (one_of HT_.out (by kernel_rfl)) (by decide) (fun K hK => ?_)
      refine goes_ Try.func32 (by kernel_rfl) rfl #[.agg #[.slice A0_0 l0_0.length c0_0], .int .i64 a1] (by rfl) rfl rfl (by (try simp only [List.map_toArray, List.map_cons, List.map_nil]); first | done | rfl | (simp only [List.length_drop, List.length_take]; rfl)) ?_
      with_reducible refine (ring_Arrivals.calls _ _ l0_0 a1 t117 _ ?side1 ?side2 A27.out).mono ?_
      (case side1 => repeat (first | exact (Kd.C_below HR0_0.out HB.out) | (with_reducible refine Kd.C_alloc ?_ _) | (with_reducible refine Kd.C_drewN ?_ _) | (with_reducible refine Kd.C_drew ?_)))
      (case side2 => exact HC0_0.out)
      rintro e w38 ⟨v118, rfl, ho0, hb⟩
      refine ⟨_, rfl, ?_⟩
      have n0_ := Aside0.mk (Kd.R_below (by (with_reducible repeat (first | apply Kd.R_alloc | apply Kd.R_drewN | apply Kd.R_drew)); exact HO105.out) hb)
      have n1_ := Aside0.mk trivial
      have n2_ := Aside0.mk (Kd.R_below (by (with_reducible repeat (first | apply Kd.R_alloc | apply Kd.R_drewN | apply Kd.R_drew)); exact HO111.out) hb)
      have n3_ := Aside0.mk trivial
      have n4_ := Aside0.mk (Kd.R_lower ho0 (below_size (by repeat (first | (with_reducible first | exact HB.out | apply below_alloc | apply pw_below_drewN | apply below_drew1 | refine below_set ?_ GE101.out) | exact HB.out))))
      have n5_ := Aside0.mk (blk_below (g := gb101) (o := .cells #[.slice A0_0 l0_0.length c0_0] 67 (0, 0)) (by (with_reducible repeat (first | refine blk_drewN ?_ _ | refine blk_drew ?_ | refine blk_alloc ?_ _)); exact BK101.out) hb)
      have n6_ := Aside0.mk (below_step (by repeat (first | (with_reducible first | exact HB.out | apply below_alloc | apply pw_below_drewN | apply below_drew1 | refine below_set ?_ GE101.out) | exact HB.out)) hb)
      clear HO105
      clear HO108
      clear HO111
      clear HO115
      clear BK101
      clear HB
      have HO105 := n0_
      have HO108 := n1_
      have HO111 := n2_
      have HO115 := n3_
      have HO119 := n4_
      have BK101 := n5_
      have HB := n6_
      clear n0_ n1_ n2_ n3_ n4_ n5_ n6_
      (try clear hb)
      (try clear hb2)
      (try clear hk)
      (try clear hi)
      (try clear ho0)
      refine hK.out _ _ ((blk_cell BK101.out 0).trans rfl) (fun hHeld => ?_)
      clear hK K
      refine norm_ (a' := ?_) ?_ ?_
      rotate_left
      ·show Act.put _ (some 44) _ = _
       simp only [Act.put, List.setIfInBounds_toArray, List.set_cons_zero, List.set_cons_succ, i64_w, i32_w]
       rfl
      refine one_ (i := 18) (N := some 46) #[true, true, true, true, true, true, true, true, true, true, true, true, true, true, true, true, true, true, true, true, false, false, false, false] rfl rfl (one_of HT_.out (by kernel_rfl)) (by decide) (fun K hK => ?_)
      refine goes_ Try.func30 (by kernel_rfl) rfl #[.agg #[.slice A0_0 l0_0.length c0_0]] (by rfl) rfl rfl (by (try simp only [List.map_toArray, List.map_cons, List.map_nil]); first | done | rfl | (simp only [List.length_drop, List.length_take]; rfl)) ?_
      with_reducible refine (rg_to13 A0_0 l0_0.length c0_0 _).mono ?_
      rintro e w39 ⟨rfl, hb⟩
      refine ⟨_, rfl, ?_⟩
      have n0_ := Aside0.mk (Kd.R_below (by (with_reducible repeat (first | apply Kd.R_alloc | apply Kd.R_drewN | apply Kd.R_drew)); exact HO105.out) hb)
      have n1_ := Aside0.mk trivial
      have n2_ := Aside0.mk (Kd.R_below (by (with_reducible repeat (first | apply Kd.R_alloc | apply Kd.R_drewN | apply Kd.R_drew)); exact HO111.out) hb)
      have n3_ := Aside0.mk trivial
      have n4_ := Aside0.mk (Kd.R_below (by (with_reducible repeat (first | apply Kd.R_alloc | apply Kd.R_drewN | apply Kd.R_drew)); exact HO119.out) hb)
      have n5_ := Aside0.mk trivial
      have n6_ := Aside0.mk (blk_below (g := gb101) (o := .cells #[.slice A0_0 l0_0.length c0_0] 67 (0, 0)) (by (with_reducible repeat (first | refine blk_drewN ?_ _ | refine blk_drew ?_ | refine blk_alloc ?_ _)); exact BK101.out) hb)
      have n7_ := Aside0.mk (below_step (by repeat (first | (with_reducible first | exact HB.out | apply below_alloc | apply pw_below_drewN | apply below_drew1 | refine below_set ?_ GE101.out) | exact HB.out)) hb)
      clear HO105
      clear HO108
      clear HO111
      clear HO115
      clear HO119
      clear BK101
      clear HB
      have HO105 := n0_
      have HO108 := n1_
      have HO111 := n2_
      have HO115 := n3_
      have HO119 := n4_
      have HO122 := n5_
      have BK101 := n6_
      have HB := n7_
      clear n0_ n1_ n2_ n3_ n4_ n5_ n6_ n7_
      (try clear hb)
      (try clear hb2)
      (try clear hk)
      (try clear hi)
      (try clear ho0)
      have et_t120 : Aside0 (l0_0 = t120) := ⟨Option.some.inj A28.out⟩
      refine hK.out _ _ ((blk_cell BK101.out 0).trans rfl) (fun hHeld => ?_)
      clear hK K
      refine norm_ (a' := ?_) ?_ ?_
      rotate_left
      ·show Act.put _ (some 46) _ = _
       simp only [Act.put, List.setIfInBounds_toArray, List.set_cons_zero, List.set_cons_succ, i64_w, i32_w]
       rfl
      refine one_ (i := 20) (N := some 48) #[true, true, true, true, true, true, true, true, true, true, true, true, true, true, true, true, true, true, true, true, true, false, false, false] rfl rfl (one_of HT_.out (by kernel_rfl)) (by decide) (fun K hK => ?_)
      refine goes_ Try.func39 (by kernel_rfl) rfl #[.agg #[.slice A0_0 l0_0.length c0_0], .int .i64 a1] (by rfl) rfl rfl (by (try simp only [List.map_toArray, List.map_cons, List.map_nil]); first | done | rfl | (simp only [List.length_drop, List.length_take]; rfl)) ?_
      with_reducible refine (substationref17_Arrivals.calls k _ _ l0_0 a1 t123 _ ?side1 ?side2 (by have h_ := A29.out; rw [← et_t120.out] at h_; exact h_)).mono ?_
      (case side1 => repeat (first | exact (Kd.C_below HR0_0.out HB.out) | (with_reducible refine Kd.C_alloc ?_ _) | (with_reducible refine Kd.C_drewN ?_ _) | (with_reducible refine Kd.C_drew ?_)))
      (case side2 => exact HC0_0.out)
      rintro e w41 ⟨v124, rfl, ho0, hb⟩
      refine ⟨_, rfl, ?_⟩
      have n0_ := Aside0.mk (Kd.R_below (by (with_reducible repeat (first | apply Kd.R_alloc | apply Kd.R_drewN | apply Kd.R_drew)); exact HO105.out) hb)
      have n1_ := Aside0.mk trivial
      have n2_ := Aside0.mk (Kd.R_below (by (with_reducible repeat (first | apply Kd.R_alloc | apply Kd.R_drewN | apply Kd.R_drew)); exact HO111.out) hb)
      have n3_ := Aside0.mk trivial
      have n4_ := Aside0.mk (Kd.R_below (by (with_reducible repeat (first | apply Kd.R_alloc | apply Kd.R_drewN | apply Kd.R_drew)); exact HO119.out) hb)
      have n5_ := Aside0.mk trivial
      have n6_ := Aside0.mk (Kd.R_lower ho0 (below_size (by repeat (first | (with_reducible first | exact HB.out | apply below_alloc | apply pw_below_drewN | apply below_drew1 | refine below_set ?_ GE101.out) | exact HB.out))))
      have n7_ := Aside0.mk (blk_below (g := gb101) (o := .cells #[.slice A0_0 l0_0.length c0_0] 67 (0, 0)) (by (with_reducible repeat (first | refine blk_drewN ?_ _ | refine blk_drew ?_ | refine blk_alloc ?_ _)); exact BK101.out) hb)
      have n8_ := Aside0.mk (below_step (by repeat (first | (with_reducible first | exact HB.out | apply below_alloc | apply pw_below_drewN | apply below_drew1 | refine below_set ?_ GE101.out) | exact HB.out)) hb)
      clear HO105
      clear HO108
      clear HO111
      clear HO115
      clear HO119
      clear HO122
      clear BK101
      clear HB
      have HO105 := n0_
      have HO108 := n1_
      have HO111 := n2_
      have HO115 := n3_
      have HO119 := n4_
      have HO122 := n5_
      have HO125 := n6_
      have BK101 := n7_
      have HB := n8_
      clear n0_ n1_ n2_ n3_ n4_ n5_ n6_ n7_ n8_
      (try clear hb)
      (try clear hb2)
      (try clear hk)
      (try clear hi)
      (try clear ho0)
      obtain ⟨Ao42, co42, eo42⟩ := Kd.R_slice HO119.out
      (first | subst eo42 | (injection eo42 with f1_ f2_ f3_; have f4_ := f1_.symm; have f5_ := f3_.symm; clear f1_ f2_ f3_; subst f4_; subst f5_))
      obtain ⟨Ao43, co43, eo43⟩ := Kd.R_slice HO125.out
      (first | subst eo43 | (injection eo43 with f1_ f2_ f3_; have f4_ := f1_.symm; have f5_ := f3_.symm; clear f1_ f2_ f3_; subst f4_; subst f5_))
      refine hK.out _ _ ((blk_cell BK101.out 0).trans rfl) (fun hHeld => ?_)
      clear hK K
      refine norm_ (a' := ?_) ?_ ?_
      rotate_left
      ·show Act.put _ (some 48) _ = _
       simp only [Act.put, List.setIfInBounds_toArray, List.set_cons_zero, List.set_cons_succ, i64_w, i32_w]
       rfl
      refine one_ (i := 21) (N := some 49) #[true, true, true, true, true, true, true, true, true, true, true, true, true, true, true, true, true, true, true, true, true, true, false, false] rfl rfl (one_of HT_.out (by kernel_rfl)) (by decide) (fun K hK => ?_)
      refine goes_ Try.func27 (by kernel_rfl) rfl #[.slice Ao42 t117.length co42, .slice Ao43 t123.length co43] (by rfl) rfl rfl (by (try simp only [List.map_toArray, List.map_cons, List.map_nil]); first | done | rfl | (simp only [List.length_drop, List.length_take]; rfl)) ?_
      with_reducible refine (substationlaw17_same.calls k _ _ t117 _ _ t123 t126 _ ?side1 ?side2 ?side3 ?side4 A30.out).mono ?_
      (case side1 => repeat (first | exact (Kd.R_reads' HO119.out).2.2 | (with_reducible refine Kd.C_alloc ?_ _) | (with_reducible refine Kd.C_drewN ?_ _) | (with_reducible refine Kd.C_drew ?_)))
      (case side2 => exact (Kd.R_reads' HO119.out).2.1)
      (case side3 => repeat (first | exact (Kd.R_reads' HO125.out).2.2 | (with_reducible refine Kd.C_alloc ?_ _) | (with_reducible refine Kd.C_drewN ?_ _) | (with_reducible refine Kd.C_drew ?_)))
      (case side4 => exact (Kd.R_reads' HO125.out).2.1)
      rintro e w' ⟨rfl, ⟨nd, rfl⟩⟩
      refine ⟨_, rfl, ?_⟩
      refine hK.out _ _ ((blk_cell BK101.out 0).trans rfl) (fun hHeld => ?_)
      clear hK K
      refine norm_ (a' := ?_) ?_ ?_
      rotate_left
      ·show Act.put _ (some 49) _ = _
       simp only [Act.put, List.setIfInBounds_toArray, List.set_cons_zero, List.set_cons_succ, i64_w, i32_w]
       rfl
      refine pure_ (i := 22) (N := some 50) (v := ?_) (a' := ?_) #[true, true, true, true, true, true, true, true, true, true, true, true, true, true, true, true, true, true, true, true, true, true, true, false] rfl rfl (any_of HT_.out (by kernel_rfl)) (fun _ _ _ h => h) (Or.inl ⟨by rfl, ?_⟩) ?_ ?_
      rotate_left
      ·intro w'
       go_simp
       with_reducible rfl
      rotate_left
      ·simp only [Act.put, List.setIfInBounds_toArray, List.set_cons_zero, List.set_cons_succ, i64_w, i32_w]
       rfl
      refine pure_ (i := 23) (N := some 51) (v := ?_) (a' := ?_) #[true, true, true, true, true, true, true, true, true, true, true, true, true, true, true, true, true, true, true, true, true, true, true, true] rfl rfl (any_of HT_.out (by kernel_rfl)) (fun _ _ _ h => h) (Or.inl ⟨by rfl, ?_⟩) ?_ ?_
      rotate_left
      ·intro w'
       go_simp
       with_reducible rfl
      rotate_left
      ·simp only [Act.put, List.setIfInBounds_toArray, List.set_cons_zero, List.set_cons_succ, i64_w, i32_w]
       rfl
      refine done_ (done_of HT_.out (by kernel_rfl)) ?_
      try go_wp2
      go_meet
      case rel => exact ⟨_, (!t126), (by first | rfl | (simp; done) | (simp [*]; done) | (simp; omega)), H', ⟨by first | omega | exact Nat.le_refl _⟩, ⟨by (with_reducible repeat (first | apply Kd.R_alloc | apply Kd.R_drewN | apply Kd.R_drew)); (first | exact HO105.out | exact Kd.R_mono HO105.out (fun _ _ => trivial) | exact Kd.R_mono HO105.out (fun _ hk => hk.2) | exact Kd.R_mono HO105.out (fun _ hk => hk.1) | exact Kd.R_mono HO105.out (fun _ hk => hk.1.2) | exact Kd.R_mono HO105.out (fun _ hk => hk.1.1) | exact Kd.R_mono HO105.out (fun _ hk => hk.1.1.2) | exact Kd.R_mono HO105.out (fun _ hk => hk.1.1.1) | exact Kd.R_mono HO105.out (fun _ hk => hk.1.1.1.2))⟩, ⟨by (with_reducible repeat (first | apply Kd.R_alloc | apply Kd.R_drewN | apply Kd.R_drew)); (first | exact HO111.out | exact Kd.R_mono HO111.out (fun _ _ => trivial) | exact Kd.R_mono HO111.out (fun _ hk => hk.2) | exact Kd.R_mono HO111.out (fun _ hk => hk.1) | exact Kd.R_mono HO111.out (fun _ hk => hk.1.2) | exact Kd.R_mono HO111.out (fun _ hk => hk.1.1) | exact Kd.R_mono HO111.out (fun _ hk => hk.1.1.2) | exact Kd.R_mono HO111.out (fun _ hk => hk.1.1.1) | exact Kd.R_mono HO111.out (fun _ hk => hk.1.1.1.2))⟩, ⟨by (with_reducible repeat (first | refine blk_drewN ?_ _ | refine blk_drew ?_ | refine blk_alloc ?_ _)); exact BK101.out⟩, ⟨by repeat (first | (with_reducible first | exact HB.out | apply below_alloc | apply pw_below_drewN | apply below_drew1 | refine below_set ?_ GE101.out) | exact HB.out)⟩⟩
     ·rw [if_neg c26] at H
      have c26b0 : ((t103.length : Int) == (t109.length : Int)) = false := beq_eq_false_iff_ne.mpr c26
      have c26b1 : ((t103.length : Int) != (t109.length : Int)) = true := bne_iff_ne.mpr c26
      have c26b2 : (t103.length == t109.length) = false := by first | simpa using c26 | (simp at c26 ⊢; omega)
      have H' := Aside0.mk H
      clear H
      try go_wp2
      have n0_ := Aside0.mk (Kd.R_drew HO105.out)
      have n1_ := Aside0.mk trivial
      have n2_ := Aside0.mk (Kd.R_drew HO111.out)
      have n3_ := Aside0.mk (blk_drew BK101.out)
      have n4_ := Aside0.mk (below_drew1 HB.out)
      clear HO105
      clear HO108
      clear HO111
      clear BK101
      clear HB
      have HO105 := n0_
      have HO108 := n1_
      have HO111 := n2_
      have BK101 := n3_
      have HB := n4_
      clear n0_ n1_ n2_ n3_ n4_
      refine start_ (n := 24) (S := fun w' => w'.cell? ⟨gb101, 0, none⟩ = some (.slice A0_0 l0_0.length c0_0)) (ds := []) #[false, false, false, false, false, false, false, false, false, false, false, false, false, false, false, false, false, false, false, false, false, false, false, false] (by kernel_rfl) rfl rfl ((blk_cell BK101.out 0).trans rfl) (fun hHeld => ?_); refine with_tabW substationlaw17_RingWays.tab6 substationlaw17_RingWays.bits6 (fun HT_ HW_ => ?_)
      generalize w21.drew = w44 at HO105 HO108 HO111 BK101 HB hHeld ⊢
      refine take_ (i := 0) (N := some 28) (v := ?_) (a' := ?_) #[true, false, false, false, false, false, false, false, false, false, false, false, false, false, false, false, false, false, false, false, false, false, false, false] rfl rfl (take_ofW HT_.out HW_.out (by kernel_rfl)) (fun _ _ _ h => h) (Or.inl ⟨by rfl, ?_⟩) hHeld ?_ ?_
      rotate_left
      ·intro w' s0
       go_simp
       with_reducible rfl
      rotate_left
      ·simp only [Act.put, List.setIfInBounds_toArray, List.set_cons_zero, List.set_cons_succ, i64_w, i32_w]
       rfl
      refine take_ (i := 2) (N := some 30) (v := ?_) (a' := ?_) #[true, false, true, false, false, false, false, false, false, false, false, false, false, false, false, false, false, false, false, false, false, false, false, false] rfl rfl (take_ofW HT_.out HW_.out (by kernel_rfl)) (fun _ _ _ h => h) (Or.inl ⟨by rfl, ?_⟩) hHeld ?_ ?_
      rotate_left
      ·intro w' s0
       go_simp
       with_reducible rfl
      rotate_left
      ·simp only [Act.put, List.setIfInBounds_toArray, List.set_cons_zero, List.set_cons_succ, i64_w, i32_w]
       rfl
      refine one_ (i := 1) (N := some 29) #[true, true, true, false, false, false, false, false, false, false, false, false, false, false, false, false, false, false, false, false, false, false, false, false] rfl rfl (one_of HT_.out (by kernel_rfl)) (by decide) (fun K hK => ?_)
      refine goes_ Try.func37 (by kernel_rfl) rfl #[.agg #[.slice A0_0 l0_0.length c0_0]] (by rfl) rfl rfl (by (try simp only [List.map_toArray, List.map_cons, List.map_nil]); first | done | rfl | (simp only [List.length_drop, List.length_take]; rfl)) ?_
      with_reducible refine (ring_Check.calls _ _ l0_0 t112 _ ?side1 ?side2 A22.out).mono ?_
      (case side1 => repeat (first | exact (Kd.C_below HR0_0.out HB.out) | (with_reducible refine Kd.C_alloc ?_ _) | (with_reducible refine Kd.C_drewN ?_ _) | (with_reducible refine Kd.C_drew ?_)))
      (case side2 => exact HC0_0.out)
      rintro e w45 ⟨rfl, hb⟩
      refine ⟨_, rfl, ?_⟩
      have n0_ := Aside0.mk (Kd.R_below (by (with_reducible repeat (first | apply Kd.R_alloc | apply Kd.R_drewN | apply Kd.R_drew)); exact HO105.out) hb)
      have n1_ := Aside0.mk trivial
      have n2_ := Aside0.mk (Kd.R_below (by (with_reducible repeat (first | apply Kd.R_alloc | apply Kd.R_drewN | apply Kd.R_drew)); exact HO111.out) hb)
      have n3_ := Aside0.mk (blk_below (g := gb101) (o := .cells #[.slice A0_0 l0_0.length c0_0] 67 (0, 0)) (by (with_reducible repeat (first | refine blk_drewN ?_ _ | refine blk_drew ?_ | refine blk_alloc ?_ _)); exact BK101.out) hb)
      have n4_ := Aside0.mk (below_step (by repeat (first | (with_reducible first | exact HB.out | apply below_alloc | apply pw_below_drewN | apply below_drew1 | refine below_set ?_ GE101.out) | exact HB.out)) hb)
      clear HO105
      clear HO108
      clear HO111
      clear BK101
      clear HB
      have HO105 := n0_
      have HO108 := n1_
      have HO111 := n2_
      have BK101 := n3_
      have HB := n4_
      clear n0_ n1_ n2_ n3_ n4_
      (try clear hb)
      (try clear hb2)
      (try clear hk)
      (try clear hi)
      refine hK.out _ _ ((blk_cell BK101.out 0).trans rfl) (fun hHeld => ?_)
      clear hK K
      refine norm_ (a' := ?_) ?_ ?_
      rotate_left
      ·show Act.put _ (some 29) _ = _
       simp only [Act.put, List.setIfInBounds_toArray, List.set_cons_zero, List.set_cons_succ, i64_w, i32_w]
       rfl
      refine one_ (i := 3) (N := some 31) #[true, true, true, true, false, false, false, false, false, false, false, false, false, false, false, false, false, false, false, false, false, false, false, false] rfl rfl (one_of HT_.out (by kernel_rfl)) (by decide) (fun K hK => ?_)
      refine goes_ Try.func30 (by kernel_rfl) rfl #[.agg #[.slice A0_0 l0_0.length c0_0]] (by rfl) rfl rfl (by (try simp only [List.map_toArray, List.map_cons, List.map_nil]); first | done | rfl | (simp only [List.length_drop, List.length_take]; rfl)) ?_
      with_reducible refine (rg_to13 A0_0 l0_0.length c0_0 _).mono ?_
      rintro e w46 ⟨rfl, hb⟩
      refine ⟨_, rfl, ?_⟩
      have n0_ := Aside0.mk (Kd.R_below (by (with_reducible repeat (first | apply Kd.R_alloc | apply Kd.R_drewN | apply Kd.R_drew)); exact HO105.out) hb)
      have n1_ := Aside0.mk trivial
      have n2_ := Aside0.mk (Kd.R_below (by (with_reducible repeat (first | apply Kd.R_alloc | apply Kd.R_drewN | apply Kd.R_drew)); exact HO111.out) hb)
      have n3_ := Aside0.mk trivial
      have n4_ := Aside0.mk (blk_below (g := gb101) (o := .cells #[.slice A0_0 l0_0.length c0_0] 67 (0, 0)) (by (with_reducible repeat (first | refine blk_drewN ?_ _ | refine blk_drew ?_ | refine blk_alloc ?_ _)); exact BK101.out) hb)
      have n5_ := Aside0.mk (below_step (by repeat (first | (with_reducible first | exact HB.out | apply below_alloc | apply pw_below_drewN | apply below_drew1 | refine below_set ?_ GE101.out) | exact HB.out)) hb)
      clear HO105
      clear HO108
      clear HO111
      clear BK101
      clear HB
      have HO105 := n0_
      have HO108 := n1_
      have HO111 := n2_
      have HO115 := n3_
      have BK101 := n4_
      have HB := n5_
      clear n0_ n1_ n2_ n3_ n4_ n5_
      (try clear hb)
      (try clear hb2)
      (try clear hk)
      (try clear hi)
      (try clear ho0)
      have et_t113 : Aside0 (l0_0 = t113) := ⟨Option.some.inj A23.out⟩
      refine hK.out _ _ ((blk_cell BK101.out 0).trans rfl) (fun hHeld => ?_)
      clear hK K
      refine norm_ (a' := ?_) ?_ ?_
      rotate_left
      ·show Act.put _ (some 31) _ = _
       simp only [Act.put, List.setIfInBounds_toArray, List.set_cons_zero, List.set_cons_succ, i64_w, i32_w]
       rfl
      refine one_ (i := 4) (N := some 32) #[true, true, true, true, true, false, false, false, false, false, false, false, false, false, false, false, false, false, false, false, false, false, false, false] rfl rfl (one_of HT_.out (by kernel_rfl)) (by decide) (fun K hK => ?_)
      refine goes_ Try.func38 (by kernel_rfl) rfl #[.agg #[.slice A0_0 l0_0.length c0_0]] (by rfl) rfl rfl (by (try simp only [List.map_toArray, List.map_cons, List.map_nil]); first | done | rfl | (simp only [List.length_drop, List.length_take]; rfl)) ?_
      with_reducible refine (substationref17_Check.calls _ _ l0_0 t116 _ ?side1 ?side2 (by have h_ := A24.out; rw [← et_t113.out] at h_; exact h_)).mono ?_
      (case side1 => repeat (first | exact (Kd.C_below HR0_0.out HB.out) | (with_reducible refine Kd.C_alloc ?_ _) | (with_reducible refine Kd.C_drewN ?_ _) | (with_reducible refine Kd.C_drew ?_)))
      (case side2 => exact HC0_0.out)
      rintro e w48 ⟨rfl, hb⟩
      refine ⟨_, rfl, ?_⟩
      have n0_ := Aside0.mk (Kd.R_below (by (with_reducible repeat (first | apply Kd.R_alloc | apply Kd.R_drewN | apply Kd.R_drew)); exact HO105.out) hb)
      have n1_ := Aside0.mk trivial
      have n2_ := Aside0.mk (Kd.R_below (by (with_reducible repeat (first | apply Kd.R_alloc | apply Kd.R_drewN | apply Kd.R_drew)); exact HO111.out) hb)
      have n3_ := Aside0.mk trivial
      have n4_ := Aside0.mk (blk_below (g := gb101) (o := .cells #[.slice A0_0 l0_0.length c0_0] 67 (0, 0)) (by (with_reducible repeat (first | refine blk_drewN ?_ _ | refine blk_drew ?_ | refine blk_alloc ?_ _)); exact BK101.out) hb)
      have n5_ := Aside0.mk (below_step (by repeat (first | (with_reducible first | exact HB.out | apply below_alloc | apply pw_below_drewN | apply below_drew1 | refine below_set ?_ GE101.out) | exact HB.out)) hb)
      clear HO105
      clear HO108
      clear HO111
      clear HO115
      clear BK101
      clear HB
      have HO105 := n0_
      have HO108 := n1_
      have HO111 := n2_
      have HO115 := n3_
      have BK101 := n4_
      have HB := n5_
      clear n0_ n1_ n2_ n3_ n4_ n5_
      (try clear hb)
      (try clear hb2)
      (try clear hk)
      (try clear hi)
      obtain ⟨Ao49, co49, eo49⟩ := Kd.R_slice HO105.out
      (first | subst eo49 | (injection eo49 with f1_ f2_ f3_; have f4_ := f1_.symm; have f5_ := f3_.symm; clear f1_ f2_ f3_; subst f4_; subst f5_))
      obtain ⟨Ao50, co50, eo50⟩ := Kd.R_slice HO111.out
      (first | subst eo50 | (injection eo50 with f1_ f2_ f3_; have f4_ := f1_.symm; have f5_ := f3_.symm; clear f1_ f2_ f3_; subst f4_; subst f5_))
      refine hK.out _ _ ((blk_cell BK101.out 0).trans rfl) (fun hHeld => ?_)
      clear hK K
      refine norm_ (a' := ?_) ?_ ?_
      rotate_left
      ·show Act.put _ (some 32) _ = _
       simp only [Act.put, List.setIfInBounds_toArray, List.set_cons_zero, List.set_cons_succ, i64_w, i32_w]
       rfl
      refine pure_ (i := 5) (N := some 33) (v := ?_) (a' := ?_) #[true, true, true, true, true, true, false, false, false, false, false, false, false, false, false, false, false, false, false, false, false, false, false, false] rfl rfl (any_of HT_.out (by kernel_rfl)) (fun _ _ _ h => h) (Or.inl ⟨by rfl, ?_⟩) ?_ ?_
      rotate_left
      ·intro w'
       go_simp
       with_reducible rfl
      rotate_left
      ·simp only [Act.put, List.setIfInBounds_toArray, List.set_cons_zero, List.set_cons_succ, i64_w, i32_w]
       rfl
      refine pure_ (i := 6) (N := some 34) (v := ?_) (a' := ?_) #[true, true, true, true, true, true, true, false, false, false, false, false, false, false, false, false, false, false, false, false, false, false, false, false] rfl rfl (any_of HT_.out (by kernel_rfl)) (fun _ _ _ h => h) (Or.inl ⟨by rfl, ?_⟩) ?_ ?_
      rotate_left
      ·intro w'
       go_simp
       with_reducible rfl
      rotate_left
      ·simp only [Act.put, List.setIfInBounds_toArray, List.set_cons_zero, List.set_cons_succ, i64_w, i32_w]
       rfl
      refine pure_ (i := 7) (N := some 35) (v := ?_) (a' := ?_) #[true, true, true, true, true, true, true, true, false, false, false, false, false, false, false, false, false, false, false, false, false, false, false, false] rfl rfl (any_of HT_.out (by kernel_rfl)) (fun _ _ _ h => h) (Or.inl ⟨by rfl, ?_⟩) ?_ ?_
      rotate_left
      ·intro w'
       go_simp
       with_reducible rfl
      rotate_left
      ·simp only [Act.put, List.setIfInBounds_toArray, List.set_cons_zero, List.set_cons_succ, i64_w, i32_w]
       rfl
      refine pure_ (i := 8) (N := some 36) (v := ?_) (a' := ?_) #[true, true, true, true, true, true, true, true, true, false, false, false, false, false, false, false, false, false, false, false, false, false, false, false] rfl rfl (any_of HT_.out (by kernel_rfl)) (fun _ _ _ h => h) (Or.inl ⟨by rfl, ?_⟩) ?_ ?_
      rotate_left
      ·intro w'
       go_simp
       with_reducible rfl
      rotate_left
      ·simp only [Act.put, List.setIfInBounds_toArray, List.set_cons_zero, List.set_cons_succ, i64_w, i32_w]
       rfl
      refine pure_ (i := 9) (N := some 37) (v := ?_) (a' := ?_) #[true, true, true, true, true, true, true, true, true, true, false, false, false, false, false, false, false, false, false, false, false, false, false, false] rfl rfl (any_of HT_.out (by kernel_rfl)) (fun _ _ _ h => h) (Or.inl ⟨by rfl, ?_⟩) ?_ ?_
      rotate_left
      ·intro w'
       go_simp
       with_reducible rfl
      rotate_left
      ·simp only [Act.put, List.setIfInBounds_toArray, List.set_cons_zero, List.set_cons_succ, i64_w, i32_w]
       rfl
      refine pure_ (i := 10) (N := some 38) (v := ?_) (a' := ?_) #[true, true, true, true, true, true, true, true, true, true, true, false, false, false, false, false, false, false, false, false, false, false, false, false] rfl rfl (any_of HT_.out (by kernel_rfl)) (fun _ _ _ h => h) (Or.inl ⟨by rfl, ?_⟩) ?_ ?_
      rotate_left
      ·intro w'
       go_simp
       with_reducible rfl
      rotate_left
      ·simp only [Act.put, List.setIfInBounds_toArray, List.set_cons_zero, List.set_cons_succ, i64_w, i32_w]
       rfl
      refine pure_ (i := 11) (N := some 39) (v := ?_) (a' := ?_) #[true, true, true, true, true, true, true, true, true, true, true, true, false, false, false, false, false, false, false, false, false, false, false, false] rfl rfl (any_of HT_.out (by kernel_rfl)) (fun _ _ _ h => h) (Or.inl ⟨by rfl, ?_⟩) ?_ ?_
      rotate_left
      ·intro w'
       go_simp
       with_reducible rfl
      rotate_left
      ·simp only [Act.put, List.setIfInBounds_toArray, List.set_cons_zero, List.set_cons_succ, i64_w, i32_w]
       rfl
      refine pure_ (i := 12) (N := some 40) (v := ?_) (a' := ?_) #[true, true, true, true, true, true, true, true, true, true, true, true, true, false, false, false, false, false, false, false, false, false, false, false] rfl rfl (any_of HT_.out (by kernel_rfl)) (fun _ _ _ h => h) (Or.inl ⟨by rfl, ?_⟩) ?_ ?_
      rotate_left
      ·intro w'
       go_simp
       with_reducible rfl
      rotate_left
      ·simp only [Act.put, List.setIfInBounds_toArray, List.set_cons_zero, List.set_cons_succ, i64_w, i32_w]
       rfl
      refine pure_ (i := 13) (N := some 41) (v := ?_) (a' := ?_) #[true, true, true, true, true, true, true, true, true, true, true, true, true, true, false, false, false, false, false, false, false, false, false, false] rfl rfl (any_of HT_.out (by kernel_rfl)) (fun _ _ _ h => h) (Or.inl ⟨by rfl, ?_⟩) ?_ ?_
      rotate_left
      ·intro w'
       go_simp
       with_reducible rfl
      rotate_left
      ·simp only [Act.put, List.setIfInBounds_toArray, List.set_cons_zero, List.set_cons_succ, i64_w, i32_w]
       rfl
      refine pure_ (i := 14) (N := some 42) (v := undef) (a' := ?_) #[true, true, true, true, true, true, true, true, true, true, true, true, true, true, true, false, false, false, false, false, false, false, false, false] rfl rfl (any_of HT_.out (by kernel_rfl)) (fun _ _ _ h => h) (Or.inr ⟨by rfl, rfl⟩) ?_ ?_
      rotate_left
      ·simp only [Act.put, List.setIfInBounds_toArray, List.set_cons_zero, List.set_cons_succ, i64_w, i32_w]
       rfl
      refine pure_ (i := 15) (N := some 43) (v := undef) (a' := ?_) #[true, true, true, true, true, true, true, true, true, true, true, true, true, true, true, true, false, false, false, false, false, false, false, false] rfl rfl (any_of HT_.out (by kernel_rfl)) (fun _ _ _ h => h) (Or.inr ⟨by rfl, rfl⟩) ?_ ?_
      rotate_left
      ·simp only [Act.put, List.setIfInBounds_toArray, List.set_cons_zero, List.set_cons_succ, i64_w, i32_w]
       rfl
      refine pure_ (i := 16) (N := some 44) (v := undef) (a' := ?_) #[true, true, true, true, true, true, true, true, true, true, true, true, true, true, true, true, true, false, false, false, false, false, false, false] rfl rfl (any_of HT_.out (by kernel_rfl)) (fun _ _ _ h => h) (Or.inr ⟨by rfl, rfl⟩) ?_ ?_
      rotate_left
      ·simp only [Act.put, List.setIfInBounds_toArray, List.set_cons_zero, List.set_cons_succ, i64_w, i32_w]
       rfl
      refine pure_ (i := 17) (N := some 45) (v := undef) (a' := ?_) #[true, true, true, true, true, true, true, true, true, true, true, true, true, true, true, true, true, true, false, false, false, false, false, false] rfl rfl (any_of HT_.out (by kernel_rfl)) (fun _ _ _ h => h) (Or.inr ⟨by rfl, rfl⟩) ?_ ?_
      rotate_left
      ·simp only [Act.put, List.setIfInBounds_toArray, List.set_cons_zero, List.set_cons_succ, i64_w, i32_w]
       rfl
      refine pure_ (i := 18) (N := some 46) (v := undef) (a' := ?_) #[true, true, true, true, true, true, true, true, true, true, true, true, true, true, true, true, true, true, true, false, false, false, false, false] rfl rfl (any_of HT_.out (by kernel_rfl)) (fun _ _ _ h => h) (Or.inr ⟨by rfl, rfl⟩) ?_ ?_
      rotate_left
      ·simp only [Act.put, List.setIfInBounds_toArray, List.set_cons_zero, List.set_cons_succ, i64_w, i32_w]
       rfl
      refine pure_ (i := 19) (N := some 47) (v := undef) (a' := ?_) #[true, true, true, true, true, true, true, true, true, true, true, true, true, true, true, true, true, true, true, true, false, false, false, false] rfl rfl (any_of HT_.out (by kernel_rfl)) (fun _ _ _ h => h) (Or.inr ⟨by rfl, rfl⟩) ?_ ?_
      rotate_left
      ·simp only [Act.put, List.setIfInBounds_toArray, List.set_cons_zero, List.set_cons_succ, i64_w, i32_w]
       rfl
      refine pure_ (i := 20) (N := some 48) (v := undef) (a' := ?_) #[true, true, true, true, true, true, true, true, true, true, true, true, true, true, true, true, true, true, true, true, true, false, false, false] rfl rfl (any_of HT_.out (by kernel_rfl)) (fun _ _ _ h => h) (Or.inr ⟨by rfl, rfl⟩) ?_ ?_
      rotate_left
      ·simp only [Act.put, List.setIfInBounds_toArray, List.set_cons_zero, List.set_cons_succ, i64_w, i32_w]
       rfl
      refine pure_ (i := 21) (N := some 49) (v := undef) (a' := ?_) #[true, true, true, true, true, true, true, true, true, true, true, true, true, true, true, true, true, true, true, true, true, true, false, false] rfl rfl (any_of HT_.out (by kernel_rfl)) (fun _ _ _ h => h) (Or.inr ⟨by rfl, rfl⟩) ?_ ?_
      rotate_left
      ·simp only [Act.put, List.setIfInBounds_toArray, List.set_cons_zero, List.set_cons_succ, i64_w, i32_w]
       rfl
      refine pure_ (i := 22) (N := some 50) (v := undef) (a' := ?_) #[true, true, true, true, true, true, true, true, true, true, true, true, true, true, true, true, true, true, true, true, true, true, true, false] rfl rfl (any_of HT_.out (by kernel_rfl)) (fun _ _ _ h => h) (Or.inr ⟨by rfl, rfl⟩) ?_ ?_
      rotate_left
      ·simp only [Act.put, List.setIfInBounds_toArray, List.set_cons_zero, List.set_cons_succ, i64_w, i32_w]
       rfl
      refine pure_ (i := 23) (N := some 51) (v := ?_) (a' := ?_) #[true, true, true, true, true, true, true, true, true, true, true, true, true, true, true, true, true, true, true, true, true, true, true, true] rfl rfl (any_of HT_.out (by kernel_rfl)) (fun _ _ _ h => h) (Or.inl ⟨by rfl, ?_⟩) ?_ ?_
      rotate_left
      ·intro w'
       go_simp
       with_reducible rfl
      rotate_left
      ·simp only [Act.put, List.setIfInBounds_toArray, List.set_cons_zero, List.set_cons_succ, i64_w, i32_w]
       rfl
      refine done_ (done_of HT_.out (by kernel_rfl)) ?_
      try go_wp2
      go_meet
      case rel => exact ⟨_, (true), (by first | rfl | (simp; done) | (simp [*]; done) | (simp; omega)), H', ⟨by first | omega | exact Nat.le_refl _⟩, ⟨by (with_reducible repeat (first | apply Kd.R_alloc | apply Kd.R_drewN | apply Kd.R_drew)); (first | exact HO105.out | exact Kd.R_mono HO105.out (fun _ _ => trivial) | exact Kd.R_mono HO105.out (fun _ hk => hk.2) | exact Kd.R_mono HO105.out (fun _ hk => hk.1) | exact Kd.R_mono HO105.out (fun _ hk => hk.1.2) | exact Kd.R_mono HO105.out (fun _ hk => hk.1.1) | exact Kd.R_mono HO105.out (fun _ hk => hk.1.1.2) | exact Kd.R_mono HO105.out (fun _ hk => hk.1.1.1) | exact Kd.R_mono HO105.out (fun _ hk => hk.1.1.1.2))⟩, ⟨by (with_reducible repeat (first | apply Kd.R_alloc | apply Kd.R_drewN | apply Kd.R_drew)); (first | exact HO111.out | exact Kd.R_mono HO111.out (fun _ _ => trivial) | exact Kd.R_mono HO111.out (fun _ hk => hk.2) | exact Kd.R_mono HO111.out (fun _ hk => hk.1) | exact Kd.R_mono HO111.out (fun _ hk => hk.1.2) | exact Kd.R_mono HO111.out (fun _ hk => hk.1.1) | exact Kd.R_mono HO111.out (fun _ hk => hk.1.1.2) | exact Kd.R_mono HO111.out (fun _ hk => hk.1.1.1) | exact Kd.R_mono HO111.out (fun _ hk => hk.1.1.1.2))⟩, ⟨by (with_reducible repeat (first | refine blk_drewN ?_ _ | refine blk_drew ?_ | refine blk_alloc ?_ _)); exact BK101.out⟩, ⟨by repeat (first | (with_reducible first | exact HB.out | apply below_alloc | apply pw_below_drewN | apply below_drew1 | refine below_set ?_ GE101.out) | exact HB.out)⟩⟩
    ·rw [if_neg c25] at H
     have c25b0 : (t112 == t116) = false := beq_eq_false_iff_ne.mpr c25
     have c25b1 : (t112 != t116) = true := bne_iff_ne.mpr c25
     (first | rw [c25b0] | (simp only [i64_w, i32_w]; rw [c25b0]) | skip)
     have H' := Aside0.mk H
     clear H
     try go_wp2
     have n0_ := Aside0.mk (Kd.R_drew HO105.out)
     have n1_ := Aside0.mk trivial
     have n2_ := Aside0.mk (Kd.R_drew HO111.out)
     have n3_ := Aside0.mk (blk_drew BK101.out)
     have n4_ := Aside0.mk (below_drew1 HB.out)
     clear HO105
     clear HO108
     clear HO111
     clear BK101
     clear HB
     have HO105 := n0_
     have HO108 := n1_
     have HO111 := n2_
     have BK101 := n3_
     have HB := n4_
     clear n0_ n1_ n2_ n3_ n4_
     refine start_ (n := 24) (S := fun w' => w'.cell? ⟨gb101, 0, none⟩ = some (.slice A0_0 l0_0.length c0_0)) (ds := []) #[false, false, false, false, false, false, false, false, false, false, false, false, false, false, false, false, false, false, false, false, false, false, false, false] (by kernel_rfl) rfl rfl ((blk_cell BK101.out 0).trans rfl) (fun hHeld => ?_); refine with_tabW substationlaw17_RingWays.tab6 substationlaw17_RingWays.bits6 (fun HT_ HW_ => ?_)
     generalize w21.drew = w51 at HO105 HO108 HO111 BK101 HB hHeld ⊢
     refine take_ (i := 0) (N := some 28) (v := ?_) (a' := ?_) #[true, false, false, false, false, false, false, false, false, false, false, false, false, false, false, false, false, false, false, false, false, false, false, false] rfl rfl (take_ofW HT_.out HW_.out (by kernel_rfl)) (fun _ _ _ h => h) (Or.inl ⟨by rfl, ?_⟩) hHeld ?_ ?_
     rotate_left
     ·intro w' s0
      go_simp
      with_reducible rfl
     rotate_left
     ·simp only [Act.put, List.setIfInBounds_toArray, List.set_cons_zero, List.set_cons_succ, i64_w, i32_w]
      rfl
     refine take_ (i := 2) (N := some 30) (v := ?_) (a' := ?_) #[true, false, true, false, false, false, false, false, false, false, false, false, false, false, false, false, false, false, false, false, false, false, false, false] rfl rfl (take_ofW HT_.out HW_.out (by kernel_rfl)) (fun _ _ _ h => h) (Or.inl ⟨by rfl, ?_⟩) hHeld ?_ ?_
     rotate_left
     ·intro w' s0
      go_simp
      with_reducible rfl
     rotate_left
     ·simp only [Act.put, List.setIfInBounds_toArray, List.set_cons_zero, List.set_cons_succ, i64_w, i32_w]
      rfl
     refine one_ (i := 1) (N := some 29) #[true, true, true, false, false, false, false, false, false, false, false, false, false, false, false, false, false, false, false, false, false, false, false, false] rfl rfl (one_of HT_.out (by kernel_rfl)) (by decide) (fun K hK => ?_)
     refine goes_ Try.func37 (by kernel_rfl) rfl #[.agg #[.slice A0_0 l0_0.length c0_0]] (by rfl) rfl rfl (by (try simp only [List.map_toArray, List.map_cons, List.map_nil]); first | done | rfl | (simp only [List.length_drop, List.length_take]; rfl)) ?_
     with_reducible refine (ring_Check.calls _ _ l0_0 t112 _ ?side1 ?side2 A22.out).mono ?_
     (case side1 => repeat (first | exact (Kd.C_below HR0_0.out HB.out) | (with_reducible refine Kd.C_alloc ?_ _) | (with_reducible refine Kd.C_drewN ?_ _) | (with_reducible refine Kd.C_drew ?_)))
     (case side2 => exact HC0_0.out)
     rintro e w52 ⟨rfl, hb⟩
     refine ⟨_, rfl, ?_⟩
     have n0_ := Aside0.mk (Kd.R_below (by (with_reducible repeat (first | apply Kd.R_alloc | apply Kd.R_drewN | apply Kd.R_drew)); exact HO105.out) hb)
     have n1_ := Aside0.mk trivial
     have n2_ := Aside0.mk (Kd.R_below (by (with_reducible repeat (first | apply Kd.R_alloc | apply Kd.R_drewN | apply Kd.R_drew)); exact HO111.out) hb)
     have n3_ := Aside0.mk (blk_below (g := gb101) (o := .cells #[.slice A0_0 l0_0.length c0_0] 67 (0, 0)) (by (with_reducible repeat (first | refine blk_drewN ?_ _ | refine blk_drew ?_ | refine blk_alloc ?_ _)); exact BK101.out) hb)
     have n4_ := Aside0.mk (below_step (by repeat (first | (with_reducible first | exact HB.out | apply below_alloc | apply pw_below_drewN | apply below_drew1 | refine below_set ?_ GE101.out) | exact HB.out)) hb)
     clear HO105
     clear HO108
     clear HO111
     clear BK101
     clear HB
     have HO105 := n0_
     have HO108 := n1_
     have HO111 := n2_
     have BK101 := n3_
     have HB := n4_
     clear n0_ n1_ n2_ n3_ n4_
     (try clear hb)
     (try clear hb2)
     (try clear hk)
     (try clear hi)
     refine hK.out _ _ ((blk_cell BK101.out 0).trans rfl) (fun hHeld => ?_)
     clear hK K
     refine norm_ (a' := ?_) ?_ ?_
     rotate_left
     ·show Act.put _ (some 29) _ = _
      simp only [Act.put, List.setIfInBounds_toArray, List.set_cons_zero, List.set_cons_succ, i64_w, i32_w]
      rfl
     refine one_ (i := 3) (N := some 31) #[true, true, true, true, false, false, false, false, false, false, false, false, false, false, false, false, false, false, false, false, false, false, false, false] rfl rfl (one_of HT_.out (by kernel_rfl)) (by decide) (fun K hK => ?_)
     refine goes_ Try.func30 (by kernel_rfl) rfl #[.agg #[.slice A0_0 l0_0.length c0_0]] (by rfl) rfl rfl (by (try simp only [List.map_toArray, List.map_cons, List.map_nil]); first | done | rfl | (simp only [List.length_drop, List.length_take]; rfl)) ?_
     with_reducible refine (rg_to13 A0_0 l0_0.length c0_0 _).mono ?_
     rintro e w53 ⟨rfl, hb⟩
     refine ⟨_, rfl, ?_⟩
     have n0_ := Aside0.mk (Kd.R_below (by (with_reducible repeat (first | apply Kd.R_alloc | apply Kd.R_drewN | apply Kd.R_drew)); exact HO105.out) hb)
     have n1_ := Aside0.mk trivial
     have n2_ := Aside0.mk (Kd.R_below (by (with_reducible repeat (first | apply Kd.R_alloc | apply Kd.R_drewN | apply Kd.R_drew)); exact HO111.out) hb)
     have n3_ := Aside0.mk trivial
     have n4_ := Aside0.mk (blk_below (g := gb101) (o := .cells #[.slice A0_0 l0_0.length c0_0] 67 (0, 0)) (by (with_reducible repeat (first | refine blk_drewN ?_ _ | refine blk_drew ?_ | refine blk_alloc ?_ _)); exact BK101.out) hb)
     have n5_ := Aside0.mk (below_step (by repeat (first | (with_reducible first | exact HB.out | apply below_alloc | apply pw_below_drewN | apply below_drew1 | refine below_set ?_ GE101.out) | exact HB.out)) hb)
     clear HO105
     clear HO108
     clear HO111
     clear BK101
     clear HB
     have HO105 := n0_
     have HO108 := n1_
     have HO111 := n2_
     have HO115 := n3_
     have BK101 := n4_
     have HB := n5_
     clear n0_ n1_ n2_ n3_ n4_ n5_
     (try clear hb)
     (try clear hb2)
     (try clear hk)
     (try clear hi)
     (try clear ho0)
     have et_t113 : Aside0 (l0_0 = t113) := ⟨Option.some.inj A23.out⟩
     refine hK.out _ _ ((blk_cell BK101.out 0).trans rfl) (fun hHeld => ?_)
     clear hK K
     refine norm_ (a' := ?_) ?_ ?_
     rotate_left
     ·show Act.put _ (some 31) _ = _
      simp only [Act.put, List.setIfInBounds_toArray, List.set_cons_zero, List.set_cons_succ, i64_w, i32_w]
      rfl
     refine one_ (i := 4) (N := some 32) #[true, true, true, true, true, false, false, false, false, false, false, false, false, false, false, false, false, false, false, false, false, false, false, false] rfl rfl (one_of HT_.out (by kernel_rfl)) (by decide) (fun K hK => ?_)
     refine goes_ Try.func38 (by kernel_rfl) rfl #[.agg #[.slice A0_0 l0_0.length c0_0]] (by rfl) rfl rfl (by (try simp only [List.map_toArray, List.map_cons, List.map_nil]); first | done | rfl | (simp only [List.length_drop, List.length_take]; rfl)) ?_
     with_reducible refine (substationref17_Check.calls _ _ l0_0 t116 _ ?side1 ?side2 (by have h_ := A24.out; rw [← et_t113.out] at h_; exact h_)).mono ?_
     (case side1 => repeat (first | exact (Kd.C_below HR0_0.out HB.out) | (with_reducible refine Kd.C_alloc ?_ _) | (with_reducible refine Kd.C_drewN ?_ _) | (with_reducible refine Kd.C_drew ?_)))
     (case side2 => exact HC0_0.out)
     rintro e w55 ⟨rfl, hb⟩
     refine ⟨_, rfl, ?_⟩
     have n0_ := Aside0.mk (Kd.R_below (by (with_reducible repeat (first | apply Kd.R_alloc | apply Kd.R_drewN | apply Kd.R_drew)); exact HO105.out) hb)
     have n1_ := Aside0.mk trivial
     have n2_ := Aside0.mk (Kd.R_below (by (with_reducible repeat (first | apply Kd.R_alloc | apply Kd.R_drewN | apply Kd.R_drew)); exact HO111.out) hb)
     have n3_ := Aside0.mk trivial
     have n4_ := Aside0.mk (blk_below (g := gb101) (o := .cells #[.slice A0_0 l0_0.length c0_0] 67 (0, 0)) (by (with_reducible repeat (first | refine blk_drewN ?_ _ | refine blk_drew ?_ | refine blk_alloc ?_ _)); exact BK101.out) hb)
     have n5_ := Aside0.mk (below_step (by repeat (first | (with_reducible first | exact HB.out | apply below_alloc | apply pw_below_drewN | apply below_drew1 | refine below_set ?_ GE101.out) | exact HB.out)) hb)
     clear HO105
     clear HO108
     clear HO111
     clear HO115
     clear BK101
     clear HB
     have HO105 := n0_
     have HO108 := n1_
     have HO111 := n2_
     have HO115 := n3_
     have BK101 := n4_
     have HB := n5_
     clear n0_ n1_ n2_ n3_ n4_ n5_
     (try clear hb)
     (try clear hb2)
     (try clear hk)
     (try clear hi)
     refine hK.out _ _ ((blk_cell BK101.out 0).trans rfl) (fun hHeld => ?_)
     clear hK K
     refine norm_ (a' := ?_) ?_ ?_
     rotate_left
     ·show Act.put _ (some 32) _ = _
      simp only [Act.put, List.setIfInBounds_toArray, List.set_cons_zero, List.set_cons_succ, i64_w, i32_w]
      rfl
     refine pure_ (i := 5) (N := some 33) (v := ?_) (a' := ?_) #[true, true, true, true, true, true, false, false, false, false, false, false, false, false, false, false, false, false, false, false, false, false, false, false] rfl rfl (any_of HT_.out (by kernel_rfl)) (fun _ _ _ h => h) (Or.inl ⟨by rfl, ?_⟩) ?_ ?_
     rotate_left
     ·intro w'
      go_simp
      with_reducible rfl
     rotate_left
     ·simp only [Act.put, List.setIfInBounds_toArray, List.set_cons_zero, List.set_cons_succ, i64_w, i32_w]
      rfl
     refine pure_ (i := 6) (N := some 34) (v := ?_) (a' := ?_) #[true, true, true, true, true, true, true, false, false, false, false, false, false, false, false, false, false, false, false, false, false, false, false, false] rfl rfl (any_of HT_.out (by kernel_rfl)) (fun _ _ _ h => h) (Or.inl ⟨by rfl, ?_⟩) ?_ ?_
     rotate_left
     ·intro w'
      go_simp
      with_reducible rfl
     rotate_left
     ·simp only [Act.put, List.setIfInBounds_toArray, List.set_cons_zero, List.set_cons_succ, i64_w, i32_w]
      rfl
     refine pure_ (i := 7) (N := some 35) (v := undef) (a' := ?_) #[true, true, true, true, true, true, true, true, false, false, false, false, false, false, false, false, false, false, false, false, false, false, false, false] rfl rfl (any_of HT_.out (by kernel_rfl)) (fun _ _ _ h => h) (Or.inr ⟨by rfl, rfl⟩) ?_ ?_
     rotate_left
     ·simp only [Act.put, List.setIfInBounds_toArray, List.set_cons_zero, List.set_cons_succ, i64_w, i32_w]
      rfl
     refine pure_ (i := 8) (N := some 36) (v := undef) (a' := ?_) #[true, true, true, true, true, true, true, true, true, false, false, false, false, false, false, false, false, false, false, false, false, false, false, false] rfl rfl (any_of HT_.out (by kernel_rfl)) (fun _ _ _ h => h) (Or.inr ⟨by rfl, rfl⟩) ?_ ?_
     rotate_left
     ·simp only [Act.put, List.setIfInBounds_toArray, List.set_cons_zero, List.set_cons_succ, i64_w, i32_w]
      rfl
     refine pure_ (i := 9) (N := some 37) (v := undef) (a' := ?_) #[true, true, true, true, true, true, true, true, true, true, false, false, false, false, false, false, false, false, false, false, false, false, false, false] rfl rfl (any_of HT_.out (by kernel_rfl)) (fun _ _ _ h => h) (Or.inr ⟨by rfl, rfl⟩) ?_ ?_
     rotate_left
     ·simp only [Act.put, List.setIfInBounds_toArray, List.set_cons_zero, List.set_cons_succ, i64_w, i32_w]
      rfl
     refine pure_ (i := 10) (N := some 38) (v := undef) (a' := ?_) #[true, true, true, true, true, true, true, true, true, true, true, false, false, false, false, false, false, false, false, false, false, false, false, false] rfl rfl (any_of HT_.out (by kernel_rfl)) (fun _ _ _ h => h) (Or.inr ⟨by rfl, rfl⟩) ?_ ?_
     rotate_left
     ·simp only [Act.put, List.setIfInBounds_toArray, List.set_cons_zero, List.set_cons_succ, i64_w, i32_w]
      rfl
     refine pure_ (i := 11) (N := some 39) (v := undef) (a' := ?_) #[true, true, true, true, true, true, true, true, true, true, true, true, false, false, false, false, false, false, false, false, false, false, false, false] rfl rfl (any_of HT_.out (by kernel_rfl)) (fun _ _ _ h => h) (Or.inr ⟨by rfl, rfl⟩) ?_ ?_
     rotate_left
     ·simp only [Act.put, List.setIfInBounds_toArray, List.set_cons_zero, List.set_cons_succ, i64_w, i32_w]
      rfl
     refine pure_ (i := 12) (N := some 40) (v := ?_) (a' := ?_) #[true, true, true, true, true, true, true, true, true, true, true, true, true, false, false, false, false, false, false, false, false, false, false, false] rfl rfl (any_of HT_.out (by kernel_rfl)) (fun _ _ _ h => h) (Or.inl ⟨by rfl, ?_⟩) ?_ ?_
     rotate_left
     ·intro w'
      go_simp
      with_reducible rfl
     rotate_left
     ·simp only [Act.put, List.setIfInBounds_toArray, List.set_cons_zero, List.set_cons_succ, i64_w, i32_w]
      rfl
     refine pure_ (i := 13) (N := some 41) (v := ?_) (a' := ?_) #[true, true, true, true, true, true, true, true, true, true, true, true, true, true, false, false, false, false, false, false, false, false, false, false] rfl rfl (any_of HT_.out (by kernel_rfl)) (fun _ _ _ h => h) (Or.inl ⟨by rfl, ?_⟩) ?_ ?_
     rotate_left
     ·intro w'
      go_simp
      with_reducible rfl
     rotate_left
     ·simp only [Act.put, List.setIfInBounds_toArray, List.set_cons_zero, List.set_cons_succ, i64_w, i32_w]
      rfl
     refine pure_ (i := 14) (N := some 42) (v := undef) (a' := ?_) #[true, true, true, true, true, true, true, true, true, true, true, true, true, true, true, false, false, false, false, false, false, false, false, false] rfl rfl (any_of HT_.out (by kernel_rfl)) (fun _ _ _ h => h) (Or.inr ⟨by rfl, rfl⟩) ?_ ?_
     rotate_left
     ·simp only [Act.put, List.setIfInBounds_toArray, List.set_cons_zero, List.set_cons_succ, i64_w, i32_w]
      rfl
     refine pure_ (i := 15) (N := some 43) (v := undef) (a' := ?_) #[true, true, true, true, true, true, true, true, true, true, true, true, true, true, true, true, false, false, false, false, false, false, false, false] rfl rfl (any_of HT_.out (by kernel_rfl)) (fun _ _ _ h => h) (Or.inr ⟨by rfl, rfl⟩) ?_ ?_
     rotate_left
     ·simp only [Act.put, List.setIfInBounds_toArray, List.set_cons_zero, List.set_cons_succ, i64_w, i32_w]
      rfl
     refine pure_ (i := 16) (N := some 44) (v := undef) (a' := ?_) #[true, true, true, true, true, true, true, true, true, true, true, true, true, true, true, true, true, false, false, false, false, false, false, false] rfl rfl (any_of HT_.out (by kernel_rfl)) (fun _ _ _ h => h) (Or.inr ⟨by rfl, rfl⟩) ?_ ?_
     rotate_left
     ·simp only [Act.put, List.setIfInBounds_toArray, List.set_cons_zero, List.set_cons_succ, i64_w, i32_w]
      rfl
     refine pure_ (i := 17) (N := some 45) (v := undef) (a' := ?_) #[true, true, true, true, true, true, true, true, true, true, true, true, true, true, true, true, true, true, false, false, false, false, false, false] rfl rfl (any_of HT_.out (by kernel_rfl)) (fun _ _ _ h => h) (Or.inr ⟨by rfl, rfl⟩) ?_ ?_
     rotate_left
     ·simp only [Act.put, List.setIfInBounds_toArray, List.set_cons_zero, List.set_cons_succ, i64_w, i32_w]
      rfl
     refine pure_ (i := 18) (N := some 46) (v := undef) (a' := ?_) #[true, true, true, true, true, true, true, true, true, true, true, true, true, true, true, true, true, true, true, false, false, false, false, false] rfl rfl (any_of HT_.out (by kernel_rfl)) (fun _ _ _ h => h) (Or.inr ⟨by rfl, rfl⟩) ?_ ?_
     rotate_left
     ·simp only [Act.put, List.setIfInBounds_toArray, List.set_cons_zero, List.set_cons_succ, i64_w, i32_w]
      rfl
     refine pure_ (i := 19) (N := some 47) (v := undef) (a' := ?_) #[true, true, true, true, true, true, true, true, true, true, true, true, true, true, true, true, true, true, true, true, false, false, false, false] rfl rfl (any_of HT_.out (by kernel_rfl)) (fun _ _ _ h => h) (Or.inr ⟨by rfl, rfl⟩) ?_ ?_
     rotate_left
     ·simp only [Act.put, List.setIfInBounds_toArray, List.set_cons_zero, List.set_cons_succ, i64_w, i32_w]
      rfl
     refine pure_ (i := 20) (N := some 48) (v := undef) (a' := ?_) #[true, true, true, true, true, true, true, true, true, true, true, true, true, true, true, true, true, true, true, true, true, false, false, false] rfl rfl (any_of HT_.out (by kernel_rfl)) (fun _ _ _ h => h) (Or.inr ⟨by rfl, rfl⟩) ?_ ?_
     rotate_left
     ·simp only [Act.put, List.setIfInBounds_toArray, List.set_cons_zero, List.set_cons_succ, i64_w, i32_w]
      rfl
     refine pure_ (i := 21) (N := some 49) (v := undef) (a' := ?_) #[true, true, true, true, true, true, true, true, true, true, true, true, true, true, true, true, true, true, true, true, true, true, false, false] rfl rfl (any_of HT_.out (by kernel_rfl)) (fun _ _ _ h => h) (Or.inr ⟨by rfl, rfl⟩) ?_ ?_
     rotate_left
     ·simp only [Act.put, List.setIfInBounds_toArray, List.set_cons_zero, List.set_cons_succ, i64_w, i32_w]
      rfl
     refine pure_ (i := 22) (N := some 50) (v := undef) (a' := ?_) #[true, true, true, true, true, true, true, true, true, true, true, true, true, true, true, true, true, true, true, true, true, true, true, false] rfl rfl (any_of HT_.out (by kernel_rfl)) (fun _ _ _ h => h) (Or.inr ⟨by rfl, rfl⟩) ?_ ?_
     rotate_left
     ·simp only [Act.put, List.setIfInBounds_toArray, List.set_cons_zero, List.set_cons_succ, i64_w, i32_w]
      rfl
     refine pure_ (i := 23) (N := some 51) (v := ?_) (a' := ?_) #[true, true, true, true, true, true, true, true, true, true, true, true, true, true, true, true, true, true, true, true, true, true, true, true] rfl rfl (any_of HT_.out (by kernel_rfl)) (fun _ _ _ h => h) (Or.inl ⟨by rfl, ?_⟩) ?_ ?_
     rotate_left
     ·intro w'
      go_simp
      with_reducible rfl
     rotate_left
     ·simp only [Act.put, List.setIfInBounds_toArray, List.set_cons_zero, List.set_cons_succ, i64_w, i32_w]
      rfl
     refine done_ (done_of HT_.out (by kernel_rfl)) ?_
     try go_wp2
     go_meet
     case rel => exact ⟨_, (true), (by first | rfl | (simp; done) | (simp [*]; done) | (simp; omega)), H', ⟨by first | omega | exact Nat.le_refl _⟩, ⟨by (with_reducible repeat (first | apply Kd.R_alloc | apply Kd.R_drewN | apply Kd.R_drew)); (first | exact HO105.out | exact Kd.R_mono HO105.out (fun _ _ => trivial) | exact Kd.R_mono HO105.out (fun _ hk => hk.2) | exact Kd.R_mono HO105.out (fun _ hk => hk.1) | exact Kd.R_mono HO105.out (fun _ hk => hk.1.2) | exact Kd.R_mono HO105.out (fun _ hk => hk.1.1) | exact Kd.R_mono HO105.out (fun _ hk => hk.1.1.2) | exact Kd.R_mono HO105.out (fun _ hk => hk.1.1.1) | exact Kd.R_mono HO105.out (fun _ hk => hk.1.1.1.2))⟩, ⟨by (with_reducible repeat (first | apply Kd.R_alloc | apply Kd.R_drewN | apply Kd.R_drew)); (first | exact HO111.out | exact Kd.R_mono HO111.out (fun _ _ => trivial) | exact Kd.R_mono HO111.out (fun _ hk => hk.2) | exact Kd.R_mono HO111.out (fun _ hk => hk.1) | exact Kd.R_mono HO111.out (fun _ hk => hk.1.2) | exact Kd.R_mono HO111.out (fun _ hk => hk.1.1) | exact Kd.R_mono HO111.out (fun _ hk => hk.1.1.2) | exact Kd.R_mono HO111.out (fun _ hk => hk.1.1.1) | exact Kd.R_mono HO111.out (fun _ hk => hk.1.1.1.2))⟩, ⟨by (with_reducible repeat (first | refine blk_drewN ?_ _ | refine blk_drew ?_ | refine blk_alloc ?_ _)); exact BK101.out⟩, ⟨by repeat (first | (with_reducible first | exact HB.out | apply below_alloc | apply pw_below_drewN | apply below_drew1 | refine below_set ?_ GE101.out) | exact HB.out)⟩⟩
   case rest =>
    clear HC13
    try clear c2
    try clear p2
    try clear c3
    try clear c25
    try clear c25b0
    try clear c25b1
    try clear c26
    try clear c26b0
    try clear c26b1
    try clear c26b2
    try clear c27
    try clear c30
    try clear c37
    try clear c38
    obtain ⟨kq, x51_12, rfl, HA, HJ12, HO_7, HO_8, BK101, HB⟩ := hcut
    cases kq with
    | zero => exact absurd HA.out (by simp [substationlaw17_RingWays.j0])
    | succ kj12 =>
     have H := HA.out
     clear HA
     simp only [substationlaw17_RingWays.j0] at H
     by_cases c56 : x51_12 = true
     ·subst c56
      have H1 : (some false) = some r := by rw [if_pos rfl] at H; exact H
      clear H
      have H := H1
      clear H1
      exact absurd (hr_.symm.trans (Option.some.inj H).symm) (by decide)
     ·replace c56 := Bool.eq_false_iff.mpr c56
      subst c56
      have H1 : (substationlaw17_RingWays.l0 kj12 a1 a2 t103 t109 0 l0_0) = some r := by rw [if_neg (show ¬ (false = true) by decide)] at H; exact H
      clear H
      have H := H1
      clear H1
      have H' := Aside0.mk H
      clear H
      go_wp2
      go_loopg [9] kj12 (fun kq v9 w' => ∃ (x9_2 : Int), v9 = .int .i64 x9_2 ∧ Aside0 (substationlaw17_RingWays.l0 kq a1 a2 t103 t109 x9_2 l0_0 = some r) ∧ Aside0 (kq ≤ kj12) ∧ Aside0 (Kd.R Kd.bool 4 w' w.heap.size (fun k_ => some k_ ≠ (v110 : Value).ownBlock) v104 t103) ∧ Aside0 (Kd.R Kd.bool 4 w' w.heap.size (fun k_ => some k_ ≠ (v104 : Value).ownBlock) v110 t109) ∧ Aside0 (w'.heap[gb101]? = some (.cells #[(.slice A0_0 l0_0.length c0_0)] 67 (0, 0))) ∧ Aside0 (Below w.heap.size w w'))
      case atStart => exact ⟨(0), (by first | rfl | (simp; done) | (simp [*]; done) | (simp; omega)), H', ⟨Nat.le_refl _⟩, ⟨by (with_reducible repeat (first | apply Kd.R_alloc | apply Kd.R_drewN | apply Kd.R_drew)); exact HO_7.out⟩, ⟨by (with_reducible repeat (first | apply Kd.R_alloc | apply Kd.R_drewN | apply Kd.R_drew)); exact HO_8.out⟩, ⟨by (with_reducible repeat (first | refine blk_drewN ?_ _ | refine blk_drew ?_ | refine blk_alloc ?_ _)); exact BK101.out⟩, ⟨by repeat (first | (with_reducible first | exact HB.out | apply below_alloc | apply pw_below_drewN | apply below_drew1 | refine below_set ?_ GE101.out) | exact HB.out)⟩⟩
      case round =>
       clear H'
       try clear c2
       try clear p2
       try clear c3
       try clear c5
       try clear c25
       try clear c25b0
       try clear c25b1
       try clear c26
       try clear c26b0
       try clear c26b1
       try clear c26b2
       try clear c27
       try clear c30
       try clear c37
       try clear c38
       try clear c56
       try clear p2
       obtain ⟨x9_2, rfl, HA, HK2, HO_7, HO_8, BK101, HB⟩ := hrel
       cases gk with
       | zero => exact absurd HA.out (by simp [substationlaw17_RingWays.l0])
       | succ k2 =>
        have H := HA.out
        clear HA
        simp only [substationlaw17_RingWays.l0] at H
        by_cases c57 : x9_2 < (t103.length : Int)
        ·rw [if_pos c57] at H
         have c57b0 : decide (x9_2 < (t103.length : Int)) = true := decide_eq_true c57
         clear c57
         by_cases c58 : 0 ≤ x9_2
         ·rw [if_pos c58] at H
          have c58b0 : decide (0 ≤ x9_2) = true := decide_eq_true c58
          clear c58
          by_cases c59 : x9_2 < (t109.length : Int)
          ·rw [if_pos c59] at H
           have c59b0 : decide (x9_2 < (t109.length : Int)) = true := decide_eq_true c59
           clear c59
           by_cases c60 : ((rdOf false t103 x9_2) != (rdOf false t109 x9_2)) = true
           ·rw [if_pos c60] at H
            have c60b0 : ((rdOf false t103 x9_2) != (rdOf false t109 x9_2)) = true := c60
            (try (have c60b1 : decide ((rdOf false t103 x9_2) = (rdOf false t109 x9_2)) = false := by simpa using c60))
            (try (have c60b2 : ((rdOf false t103 x9_2) == (rdOf false t109 x9_2)) = false := by simpa using c60))
            (try (have c60b3 : ¬ ((rdOf false t103 x9_2) = (rdOf false t109 x9_2)) := by simpa using c60))
            clear c60
            obtain rfl := Option.some.inj H
            exact absurd hr_ (by decide)
           ·rw [if_neg c60] at H
            have c60b0 : ((rdOf false t103 x9_2) != (rdOf false t109 x9_2)) = false := by simpa using c60
            (try (have c60b1 : decide ((rdOf false t103 x9_2) = (rdOf false t109 x9_2)) = true := by simpa using c60))
            (try (have c60b2 : ((rdOf false t103 x9_2) == (rdOf false t109 x9_2)) = true := by simpa using c60))
            clear c60
            have H' := Aside0.mk H
            clear H
            obtain ⟨Ao64, co64, eo64⟩ := Kd.R_slice HO_7.out
            subst eo64
            try go_wp2
            have n0_ := Aside0.mk (Kd.R_drew HO_7.out)
            have n1_ := Aside0.mk (Kd.R_drew HO_8.out)
            have n2_ := Aside0.mk (blk_drew BK101.out)
            have n3_ := Aside0.mk (below_drew1 HB.out)
            clear HO_7
            clear HO_8
            clear BK101
            clear HB
            have HO_7 := n0_
            have HO_8 := n1_
            have BK101 := n2_
            have HB := n3_
            clear n0_ n1_ n2_ n3_
            have p127 : 0 ≤ (x9_2 : Int) := of_decide_eq_true (by first | (with_reducible assumption) | assumption)
            have q127 : x9_2 < (t103.length : Int) := of_decide_eq_true (by first | (with_reducible assumption) | assumption)
            obtain ⟨ad127, e127, hx127_0⟩ := Kd.at_bool (Kd.R_reads' HO_7.out).2.2 x9_2 p127 q127
            cases e127
            replace p127 := eq_true p127
            replace q127 := eq_true q127
            obtain ⟨Ao66, co66, eo66⟩ := Kd.R_slice HO_8.out
            (first | subst eo66 | (injection eo66 with f1_ f2_ f3_; have f4_ := f1_.symm; have f5_ := f3_.symm; clear f1_ f2_ f3_; subst f4_; subst f5_))
            have p128 : 0 ≤ (x9_2 : Int) := of_decide_eq_true (by first | (with_reducible assumption) | assumption)
            have q128 : x9_2 < (t109.length : Int) := of_decide_eq_true (by first | (with_reducible assumption) | assumption)
            obtain ⟨ad128, e128, hx128_0⟩ := Kd.at_bool (Kd.R_reads' HO_8.out).2.2 x9_2 p128 q128
            cases e128
            replace p128 := eq_true p128
            replace q128 := eq_true q128
            refine start_ (n := 9) (S := fun w' => w'.cell? (ad127.add (x9_2).toNat) = some (.bool (rdOf false t103 x9_2)) ∧ w'.cell? (ad128.add (x9_2).toNat) = some (.bool (rdOf false t109 x9_2))) (ds := []) #[false, false, false, false, false, false, false, false, false] (by kernel_rfl) rfl rfl ⟨hx127_0, hx128_0⟩ (fun hHeld => ?_); refine with_tabW substationlaw17_RingWays.tab11 substationlaw17_RingWays.bits11 (fun HT_ HW_ => ?_)
            generalize wr.drew = w65 at HO_7 HO_8 BK101 HB hx127_0 hx128_0 hHeld ⊢
            refine pure_ (i := 0) (N := some 58) (v := ?_) (a' := ?_) #[true, false, false, false, false, false, false, false, false] rfl rfl (any_of HT_.out (by kernel_rfl)) (fun _ _ _ h => h) (Or.inl ⟨by rfl, ?_⟩) ?_ ?_
            rotate_left
            ·intro w'
             go_simp
             with_reducible rfl
            rotate_left
            ·simp only [Act.put, List.setIfInBounds_toArray, List.set_cons_zero, List.set_cons_succ, i64_w, i32_w]
             rfl
            refine pure_ (i := 1) (N := some 59) (v := ?_) (a' := ?_) #[true, true, false, false, false, false, false, false, false] rfl rfl (any_of HT_.out (by kernel_rfl)) (fun _ _ _ h => h) (Or.inl ⟨by rfl, ?_⟩) ?_ ?_
            rotate_left
            ·intro w'
             go_simp
             with_reducible rfl
            rotate_left
            ·simp only [Act.put, List.setIfInBounds_toArray, List.set_cons_zero, List.set_cons_succ, i64_w, i32_w]
             rfl
            refine pure_ (i := 2) (N := some 60) (v := ?_) (a' := ?_) #[true, true, true, false, false, false, false, false, false] rfl rfl (any_of HT_.out (by kernel_rfl)) (fun _ _ _ h => h) (Or.inl ⟨by rfl, ?_⟩) ?_ ?_
            rotate_left
            ·intro w'
             go_simp
             with_reducible rfl
            rotate_left
            ·simp only [Act.put, List.setIfInBounds_toArray, List.set_cons_zero, List.set_cons_succ, i64_w, i32_w]
             rfl
            refine pure_ (i := 4) (N := some 62) (v := ?_) (a' := ?_) #[true, true, true, false, true, false, false, false, false] rfl rfl (any_of HT_.out (by kernel_rfl)) (fun _ _ _ h => h) (Or.inl ⟨by rfl, ?_⟩) ?_ ?_
            rotate_left
            ·intro w'
             go_simp
             with_reducible rfl
            rotate_left
            ·simp only [Act.put, List.setIfInBounds_toArray, List.set_cons_zero, List.set_cons_succ, i64_w, i32_w]
             rfl
            refine pure_ (i := 5) (N := some 63) (v := ?_) (a' := ?_) #[true, true, true, false, true, true, false, false, false] rfl rfl (any_of HT_.out (by kernel_rfl)) (fun _ _ _ h => h) (Or.inl ⟨by rfl, ?_⟩) ?_ ?_
            rotate_left
            ·intro w'
             go_simp
             with_reducible rfl
            rotate_left
            ·simp only [Act.put, List.setIfInBounds_toArray, List.set_cons_zero, List.set_cons_succ, i64_w, i32_w]
             rfl
            refine pure_ (i := 6) (N := some 64) (v := ?_) (a' := ?_) #[true, true, true, false, true, true, true, false, false] rfl rfl (any_of HT_.out (by kernel_rfl)) (fun _ _ _ h => h) (Or.inl ⟨by rfl, ?_⟩) ?_ ?_
            rotate_left
            ·intro w'
             go_simp
             with_reducible rfl
            rotate_left
            ·simp only [Act.put, List.setIfInBounds_toArray, List.set_cons_zero, List.set_cons_succ, i64_w, i32_w]
             rfl
            refine take_ (i := 3) (N := some 61) (v := ?_) (a' := ?_) #[true, true, true, true, true, true, true, false, false] rfl rfl (take_ofW HT_.out HW_.out (by kernel_rfl)) (fun _ _ _ h => h) (Or.inl ⟨by rfl, ?_⟩) hHeld ?_ ?_
            rotate_left
            ·rintro w' ⟨s0, s1⟩
             go_simp
             with_reducible rfl
            rotate_left
            ·simp only [Act.put, List.setIfInBounds_toArray, List.set_cons_zero, List.set_cons_succ, i64_w, i32_w]
             rfl
            refine take_ (i := 7) (N := some 65) (v := ?_) (a' := ?_) #[true, true, true, true, true, true, true, true, false] rfl rfl (take_ofW HT_.out HW_.out (by kernel_rfl)) (fun _ _ _ h => h) (Or.inl ⟨by rfl, ?_⟩) hHeld ?_ ?_
            rotate_left
            ·rintro w' ⟨s0, s1⟩
             go_simp
             with_reducible rfl
            rotate_left
            ·simp only [Act.put, List.setIfInBounds_toArray, List.set_cons_zero, List.set_cons_succ, i64_w, i32_w]
             rfl
            refine pure_ (i := 8) (N := some 66) (v := ?_) (a' := ?_) #[true, true, true, true, true, true, true, true, true] rfl rfl (any_of HT_.out (by kernel_rfl)) (fun _ _ _ h => h) (Or.inl ⟨by rfl, ?_⟩) ?_ ?_
            rotate_left
            ·intro w'
             go_simp
             with_reducible rfl
            rotate_left
            ·simp only [Act.put, List.setIfInBounds_toArray, List.set_cons_zero, List.set_cons_succ, i64_w, i32_w]
             rfl
            refine done_ (done_of HT_.out (by kernel_rfl)) ?_
            try go_wp2
            go_roundg k2
            case measure => have := HJ12.out; have := HK2.out; omega
            case rel => exact ⟨(wrap64 (x9_2 + 1)), (by first | rfl | (simp; done) | (simp [*]; done) | (simp; omega)), H', ⟨by have := HJ12.out; have := HK2.out; omega⟩, ⟨by (with_reducible repeat (first | apply Kd.R_alloc | apply Kd.R_drewN | apply Kd.R_drew)); exact HO_7.out⟩, ⟨by (with_reducible repeat (first | apply Kd.R_alloc | apply Kd.R_drewN | apply Kd.R_drew)); exact HO_8.out⟩, ⟨by (with_reducible repeat (first | refine blk_drewN ?_ _ | refine blk_drew ?_ | refine blk_alloc ?_ _)); exact BK101.out⟩, ⟨by repeat (first | (with_reducible first | exact HB.out | apply below_alloc | apply pw_below_drewN | apply below_drew1 | refine below_set ?_ GE101.out) | exact HB.out)⟩⟩
          ·rw [if_neg c59] at H
           exact absurd H (by simp)
         ·rw [if_neg c58] at H
          exact absurd H (by simp)
        ·rw [if_neg c57] at H
         have c57b0 : decide (x9_2 < (t103.length : Int)) = false := decide_eq_false c57
         clear c57
         have H' := Aside0.mk H
         clear H
         obtain ⟨Ao67, co67, eo67⟩ := Kd.R_slice HO_7.out
         subst eo67
         go_wp2
         go_loopg [10] k2 (fun kq v10 w' => ∃ (x10_3 : Int), v10 = .int .i64 x10_3 ∧ Aside0 (substationlaw17_RingWays.l1 kq a1 a2 x10_3 l0_0 = some r) ∧ Aside0 (kq ≤ k2) ∧ Aside0 (w'.heap[gb101]? = some (.cells #[(.slice A0_0 l0_0.length c0_0)] 67 (0, 0))) ∧ Aside0 (Below w.heap.size w w'))
         case atStart => exact ⟨((-1)), (by first | rfl | (simp; done) | (simp [*]; done) | (simp; omega)), H', ⟨Nat.le_refl _⟩, ⟨by (with_reducible repeat (first | refine blk_drewN ?_ _ | refine blk_drew ?_ | refine blk_alloc ?_ _)); exact BK101.out⟩, ⟨by repeat (first | (with_reducible first | exact HB.out | apply below_alloc | apply pw_below_drewN | apply below_drew1 | refine below_set ?_ GE101.out) | exact HB.out)⟩⟩
         case round =>
          clear H'
          try clear p1
          try clear q1
          try clear hx1
          try clear c2
          try clear p2
          try clear c3
          try clear c5
          try clear c6
          try clear p6
          try clear p12
          try clear q12
          try clear hx12
          try clear c25
          try clear c25b0
          try clear c25b1
          try clear c26
          try clear c26b0
          try clear c26b1
          try clear c26b2
          try clear c27
          try clear c30
          try clear c37
          try clear c38
          try clear c56
          try clear c57
          try clear c57b0
          try clear c58
          try clear c58b0
          try clear c59
          try clear c59b0
          try clear c60
          try clear c60b0
          try clear c60b1
          try clear c60b2
          try clear p64
          try clear hx127_0
          try clear hx128_0
          try clear p127
          try clear p128
          try clear p2
          try clear q127
          try clear q128
          obtain ⟨x10_3, rfl, HA, HK3, BK101, HB⟩ := hrel
          cases gk with
          | zero => exact absurd HA.out (by simp [substationlaw17_RingWays.l1])
          | succ k3 =>
           have H := HA.out
           clear HA
           simp only [substationlaw17_RingWays.l1] at H
           by_cases c68 : x10_3 < 3
           ·rw [if_pos c68] at H
            have c68b0 : decide (x10_3 < 3) = true := decide_eq_true c68
            clear c68
            replace H := Option.bind_eq_some_iff.mp H
            obtain ⟨⟨t129, t130⟩, A690, H⟩ := H
            replace H : ((substationlaw17_to.f l0_0).bind fun t131 => ((substationref17_Hops.f k3 t131 a1 a2 x10_3).bind fun bt134 => (if t129 = bt134.1 then (if (t130 != bt134.2) = true then (some false) else (substationlaw17_RingWays.l1 k3 a1 a2 (wrap64 (x10_3 + 1)) l0_0)) else (some false)))) = some r := H
            have A69 := Aside0.mk A690
            clear A690
            replace H := Option.bind_eq_some_iff.mp H
            obtain ⟨t131, A700, H⟩ := H
            replace H : ((substationref17_Hops.f k3 t131 a1 a2 x10_3).bind fun bt134 => (if t129 = bt134.1 then (if (t130 != bt134.2) = true then (some false) else (substationlaw17_RingWays.l1 k3 a1 a2 (wrap64 (x10_3 + 1)) l0_0)) else (some false))) = some r := H
            have A70 := Aside0.mk A700
            clear A700
            replace H := Option.bind_eq_some_iff.mp H
            obtain ⟨⟨t134, t135⟩, A710, H⟩ := H
            replace H : (if t129 = t134 then (if (t130 != t135) = true then (some false) else (substationlaw17_RingWays.l1 k3 a1 a2 (wrap64 (x10_3 + 1)) l0_0)) else (some false)) = some r := H
            have A71 := Aside0.mk A710
            clear A710
            by_cases c72 : t129 = t134
            ·rw [if_pos c72] at H
             have c72b0 : (t129 == t134) = true := beq_iff_eq.mpr c72
             have c72b1 : (t129 != t134) = false := bne_eq_false_iff_eq.mpr c72
             clear c72
             by_cases c73 : (t130 != t135) = true
             ·rw [if_pos c73] at H
              have c73b0 : (t130 != t135) = true := c73
              (try (have c73b1 : decide (t130 = t135) = false := by simpa using c73))
              (try (have c73b2 : (t130 == t135) = false := by simpa using c73))
              (try (have c73b3 : ¬ (t130 = t135) := by simpa using c73))
              clear c73
              exact absurd (hr_.symm.trans (Option.some.inj H).symm) (by decide)
             ·rw [if_neg c73] at H
              have c73b0 : (t130 != t135) = false := by simpa using c73
              (try (have c73b1 : decide (t130 = t135) = true := by simpa using c73))
              (try (have c73b2 : (t130 == t135) = true := by simpa using c73))
              clear c73
              have H' := Aside0.mk H
              clear H
              have hcz80_0 : wr.cell? ⟨gb101, 0, none⟩ = some (.slice A0_0 l0_0.length c0_0) := (blk_cell BK101.out 0).trans rfl
              have hfz80_0 := blk_frozen BK101.out 0
              go_wp2_with (first | ((with_reducible refine gate_callee (f := 34) rfl ?_); refine goesL_ (some 76) rfl rfl Try.func34 (by kernel_rfl) rfl #[.agg #[.slice A0_0 l0_0.length c0_0], .int .i64 a1, .int .i64 a2, .int .i64 x10_3] rfl (by (try simp only [List.map_toArray, List.map_cons, List.map_nil]); first | done | rfl | (simp only [List.length_drop, List.length_take]; rfl)) ?_; (with_reducible refine (ring_Hops.calls _ _ l0_0 a1 a2 x10_3 t129 t130 _ ?side1 ?side2 A69.out).mono ?_); (case side1 => repeat (first | exact (Kd.C_below HR0_0.out HB.out) | (with_reducible refine Kd.C_alloc ?_ _) | (with_reducible refine Kd.C_drewN ?_ _) | (with_reducible refine Kd.C_drew ?_))); (case side2 => exact HC0_0.out); rintro e w81 ⟨rfl, hb⟩; refine ⟨_, rfl, ?_⟩; have n0_ := Aside0.mk (blk_below (g := gb101) (o := .cells #[.slice A0_0 l0_0.length c0_0] 67 (0, 0)) (by (with_reducible repeat (first | refine blk_drewN ?_ _ | refine blk_drew ?_ | refine blk_alloc ?_ _)); exact BK101.out) hb); have n1_ := Aside0.mk (below_step (by repeat (first | (with_reducible first | exact HB.out | apply below_alloc | apply pw_below_drewN | apply below_drew1 | refine below_set ?_ GE101.out) | exact HB.out)) hb); clear BK101; clear HB; have BK101 := n0_; have HB := n1_; clear n0_ n1_; (try clear hb); (try clear hb2); (try clear hk); (try clear hi); have hcz82_0 : w81.cell? ⟨gb101, 0, none⟩ = some (.slice A0_0 l0_0.length c0_0) := (blk_cell BK101.out 0).trans rfl; have hfz82_0 := blk_frozen BK101.out 0) | ((with_reducible refine gate_callee (f := 30) rfl ?_); refine goesL_ (some 81) rfl rfl Try.func30 (by kernel_rfl) rfl #[.agg #[.slice A0_0 l0_0.length c0_0]] rfl (by (try simp only [List.map_toArray, List.map_cons, List.map_nil]); first | done | rfl | (simp only [List.length_drop, List.length_take]; rfl)) ?_; (with_reducible refine (rg_to13 A0_0 l0_0.length c0_0 _).mono ?_); rintro e w83 ⟨rfl, hb⟩; refine ⟨_, rfl, ?_⟩; have n0_ := Aside0.mk trivial; have n1_ := Aside0.mk (blk_below (g := gb101) (o := .cells #[.slice A0_0 l0_0.length c0_0] 67 (0, 0)) (by (with_reducible repeat (first | refine blk_drewN ?_ _ | refine blk_drew ?_ | refine blk_alloc ?_ _)); exact BK101.out) hb); have n2_ := Aside0.mk (below_step (by repeat (first | (with_reducible first | exact HB.out | apply below_alloc | apply pw_below_drewN | apply below_drew1 | refine below_set ?_ GE101.out) | exact HB.out)) hb); clear BK101; clear HB; have HO133 := n0_; have BK101 := n1_; have HB := n2_; clear n0_ n1_ n2_; (try clear hb); (try clear hb2); (try clear hk); (try clear hi); (try clear ho0); have et_t131 : Aside0 (l0_0 = t131) := ⟨Option.some.inj A70.out⟩) | ((with_reducible refine gate_callee (f := 40) rfl ?_); refine goesL_ (some 85) rfl rfl Try.func40 (by kernel_rfl) rfl #[.agg #[.slice A0_0 l0_0.length c0_0], .int .i64 a1, .int .i64 a2, .int .i64 x10_3] rfl (by (try simp only [List.map_toArray, List.map_cons, List.map_nil]); first | done | rfl | (simp only [List.length_drop, List.length_take]; rfl)) ?_; (with_reducible refine (substationref17_Hops.calls k3 _ _ l0_0 a1 a2 x10_3 t134 t135 _ ?side1 ?side2 (by have h_ := A71.out; rw [← et_t131.out] at h_; exact h_)).mono ?_); (case side1 => repeat (first | exact (Kd.C_below HR0_0.out HB.out) | (with_reducible refine Kd.C_alloc ?_ _) | (with_reducible refine Kd.C_drewN ?_ _) | (with_reducible refine Kd.C_drew ?_))); (case side2 => exact HC0_0.out); rintro e w85 ⟨rfl, hb⟩; refine ⟨_, rfl, ?_⟩; have n0_ := Aside0.mk trivial; have n1_ := Aside0.mk (blk_below (g := gb101) (o := .cells #[.slice A0_0 l0_0.length c0_0] 67 (0, 0)) (by (with_reducible repeat (first | refine blk_drewN ?_ _ | refine blk_drew ?_ | refine blk_alloc ?_ _)); exact BK101.out) hb); have n2_ := Aside0.mk (below_step (by repeat (first | (with_reducible first | exact HB.out | apply below_alloc | apply pw_below_drewN | apply below_drew1 | refine below_set ?_ GE101.out) | exact HB.out)) hb); clear HO133; clear BK101; clear HB; have HO133 := n0_; have BK101 := n1_; have HB := n2_; clear n0_ n1_ n2_; (try clear hb); (try clear hb2); (try clear hk); (try clear hi)))
              go_roundg k3
              case measure => have := HJ12.out; have := HK2.out; have := HK3.out; omega
              case rel => exact ⟨(wrap64 (x10_3 + 1)), (by first | rfl | (simp; done) | (simp [*]; done) | (simp; omega)), H', ⟨by have := HJ12.out; have := HK2.out; have := HK3.out; omega⟩, ⟨by (with_reducible repeat (first | refine blk_drewN ?_ _ | refine blk_drew ?_ | refine blk_alloc ?_ _)); exact BK101.out⟩, ⟨by repeat (first | (with_reducible first | exact HB.out | apply below_alloc | apply pw_below_drewN | apply below_drew1 | refine below_set ?_ GE101.out) | exact HB.out)⟩⟩
            ·rw [if_neg c72] at H
             have c72b0 : (t129 == t134) = false := beq_eq_false_iff_ne.mpr c72
             have c72b1 : (t129 != t134) = true := bne_iff_ne.mpr c72
             exact absurd (hr_.symm.trans (Option.some.inj H).symm) (by decide)
           ·rw [if_neg c68] at H
            have c68b0 : decide (x10_3 < 3) = false := decide_eq_false c68
            clear c68
            obtain rfl := Option.some.inj H
            go_wp2
            go_ret
            exact ⟨by first | rfl | (simp [errW_none, errW_some] <;> rfl) | (simp [*, errW_none, errW_some] <;> rfl), by repeat (first | (with_reducible first | exact HB.out | apply below_alloc | apply pw_below_drewN | apply below_drew1 | refine below_set ?_ GE101.out) | exact HB.out)⟩
 ·replace c5 := Bool.eq_false_iff.mpr c5
  subst c5
  have H1 : (some false) = some r := by rw [if_neg (show ¬ (false = true) by decide)] at H; exact H
  clear H
  have H := H1
  clear H1
  exact absurd (hr_.symm.trans (Option.some.inj H).symm) (by decide)
end Go.Proofs.Ytnjddjpohobelaa.XB
end
section
namespace Go.Proofs.Ytnjddjpohobelaa.RRingWays
open Go.RowKit Go.Proofs.YtnjddjpohobelaaW.PrintWords Go.Proofs.YtnjddjpohobelaaW.PrintLast Go.Proofs.YtnjddjpohobelaaW.PrintMore Go.Proofs.Ytnjddjpohobelaa.XB Go.Proofs.Ytnjddjpohobelaa.XOpen
set_option linter.unusedVariables false
structure S67 where
  f0 : List Bool
def k67 : Kd S67 := Kd.iso (Kd.slice 4 Kd.bool) (fun x : S67 => x.f0)
theorem k67_open {w : World} {x : S67} {cs : List Value} (h : k67.K w x cs) : ∃ A c, cs = [.slice A x.f0.length c] ∧ x.f0.length ≤ c ∧ Kd.C Kd.bool w A x.f0.length x.f0 := h
def ok67 (x : S67) : Prop := (x.f0.length ≤ 9223372036854775807 ∧ ∀ y_ ∈ x.f0, True)
theorem opens67 : Opens Try.prog k67 67 ok67 := fun H enc w base spare held fuel cs x hx => by
  obtain ⟨xs, n, _, _, hl, hlen, hf⟩ := DataW.trod_struct Try.underlying67 hx
  have hcells : Try.prog.cellsOf 67 = 1 := by kernel_rfl
  rw [hcells] at hl
  have hx0 : ∃ z, xs[0]? = some z := by rw [List.getElem?_eq_getElem (show 0 < xs.length by rw [hlen]; decide)]; exact ⟨_, rfl⟩
  obtain ⟨z0, hz0⟩ := hx0
  have hg0 : Try.prog.cellsOf 65 = 1 := by kernel_rfl
  obtain ⟨y0, hk0, ho0⟩ := (opens_slice Try.underlying65 (by kernel_rfl) (opens_bool Try.underlying4)) H enc w base spare held n _ z0 ((hf 0 _ rfl).trans hz0)
  change (Kd.slice 4 Kd.bool).K w y0 (List.take (Try.prog.cellsOf 65) (List.drop 0 cs)) at hk0
  rw [hg0] at hk0
  obtain ⟨c0, t0, rfl, hl0⟩ := len_cons (n := 0) hl
  obtain rfl := List.eq_nil_of_length_eq_zero hl0
  exact ⟨⟨y0⟩, hk0, ho0⟩
/-- The pure statement of the law. -/
def Pure : Prop := ∀ (x0 : S67) (x1 : Int) (x2 : Int), ok67 x0 → (Lit.int .i64 x1).wf = true → (Lit.int .i64 x2).wf = true → ∃ k, substationlaw17_RingWays.f k x0.f0 x1 x2 = some true
end Go.Proofs.Ytnjddjpohobelaa.RRingWays
end
section
namespace Go.Proofs.Ytnjddjpohobelaa.Pure
set_option linter.unusedVariables false
set_option linter.unusedSimpArgs false
open Go.RowKit Go.Proofs.YtnjddjpohobelaaW.PrintWords Go.Proofs.YtnjddjpohobelaaW.PrintMore Go.Proofs.Ytnjddjpohobelaa.XB Go.Proofs.Ytnjddjpohobelaa.RgA Go.Proofs.Ytnjddjpohobelaa.RgB Go.Proofs.Ytnjddjpohobelaa.RgC Go.Proofs.Ytnjddjpohobelaa.RgR Go.Proofs.Ytnjddjpohobelaa.RgS
theorem ways_same_l0 (L : List S112) (hL : L.length < 100000) : ∀ (r i : Nat), i + r = L.length → Evr fun K => substationlaw17_same.l0 K L (L.map cv) i = some true
  | 0, i, hi => by
    refine ⟨1, fun K hK => ?_⟩
    obtain ⟨K, rfl⟩ : ∃ K', K = K' + 1 := ⟨K - 1, by omega⟩
    rw [substationlaw17_same.l0, if_neg (by omega)]
  | r + 1, i, hi => by
    refine (ways_same_l0 L hL r (i + 1) (by omega)).step fun K hK => ?_
    have hlt : (i : Int) < L.length := by omega
    have h0 : (0 : Int) ≤ i := by omega
    have hl : (i : Int) < (L.map cv).length := by simp; omega
    have hrd : rd_T113 (L.map cv) (i : Int) = cv (rd_T112 L i) := by
      unfold rd_T113 rd_T112
      simp only [Int.toNat_natCast, List.getD_eq_getElem?_getD, List.getElem?_map, List.getElem?_eq_getElem (show i < L.length by omega), Option.map_some, Option.getD_some]
    have hw : wrap64 ((i : Int) + 1) = ((i + 1 : Nat) : Int) := by rw [w64 (by omega) (by omega)]; exact (Int.natCast_add i 1).symm
    rw [substationlaw17_same.l0, if_pos hlt, if_pos h0, if_pos hl, hrd, if_pos (show (rd_T112 L (i : Int)).f0 = (cv (rd_T112 L (i : Int))).f0 from rfl), if_pos (show (rd_T112 L (i : Int)).f1 = (cv (rd_T112 L (i : Int))).f1 from rfl), if_pos (show (rd_T112 L (i : Int)).f2 = (cv (rd_T112 L (i : Int))).f2 from rfl), if_pos (show (rd_T112 L (i : Int)).f3 = (cv (rd_T112 L (i : Int))).f3 from rfl), hw]
    exact hK
theorem ways_same_f (L : List S112) (hL : L.length < 100000) : Evr fun K => substationlaw17_same.f K L (L.map cv) = some true := by
  obtain ⟨K0, h0⟩ := ways_same_l0 L hL L.length 0 (by omega)
  refine ⟨K0, fun K hK => ?_⟩
  show substationlaw17_same.f K L (L.map cv) = some true
  unfold substationlaw17_same.f
  rw [if_pos (by simp)]
  exact h0 K hK
theorem check_eq (cut : List Bool) : ∃ r, ring_Check.f cut = some r ∧ substationref17_Check.f cut = some r ∧ (r = 0 ↔ 3 ≤ cut.length ∧ cut.length ≤ 40) := by
  unfold ring_Check.f substationref17_Check.f
  by_cases h : (cut.length : Int) < 3
  · rw [if_pos h]; exact ⟨3, rfl, rfl, by omega⟩
  · by_cases h' : (cut.length : Int) > 40
    · rw [if_neg h, if_pos h']; exact ⟨3, rfl, rfl, by omega⟩
    · rw [if_neg h, if_neg h']; exact ⟨0, rfl, rfl, by omega⟩
theorem node_eq (cut : List Bool) (v : Int) : substationref17_node.f cut v = some (decide (0 ≤ v) && decide (v < cut.length)) := by
  unfold substationref17_node.f
  by_cases h : v ≥ 0
  · rw [if_pos h, decide_eq_true (show 0 ≤ v from h), Bool.true_and]
  · rw [if_neg h, decide_eq_false (show ¬ 0 ≤ v from h), Bool.false_and]
/-- The specification's hops are the program's, for all arguments. -/
theorem hops_all (cut : List Bool) (v t d : Int) : Evr fun K => substationref17_Hops.f K cut v t d = some (rgHops cut v t d) := by
  obtain ⟨r, _, hcr, hr0⟩ := check_eq cut
  have hbad : ∀ K x, x = true → substationref17_Hops.j0 (K + 1) v t d x cut = some (0, false) := fun K x hx => by
    rw [substationref17_Hops.j0, if_pos hx]
  by_cases h : 3 ≤ cut.length ∧ cut.length ≤ 40
  · have hr : r = 0 := hr0.2 h
    by_cases hv : 0 ≤ v ∧ v < cut.length
    · have hnv : substationref17_node.f cut v = some true := by rw [node_eq, decide_eq_true hv.1, decide_eq_true hv.2]; rfl
      by_cases ht : 0 ≤ t ∧ t < cut.length
      · by_cases hd : d = 0 ∨ d = 1
        · exact hops_f cut d v t h.1 h.2 hd hv.1 hv.2 ht.1 ht.2
        · have hres : rgHops cut v t d = (0, false) := by unfold rgHops; rw [if_neg (fun hh => hd hh.2)]
          have hnt : substationref17_node.f cut t = some true := by rw [node_eq, decide_eq_true ht.1, decide_eq_true ht.2]; rfl
          refine ⟨1, fun K hK => ?_⟩
          obtain ⟨K, rfl⟩ : ∃ K', K = K' + 1 := ⟨K - 1, by omega⟩
          show substationref17_Hops.f (K + 1) cut v t d = _
          unfold substationref17_Hops.f
          rw [hcr, Option.bind_some, if_pos hr, hnv, Option.bind_some, if_pos rfl, hnt, Option.bind_some, if_pos rfl, hres]
          by_cases hvt : v = t
          · rw [if_pos hvt]; exact hbad K _ rfl
          · rw [if_neg hvt, if_neg (fun e => hd (.inl e))]
            exact hbad K _ (bne_iff_ne.2 (fun e => hd (.inr e)))
      · have hnt : substationref17_node.f cut t = some false := by
          rw [node_eq]
          by_cases a : 0 ≤ t
          · rw [decide_eq_true a, decide_eq_false (fun b => ht ⟨a, b⟩)]; rfl
          · rw [decide_eq_false a]; rfl
        have hres : rgHops cut v t d = (0, false) := by
          unfold rgHops
          split
          · have hf : rgFind (rgWay cut d (cut.length - 1) v 1) t = none := by
              obtain ⟨m, hm, hw⟩ := way_form (d := d) hv.1 hv.2
              rw [hw]
              unfold rgFind
              rw [List.find?_eq_none]
              intro p hp
              unfold wayL at hp
              obtain ⟨j, hj, rfl⟩ := List.mem_map.1 hp
              rw [List.mem_range] at hj
              have := pos_in (d := d) (j := (j : Int) + 1) hv.1 hv.2 (by omega) (by omega)
              simp only [decide_eq_true_eq]
              intro e
              exact ht (by rw [← e]; exact this)
            rw [hf]
          · rfl
        refine ⟨1, fun K hK => ?_⟩
        obtain ⟨K, rfl⟩ : ∃ K', K = K' + 1 := ⟨K - 1, by omega⟩
        show substationref17_Hops.f (K + 1) cut v t d = _
        unfold substationref17_Hops.f
        rw [hcr, Option.bind_some, if_pos hr, hnv, Option.bind_some, if_pos rfl, hnt, Option.bind_some, if_neg (by decide), hres]
        exact hbad K _ rfl
    · have hnv : substationref17_node.f cut v = some false := by
        rw [node_eq]
        by_cases a : 0 ≤ v
        · rw [decide_eq_true a, decide_eq_false (fun b => hv ⟨a, b⟩)]; rfl
        · rw [decide_eq_false a]; rfl
      have hres : rgHops cut v t d = (0, false) := by
        unfold rgHops; rw [if_neg (fun hh => by have := has_iff.1 hh.1; omega)]
      refine ⟨1, fun K hK => ?_⟩
      obtain ⟨K, rfl⟩ : ∃ K', K = K' + 1 := ⟨K - 1, by omega⟩
      show substationref17_Hops.f (K + 1) cut v t d = _
      unfold substationref17_Hops.f
      rw [hcr, Option.bind_some, if_pos hr, hnv, Option.bind_some, if_neg (by decide), hres]
      exact hbad K _ rfl
  · have hr : ¬ r = 0 := fun e => h (hr0.1 e)
    have hres : rgHops cut v t d = (0, false) := by
      unfold rgHops; rw [if_neg (fun hh => by have := has_iff.1 hh.1; omega)]
    refine ⟨1, fun K hK => ?_⟩
    obtain ⟨K, rfl⟩ : ∃ K', K = K' + 1 := ⟨K - 1, by omega⟩
    show substationref17_Hops.f (K + 1) cut v t d = _
    unfold substationref17_Hops.f
    rw [hcr, Option.bind_some, if_neg hr, hres]
    exact hbad K _ rfl
/-! ### reached -/
theorem take_snoc {l : List Bool} {i : Nat} (hi : i < l.length) : l.take i ++ [rdOf false l (i : Int)] = l.take (i + 1) := by
  rw [List.take_succ_eq_append_getElem hi]
  unfold rdOf
  simp only [Int.toNat_natCast, List.getD_eq_getElem?_getD, List.getElem?_eq_getElem hi, Option.getD_some]
theorem hops_isSome {cut : List Bool} {v t d : Int} (h : rgHas cut v = true) (hd : d = 0 ∨ d = 1) : (rgHops cut v t d).2 = (rgFind (rgWay cut d (cut.length - 1) v 1) t).isSome := by
  unfold rgHops
  rw [if_pos ⟨h, hd⟩]
  cases rgFind (rgWay cut d (cut.length - 1) v 1) t <;> rfl
theorem reached_l0 (cut : List Bool) (v : Int) (hh : rgHas cut v = true) : ∀ (r i : Nat), i + r = cut.length → Evr fun K => substationref17_Reached.l0 K v ((rgReached cut v).take i) i cut = some (rgReached cut v)
  | 0, i, hi => by
    refine ⟨1, fun K hK => ?_⟩
    obtain ⟨K, rfl⟩ : ∃ K', K = K' + 1 := ⟨K - 1, by omega⟩
    have hl := reached_len hh
    rw [substationref17_Reached.l0, if_neg (by omega), List.take_of_length_le (by omega)]
  | r + 1, i, hi => by
    have hl := reached_len hh
    obtain ⟨⟨⟨h3, h40⟩, hv0⟩, hv1⟩ := has_iff.1 hh
    refine ((hops_all cut v i 0).both ((hops_all cut v i 1).both (reached_l0 cut v hh r (i + 1) (by omega)))).step fun K hK => ?_
    obtain ⟨k0, k1, k2⟩ := hK
    have hrd := reached_rd (t := (i : Int)) hh (by omega) (by omega)
    rw [← hops_isSome hh (.inl rfl), ← hops_isSome hh (.inr rfl)] at hrd
    have hlen : ((rgReached cut v).take i).length < 140737488355328 := by simp; omega
    have hi2 : (i : Int) < cut.length := by omega
    have hil : i < (rgReached cut v).length := by omega
    have hts := take_snoc hil
    have hw : wrap64 ((i : Int) + 1) = ((i + 1 : Nat) : Int) := by rw [w64 (by omega) (by omega)]; exact (Int.natCast_add i 1).symm
    rw [substationref17_Reached.l0, if_pos hi2, k0, Option.bind_some, k1, Option.bind_some, hw]
    by_cases e : (i : Int) = v
    · rw [if_pos e, if_pos hlen]
      have : rdOf false (rgReached cut v) (i : Int) = true := by rw [hrd, decide_eq_true e.symm]; rfl
      rw [this] at hts
      rw [hts]
      exact k2
    · rw [if_neg e]
      rw [decide_eq_false (fun e' => e e'.symm), Bool.false_or] at hrd
      by_cases b : (rgHops cut v i 0).2 = true
      · rw [if_pos b, if_pos hlen]
        rw [b, Bool.true_or] at hrd
        rw [hrd] at hts
        rw [hts]
        exact k2
      · rw [if_neg b, if_pos hlen]
        rw [Bool.eq_false_iff.2 b, Bool.false_or] at hrd
        rw [← hrd, hts]
        exact k2
theorem reached_f (cut : List Bool) (v : Int) : Evr fun K => substationref17_Reached.f K cut v = some (rgReached cut v) := by
  obtain ⟨r, _, hcr, hr0⟩ := check_eq cut
  by_cases hh : rgHas cut v = true
  · obtain ⟨⟨⟨h3, h40⟩, hv0⟩, hv1⟩ := has_iff.1 hh
    refine (reached_l0 cut v hh cut.length 0 (by omega)).step fun K hK => ?_
    unfold substationref17_Reached.f
    rw [hcr, Option.bind_some, if_pos (hr0.2 ⟨h3, h40⟩), node_eq, Option.bind_some, decide_eq_true hv0, decide_eq_true hv1, substationref17_Reached.j0, if_neg (by decide)]
    simpa using hK
  · have hres : rgReached cut v = [] := by unfold rgReached; rw [if_neg hh]
    refine ⟨1, fun K hK => ?_⟩
    obtain ⟨K, rfl⟩ : ∃ K', K = K' + 1 := ⟨K - 1, by omega⟩
    show substationref17_Reached.f (K + 1) cut v = _
    have hj : ∀ x, x = true → substationref17_Reached.j0 (K + 1) v x cut = some [] := fun x hx => by rw [substationref17_Reached.j0, if_pos hx]
    unfold substationref17_Reached.f
    rw [hcr, Option.bind_some, hres]
    by_cases h : r = 0
    · have h' := hr0.1 h
      rw [if_pos h, node_eq, Option.bind_some]
      refine hj _ ?_
      by_cases a : 0 ≤ v
      · have b : ¬ v < cut.length := fun b => hh (has_iff.2 ⟨⟨h', a⟩, b⟩)
        rw [decide_eq_false b]; simp
      · rw [decide_eq_false a]; rfl
    · rw [if_neg h]
      exact hj _ rfl
theorem arr_f (cut : List Bool) (v : Int) : ∃ L : List S112, L.length < 100000 ∧ ring_Arrivals.f cut v = some L ∧ Evr fun K => substationref17_Arrivals.f K cut v = some (L.map cv) := by
  refine ⟨rgSort (rgRuns cut [(⟨v, 0⟩ : S71)] 1), ?_, ?_, ?_⟩
  · rw [rgSort_len]
    have := rgRuns_len cut [(⟨v, 0⟩ : S71)] 1
    omega
  · unfold ring_Arrivals.f ring_Run.f
    rw [if_pos (by simp)]
    rfl
  · obtain ⟨K0, h0⟩ := run_evr (cut := cut) (fs := [(⟨v, 0⟩ : S71)]) (by simp)
    refine ⟨K0, fun K hK => ?_⟩
    show substationref17_Arrivals.f K cut v = _
    have := h0 K hK
    unfold substationref17_Arrivals.f
    have e : ([(⟨v, 0⟩ : S72)] : List S72) = ([(⟨v, 0⟩ : S71)] : List S71).map fr := rfl
    rw [e, this]
    rfl
theorem ways_l1 (cut : List Bool) (v t : Int) : ∀ (r : Nat) (d : Int), d + r = 3 → -1 ≤ d → Evr fun K => substationlaw17_RingWays.l1 K v t d cut = some true
  | 0, d, hd, _ => by
    refine ⟨1, fun K hK => ?_⟩
    obtain ⟨K, rfl⟩ : ∃ K', K = K' + 1 := ⟨K - 1, by omega⟩
    rw [substationlaw17_RingWays.l1, if_neg (by omega)]
  | r + 1, d, hd, hd1 => by
    refine ((hops_all cut v t d).both (ways_l1 cut v t r (d + 1) (by omega) (by omega))).step fun K hK => ?_
    obtain ⟨k1, k2⟩ := hK
    have hlt : d < 3 := by omega
    have hw : wrap64 (d + 1) = d + 1 := w64 (by omega) (by omega)
    rw [substationlaw17_RingWays.l1, if_pos hlt]
    unfold ring_Hops.f substationlaw17_to.f
    rw [Option.bind_some, Option.bind_some, k1, Option.bind_some, if_pos rfl, if_neg (by simp), hw]
    exact k2
theorem ways_l0 (cut : List Bool) (v t : Int) (L : List Bool) (hL : L.length < 100000) : ∀ (r i : Nat), i + r = L.length → Evr fun K => substationlaw17_RingWays.l0 K v t L L i cut = some true
  | 0, i, hi => by
    refine (ways_l1 cut v t 4 (-1) (by omega) (by omega)).step fun K hK => ?_
    rw [substationlaw17_RingWays.l0, if_neg (by omega)]
    exact hK
  | r + 1, i, hi => by
    refine (ways_l0 cut v t L hL r (i + 1) (by omega)).step fun K hK => ?_
    have hlt : (i : Int) < L.length := by omega
    have h0 : (0 : Int) ≤ i := by omega
    have hw : wrap64 ((i : Int) + 1) = ((i + 1 : Nat) : Int) := by rw [w64 (by omega) (by omega)]; exact (Int.natCast_add i 1).symm
    rw [substationlaw17_RingWays.l0, if_pos hlt, if_pos h0, if_pos hlt, if_neg (by simp), hw]
    exact hK
theorem reached_short (cut : List Bool) (v : Int) : (rgReached cut v).length < 100000 := by
  by_cases hh : rgHas cut v = true
  · have := has_iff.1 hh
    rw [reached_len hh]; omega
  · unfold rgReached; rw [if_neg hh]; simp
theorem RingWays : RRingWays.Pure := by
  rintro ⟨cut⟩ v t _ _ _
  show ∃ k, substationlaw17_RingWays.f k cut v t = some true
  obtain ⟨r, hc1, hc2, _⟩ := check_eq cut
  obtain ⟨L, hL, ha, hra⟩ := arr_f cut v
  have h0 := ways_l0 cut v t (rgReached cut v) (reached_short cut v) (rgReached cut v).length 0 (by omega)
  obtain ⟨K0, hK0⟩ := ((reached_f cut v).both hra).both ((ways_same_f L hL).both h0)
  by_cases hl : (cut.length : Int) > 100
  · refine ⟨0, ?_⟩
    unfold substationlaw17_RingWays.f
    rw [known, Option.bind_some, if_pos rfl, if_pos hl]
  · refine ⟨K0 + 1, ?_⟩
    obtain ⟨⟨k1, k2⟩, k3, _⟩ := hK0 (K0 + 1) (by omega)
    obtain ⟨_, _, k4⟩ := hK0 K0 (Nat.le_refl _)
    unfold substationlaw17_RingWays.f ring_Reached.f substationlaw17_to.f
    simp only [known, Option.bind_some, if_true]
    rw [if_neg hl, k1, Option.bind_some, hc1, Option.bind_some, hc2, Option.bind_some, if_pos rfl, if_pos rfl, ha, Option.bind_some, k2, Option.bind_some, k3, Option.bind_some, substationlaw17_RingWays.j0, if_neg (by decide)]
    exact k4
end Go.Proofs.Ytnjddjpohobelaa.Pure
end
