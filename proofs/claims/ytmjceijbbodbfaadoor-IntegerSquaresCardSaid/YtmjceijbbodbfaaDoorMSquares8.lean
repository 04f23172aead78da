/- A part of the proof of the law integerSquares_holds: general lemmas, functions of the program as plain functions with proofs that the calls compute them, and what they compute; merged from this session's texts. -/
import Derived.Test.YtmjceijbbodbfaaDoorMSquares7
section
namespace Go.Proofs.YtmjceijbbodbfaaDoor.XA
open Go.RowKit Go.Proofs.YtmjceijbbodbfaaDoorW.PrintWords Go.Proofs.YtmjceijbbodbfaaDoorW.PrintLast Go.Proofs.YtmjceijbbodbfaaDoorW.PrintMore
attribute [local go_sem] max2_int min2_int max_two min_two max_three min_three max_four min_four   -- for this text's walks alone
set_option linter.unusedVariables false
set_option linter.unusedSimpArgs false
/-! ### substationlaw01_IntegerSquares: function 8 -/
def substationlaw01_IntegerSquares.j0 : Nat → Bool → Bool → List Int → Bool → List Int → Option (Bool)
 | 0, _, _, _, _, _ => none
 | k + 1, x24, x102000, x102001, x103000, x103001 => if x24 = true then (some true) else ((integer_Sub.f k x102000 x102001 x103000 x103001).bind fun bt110 => ((substationlaw01_product.f k x102000 x102001 x102000 x102001).bind fun bt116 => ((substationlaw01_product.f k x103000 x103001 x103000 x103001).bind fun bt120 => ((integer_Sub.f k bt116.1 bt116.2 bt120.1 bt120.2).bind fun bt124 => (if bt110.2.2 = 0 then (if bt124.2.2 = 0 then ((substationlaw01_sum.f k x102000 x102001 x103000 x103001).bind fun bt130 => ((substationlaw01_product.f k bt130.1 bt130.2 bt110.1 bt110.2.1).bind fun bt134 => ((substationref01_Same.f k bt134.1 bt134.2 bt124.1 bt124.2.1).bind fun t138 => (if t138 = true then ((substationlaw01_product.f k x102000 x102001 x102000 x102001).bind fun bt139 => ((substationlaw01_product.f k x103000 x103001 x103000 x103001).bind fun bt143 => ((integer_Compare.f k bt139.1 bt139.2 bt143.1 bt143.2).bind fun t147 => ((substationref01_Size.f k x102000 x102001).bind fun bt148 => ((substationref01_Size.f k x103000 x103001).bind fun bt152 => ((integer_Compare.f k bt148.1 bt148.2 bt152.1 bt152.2).bind fun t156 => (some (t147 == t156)))))))) else (some false))))) else (some false)) else (some false))))))
def substationlaw01_IntegerSquares.f (k : Nat) (a0_0 : Bool) (l0_1 : List Int) (a1_0 : Bool) (l1_1 : List Int) : Option (Bool) := (substationlaw01_known.f k).bind fun t103 => (if t103 = true then ((substationlaw01_Large.f k (([(⟨a0_0, l0_1⟩ : S27), (⟨a1_0, l1_1⟩ : S27)] : List (S27)))).bind fun t107 => (if t107 = true then (substationlaw01_IntegerSquares.j0 k true a0_0 l0_1 a1_0 l1_1) else ((substationref01_Valid.f a0_0 l0_1).bind fun t108 => (if t108 = true then ((substationref01_Valid.f a1_0 l1_1).bind fun t109 => (substationlaw01_IntegerSquares.j0 k (!t109) a0_0 l0_1 a1_0 l1_1)) else (substationlaw01_IntegerSquares.j0 k true a0_0 l0_1 a1_0 l1_1))))) else (some false))
theorem substationlaw01_IntegerSquares.mono_l : ∀ k, (∀ y0 y1 y2 y3 y4, LeO (substationlaw01_IntegerSquares.j0 k y0 y1 y2 y3 y4) (substationlaw01_IntegerSquares.j0 (k + 1) y0 y1 y2 y3 y4))
 | 0 => fun _ _ _ _ _ r h => by simp [substationlaw01_IntegerSquares.j0] at h
 | k + 1 => by
  have ih0 := substationlaw01_IntegerSquares.mono_l k
  ·intro y0 y1 y2 y3 y4
   unfold substationlaw01_IntegerSquares.j0
   repeat' first
   | (with_reducible exact ih0 _ _ _ _ _)
   | (with_reducible exact integer_Compare.mono _ _ _ _ _)
   | (with_reducible exact integer_Sub.mono _ _ _ _ _)
   | (with_reducible exact substationlaw01_Large.mono _ _)
   | (with_reducible exact substationlaw01_known.mono _)
   | (with_reducible exact substationlaw01_product.mono _ _ _ _ _)
   | (with_reducible exact substationlaw01_sum.mono _ _ _ _ _)
   | (with_reducible exact substationref01_Same.mono _ _ _ _ _)
   | (with_reducible exact substationref01_Size.mono _ _ _)
   | (with_reducible exact LeO.refl _)
   | (with_reducible exact LeO.none _)
   | (with_reducible refine LeO.ite ?_ ?_)
   | (with_reducible refine LeO.bind ?_ (fun _ => ?_))
   | exact ih0 _ _ _ _ _
   | exact integer_Compare.mono _ _ _ _ _
   | exact integer_Sub.mono _ _ _ _ _
   | exact substationlaw01_Large.mono _ _
   | exact substationlaw01_known.mono _
   | exact substationlaw01_product.mono _ _ _ _ _
   | exact substationlaw01_sum.mono _ _ _ _ _
   | exact substationref01_Same.mono _ _ _ _ _
   | exact substationref01_Size.mono _ _ _
   | exact LeO.none _
   | refine LeO.ite ?_ ?_
   | refine LeO.bind ?_ (fun _ => ?_)
theorem substationlaw01_IntegerSquares.mono : ∀ a0 a1 a2 a3 k, LeO (substationlaw01_IntegerSquares.f k a0 a1 a2 a3) (substationlaw01_IntegerSquares.f (k + 1) a0 a1 a2 a3) := by
 intro a0 a1 a2 a3 k
 have ih0 := substationlaw01_IntegerSquares.mono_l k
 unfold substationlaw01_IntegerSquares.f
 repeat' first
   | (with_reducible exact ih0 _ _ _ _ _)
   | (with_reducible exact integer_Compare.mono _ _ _ _ _)
   | (with_reducible exact integer_Sub.mono _ _ _ _ _)
   | (with_reducible exact substationlaw01_Large.mono _ _)
   | (with_reducible exact substationlaw01_known.mono _)
   | (with_reducible exact substationlaw01_product.mono _ _ _ _ _)
   | (with_reducible exact substationlaw01_sum.mono _ _ _ _ _)
   | (with_reducible exact substationref01_Same.mono _ _ _ _ _)
   | (with_reducible exact substationref01_Size.mono _ _ _)
   | (with_reducible exact LeO.refl _)
   | (with_reducible exact LeO.none _)
   | (with_reducible refine LeO.ite ?_ ?_)
   | (with_reducible refine LeO.bind ?_ (fun _ => ?_))
   | exact ih0 _ _ _ _ _
   | exact integer_Compare.mono _ _ _ _ _
   | exact integer_Sub.mono _ _ _ _ _
   | exact substationlaw01_Large.mono _ _
   | exact substationlaw01_known.mono _
   | exact substationlaw01_product.mono _ _ _ _ _
   | exact substationlaw01_sum.mono _ _ _ _ _
   | exact substationref01_Same.mono _ _ _ _ _
   | exact substationref01_Size.mono _ _ _
   | exact LeO.none _
   | refine LeO.ite ?_ ?_
   | refine LeO.bind ?_ (fun _ => ?_)
def substationlaw01_IntegerSquares.T6 : Bool × List (List Nat × List Nat) := (true, [([], []), ([], []), ([0, 1], [0, 1]), ([], []), ([], []), ([3, 4, 2], [3, 4]), ([2, 5, 5], [2, 5]), ([6], [6]), ([7], [7]), ([7], [7]), ([], []), ([10, 8, 6, 0, 1, 2, 3, 4, 5, 6, 7, 8, 10], [8, 10]), ([9, 11, 0, 1, 2, 3, 4, 5, 6, 7, 8, 9, 10, 11], [9])])
def substationlaw01_IntegerSquares.B6 : List Nat := [0, 0, 3, 0, 0, 31, 63, 127, 255, 255, 0, 1535, 4095]
theorem substationlaw01_IntegerSquares.tab6 : rtab .any (opsOf Tryd.f8 6) = substationlaw01_IntegerSquares.T6 := by kernel_rfl
theorem substationlaw01_IntegerSquares.bits6 : waitsOk substationlaw01_IntegerSquares.T6.2 substationlaw01_IntegerSquares.B6 = true := by kernel_rfl
def substationlaw01_IntegerSquares.T7 : Bool × List (List Nat × List Nat) := (true, [([], []), ([0], [0]), ([1], [1]), ([2], [2]), ([3, 2], [2, 3]), ([2, 4], [2, 4]), ([5, 2], [5]), ([6], [6]), ([6], [6]), ([7, 8, 6, 6], [6, 7, 8]), ([6], [6]), ([9, 10, 9, 6], [6, 9, 10]), ([6], [6]), ([11, 12, 11, 6], [6, 11, 12]), ([6, 13], [6, 13]), ([14, 13], [14]), ([15], [15]), ([15], [15]), ([16, 17, 15, 15], [15, 16, 17]), ([15], [15]), ([15], [15]), ([19, 20, 18, 15], [15, 19, 20]), ([18, 21, 21, 15], [15, 18, 21]), ([15], [15]), ([23, 22, 15], [15, 23]), ([15], [15]), ([25, 24, 15], [15, 25]), ([24, 26, 26, 15], [15, 24, 26]), ([22, 27, 15], [15, 22, 27]), ([15, 28], [15, 28]), ([29, 27, 0, 1, 2, 3, 4, 5, 6, 7, 8, 9, 10, 11, 12, 13, 14, 15, 16, 17, 18, 19, 20, 21, 22, 23, 24, 25, 26, 27, 28, 29], [29])])
def substationlaw01_IntegerSquares.B7 : List Nat := [0, 1, 3, 7, 15, 31, 63, 127, 127, 511, 127, 2047, 127, 8191, 16383, 32767, 65535, 65535, 262143, 65535, 65535, 2097151, 4194303, 65535, 16777215, 65535, 67108863, 134217727, 268435455, 536870911, 1073741823]
theorem substationlaw01_IntegerSquares.tab7 : rtab .any (opsOf Tryd.f8 7) = substationlaw01_IntegerSquares.T7 := by kernel_rfl
theorem substationlaw01_IntegerSquares.bits7 : waitsOk substationlaw01_IntegerSquares.T7.2 substationlaw01_IntegerSquares.B7 = true := by kernel_rfl
set_option maxHeartbeats 8000000 in
set_option maxRecDepth 100000 in
theorem substationlaw01_IntegerSquares.calls (k : Nat) (a0_0 : Bool) (P0_1_ : Nat → Prop) (A0_1 : Option Addr) (c0_1 : Nat) (l0_1 : List Int) (a1_0 : Bool) (P1_1_ : Nat → Prop) (A1_1 : Option Addr) (c1_1 : Nat) (l1_1 : List Int) (r : Bool) (w : World) (hs0_1 : Kd.V (Kd.int .u32) 22 w w.heap.size (fun k_ => P0_1_ k_) (.slice A0_1 l0_1.length c0_1) l0_1) (hs1_1 : Kd.V (Kd.int .u32) 22 w w.heap.size (fun k_ => P1_1_ k_) (.slice A1_1 l1_1.length c1_1) l1_1) (hr_ : r = true) (h : substationlaw01_IntegerSquares.f k a0_0 l0_1 a1_0 l1_1 = some r) :
  Calls Tryd.prog 8 #[.agg #[.bool a0_0, .slice A0_1 l0_1.length c0_1], .agg #[.bool a1_0, .slice A1_1 l1_1.length c1_1]] w fun e w' => e = .returned (.bool r) ∧ Below w.heap.size w w' := by
 have hu27 := Tryd.underlying27
 have HO0_1 := Aside0.mk (show Kd.V (Kd.int .u32) 22 w w.heap.size (fun k_ => ((P0_1_ k_ ∨ P1_1_ k_) ∨ w.heap.size ≤ k_)) (.slice A0_1 l0_1.length c0_1) l0_1 from Kd.V_mono hs0_1 (fun k_ hk => .inl (.inl hk)))
 have HO1_1 := Aside0.mk (show Kd.V (Kd.int .u32) 22 w w.heap.size (fun k_ => ((P0_1_ k_ ∨ P1_1_ k_) ∨ w.heap.size ≤ k_)) (.slice A1_1 l1_1.length c1_1) l1_1 from Kd.V_mono hs1_1 (fun k_ hk => .inl (.inr hk)))
 have HB := Aside0.mk (Below.refl w.heap.size w)
 have H : ((substationlaw01_known.f k).bind fun t103 => (if t103 = true then ((substationlaw01_Large.f k (([(⟨a0_0, l0_1⟩ : S27), (⟨a1_0, l1_1⟩ : S27)] : List (S27)))).bind fun t107 => (if t107 = true then (substationlaw01_IntegerSquares.j0 k true a0_0 l0_1 a1_0 l1_1) else ((substationref01_Valid.f a0_0 l0_1).bind fun t108 => (if t108 = true then ((substationref01_Valid.f a1_0 l1_1).bind fun t109 => (substationlaw01_IntegerSquares.j0 k (!t109) a0_0 l0_1 a1_0 l1_1)) else (substationlaw01_IntegerSquares.j0 k true a0_0 l0_1 a1_0 l1_1))))) else (some false))) = some r := h
 clear h
 replace H := Option.bind_eq_some_iff.mp H
 obtain ⟨t103, A30, H⟩ := H
 replace H : (if t103 = true then ((substationlaw01_Large.f k (([(⟨a0_0, l0_1⟩ : S27), (⟨a1_0, l1_1⟩ : S27)] : List (S27)))).bind fun t107 => (if t107 = true then (substationlaw01_IntegerSquares.j0 k true a0_0 l0_1 a1_0 l1_1) else ((substationref01_Valid.f a0_0 l0_1).bind fun t108 => (if t108 = true then ((substationref01_Valid.f a1_0 l1_1).bind fun t109 => (substationlaw01_IntegerSquares.j0 k (!t109) a0_0 l0_1 a1_0 l1_1)) else (substationlaw01_IntegerSquares.j0 k true a0_0 l0_1 a1_0 l1_1))))) else (some false)) = some r := H
 have A3 := Aside0.mk A30
 clear A30
 by_cases c4 : t103 = true
 ·subst c4
  have H1 : ((substationlaw01_Large.f k (([(⟨a0_0, l0_1⟩ : S27), (⟨a1_0, l1_1⟩ : S27)] : List (S27)))).bind fun t107 => (if t107 = true then (substationlaw01_IntegerSquares.j0 k true a0_0 l0_1 a1_0 l1_1) else ((substationref01_Valid.f a0_0 l0_1).bind fun t108 => (if t108 = true then ((substationref01_Valid.f a1_0 l1_1).bind fun t109 => (substationlaw01_IntegerSquares.j0 k (!t109) a0_0 l0_1 a1_0 l1_1)) else (substationlaw01_IntegerSquares.j0 k true a0_0 l0_1 a1_0 l1_1))))) = some r := by rw [if_pos rfl] at H; exact H
  clear H
  have H := H1
  clear H1
  have HC5 := Aside0.mk H
  clear H
  go_enter Tryd.func8, Tryd.ntmps8
  go_upto_region 3 with (first | ((with_reducible refine gate_dst (N := 2) rfl ?_); refine box_event ?hg (N := 2) ?hd (cs := #[.bool a0_0, .slice A0_1 l0_1.length c0_1]) (t := 27) ?hr ?_; (case hd => rfl); (case hg => rfl); (case hr => first | (go_simp; done) | (go_simp; rfl)); intro gb101 hg w6 hbox hb; have n0_ := Aside0.mk (Kd.V_below (Kd.V_elderB (by (with_reducible repeat (first | apply Kd.V_alloc | apply Kd.V_drewN | apply Kd.V_drew)); exact HO0_1.out) gb101 (Nat.le_of_eq hg.symm)) hb); have n1_ := Aside0.mk (Kd.V_below (Kd.V_elderB (by (with_reducible repeat (first | apply Kd.V_alloc | apply Kd.V_drewN | apply Kd.V_drew)); exact HO1_1.out) gb101 (Nat.le_of_eq hg.symm)) hb); have n2_ := Aside0.mk (below_step (by repeat (first | (with_reducible first | exact HB.out | apply below_alloc | apply pw_below_drewN | apply below_drew1) | exact HB.out)) hb); have n3_ := Aside0.mk (hbox); have n4_ := Aside0.mk ((by rw [hg]; exact (below_size (by repeat (first | (with_reducible first | exact HB.out | apply below_alloc | apply pw_below_drewN | apply below_drew1) | exact HB.out))) : w.heap.size ≤ gb101)); have n5_ := Aside0.mk ((by rw [hg]; exact (below_size (by repeat (first | (with_reducible first | exact HB.out | apply below_alloc | apply pw_below_drewN | apply below_drew1) | exact HB.out))) : w.heap.size ≤ gb101)); clear HO0_1; clear HO1_1; clear HB; have HO0_1 := n0_; have HO1_1 := n1_; have HB := n2_; have BK101 := n3_; have GW101 := n4_; have GE101 := n5_; clear n0_ n1_ n2_ n3_ n4_ n5_; clear hb hbox hg) | ((with_reducible refine gate_dst (N := 3) rfl ?_); refine box_event ?hg (N := 3) ?hd (cs := #[.bool a1_0, .slice A1_1 l1_1.length c1_1]) (t := 27) ?hr ?_; (case hd => rfl); (case hg => rfl); (case hr => first | (go_simp; done) | (go_simp; rfl)); intro gb102 hg w7 hbox hb; have n0_ := Aside0.mk (Kd.V_below (Kd.V_elderB (by (with_reducible repeat (first | apply Kd.V_alloc | apply Kd.V_drewN | apply Kd.V_drew)); exact HO0_1.out) gb102 (Nat.le_of_eq hg.symm)) hb); have n1_ := Aside0.mk (Kd.V_below (Kd.V_elderB (by (with_reducible repeat (first | apply Kd.V_alloc | apply Kd.V_drewN | apply Kd.V_drew)); exact HO1_1.out) gb102 (Nat.le_of_eq hg.symm)) hb); have n2_ := Aside0.mk (blk_below (g := gb101) (o := .cells #[.bool a0_0, .slice A0_1 l0_1.length c0_1] 27 (0, 0)) (by (with_reducible repeat (first | refine blk_drewN ?_ _ | refine blk_drew ?_ | refine blk_alloc ?_ _)); exact BK101.out) hb); have n3_ := Aside0.mk (below_step (by repeat (first | (with_reducible first | exact HB.out | apply below_alloc | apply pw_below_drewN | apply below_drew1 | refine below_set ?_ GE101.out) | exact HB.out)) hb); have n4_ := Aside0.mk (hbox); have n5_ := Aside0.mk ((by rw [hg]; exact (below_size (by repeat (first | (with_reducible first | exact HB.out | apply below_alloc | apply pw_below_drewN | apply below_drew1 | refine below_set ?_ GE101.out) | exact HB.out))) : w.heap.size ≤ gb102)); have n6_ := Aside0.mk ((by rw [hg]; exact (below_size (by repeat (first | (with_reducible first | exact HB.out | apply below_alloc | apply pw_below_drewN | apply below_drew1 | refine below_set ?_ GE101.out) | exact HB.out))) : w.heap.size ≤ gb102)); have n7_ := Aside0.mk ((by rw [hg]; exact Nat.ne_of_lt (blk_lt (g := gb101) (o := .cells #[.bool a0_0, .slice A0_1 l0_1.length c0_1] 27 (0, 0)) (by (with_reducible repeat (first | refine blk_drewN ?_ _ | refine blk_drew ?_ | refine blk_alloc ?_ _)); exact BK101.out)) : gb101 ≠ gb102)); have n8_ := Aside0.mk ((by rw [hg]; exact Nat.ne_of_gt (blk_lt (g := gb101) (o := .cells #[.bool a0_0, .slice A0_1 l0_1.length c0_1] 27 (0, 0)) (by (with_reducible repeat (first | refine blk_drewN ?_ _ | refine blk_drew ?_ | refine blk_alloc ?_ _)); exact BK101.out)) : gb102 ≠ gb101)); clear HO0_1; clear HO1_1; clear BK101; clear HB; have HO0_1 := n0_; have HO1_1 := n1_; have BK101 := n2_; have HB := n3_; have BK102 := n4_; have GW102 := n5_; have GE102 := n6_; have NB101_102 := n7_; have NB102_101 := n8_; clear n0_ n1_ n2_ n3_ n4_ n5_ n6_ n7_ n8_; clear hb hbox hg) | ((with_reducible refine gate_callee (f := 13) rfl ?_); refine goesL_ (some 9) rfl rfl Tryd.func13 (by kernel_rfl) rfl #[] rfl (by (try simp only [List.map_toArray, List.map_cons, List.map_nil]); first | done | rfl | (simp only [List.length_drop, List.length_take]; rfl)) ?_; (with_reducible refine (substationlaw01_known.calls k  true _ A3.out).mono ?_); rintro e w8 ⟨rfl, hb⟩; refine ⟨_, rfl, ?_⟩; have n0_ := Aside0.mk (Kd.V_below (by (with_reducible repeat (first | apply Kd.V_alloc | apply Kd.V_drewN | apply Kd.V_drew)); exact HO0_1.out) hb); have n1_ := Aside0.mk (Kd.V_below (by (with_reducible repeat (first | apply Kd.V_alloc | apply Kd.V_drewN | apply Kd.V_drew)); exact HO1_1.out) hb); have n2_ := Aside0.mk (blk_below (g := gb101) (o := .cells #[.bool a0_0, .slice A0_1 l0_1.length c0_1] 27 (0, 0)) (by (with_reducible repeat (first | refine blk_drewN ?_ _ | refine blk_drew ?_ | refine blk_alloc ?_ _)); exact BK101.out) hb); have n3_ := Aside0.mk (blk_below (g := gb102) (o := .cells #[.bool a1_0, .slice A1_1 l1_1.length c1_1] 27 (0, 0)) (by (with_reducible repeat (first | refine blk_drewN ?_ _ | refine blk_drew ?_ | refine blk_alloc ?_ _)); exact BK102.out) hb); have n4_ := Aside0.mk (below_step (by repeat (first | (with_reducible first | exact HB.out | apply below_alloc | apply pw_below_drewN | apply below_drew1 | refine below_set ?_ GE101.out | refine below_set ?_ GE102.out) | exact HB.out)) hb); clear HO0_1; clear HO1_1; clear BK101; clear BK102; clear HB; have HO0_1 := n0_; have HO1_1 := n1_; have BK101 := n2_; have BK102 := n3_; have HB := n4_; clear n0_ n1_ n2_ n3_ n4_; (try clear hb); (try clear hb2); (try clear hk); (try clear hi)))
  (try simp only [Act.put, List.setIfInBounds_toArray, List.set_cons_zero, List.set_cons_succ])
  go_cut [24] (fun v24 wc => ∃ (kq : Nat) (x24_4 : Bool), v24 = .bool x24_4 ∧ Aside0 (substationlaw01_IntegerSquares.j0 kq x24_4 a0_0 l0_1 a1_0 l1_1 = some r) ∧ Aside0 (kq ≤ k) ∧ Aside0 (Kd.V (Kd.int .u32) 22 wc w.heap.size (fun k_ => ((P0_1_ k_ ∨ P1_1_ k_) ∨ w.heap.size ≤ k_) ∧ k_ ≠ gb101 ∧ k_ ≠ gb102) (.slice A0_1 l0_1.length c0_1) l0_1) ∧ Aside0 (Kd.V (Kd.int .u32) 22 wc w.heap.size (fun k_ => ((P0_1_ k_ ∨ P1_1_ k_) ∨ w.heap.size ≤ k_) ∧ k_ ≠ gb101 ∧ k_ ≠ gb102) (.slice A1_1 l1_1.length c1_1) l1_1) ∧ Aside0 (wc.heap[gb101]? = some (.cells #[.bool a0_0, (.slice A0_1 l0_1.length c0_1)] 27 (0, 0))) ∧ Aside0 (wc.heap[gb102]? = some (.cells #[.bool a1_0, (.slice A1_1 l1_1.length c1_1)] 27 (0, 0))) ∧ Aside0 (Below w.heap.size w wc))
  case first =>
   have H := HC5.out
   clear HC5
   obtain ⟨y104, hy104⟩ : ∃ y_ : List (S27), y_ = (([(⟨a0_0, l0_1⟩ : S27), (⟨a1_0, l1_1⟩ : S27)] : List (S27))) := ⟨_, rfl⟩
   replace H : ((substationlaw01_Large.f k y104).bind fun t107 => (if t107 = true then (substationlaw01_IntegerSquares.j0 k true a0_0 l0_1 a1_0 l1_1) else ((substationref01_Valid.f a0_0 l0_1).bind fun t108 => (if t108 = true then ((substationref01_Valid.f a1_0 l1_1).bind fun t109 => (substationlaw01_IntegerSquares.j0 k (!t109) a0_0 l0_1 a1_0 l1_1)) else (substationlaw01_IntegerSquares.j0 k true a0_0 l0_1 a1_0 l1_1))))) = some r := by first | (rw [hy104]; with_reducible exact H) | (have H2_ := (Option.bind_some _ _).symm.trans H; rw [hy104]; with_reducible exact H2_) | (have H2_ := (Option.bind_some _ _).symm.trans H; with_reducible exact H2_) | with_reducible exact H | (rw [hy104]; exact H) | exact H
   have Ny104 := Aside0.mk hy104
   clear hy104
   replace H := Option.bind_eq_some_iff.mp H
   obtain ⟨t107, A90, H⟩ := H
   replace H : (if t107 = true then (substationlaw01_IntegerSquares.j0 k true a0_0 l0_1 a1_0 l1_1) else ((substationref01_Valid.f a0_0 l0_1).bind fun t108 => (if t108 = true then ((substationref01_Valid.f a1_0 l1_1).bind fun t109 => (substationlaw01_IntegerSquares.j0 k (!t109) a0_0 l0_1 a1_0 l1_1)) else (substationlaw01_IntegerSquares.j0 k true a0_0 l0_1 a1_0 l1_1)))) = some r := H
   have A9 := Aside0.mk A90
   clear A90
   by_cases c10 : t107 = true
   ·subst c10
    have H1 : (substationlaw01_IntegerSquares.j0 k true a0_0 l0_1 a1_0 l1_1) = some r := by rw [if_pos rfl] at H; exact H
    clear H
    have H := H1
    clear H1
    have H' := Aside0.mk H
    clear H
    have hnb11 := NB101_102.out
    have hnc11 := NB102_101.out
    have hcz12_0 : w8.cell? ⟨gb101, 0, none⟩ = some (.bool a0_0) := (blk_cell BK101.out 0).trans rfl
    have hcz12_1 : w8.cell? ⟨gb101, 1, none⟩ = some (.slice A0_1 l0_1.length c0_1) := (blk_cell BK101.out 1).trans rfl
    have hfz12_0 := blk_frozen BK101.out 0
    have hfz12_1 := blk_frozen BK101.out 1
    have hcz13_0 : w8.cell? ⟨gb102, 0, none⟩ = some (.bool a1_0) := (blk_cell BK102.out 0).trans rfl
    have hcz13_1 : w8.cell? ⟨gb102, 1, none⟩ = some (.slice A1_1 l1_1.length c1_1) := (blk_cell BK102.out 1).trans rfl
    have hfz13_0 := blk_frozen BK102.out 0
    have hfz13_1 := blk_frozen BK102.out 1
    go_wp2_with (first | ((with_reducible refine gate_dst (N := 13) rfl ?_); refine Kd.N_lit k27 _ 27 ?hg (N' := 13) ?hd (xs := ([(⟨a0_0, l0_1⟩ : S27), (⟨a1_0, l1_1⟩ : S27)] : List (S27))) (inner := [.bool a0_0, .slice A0_1 l0_1.length c0_1, .bool a1_0, .slice A1_1 l1_1.length c1_1]) (ok := (fun k_ => ((P0_1_ k_ ∨ P1_1_ k_) ∨ w.heap.size ≤ k_) ∧ k_ ≠ gb101 ∧ k_ ≠ gb102)) (okp := (fun k_ => ((P0_1_ k_ ∨ P1_1_ k_) ∨ w.heap.size ≤ k_) ∧ k_ ≠ gb101 ∧ k_ ≠ gb102)) ?hr ?hp (fun _ hk => hk) ((show ∀ k_, w8.heap.size ≤ k_ → (fun k_ => ((P0_1_ k_ ∨ P1_1_ k_) ∨ w.heap.size ≤ k_) ∧ k_ ≠ gb101 ∧ k_ ≠ gb102) k_ from fun k_ hk => ⟨(.inr (Nat.le_trans (below_size (by repeat (first | (with_reducible first | exact HB.out | apply below_alloc | apply pw_below_drewN | apply below_drew1 | refine below_set ?_ GE101.out | refine below_set ?_ GE102.out) | exact HB.out))) hk)), Kd.freshB (g := gb101) (o := .cells #[.bool a0_0, .slice A0_1 l0_1.length c0_1] 27 (0, 0)) (by (with_reducible repeat (first | refine blk_drewN ?_ _ | refine blk_drew ?_ | refine blk_alloc ?_ _)); exact BK101.out) k_ hk, Kd.freshB (g := gb102) (o := .cells #[.bool a1_0, .slice A1_1 l1_1.length c1_1] 27 (0, 0)) (by (with_reducible repeat (first | refine blk_drewN ?_ _ | refine blk_drew ?_ | refine blk_alloc ?_ _)); exact BK102.out) k_ hk⟩) _ (Nat.le_refl _)) (Below.refl _ _) (Nat.le_refl _) (by simp) ?_; (case hd => rfl); (case hg => rfl); (case hr => first | (go_simp; done) | (go_simp; rfl)); (case hp => exact (Reps.c2 (show Kd.FK k27 _ _ (⟨a0_0, l0_1⟩ : S27) [.bool a0_0, .slice A0_1 l0_1.length c0_1] from (k27_mkF _ _ (⟨a0_0, l0_1⟩ : S27) (Kd.V_reads' (Kd.V_mono (ok' := (fun k_ => ((P0_1_ k_ ∨ P1_1_ k_) ∨ w.heap.size ≤ k_) ∧ k_ ≠ gb101 ∧ k_ ≠ gb102)) (HO0_1.out) (fun k_ hk => ⟨hk.1.1, ⟨hk.1.2, hk.2⟩⟩))).2.1 (Kd.V_F (Kd.V_mono (ok' := (fun k_ => ((P0_1_ k_ ∨ P1_1_ k_) ∨ w.heap.size ≤ k_) ∧ k_ ≠ gb101 ∧ k_ ≠ gb102)) (HO0_1.out) (fun k_ hk => ⟨hk.1.1, ⟨hk.1.2, hk.2⟩⟩))))) (Reps.c2 (show Kd.FK k27 _ _ (⟨a1_0, l1_1⟩ : S27) [.bool a1_0, .slice A1_1 l1_1.length c1_1] from (k27_mkF _ _ (⟨a1_0, l1_1⟩ : S27) (Kd.V_reads' (Kd.V_mono (ok' := (fun k_ => ((P0_1_ k_ ∨ P1_1_ k_) ∨ w.heap.size ≤ k_) ∧ k_ ≠ gb101 ∧ k_ ≠ gb102)) (HO1_1.out) (fun k_ hk => ⟨hk.1.1, ⟨hk.1.2, hk.2⟩⟩))).2.1 (Kd.V_F (Kd.V_mono (ok' := (fun k_ => ((P0_1_ k_ ∨ P1_1_ k_) ∨ w.heap.size ≤ k_) ∧ k_ ≠ gb101 ∧ k_ ≠ gb102)) (HO1_1.out) (fun k_ hk => ⟨hk.1.1, ⟨hk.1.2, hk.2⟩⟩))))) (Reps.none _ _)))); intro v105 w14 ho15 hb hg_ hnew_; clear hg_ hnew_; (first | rw [← Ny104.out] at ho15 | (simp only [Int.reduceToNat] at ho15; rw [← Ny104.out] at ho15)); have n0_ := Aside0.mk (Kd.V_elder' (by (with_reducible repeat (first | apply Kd.V_alloc | apply Kd.V_drewN | apply Kd.V_drew)); exact HO0_1.out) (Kd.N_base ho15) hb); have n1_ := Aside0.mk (Kd.V_elder' (by (with_reducible repeat (first | apply Kd.V_alloc | apply Kd.V_drewN | apply Kd.V_drew)); exact HO1_1.out) (Kd.N_base ho15) hb); have n2_ := Aside0.mk (Kd.N_lower ho15 (below_size (by repeat (first | (with_reducible first | exact HB.out | apply below_alloc | apply pw_below_drewN | apply below_drew1 | refine below_set ?_ GE101.out | refine below_set ?_ GE102.out) | exact HB.out)))); have n3_ := Aside0.mk (blk_below (g := gb101) (o := .cells #[.bool a0_0, .slice A0_1 l0_1.length c0_1] 27 (0, 0)) (by (with_reducible repeat (first | refine blk_drewN ?_ _ | refine blk_drew ?_ | refine blk_alloc ?_ _)); exact BK101.out) hb); have n4_ := Aside0.mk (blk_below (g := gb102) (o := .cells #[.bool a1_0, .slice A1_1 l1_1.length c1_1] 27 (0, 0)) (by (with_reducible repeat (first | refine blk_drewN ?_ _ | refine blk_drew ?_ | refine blk_alloc ?_ _)); exact BK102.out) hb); have n5_ := Aside0.mk (below_step (by repeat (first | (with_reducible first | exact HB.out | apply below_alloc | apply pw_below_drewN | apply below_drew1 | refine below_set ?_ GE101.out | refine below_set ?_ GE102.out) | exact HB.out)) hb); clear HO0_1; clear HO1_1; clear BK101; clear BK102; clear HB; have HO0_1 := n0_; have HO1_1 := n1_; have HO106 := n2_; have BK101 := n3_; have BK102 := n4_; have HB := n5_; clear n0_ n1_ n2_ n3_ n4_ n5_; clear hb ho15; obtain ⟨Ao16, co16, eo16⟩ := Kd.N_slice HO106.out; subst eo16) | ((with_reducible refine gate_callee (f := 21) rfl ?_); refine goesL_ (some 14) rfl rfl Tryd.func21 (by kernel_rfl) rfl #[.slice Ao16 y104.length co16] rfl (by (try simp only [List.map_toArray, List.map_cons, List.map_nil]); first | done | rfl | (simp only [List.length_drop, List.length_take]; rfl)) ?_; (with_reducible refine (substationlaw01_Large.calls k _ _ y104 true _ ?side1 ?side2 A9.out).mono ?_); (case side1 => repeat (first | exact (Kd.N_reads' HO106.out).2.2 | (with_reducible refine Kd.C_alloc ?_ _) | (with_reducible refine Kd.C_drewN ?_ _) | (with_reducible refine Kd.C_drew ?_))); (case side2 => exact (Kd.N_reads' HO106.out).2.1); rintro e w' ⟨rfl, ⟨nd, rfl⟩⟩; refine ⟨_, rfl, ?_⟩))
    go_meet
    case rel => exact ⟨_, (true), (by first | rfl | (simp; done) | (simp [*]; done) | (simp; omega)), H', ⟨by first | omega | exact Nat.le_refl _⟩, ⟨by (with_reducible repeat (first | apply Kd.V_alloc | apply Kd.V_drewN | apply Kd.V_drew)); exact Kd.V_mono HO0_1.out (fun _ hk => ⟨hk.1.1.1, ⟨hk.1.1.2, hk.1.2⟩⟩)⟩, ⟨by (with_reducible repeat (first | apply Kd.V_alloc | apply Kd.V_drewN | apply Kd.V_drew)); exact Kd.V_mono HO1_1.out (fun _ hk => ⟨hk.1.1.1, ⟨hk.1.1.2, hk.1.2⟩⟩)⟩, ⟨by (with_reducible repeat (first | refine blk_drewN ?_ _ | refine blk_drew ?_ | refine blk_alloc ?_ _)); exact BK101.out⟩, ⟨by (with_reducible repeat (first | refine blk_drewN ?_ _ | refine blk_drew ?_ | refine blk_alloc ?_ _)); exact BK102.out⟩, ⟨by repeat (first | (with_reducible first | exact HB.out | apply below_alloc | apply pw_below_drewN | apply below_drew1 | refine below_set ?_ GE101.out | refine below_set ?_ GE102.out) | exact HB.out)⟩⟩
   ·replace c10 := Bool.eq_false_iff.mpr c10
    subst c10
    have H1 : ((substationref01_Valid.f a0_0 l0_1).bind fun t108 => (if t108 = true then ((substationref01_Valid.f a1_0 l1_1).bind fun t109 => (substationlaw01_IntegerSquares.j0 k (!t109) a0_0 l0_1 a1_0 l1_1)) else (substationlaw01_IntegerSquares.j0 k true a0_0 l0_1 a1_0 l1_1))) = some r := by rw [if_neg (show ¬ (false = true) by decide)] at H; exact H
    clear H
    have H := H1
    clear H1
    replace H := Option.bind_eq_some_iff.mp H
    obtain ⟨t108, A170, H⟩ := H
    replace H : (if t108 = true then ((substationref01_Valid.f a1_0 l1_1).bind fun t109 => (substationlaw01_IntegerSquares.j0 k (!t109) a0_0 l0_1 a1_0 l1_1)) else (substationlaw01_IntegerSquares.j0 k true a0_0 l0_1 a1_0 l1_1)) = some r := H
    have A17 := Aside0.mk A170
    clear A170
    by_cases c18 : t108 = true
    ·subst c18
     have H1 : ((substationref01_Valid.f a1_0 l1_1).bind fun t109 => (substationlaw01_IntegerSquares.j0 k (!t109) a0_0 l0_1 a1_0 l1_1)) = some r := by rw [if_pos rfl] at H; exact H
     clear H
     have H := H1
     clear H1
     replace H := Option.bind_eq_some_iff.mp H
     obtain ⟨t109, A190, H⟩ := H
     replace H : (substationlaw01_IntegerSquares.j0 k (!t109) a0_0 l0_1 a1_0 l1_1) = some r := H
     have A19 := Aside0.mk A190
     clear A190
     have H' := Aside0.mk H
     clear H
     have hnb20 := NB101_102.out
     have hnc20 := NB102_101.out
     have hcz21_0 : w8.cell? ⟨gb101, 0, none⟩ = some (.bool a0_0) := (blk_cell BK101.out 0).trans rfl
     have hcz21_1 : w8.cell? ⟨gb101, 1, none⟩ = some (.slice A0_1 l0_1.length c0_1) := (blk_cell BK101.out 1).trans rfl
     have hfz21_0 := blk_frozen BK101.out 0
     have hfz21_1 := blk_frozen BK101.out 1
     have hcz22_0 : w8.cell? ⟨gb102, 0, none⟩ = some (.bool a1_0) := (blk_cell BK102.out 0).trans rfl
     have hcz22_1 : w8.cell? ⟨gb102, 1, none⟩ = some (.slice A1_1 l1_1.length c1_1) := (blk_cell BK102.out 1).trans rfl
     have hfz22_0 := blk_frozen BK102.out 0
     have hfz22_1 := blk_frozen BK102.out 1
     go_wp2_with (first | ((with_reducible refine gate_dst (N := 13) rfl ?_); refine Kd.N_lit k27 _ 27 ?hg (N' := 13) ?hd (xs := ([(⟨a0_0, l0_1⟩ : S27), (⟨a1_0, l1_1⟩ : S27)] : List (S27))) (inner := [.bool a0_0, .slice A0_1 l0_1.length c0_1, .bool a1_0, .slice A1_1 l1_1.length c1_1]) (ok := (fun k_ => ((P0_1_ k_ ∨ P1_1_ k_) ∨ w.heap.size ≤ k_) ∧ k_ ≠ gb101 ∧ k_ ≠ gb102)) (okp := (fun k_ => ((P0_1_ k_ ∨ P1_1_ k_) ∨ w.heap.size ≤ k_) ∧ k_ ≠ gb101 ∧ k_ ≠ gb102)) ?hr ?hp (fun _ hk => hk) ((show ∀ k_, w8.heap.size ≤ k_ → (fun k_ => ((P0_1_ k_ ∨ P1_1_ k_) ∨ w.heap.size ≤ k_) ∧ k_ ≠ gb101 ∧ k_ ≠ gb102) k_ from fun k_ hk => ⟨(.inr (Nat.le_trans (below_size (by repeat (first | (with_reducible first | exact HB.out | apply below_alloc | apply pw_below_drewN | apply below_drew1 | refine below_set ?_ GE101.out | refine below_set ?_ GE102.out) | exact HB.out))) hk)), Kd.freshB (g := gb101) (o := .cells #[.bool a0_0, .slice A0_1 l0_1.length c0_1] 27 (0, 0)) (by (with_reducible repeat (first | refine blk_drewN ?_ _ | refine blk_drew ?_ | refine blk_alloc ?_ _)); exact BK101.out) k_ hk, Kd.freshB (g := gb102) (o := .cells #[.bool a1_0, .slice A1_1 l1_1.length c1_1] 27 (0, 0)) (by (with_reducible repeat (first | refine blk_drewN ?_ _ | refine blk_drew ?_ | refine blk_alloc ?_ _)); exact BK102.out) k_ hk⟩) _ (Nat.le_refl _)) (Below.refl _ _) (Nat.le_refl _) (by simp) ?_; (case hd => rfl); (case hg => rfl); (case hr => first | (go_simp; done) | (go_simp; rfl)); (case hp => exact (Reps.c2 (show Kd.FK k27 _ _ (⟨a0_0, l0_1⟩ : S27) [.bool a0_0, .slice A0_1 l0_1.length c0_1] from (k27_mkF _ _ (⟨a0_0, l0_1⟩ : S27) (Kd.V_reads' (Kd.V_mono (ok' := (fun k_ => ((P0_1_ k_ ∨ P1_1_ k_) ∨ w.heap.size ≤ k_) ∧ k_ ≠ gb101 ∧ k_ ≠ gb102)) (HO0_1.out) (fun k_ hk => ⟨hk.1.1, ⟨hk.1.2, hk.2⟩⟩))).2.1 (Kd.V_F (Kd.V_mono (ok' := (fun k_ => ((P0_1_ k_ ∨ P1_1_ k_) ∨ w.heap.size ≤ k_) ∧ k_ ≠ gb101 ∧ k_ ≠ gb102)) (HO0_1.out) (fun k_ hk => ⟨hk.1.1, ⟨hk.1.2, hk.2⟩⟩))))) (Reps.c2 (show Kd.FK k27 _ _ (⟨a1_0, l1_1⟩ : S27) [.bool a1_0, .slice A1_1 l1_1.length c1_1] from (k27_mkF _ _ (⟨a1_0, l1_1⟩ : S27) (Kd.V_reads' (Kd.V_mono (ok' := (fun k_ => ((P0_1_ k_ ∨ P1_1_ k_) ∨ w.heap.size ≤ k_) ∧ k_ ≠ gb101 ∧ k_ ≠ gb102)) (HO1_1.out) (fun k_ hk => ⟨hk.1.1, ⟨hk.1.2, hk.2⟩⟩))).2.1 (Kd.V_F (Kd.V_mono (ok' := (fun k_ => ((P0_1_ k_ ∨ P1_1_ k_) ∨ w.heap.size ≤ k_) ∧ k_ ≠ gb101 ∧ k_ ≠ gb102)) (HO1_1.out) (fun k_ hk => ⟨hk.1.1, ⟨hk.1.2, hk.2⟩⟩))))) (Reps.none _ _)))); intro v105 w23 ho24 hb hg_ hnew_; clear hg_ hnew_; (first | rw [← Ny104.out] at ho24 | (simp only [Int.reduceToNat] at ho24; rw [← Ny104.out] at ho24)); have n0_ := Aside0.mk (Kd.V_elder' (by (with_reducible repeat (first | apply Kd.V_alloc | apply Kd.V_drewN | apply Kd.V_drew)); exact HO0_1.out) (Kd.N_base ho24) hb); have n1_ := Aside0.mk (Kd.V_elder' (by (with_reducible repeat (first | apply Kd.V_alloc | apply Kd.V_drewN | apply Kd.V_drew)); exact HO1_1.out) (Kd.N_base ho24) hb); have n2_ := Aside0.mk (Kd.N_lower ho24 (below_size (by repeat (first | (with_reducible first | exact HB.out | apply below_alloc | apply pw_below_drewN | apply below_drew1 | refine below_set ?_ GE101.out | refine below_set ?_ GE102.out) | exact HB.out)))); have n3_ := Aside0.mk (blk_below (g := gb101) (o := .cells #[.bool a0_0, .slice A0_1 l0_1.length c0_1] 27 (0, 0)) (by (with_reducible repeat (first | refine blk_drewN ?_ _ | refine blk_drew ?_ | refine blk_alloc ?_ _)); exact BK101.out) hb); have n4_ := Aside0.mk (blk_below (g := gb102) (o := .cells #[.bool a1_0, .slice A1_1 l1_1.length c1_1] 27 (0, 0)) (by (with_reducible repeat (first | refine blk_drewN ?_ _ | refine blk_drew ?_ | refine blk_alloc ?_ _)); exact BK102.out) hb); have n5_ := Aside0.mk (below_step (by repeat (first | (with_reducible first | exact HB.out | apply below_alloc | apply pw_below_drewN | apply below_drew1 | refine below_set ?_ GE101.out | refine below_set ?_ GE102.out) | exact HB.out)) hb); clear HO0_1; clear HO1_1; clear BK101; clear BK102; clear HB; have HO0_1 := n0_; have HO1_1 := n1_; have HO106 := n2_; have BK101 := n3_; have BK102 := n4_; have HB := n5_; clear n0_ n1_ n2_ n3_ n4_ n5_; clear hb ho24; obtain ⟨Ao25, co25, eo25⟩ := Kd.N_slice HO106.out; subst eo25) | ((with_reducible refine gate_callee (f := 21) rfl ?_); refine goesL_ (some 14) rfl rfl Tryd.func21 (by kernel_rfl) rfl #[.slice Ao25 y104.length co25] rfl (by (try simp only [List.map_toArray, List.map_cons, List.map_nil]); first | done | rfl | (simp only [List.length_drop, List.length_take]; rfl)) ?_; (with_reducible refine (substationlaw01_Large.calls k _ _ y104 false _ ?side1 ?side2 A9.out).mono ?_); (case side1 => repeat (first | exact (Kd.N_reads' HO106.out).2.2 | (with_reducible refine Kd.C_alloc ?_ _) | (with_reducible refine Kd.C_drewN ?_ _) | (with_reducible refine Kd.C_drew ?_))); (case side2 => exact (Kd.N_reads' HO106.out).2.1); rintro e w' ⟨rfl, ⟨nd, rfl⟩⟩; refine ⟨_, rfl, ?_⟩; have hcz26_0 : w23.cell? ⟨gb101, 0, none⟩ = some (.bool a0_0) := (blk_cell BK101.out 0).trans rfl; have hcz26_1 : w23.cell? ⟨gb101, 1, none⟩ = some (.slice A0_1 l0_1.length c0_1) := (blk_cell BK101.out 1).trans rfl; have hfz26_0 := blk_frozen BK101.out 0; have hfz26_1 := blk_frozen BK101.out 1) | (go_at_call 24; (with_reducible refine (substationref01_Valid.calls a0_0 _ _ l0_1 true _ ?side1 ?side2 A17.out).mono ?_); (case side1 => repeat (first | exact (Kd.V_reads' HO0_1.out).2.2 | (with_reducible refine Kd.C_alloc ?_ _) | (with_reducible refine Kd.C_drewN ?_ _) | (with_reducible refine Kd.C_drew ?_))); (case side2 => exact (Kd.V_reads' HO0_1.out).2.1); rintro e w27 ⟨rfl, hb⟩; have n0_ := Aside0.mk (Kd.V_below (by (with_reducible repeat (first | apply Kd.V_alloc | apply Kd.V_drewN | apply Kd.V_drew)); exact HO0_1.out) hb); have n1_ := Aside0.mk (Kd.V_below (by (with_reducible repeat (first | apply Kd.V_alloc | apply Kd.V_drewN | apply Kd.V_drew)); exact HO1_1.out) hb); have n2_ := Aside0.mk (Kd.N_below (by (with_reducible repeat (first | apply Kd.N_alloc | apply Kd.N_drewN | apply Kd.N_drew)); exact HO106.out) hb); have n3_ := Aside0.mk (blk_below (g := gb101) (o := .cells #[.bool a0_0, .slice A0_1 l0_1.length c0_1] 27 (0, 0)) (by (with_reducible repeat (first | refine blk_drewN ?_ _ | refine blk_drew ?_ | refine blk_alloc ?_ _)); exact BK101.out) hb); have n4_ := Aside0.mk (blk_below (g := gb102) (o := .cells #[.bool a1_0, .slice A1_1 l1_1.length c1_1] 27 (0, 0)) (by (with_reducible repeat (first | refine blk_drewN ?_ _ | refine blk_drew ?_ | refine blk_alloc ?_ _)); exact BK102.out) hb); have n5_ := Aside0.mk (below_step (by repeat (first | (with_reducible first | exact HB.out | apply below_alloc | apply pw_below_drewN | apply below_drew1 | refine below_set ?_ GE101.out | refine below_set ?_ GE102.out) | exact HB.out)) hb); clear HO0_1; clear HO1_1; clear HO106; clear BK101; clear BK102; clear HB; have HO0_1 := n0_; have HO1_1 := n1_; have HO106 := n2_; have BK101 := n3_; have BK102 := n4_; have HB := n5_; clear n0_ n1_ n2_ n3_ n4_ n5_; (try clear hb); (try clear hb2); (try clear hk); (try clear hi); have hcz28_0 : w27.cell? ⟨gb102, 0, none⟩ = some (.bool a1_0) := (blk_cell BK102.out 0).trans rfl; have hcz28_1 : w27.cell? ⟨gb102, 1, none⟩ = some (.slice A1_1 l1_1.length c1_1) := (blk_cell BK102.out 1).trans rfl; have hfz28_0 := blk_frozen BK102.out 0; have hfz28_1 := blk_frozen BK102.out 1) | (go_at_call 24; (with_reducible refine (substationref01_Valid.calls a1_0 _ _ l1_1 t109 _ ?side1 ?side2 A19.out).mono ?_); (case side1 => repeat (first | exact (Kd.V_reads' HO1_1.out).2.2 | (with_reducible refine Kd.C_alloc ?_ _) | (with_reducible refine Kd.C_drewN ?_ _) | (with_reducible refine Kd.C_drew ?_))); (case side2 => exact (Kd.V_reads' HO1_1.out).2.1); rintro e w29 ⟨rfl, hb⟩; have n0_ := Aside0.mk (Kd.V_below (by (with_reducible repeat (first | apply Kd.V_alloc | apply Kd.V_drewN | apply Kd.V_drew)); exact HO0_1.out) hb); have n1_ := Aside0.mk (Kd.V_below (by (with_reducible repeat (first | apply Kd.V_alloc | apply Kd.V_drewN | apply Kd.V_drew)); exact HO1_1.out) hb); have n2_ := Aside0.mk (Kd.N_below (by (with_reducible repeat (first | apply Kd.N_alloc | apply Kd.N_drewN | apply Kd.N_drew)); exact HO106.out) hb); have n3_ := Aside0.mk (blk_below (g := gb101) (o := .cells #[.bool a0_0, .slice A0_1 l0_1.length c0_1] 27 (0, 0)) (by (with_reducible repeat (first | refine blk_drewN ?_ _ | refine blk_drew ?_ | refine blk_alloc ?_ _)); exact BK101.out) hb); have n4_ := Aside0.mk (blk_below (g := gb102) (o := .cells #[.bool a1_0, .slice A1_1 l1_1.length c1_1] 27 (0, 0)) (by (with_reducible repeat (first | refine blk_drewN ?_ _ | refine blk_drew ?_ | refine blk_alloc ?_ _)); exact BK102.out) hb); have n5_ := Aside0.mk (below_step (by repeat (first | (with_reducible first | exact HB.out | apply below_alloc | apply pw_below_drewN | apply below_drew1 | refine below_set ?_ GE101.out | refine below_set ?_ GE102.out) | exact HB.out)) hb); clear HO0_1; clear HO1_1; clear HO106; clear BK101; clear BK102; clear HB; have HO0_1 := n0_; have HO1_1 := n1_; have HO106 := n2_; have BK101 := n3_; have BK102 := n4_; have HB := n5_; clear n0_ n1_ n2_ n3_ n4_ n5_; (try clear hb); (try clear hb2); (try clear hk); (try clear hi)))
     go_meet
     case rel => exact ⟨_, (!t109), (by first | rfl | (simp; done) | (simp [*]; done) | (simp; omega)), H', ⟨by first | omega | exact Nat.le_refl _⟩, ⟨by (with_reducible repeat (first | apply Kd.V_alloc | apply Kd.V_drewN | apply Kd.V_drew)); exact Kd.V_mono HO0_1.out (fun _ hk => ⟨hk.1.1.1, ⟨hk.1.1.2, hk.1.2⟩⟩)⟩, ⟨by (with_reducible repeat (first | apply Kd.V_alloc | apply Kd.V_drewN | apply Kd.V_drew)); exact Kd.V_mono HO1_1.out (fun _ hk => ⟨hk.1.1.1, ⟨hk.1.1.2, hk.1.2⟩⟩)⟩, ⟨by (with_reducible repeat (first | refine blk_drewN ?_ _ | refine blk_drew ?_ | refine blk_alloc ?_ _)); exact BK101.out⟩, ⟨by (with_reducible repeat (first | refine blk_drewN ?_ _ | refine blk_drew ?_ | refine blk_alloc ?_ _)); exact BK102.out⟩, ⟨by repeat (first | (with_reducible first | exact HB.out | apply below_alloc | apply pw_below_drewN | apply below_drew1 | refine below_set ?_ GE101.out | refine below_set ?_ GE102.out) | exact HB.out)⟩⟩
    ·replace c18 := Bool.eq_false_iff.mpr c18
     subst c18
     have H1 : (substationlaw01_IntegerSquares.j0 k true a0_0 l0_1 a1_0 l1_1) = some r := by rw [if_neg (show ¬ (false = true) by decide)] at H; exact H
     clear H
     have H := H1
     clear H1
     have H' := Aside0.mk H
     clear H
     have hnb30 := NB101_102.out
     have hnc30 := NB102_101.out
     have hcz31_0 : w8.cell? ⟨gb101, 0, none⟩ = some (.bool a0_0) := (blk_cell BK101.out 0).trans rfl
     have hcz31_1 : w8.cell? ⟨gb101, 1, none⟩ = some (.slice A0_1 l0_1.length c0_1) := (blk_cell BK101.out 1).trans rfl
     have hfz31_0 := blk_frozen BK101.out 0
     have hfz31_1 := blk_frozen BK101.out 1
     have hcz32_0 : w8.cell? ⟨gb102, 0, none⟩ = some (.bool a1_0) := (blk_cell BK102.out 0).trans rfl
     have hcz32_1 : w8.cell? ⟨gb102, 1, none⟩ = some (.slice A1_1 l1_1.length c1_1) := (blk_cell BK102.out 1).trans rfl
     have hfz32_0 := blk_frozen BK102.out 0
     have hfz32_1 := blk_frozen BK102.out 1
     go_wp2_with (first | ((with_reducible refine gate_dst (N := 13) rfl ?_); refine Kd.N_lit k27 _ 27 ?hg (N' := 13) ?hd (xs := ([(⟨a0_0, l0_1⟩ : S27), (⟨a1_0, l1_1⟩ : S27)] : List (S27))) (inner := [.bool a0_0, .slice A0_1 l0_1.length c0_1, .bool a1_0, .slice A1_1 l1_1.length c1_1]) (ok := (fun k_ => ((P0_1_ k_ ∨ P1_1_ k_) ∨ w.heap.size ≤ k_) ∧ k_ ≠ gb101 ∧ k_ ≠ gb102)) (okp := (fun k_ => ((P0_1_ k_ ∨ P1_1_ k_) ∨ w.heap.size ≤ k_) ∧ k_ ≠ gb101 ∧ k_ ≠ gb102)) ?hr ?hp (fun _ hk => hk) ((show ∀ k_, w8.heap.size ≤ k_ → (fun k_ => ((P0_1_ k_ ∨ P1_1_ k_) ∨ w.heap.size ≤ k_) ∧ k_ ≠ gb101 ∧ k_ ≠ gb102) k_ from fun k_ hk => ⟨(.inr (Nat.le_trans (below_size (by repeat (first | (with_reducible first | exact HB.out | apply below_alloc | apply pw_below_drewN | apply below_drew1 | refine below_set ?_ GE101.out | refine below_set ?_ GE102.out) | exact HB.out))) hk)), Kd.freshB (g := gb101) (o := .cells #[.bool a0_0, .slice A0_1 l0_1.length c0_1] 27 (0, 0)) (by (with_reducible repeat (first | refine blk_drewN ?_ _ | refine blk_drew ?_ | refine blk_alloc ?_ _)); exact BK101.out) k_ hk, Kd.freshB (g := gb102) (o := .cells #[.bool a1_0, .slice A1_1 l1_1.length c1_1] 27 (0, 0)) (by (with_reducible repeat (first | refine blk_drewN ?_ _ | refine blk_drew ?_ | refine blk_alloc ?_ _)); exact BK102.out) k_ hk⟩) _ (Nat.le_refl _)) (Below.refl _ _) (Nat.le_refl _) (by simp) ?_; (case hd => rfl); (case hg => rfl); (case hr => first | (go_simp; done) | (go_simp; rfl)); (case hp => exact (Reps.c2 (show Kd.FK k27 _ _ (⟨a0_0, l0_1⟩ : S27) [.bool a0_0, .slice A0_1 l0_1.length c0_1] from (k27_mkF _ _ (⟨a0_0, l0_1⟩ : S27) (Kd.V_reads' (Kd.V_mono (ok' := (fun k_ => ((P0_1_ k_ ∨ P1_1_ k_) ∨ w.heap.size ≤ k_) ∧ k_ ≠ gb101 ∧ k_ ≠ gb102)) (HO0_1.out) (fun k_ hk => ⟨hk.1.1, ⟨hk.1.2, hk.2⟩⟩))).2.1 (Kd.V_F (Kd.V_mono (ok' := (fun k_ => ((P0_1_ k_ ∨ P1_1_ k_) ∨ w.heap.size ≤ k_) ∧ k_ ≠ gb101 ∧ k_ ≠ gb102)) (HO0_1.out) (fun k_ hk => ⟨hk.1.1, ⟨hk.1.2, hk.2⟩⟩))))) (Reps.c2 (show Kd.FK k27 _ _ (⟨a1_0, l1_1⟩ : S27) [.bool a1_0, .slice A1_1 l1_1.length c1_1] from (k27_mkF _ _ (⟨a1_0, l1_1⟩ : S27) (Kd.V_reads' (Kd.V_mono (ok' := (fun k_ => ((P0_1_ k_ ∨ P1_1_ k_) ∨ w.heap.size ≤ k_) ∧ k_ ≠ gb101 ∧ k_ ≠ gb102)) (HO1_1.out) (fun k_ hk => ⟨hk.1.1, ⟨hk.1.2, hk.2⟩⟩))).2.1 (Kd.V_F (Kd.V_mono (ok' := (fun k_ => ((P0_1_ k_ ∨ P1_1_ k_) ∨ w.heap.size ≤ k_) ∧ k_ ≠ gb101 ∧ k_ ≠ gb102)) (HO1_1.out) (fun k_ hk => ⟨hk.1.1, ⟨hk.1.2, hk.2⟩⟩))))) (Reps.none _ _)))); intro v105 w33 ho34 hb hg_ hnew_; clear hg_ hnew_; (first | rw [← Ny104.out] at ho34 | (simp only [Int.reduceToNat] at ho34; rw [← Ny104.out] at ho34)); have n0_ := Aside0.mk (Kd.V_elder' (by (with_reducible repeat (first | apply Kd.V_alloc | apply Kd.V_drewN | apply Kd.V_drew)); exact HO0_1.out) (Kd.N_base ho34) hb); have n1_ := Aside0.mk (Kd.V_elder' (by (with_reducible repeat (first | apply Kd.V_alloc | apply Kd.V_drewN | apply Kd.V_drew)); exact HO1_1.out) (Kd.N_base ho34) hb); have n2_ := Aside0.mk (Kd.N_lower ho34 (below_size (by repeat (first | (with_reducible first | exact HB.out | apply below_alloc | apply pw_below_drewN | apply below_drew1 | refine below_set ?_ GE101.out | refine below_set ?_ GE102.out) | exact HB.out)))); have n3_ := Aside0.mk (blk_below (g := gb101) (o := .cells #[.bool a0_0, .slice A0_1 l0_1.length c0_1] 27 (0, 0)) (by (with_reducible repeat (first | refine blk_drewN ?_ _ | refine blk_drew ?_ | refine blk_alloc ?_ _)); exact BK101.out) hb); have n4_ := Aside0.mk (blk_below (g := gb102) (o := .cells #[.bool a1_0, .slice A1_1 l1_1.length c1_1] 27 (0, 0)) (by (with_reducible repeat (first | refine blk_drewN ?_ _ | refine blk_drew ?_ | refine blk_alloc ?_ _)); exact BK102.out) hb); have n5_ := Aside0.mk (below_step (by repeat (first | (with_reducible first | exact HB.out | apply below_alloc | apply pw_below_drewN | apply below_drew1 | refine below_set ?_ GE101.out | refine below_set ?_ GE102.out) | exact HB.out)) hb); clear HO0_1; clear HO1_1; clear BK101; clear BK102; clear HB; have HO0_1 := n0_; have HO1_1 := n1_; have HO106 := n2_; have BK101 := n3_; have BK102 := n4_; have HB := n5_; clear n0_ n1_ n2_ n3_ n4_ n5_; clear hb ho34; obtain ⟨Ao35, co35, eo35⟩ := Kd.N_slice HO106.out; subst eo35) | ((with_reducible refine gate_callee (f := 21) rfl ?_); refine goesL_ (some 14) rfl rfl Tryd.func21 (by kernel_rfl) rfl #[.slice Ao35 y104.length co35] rfl (by (try simp only [List.map_toArray, List.map_cons, List.map_nil]); first | done | rfl | (simp only [List.length_drop, List.length_take]; rfl)) ?_; (with_reducible refine (substationlaw01_Large.calls k _ _ y104 false _ ?side1 ?side2 A9.out).mono ?_); (case side1 => repeat (first | exact (Kd.N_reads' HO106.out).2.2 | (with_reducible refine Kd.C_alloc ?_ _) | (with_reducible refine Kd.C_drewN ?_ _) | (with_reducible refine Kd.C_drew ?_))); (case side2 => exact (Kd.N_reads' HO106.out).2.1); rintro e w' ⟨rfl, ⟨nd, rfl⟩⟩; refine ⟨_, rfl, ?_⟩; have hcz36_0 : w33.cell? ⟨gb101, 0, none⟩ = some (.bool a0_0) := (blk_cell BK101.out 0).trans rfl; have hcz36_1 : w33.cell? ⟨gb101, 1, none⟩ = some (.slice A0_1 l0_1.length c0_1) := (blk_cell BK101.out 1).trans rfl; have hfz36_0 := blk_frozen BK101.out 0; have hfz36_1 := blk_frozen BK101.out 1) | (go_at_call 24; (with_reducible refine (substationref01_Valid.calls a0_0 _ _ l0_1 false _ ?side1 ?side2 A17.out).mono ?_); (case side1 => repeat (first | exact (Kd.V_reads' HO0_1.out).2.2 | (with_reducible refine Kd.C_alloc ?_ _) | (with_reducible refine Kd.C_drewN ?_ _) | (with_reducible refine Kd.C_drew ?_))); (case side2 => exact (Kd.V_reads' HO0_1.out).2.1); rintro e w37 ⟨rfl, hb⟩; have n0_ := Aside0.mk (Kd.V_below (by (with_reducible repeat (first | apply Kd.V_alloc | apply Kd.V_drewN | apply Kd.V_drew)); exact HO0_1.out) hb); have n1_ := Aside0.mk (Kd.V_below (by (with_reducible repeat (first | apply Kd.V_alloc | apply Kd.V_drewN | apply Kd.V_drew)); exact HO1_1.out) hb); have n2_ := Aside0.mk (Kd.N_below (by (with_reducible repeat (first | apply Kd.N_alloc | apply Kd.N_drewN | apply Kd.N_drew)); exact HO106.out) hb); have n3_ := Aside0.mk (blk_below (g := gb101) (o := .cells #[.bool a0_0, .slice A0_1 l0_1.length c0_1] 27 (0, 0)) (by (with_reducible repeat (first | refine blk_drewN ?_ _ | refine blk_drew ?_ | refine blk_alloc ?_ _)); exact BK101.out) hb); have n4_ := Aside0.mk (blk_below (g := gb102) (o := .cells #[.bool a1_0, .slice A1_1 l1_1.length c1_1] 27 (0, 0)) (by (with_reducible repeat (first | refine blk_drewN ?_ _ | refine blk_drew ?_ | refine blk_alloc ?_ _)); exact BK102.out) hb); have n5_ := Aside0.mk (below_step (by repeat (first | (with_reducible first | exact HB.out | apply below_alloc | apply pw_below_drewN | apply below_drew1 | refine below_set ?_ GE101.out | refine below_set ?_ GE102.out) | exact HB.out)) hb); clear HO0_1; clear HO1_1; clear HO106; clear BK101; clear BK102; clear HB; have HO0_1 := n0_; have HO1_1 := n1_; have HO106 := n2_; have BK101 := n3_; have BK102 := n4_; have HB := n5_; clear n0_ n1_ n2_ n3_ n4_ n5_; (try clear hb); (try clear hb2); (try clear hk); (try clear hi)))
     go_meet
     case rel => exact ⟨_, (true), (by first | rfl | (simp; done) | (simp [*]; done) | (simp; omega)), H', ⟨by first | omega | exact Nat.le_refl _⟩, ⟨by (with_reducible repeat (first | apply Kd.V_alloc | apply Kd.V_drewN | apply Kd.V_drew)); exact Kd.V_mono HO0_1.out (fun _ hk => ⟨hk.1.1.1, ⟨hk.1.1.2, hk.1.2⟩⟩)⟩, ⟨by (with_reducible repeat (first | apply Kd.V_alloc | apply Kd.V_drewN | apply Kd.V_drew)); exact Kd.V_mono HO1_1.out (fun _ hk => ⟨hk.1.1.1, ⟨hk.1.1.2, hk.1.2⟩⟩)⟩, ⟨by (with_reducible repeat (first | refine blk_drewN ?_ _ | refine blk_drew ?_ | refine blk_alloc ?_ _)); exact BK101.out⟩, ⟨by (with_reducible repeat (first | refine blk_drewN ?_ _ | refine blk_drew ?_ | refine blk_alloc ?_ _)); exact BK102.out⟩, ⟨by repeat (first | (with_reducible first | exact HB.out | apply below_alloc | apply pw_below_drewN | apply below_drew1 | refine below_set ?_ GE101.out | refine below_set ?_ GE102.out) | exact HB.out)⟩⟩
  case rest =>
   clear HC5
   try clear c1
   try clear c2
   try clear p2
   try clear c3
   try clear c4
   try clear c8
   try clear c10
   try clear c11
   try clear c13
   try clear c18
   try clear c20
   try clear c21
   try clear c30
   try clear hcz12_0
   try clear hcz12_1
   try clear hcz13_0
   try clear hcz13_1
   try clear hcz21_0
   try clear hcz21_1
   try clear hcz22_0
   try clear hcz22_1
   try clear hcz26_0
   try clear hcz26_1
   try clear hcz28_0
   try clear hcz28_1
   try clear hcz31_0
   try clear hcz31_1
   try clear hcz32_0
   try clear hcz32_1
   try clear hcz36_0
   try clear hcz36_1
   try clear hfz12_0
   try clear hfz12_1
   try clear hfz13_0
   try clear hfz13_1
   try clear hfz21_0
   try clear hfz21_1
   try clear hfz22_0
   try clear hfz22_1
   try clear hfz26_0
   try clear hfz26_1
   try clear hfz28_0
   try clear hfz28_1
   try clear hfz31_0
   try clear hfz31_1
   try clear hfz32_0
   try clear hfz32_1
   try clear hfz36_0
   try clear hfz36_1
   obtain ⟨kq, x24_4, rfl, HA, HJ4, HO_102001, HO_103001, BK101, BK102, HB⟩ := hcut
   cases kq with
   | zero => exact absurd HA.out (by simp [substationlaw01_IntegerSquares.j0])
   | succ kj4 =>
    have H := HA.out
    clear HA
    simp only [substationlaw01_IntegerSquares.j0] at H
    by_cases c38 : x24_4 = true
    ·subst c38
     have H1 : (some true) = some r := by rw [if_pos rfl] at H; exact H
     clear H
     have H := H1
     clear H1
     obtain rfl := Option.some.inj H
     go_wp2
     go_ret
     exact ⟨by first | rfl | (simp [errW_none, errW_some] <;> rfl) | (simp [*, errW_none, errW_some] <;> rfl), by repeat (first | (with_reducible first | exact HB.out | apply below_alloc | apply pw_below_drewN | apply below_drew1 | refine below_set ?_ GE101.out | refine below_set ?_ GE102.out) | exact HB.out)⟩
    ·replace c38 := Bool.eq_false_iff.mpr c38
     subst c38
     have H1 : ((integer_Sub.f kj4 a0_0 l0_1 a1_0 l1_1).bind fun bt110 => ((substationlaw01_product.f kj4 a0_0 l0_1 a0_0 l0_1).bind fun bt116 => ((substationlaw01_product.f kj4 a1_0 l1_1 a1_0 l1_1).bind fun bt120 => ((integer_Sub.f kj4 bt116.1 bt116.2 bt120.1 bt120.2).bind fun bt124 => (if bt110.2.2 = 0 then (if bt124.2.2 = 0 then ((substationlaw01_sum.f kj4 a0_0 l0_1 a1_0 l1_1).bind fun bt130 => ((substationlaw01_product.f kj4 bt130.1 bt130.2 bt110.1 bt110.2.1).bind fun bt134 => ((substationref01_Same.f kj4 bt134.1 bt134.2 bt124.1 bt124.2.1).bind fun t138 => (if t138 = true then ((substationlaw01_product.f kj4 a0_0 l0_1 a0_0 l0_1).bind fun bt139 => ((substationlaw01_product.f kj4 a1_0 l1_1 a1_0 l1_1).bind fun bt143 => ((integer_Compare.f kj4 bt139.1 bt139.2 bt143.1 bt143.2).bind fun t147 => ((substationref01_Size.f kj4 a0_0 l0_1).bind fun bt148 => ((substationref01_Size.f kj4 a1_0 l1_1).bind fun bt152 => ((integer_Compare.f kj4 bt148.1 bt148.2 bt152.1 bt152.2).bind fun t156 => (some (t147 == t156)))))))) else (some false))))) else (some false)) else (some false)))))) = some r := by rw [if_neg (show ¬ (false = true) by decide)] at H; exact H
     clear H
     have H := H1
     clear H1
     replace H := Option.bind_eq_some_iff.mp H
     obtain ⟨⟨t110, t111, t114⟩, A390, H⟩ := H
     replace H : ((substationlaw01_product.f kj4 a0_0 l0_1 a0_0 l0_1).bind fun bt116 => ((substationlaw01_product.f kj4 a1_0 l1_1 a1_0 l1_1).bind fun bt120 => ((integer_Sub.f kj4 bt116.1 bt116.2 bt120.1 bt120.2).bind fun bt124 => (if t114 = 0 then (if bt124.2.2 = 0 then ((substationlaw01_sum.f kj4 a0_0 l0_1 a1_0 l1_1).bind fun bt130 => ((substationlaw01_product.f kj4 bt130.1 bt130.2 t110 t111).bind fun bt134 => ((substationref01_Same.f kj4 bt134.1 bt134.2 bt124.1 bt124.2.1).bind fun t138 => (if t138 = true then ((substationlaw01_product.f kj4 a0_0 l0_1 a0_0 l0_1).bind fun bt139 => ((substationlaw01_product.f kj4 a1_0 l1_1 a1_0 l1_1).bind fun bt143 => ((integer_Compare.f kj4 bt139.1 bt139.2 bt143.1 bt143.2).bind fun t147 => ((substationref01_Size.f kj4 a0_0 l0_1).bind fun bt148 => ((substationref01_Size.f kj4 a1_0 l1_1).bind fun bt152 => ((integer_Compare.f kj4 bt148.1 bt148.2 bt152.1 bt152.2).bind fun t156 => (some (t147 == t156)))))))) else (some false))))) else (some false)) else (some false))))) = some r := H
     have A39 := Aside0.mk A390
     clear A390
     replace H := Option.bind_eq_some_iff.mp H
     obtain ⟨⟨t116, t117⟩, A400, H⟩ := H
     replace H : ((substationlaw01_product.f kj4 a1_0 l1_1 a1_0 l1_1).bind fun bt120 => ((integer_Sub.f kj4 t116 t117 bt120.1 bt120.2).bind fun bt124 => (if t114 = 0 then (if bt124.2.2 = 0 then ((substationlaw01_sum.f kj4 a0_0 l0_1 a1_0 l1_1).bind fun bt130 => ((substationlaw01_product.f kj4 bt130.1 bt130.2 t110 t111).bind fun bt134 => ((substationref01_Same.f kj4 bt134.1 bt134.2 bt124.1 bt124.2.1).bind fun t138 => (if t138 = true then ((substationlaw01_product.f kj4 a0_0 l0_1 a0_0 l0_1).bind fun bt139 => ((substationlaw01_product.f kj4 a1_0 l1_1 a1_0 l1_1).bind fun bt143 => ((integer_Compare.f kj4 bt139.1 bt139.2 bt143.1 bt143.2).bind fun t147 => ((substationref01_Size.f kj4 a0_0 l0_1).bind fun bt148 => ((substationref01_Size.f kj4 a1_0 l1_1).bind fun bt152 => ((integer_Compare.f kj4 bt148.1 bt148.2 bt152.1 bt152.2).bind fun t156 => (some (t147 == t156)))))))) else (some false))))) else (some false)) else (some false)))) = some r := H
     have A40 := Aside0.mk A400
     clear A400
     replace H := Option.bind_eq_some_iff.mp H
     obtain ⟨⟨t120, t121⟩, A410, H⟩ := H
     replace H : ((integer_Sub.f kj4 t116 t117 t120 t121).bind fun bt124 => (if t114 = 0 then (if bt124.2.2 = 0 then ((substationlaw01_sum.f kj4 a0_0 l0_1 a1_0 l1_1).bind fun bt130 => ((substationlaw01_product.f kj4 bt130.1 bt130.2 t110 t111).bind fun bt134 => ((substationref01_Same.f kj4 bt134.1 bt134.2 bt124.1 bt124.2.1).bind fun t138 => (if t138 = true then ((substationlaw01_product.f kj4 a0_0 l0_1 a0_0 l0_1).bind fun bt139 => ((substationlaw01_product.f kj4 a1_0 l1_1 a1_0 l1_1).bind fun bt143 => ((integer_Compare.f kj4 bt139.1 bt139.2 bt143.1 bt143.2).bind fun t147 => ((substationref01_Size.f kj4 a0_0 l0_1).bind fun bt148 => ((substationref01_Size.f kj4 a1_0 l1_1).bind fun bt152 => ((integer_Compare.f kj4 bt148.1 bt148.2 bt152.1 bt152.2).bind fun t156 => (some (t147 == t156)))))))) else (some false))))) else (some false)) else (some false))) = some r := H
     have A41 := Aside0.mk A410
     clear A410
     replace H := Option.bind_eq_some_iff.mp H
     obtain ⟨⟨t124, t125, t128⟩, A420, H⟩ := H
     replace H : (if t114 = 0 then (if t128 = 0 then ((substationlaw01_sum.f kj4 a0_0 l0_1 a1_0 l1_1).bind fun bt130 => ((substationlaw01_product.f kj4 bt130.1 bt130.2 t110 t111).bind fun bt134 => ((substationref01_Same.f kj4 bt134.1 bt134.2 t124 t125).bind fun t138 => (if t138 = true then ((substationlaw01_product.f kj4 a0_0 l0_1 a0_0 l0_1).bind fun bt139 => ((substationlaw01_product.f kj4 a1_0 l1_1 a1_0 l1_1).bind fun bt143 => ((integer_Compare.f kj4 bt139.1 bt139.2 bt143.1 bt143.2).bind fun t147 => ((substationref01_Size.f kj4 a0_0 l0_1).bind fun bt148 => ((substationref01_Size.f kj4 a1_0 l1_1).bind fun bt152 => ((integer_Compare.f kj4 bt148.1 bt148.2 bt152.1 bt152.2).bind fun t156 => (some (t147 == t156)))))))) else (some false))))) else (some false)) else (some false)) = some r := H
     have A42 := Aside0.mk A420
     clear A420
     by_cases c43 : t114 = 0
     ·rw [if_pos c43] at H
      have c43b0 : (t114 == 0) = true := beq_iff_eq.mpr c43
      have c43b1 : (t114 != 0) = false := bne_eq_false_iff_eq.mpr c43
      clear c43
      by_cases c44 : t128 = 0
      ·rw [if_pos c44] at H
       have c44b0 : (t128 == 0) = true := beq_iff_eq.mpr c44
       have c44b1 : (t128 != 0) = false := bne_eq_false_iff_eq.mpr c44
       clear c44
       replace H := Option.bind_eq_some_iff.mp H
       obtain ⟨⟨t130, t131⟩, A450, H⟩ := H
       replace H : ((substationlaw01_product.f kj4 t130 t131 t110 t111).bind fun bt134 => ((substationref01_Same.f kj4 bt134.1 bt134.2 t124 t125).bind fun t138 => (if t138 = true then ((substationlaw01_product.f kj4 a0_0 l0_1 a0_0 l0_1).bind fun bt139 => ((substationlaw01_product.f kj4 a1_0 l1_1 a1_0 l1_1).bind fun bt143 => ((integer_Compare.f kj4 bt139.1 bt139.2 bt143.1 bt143.2).bind fun t147 => ((substationref01_Size.f kj4 a0_0 l0_1).bind fun bt148 => ((substationref01_Size.f kj4 a1_0 l1_1).bind fun bt152 => ((integer_Compare.f kj4 bt148.1 bt148.2 bt152.1 bt152.2).bind fun t156 => (some (t147 == t156)))))))) else (some false)))) = some r := H
       have A45 := Aside0.mk A450
       clear A450
       replace H := Option.bind_eq_some_iff.mp H
       obtain ⟨⟨t134, t135⟩, A460, H⟩ := H
       replace H : ((substationref01_Same.f kj4 t134 t135 t124 t125).bind fun t138 => (if t138 = true then ((substationlaw01_product.f kj4 a0_0 l0_1 a0_0 l0_1).bind fun bt139 => ((substationlaw01_product.f kj4 a1_0 l1_1 a1_0 l1_1).bind fun bt143 => ((integer_Compare.f kj4 bt139.1 bt139.2 bt143.1 bt143.2).bind fun t147 => ((substationref01_Size.f kj4 a0_0 l0_1).bind fun bt148 => ((substationref01_Size.f kj4 a1_0 l1_1).bind fun bt152 => ((integer_Compare.f kj4 bt148.1 bt148.2 bt152.1 bt152.2).bind fun t156 => (some (t147 == t156)))))))) else (some false))) = some r := H
       have A46 := Aside0.mk A460
       clear A460
       replace H := Option.bind_eq_some_iff.mp H
       obtain ⟨t138, A470, H⟩ := H
       replace H : (if t138 = true then ((substationlaw01_product.f kj4 a0_0 l0_1 a0_0 l0_1).bind fun bt139 => ((substationlaw01_product.f kj4 a1_0 l1_1 a1_0 l1_1).bind fun bt143 => ((integer_Compare.f kj4 bt139.1 bt139.2 bt143.1 bt143.2).bind fun t147 => ((substationref01_Size.f kj4 a0_0 l0_1).bind fun bt148 => ((substationref01_Size.f kj4 a1_0 l1_1).bind fun bt152 => ((integer_Compare.f kj4 bt148.1 bt148.2 bt152.1 bt152.2).bind fun t156 => (some (t147 == t156)))))))) else (some false)) = some r := H
       have A47 := Aside0.mk A470
       clear A470
       by_cases c48 : t138 = true
       ·subst c48
        have H1 : ((substationlaw01_product.f kj4 a0_0 l0_1 a0_0 l0_1).bind fun bt139 => ((substationlaw01_product.f kj4 a1_0 l1_1 a1_0 l1_1).bind fun bt143 => ((integer_Compare.f kj4 bt139.1 bt139.2 bt143.1 bt143.2).bind fun t147 => ((substationref01_Size.f kj4 a0_0 l0_1).bind fun bt148 => ((substationref01_Size.f kj4 a1_0 l1_1).bind fun bt152 => ((integer_Compare.f kj4 bt148.1 bt148.2 bt152.1 bt152.2).bind fun t156 => (some (t147 == t156)))))))) = some r := by rw [if_pos rfl] at H; exact H
        clear H
        have H := H1
        clear H1
        replace H := Option.bind_eq_some_iff.mp H
        obtain ⟨⟨t139, t140⟩, A490, H⟩ := H
        replace H : ((substationlaw01_product.f kj4 a1_0 l1_1 a1_0 l1_1).bind fun bt143 => ((integer_Compare.f kj4 t139 t140 bt143.1 bt143.2).bind fun t147 => ((substationref01_Size.f kj4 a0_0 l0_1).bind fun bt148 => ((substationref01_Size.f kj4 a1_0 l1_1).bind fun bt152 => ((integer_Compare.f kj4 bt148.1 bt148.2 bt152.1 bt152.2).bind fun t156 => (some (t147 == t156))))))) = some r := H
        have A49 := Aside0.mk A490
        clear A490
        replace H := Option.bind_eq_some_iff.mp H
        obtain ⟨⟨t143, t144⟩, A500, H⟩ := H
        replace H : ((integer_Compare.f kj4 t139 t140 t143 t144).bind fun t147 => ((substationref01_Size.f kj4 a0_0 l0_1).bind fun bt148 => ((substationref01_Size.f kj4 a1_0 l1_1).bind fun bt152 => ((integer_Compare.f kj4 bt148.1 bt148.2 bt152.1 bt152.2).bind fun t156 => (some (t147 == t156)))))) = some r := H
        have A50 := Aside0.mk A500
        clear A500
        replace H := Option.bind_eq_some_iff.mp H
        obtain ⟨t147, A510, H⟩ := H
        replace H : ((substationref01_Size.f kj4 a0_0 l0_1).bind fun bt148 => ((substationref01_Size.f kj4 a1_0 l1_1).bind fun bt152 => ((integer_Compare.f kj4 bt148.1 bt148.2 bt152.1 bt152.2).bind fun t156 => (some (t147 == t156))))) = some r := H
        have A51 := Aside0.mk A510
        clear A510
        replace H := Option.bind_eq_some_iff.mp H
        obtain ⟨⟨t148, t149⟩, A520, H⟩ := H
        replace H : ((substationref01_Size.f kj4 a1_0 l1_1).bind fun bt152 => ((integer_Compare.f kj4 t148 t149 bt152.1 bt152.2).bind fun t156 => (some (t147 == t156)))) = some r := H
        have A52 := Aside0.mk A520
        clear A520
        replace H := Option.bind_eq_some_iff.mp H
        obtain ⟨⟨t152, t153⟩, A530, H⟩ := H
        replace H : ((integer_Compare.f kj4 t148 t149 t152 t153).bind fun t156 => (some (t147 == t156))) = some r := H
        have A53 := Aside0.mk A530
        clear A530
        replace H := Option.bind_eq_some_iff.mp H
        obtain ⟨t156, A540, H⟩ := H
        replace H : (some (t147 == t156)) = some r := H
        have A54 := Aside0.mk A540
        clear A540
        obtain rfl := Option.some.inj H
        have hnb55 := NB101_102.out
        have hnc55 := NB102_101.out
        have hcz56_0 : wc.cell? ⟨gb101, 0, none⟩ = some (.bool a0_0) := (blk_cell BK101.out 0).trans rfl
        have hcz56_1 : wc.cell? ⟨gb101, 1, none⟩ = some (.slice A0_1 l0_1.length c0_1) := (blk_cell BK101.out 1).trans rfl
        have hfz56_0 := blk_frozen BK101.out 0
        have hfz56_1 := blk_frozen BK101.out 1
        have hcz57_0 : wc.cell? ⟨gb102, 0, none⟩ = some (.bool a1_0) := (blk_cell BK102.out 0).trans rfl
        have hcz57_1 : wc.cell? ⟨gb102, 1, none⟩ = some (.slice A1_1 l1_1.length c1_1) := (blk_cell BK102.out 1).trans rfl
        have hfz57_0 := blk_frozen BK102.out 0
        have hfz57_1 := blk_frozen BK102.out 1
        try go_wp2_with (first | ((with_reducible refine gate_callee (f := 40) rfl ?_); refine goesL_ (some 28) rfl rfl Tryd.func40 (by kernel_rfl) rfl #[.agg #[.bool a0_0, .slice A0_1 l0_1.length c0_1], .agg #[.bool a1_0, .slice A1_1 l1_1.length c1_1]] rfl (by (try simp only [List.map_toArray, List.map_cons, List.map_nil]); first | done | rfl | (simp only [List.length_drop, List.length_take]; rfl)) ?_; (with_reducible refine (integer_Sub.calls kj4 a0_0 _ _ l0_1 a1_0 _ _ l1_1 t110 t111 t114 _ ?side1 ?side2 ?side3 ?side4 A39.out).mono ?_); (case side1 => repeat (first | exact (Kd.V_reads' HO_102001.out).2.2 | (with_reducible refine Kd.C_alloc ?_ _) | (with_reducible refine Kd.C_drewN ?_ _) | (with_reducible refine Kd.C_drew ?_))); (case side2 => exact (Kd.V_reads' HO_102001.out).2.1); (case side3 => repeat (first | exact (Kd.V_reads' HO_103001.out).2.2 | (with_reducible refine Kd.C_alloc ?_ _) | (with_reducible refine Kd.C_drewN ?_ _) | (with_reducible refine Kd.C_drew ?_))); (case side4 => exact (Kd.V_reads' HO_103001.out).2.1); rintro e w58 ⟨v112, rfl, ho0, hb⟩; refine ⟨_, rfl, ?_⟩; have n0_ := Aside0.mk (Kd.V_elder' (by (with_reducible repeat (first | apply Kd.V_alloc | apply Kd.V_drewN | apply Kd.V_drew)); exact HO_102001.out) (Kd.R_base ho0) hb); have n1_ := Aside0.mk (Kd.V_elder' (by (with_reducible repeat (first | apply Kd.V_alloc | apply Kd.V_drewN | apply Kd.V_drew)); exact HO_103001.out) (Kd.R_base ho0) hb); have n2_ := Aside0.mk (Kd.R_lower (Kd.R_newM (M := fun k_ => (w.heap.size ≤ k_)) ho0 (below_size (by repeat (first | (with_reducible first | exact HB.out | apply below_alloc | apply pw_below_drewN | apply below_drew1 | refine below_set ?_ GE101.out | refine below_set ?_ GE102.out) | exact HB.out))) (fun k_ h_ => h_)) (below_size (by repeat (first | (with_reducible first | exact HB.out | apply below_alloc | apply pw_below_drewN | apply below_drew1 | refine below_set ?_ GE101.out | refine below_set ?_ GE102.out) | exact HB.out)))); have n3_ := Aside0.mk (blk_below (g := gb101) (o := .cells #[.bool a0_0, .slice A0_1 l0_1.length c0_1] 27 (0, 0)) (by (with_reducible repeat (first | refine blk_drewN ?_ _ | refine blk_drew ?_ | refine blk_alloc ?_ _)); exact BK101.out) hb); have n4_ := Aside0.mk (blk_below (g := gb102) (o := .cells #[.bool a1_0, .slice A1_1 l1_1.length c1_1] 27 (0, 0)) (by (with_reducible repeat (first | refine blk_drewN ?_ _ | refine blk_drew ?_ | refine blk_alloc ?_ _)); exact BK102.out) hb); have n5_ := Aside0.mk (below_step (by repeat (first | (with_reducible first | exact HB.out | apply below_alloc | apply pw_below_drewN | apply below_drew1 | refine below_set ?_ GE101.out | refine below_set ?_ GE102.out) | exact HB.out)) hb); clear HO_102001; clear HO_103001; clear BK101; clear BK102; clear HB; have HO_102001 := n0_; have HO_103001 := n1_; have HO113 := n2_; have BK101 := n3_; have BK102 := n4_; have HB := n5_; clear n0_ n1_ n2_ n3_ n4_ n5_; (try clear hb); (try clear hb2); (try clear hk); (try clear hi); (try clear ho0)) | ((with_reducible refine gate_dst (N := 5) rfl ?_); refine box_event ?hg (N := 5) ?hd (cs := #[.bool false, .slice none 0 0]) (t := 27) ?hr ?_; (case hd => rfl); (case hg => rfl); (case hr => first | (go_simp; done) | (go_simp; rfl)); intro gb115 hg w59 hbox hb; have n0_ := Aside0.mk (Kd.V_below (Kd.V_elderB (by (with_reducible repeat (first | apply Kd.V_alloc | apply Kd.V_drewN | apply Kd.V_drew)); exact HO_102001.out) gb115 (Nat.le_of_eq hg.symm)) hb); have n1_ := Aside0.mk (Kd.V_below (Kd.V_elderB (by (with_reducible repeat (first | apply Kd.V_alloc | apply Kd.V_drewN | apply Kd.V_drew)); exact HO_103001.out) gb115 (Nat.le_of_eq hg.symm)) hb); have n2_ := Aside0.mk (Kd.R_below (by (with_reducible repeat (first | apply Kd.R_alloc | apply Kd.R_drewN | apply Kd.R_drew)); exact HO113.out) hb); have n3_ := Aside0.mk (blk_below (g := gb101) (o := .cells #[.bool a0_0, .slice A0_1 l0_1.length c0_1] 27 (0, 0)) (by (with_reducible repeat (first | refine blk_drewN ?_ _ | refine blk_drew ?_ | refine blk_alloc ?_ _)); exact BK101.out) hb); have n4_ := Aside0.mk (blk_below (g := gb102) (o := .cells #[.bool a1_0, .slice A1_1 l1_1.length c1_1] 27 (0, 0)) (by (with_reducible repeat (first | refine blk_drewN ?_ _ | refine blk_drew ?_ | refine blk_alloc ?_ _)); exact BK102.out) hb); have n5_ := Aside0.mk (below_step (by repeat (first | (with_reducible first | exact HB.out | apply below_alloc | apply pw_below_drewN | apply below_drew1 | refine below_set ?_ GE101.out | refine below_set ?_ GE102.out) | exact HB.out)) hb); have n6_ := Aside0.mk (hbox); have n7_ := Aside0.mk ((by rw [hg]; exact (below_size (by repeat (first | (with_reducible first | exact HB.out | apply below_alloc | apply pw_below_drewN | apply below_drew1 | refine below_set ?_ GE101.out | refine below_set ?_ GE102.out) | exact HB.out))) : w.heap.size ≤ gb115)); have n8_ := Aside0.mk ((by rw [hg]; exact (below_size (by repeat (first | (with_reducible first | exact HB.out | apply below_alloc | apply pw_below_drewN | apply below_drew1 | refine below_set ?_ GE101.out | refine below_set ?_ GE102.out) | exact HB.out))) : w.heap.size ≤ gb115)); have n9_ := Aside0.mk ((by rw [hg]; exact Nat.ne_of_lt (blk_lt (g := gb101) (o := .cells #[.bool a0_0, .slice A0_1 l0_1.length c0_1] 27 (0, 0)) (by (with_reducible repeat (first | refine blk_drewN ?_ _ | refine blk_drew ?_ | refine blk_alloc ?_ _)); exact BK101.out)) : gb101 ≠ gb115)); have n10_ := Aside0.mk ((by rw [hg]; exact Nat.ne_of_gt (blk_lt (g := gb101) (o := .cells #[.bool a0_0, .slice A0_1 l0_1.length c0_1] 27 (0, 0)) (by (with_reducible repeat (first | refine blk_drewN ?_ _ | refine blk_drew ?_ | refine blk_alloc ?_ _)); exact BK101.out)) : gb115 ≠ gb101)); have n11_ := Aside0.mk ((by rw [hg]; exact Nat.ne_of_lt (blk_lt (g := gb102) (o := .cells #[.bool a1_0, .slice A1_1 l1_1.length c1_1] 27 (0, 0)) (by (with_reducible repeat (first | refine blk_drewN ?_ _ | refine blk_drew ?_ | refine blk_alloc ?_ _)); exact BK102.out)) : gb102 ≠ gb115)); have n12_ := Aside0.mk ((by rw [hg]; exact Nat.ne_of_gt (blk_lt (g := gb102) (o := .cells #[.bool a1_0, .slice A1_1 l1_1.length c1_1] 27 (0, 0)) (by (with_reducible repeat (first | refine blk_drewN ?_ _ | refine blk_drew ?_ | refine blk_alloc ?_ _)); exact BK102.out)) : gb115 ≠ gb102)); clear HO_102001; clear HO_103001; clear HO113; clear BK101; clear BK102; clear HB; have HO_102001 := n0_; have HO_103001 := n1_; have HO113 := n2_; have BK101 := n3_; have BK102 := n4_; have HB := n5_; have BK115 := n6_; have GW115 := n7_; have GE115 := n8_; have NB101_115 := n9_; have NB115_101 := n10_; have NB102_115 := n11_; have NB115_102 := n12_; clear n0_ n1_ n2_ n3_ n4_ n5_ n6_ n7_ n8_ n9_ n10_ n11_ n12_; clear hb hbox hg; have hnb60 := NB115_101.out; have hnc60 := NB101_115.out; have hnb61 := NB115_102.out; have hnc61 := NB102_115.out; have hcz62_0 : w59.cell? ⟨gb115, 0, none⟩ = some (.bool false) := (blk_cell BK115.out 0).trans rfl; have hcz62_1 : w59.cell? ⟨gb115, 1, none⟩ = some (.slice none 0 0) := (blk_cell BK115.out 1).trans rfl; have hfz62_0 := blk_frozen BK115.out 0; have hfz62_1 := blk_frozen BK115.out 1; obtain ⟨Ao63, co63, eo63⟩ := Kd.R_slice HO113.out; subst eo63))
        have n0_ : Aside0 (Kd.V (Kd.int .u32) 22 ((w59.setCell ⟨gb115, 0, none⟩ (.bool t110)).setCell ⟨gb115, 1, none⟩ (.slice Ao63 t111.length co63)) w.heap.size (fun k_ => ((P0_1_ k_ ∨ P1_1_ k_) ∨ w.heap.size ≤ k_) ∧ some k_ ≠ (.slice Ao63 t111.length co63 : Value).ownBlock ∧ k_ ≠ gb101 ∧ k_ ≠ gb102 ∧ k_ ≠ gb115) (.slice A0_1 l0_1.length c0_1) l0_1) := ⟨by (with_reducible repeat (first | apply Kd.V_alloc | apply Kd.V_drewN | apply Kd.V_drew)); exact Kd.V_mono (Kd.V_far (p := ⟨gb115, 1, none⟩) (Kd.V_far (p := ⟨gb115, 0, none⟩) (Kd.V_mono HO_102001.out (fun k_ hk => (⟨hk, hk.2⟩ : _ ∧ k_ ≠ gb115))) (fun _ hk => hk.2) (.bool t110)) (fun _ hk => hk.2) (.slice Ao63 t111.length co63)) (fun _ hk => ⟨hk.1.1.1.1, ⟨hk.1.1.2, ⟨hk.1.1.1.2.1, ⟨hk.1.1.1.2.2, hk.1.2⟩⟩⟩⟩)⟩
        have n1_ : Aside0 (Kd.V (Kd.int .u32) 22 ((w59.setCell ⟨gb115, 0, none⟩ (.bool t110)).setCell ⟨gb115, 1, none⟩ (.slice Ao63 t111.length co63)) w.heap.size (fun k_ => ((P0_1_ k_ ∨ P1_1_ k_) ∨ w.heap.size ≤ k_) ∧ some k_ ≠ (.slice Ao63 t111.length co63 : Value).ownBlock ∧ k_ ≠ gb101 ∧ k_ ≠ gb102 ∧ k_ ≠ gb115) (.slice A1_1 l1_1.length c1_1) l1_1) := ⟨by (with_reducible repeat (first | apply Kd.V_alloc | apply Kd.V_drewN | apply Kd.V_drew)); exact Kd.V_mono (Kd.V_far (p := ⟨gb115, 1, none⟩) (Kd.V_far (p := ⟨gb115, 0, none⟩) (Kd.V_mono HO_103001.out (fun k_ hk => (⟨hk, hk.2⟩ : _ ∧ k_ ≠ gb115))) (fun _ hk => hk.2) (.bool t110)) (fun _ hk => hk.2) (.slice Ao63 t111.length co63)) (fun _ hk => ⟨hk.1.1.1.1, ⟨hk.1.1.2, ⟨hk.1.1.1.2.1, ⟨hk.1.1.1.2.2, hk.1.2⟩⟩⟩⟩)⟩
        have n2_ : Aside0 (Kd.R (Kd.int .u32) 22 ((w59.setCell ⟨gb115, 0, none⟩ (.bool t110)).setCell ⟨gb115, 1, none⟩ (.slice Ao63 t111.length co63)) w.heap.size (fun k_ => (w.heap.size ≤ k_)) (.slice Ao63 t111.length co63) t111) := ⟨by (with_reducible repeat (first | apply Kd.R_alloc | apply Kd.R_drewN | apply Kd.R_drew)); exact Kd.R_mono (Kd.R_far (p := ⟨gb115, 1, none⟩) (Kd.R_far (p := ⟨gb115, 0, none⟩) (Kd.R_types HO113.out BK115.out (by decide)) (fun _ hk => hk.2) (.bool t110)) (fun _ hk => hk.2) (.slice Ao63 t111.length co63)) (fun _ hk => hk.1.1)⟩
        have n3_ : Aside0 (((w59.setCell ⟨gb115, 0, none⟩ (.bool t110)).setCell ⟨gb115, 1, none⟩ (.slice Ao63 t111.length co63)).heap[gb101]? = some (.cells #[.bool a0_0, .slice A0_1 l0_1.length c0_1] 27 (0, 0))) := ⟨by (with_reducible repeat (first | refine blk_drewN ?_ _ | refine blk_drew ?_ | refine blk_alloc ?_ _)); refine blk_far ?_ NB101_115.out _; (with_reducible repeat (first | refine blk_drewN ?_ _ | refine blk_drew ?_ | refine blk_alloc ?_ _)); refine blk_far ?_ NB101_115.out _; (with_reducible repeat (first | refine blk_drewN ?_ _ | refine blk_drew ?_ | refine blk_alloc ?_ _)); exact BK101.out⟩
        have n4_ : Aside0 (((w59.setCell ⟨gb115, 0, none⟩ (.bool t110)).setCell ⟨gb115, 1, none⟩ (.slice Ao63 t111.length co63)).heap[gb102]? = some (.cells #[.bool a1_0, .slice A1_1 l1_1.length c1_1] 27 (0, 0))) := ⟨by (with_reducible repeat (first | refine blk_drewN ?_ _ | refine blk_drew ?_ | refine blk_alloc ?_ _)); refine blk_far ?_ NB102_115.out _; (with_reducible repeat (first | refine blk_drewN ?_ _ | refine blk_drew ?_ | refine blk_alloc ?_ _)); refine blk_far ?_ NB102_115.out _; (with_reducible repeat (first | refine blk_drewN ?_ _ | refine blk_drew ?_ | refine blk_alloc ?_ _)); exact BK102.out⟩
        have n5_ : Aside0 (((w59.setCell ⟨gb115, 0, none⟩ (.bool t110)).setCell ⟨gb115, 1, none⟩ (.slice Ao63 t111.length co63)).heap[gb115]? = some (.cells #[.bool t110, .slice Ao63 t111.length co63] 27 (0, 0))) := ⟨by (with_reducible repeat (first | refine blk_drewN ?_ _ | refine blk_drew ?_ | refine blk_alloc ?_ _)); refine blk_put (cs := #[.bool t110, .slice none 0 0]) ?_ 1 _ rfl; (with_reducible repeat (first | refine blk_drewN ?_ _ | refine blk_drew ?_ | refine blk_alloc ?_ _)); refine blk_put (cs := #[.bool false, .slice none 0 0]) ?_ 0 _ rfl; (with_reducible repeat (first | refine blk_drewN ?_ _ | refine blk_drew ?_ | refine blk_alloc ?_ _)); exact BK115.out⟩
        have n6_ : Aside0 (Below w.heap.size w ((w59.setCell ⟨gb115, 0, none⟩ (.bool t110)).setCell ⟨gb115, 1, none⟩ (.slice Ao63 t111.length co63))) := ⟨by repeat (first | (with_reducible first | exact HB.out | apply below_alloc | apply pw_below_drewN | apply below_drew1 | refine below_set ?_ GE101.out | refine below_set ?_ GE102.out | refine below_set ?_ GE115.out) | exact HB.out)⟩
        (try clear HO_102001)
        (try clear HO_103001)
        (try clear HO113)
        (try clear BK101)
        (try clear BK102)
        (try clear BK115)
        (try clear HB)
        generalize ((w59.setCell ⟨gb115, 0, none⟩ (.bool t110)).setCell ⟨gb115, 1, none⟩ (.slice Ao63 t111.length co63)) = w64 at n0_ n1_ n2_ n3_ n4_ n5_ n6_ ⊢
        have HO_102001 := n0_
        have HO_103001 := n1_
        have HO113 := n2_
        have BK101 := n3_
        have BK102 := n4_
        have BK115 := n5_
        have HB := n6_
        clear n0_ n1_ n2_ n3_ n4_ n5_ n6_
        have n0_ := Aside0.mk (Kd.V_drew HO_102001.out)
        have n1_ := Aside0.mk (Kd.V_drew HO_103001.out)
        have n2_ := Aside0.mk (Kd.R_drew HO113.out)
        have n3_ := Aside0.mk (blk_drew BK101.out)
        have n4_ := Aside0.mk (blk_drew BK102.out)
        have n5_ := Aside0.mk (blk_drew BK115.out)
        have n6_ := Aside0.mk (below_drew1 HB.out)
        clear HO_102001
        clear HO_103001
        clear HO113
        clear BK101
        clear BK102
        clear BK115
        clear HB
        have HO_102001 := n0_
        have HO_103001 := n1_
        have HO113 := n2_
        have BK101 := n3_
        have BK102 := n4_
        have BK115 := n5_
        have HB := n6_
        clear n0_ n1_ n2_ n3_ n4_ n5_ n6_
        refine start_ (n := 13) (S := fun w' => w'.cell? ⟨gb101, 0, none⟩ = some (.bool a0_0) ∧ w'.cell? ⟨gb101, 1, none⟩ = some (.slice A0_1 l0_1.length c0_1) ∧ w'.cell? ⟨gb102, 0, none⟩ = some (.bool a1_0) ∧ w'.cell? ⟨gb102, 1, none⟩ = some (.slice A1_1 l1_1.length c1_1)) (ds := []) #[false, false, false, false, false, false, false, false, false, false, false, false, false] (by kernel_rfl) rfl rfl ⟨(blk_cell BK101.out 0).trans rfl, (blk_cell BK101.out 1).trans rfl, (blk_cell BK102.out 0).trans rfl, (blk_cell BK102.out 1).trans rfl⟩ (fun hHeld => ?_); refine with_tabW substationlaw01_IntegerSquares.tab6 substationlaw01_IntegerSquares.bits6 (fun HT_ HW_ => ?_)
        generalize w64.drew = w65 at HO_102001 HO_103001 HO113 BK101 BK102 BK115 HB hHeld ⊢
        refine take_ (i := 0) (N := some 32) (v := ?_) (a' := ?_) #[true, false, false, false, false, false, false, false, false, false, false, false, false] rfl rfl (take_ofW HT_.out HW_.out (by kernel_rfl)) (fun _ _ _ h => h) (Or.inl ⟨by rfl, ?_⟩) hHeld ?_ ?_
        rotate_left
        ·rintro w' ⟨s0, s1, s2, s3⟩
         go_simp
         with_reducible rfl
        rotate_left
        ·simp only [Act.put, List.setIfInBounds_toArray, List.set_cons_zero, List.set_cons_succ, i64_w, i32_w]
         rfl
        refine take_ (i := 1) (N := some 33) (v := ?_) (a' := ?_) #[true, true, false, false, false, false, false, false, false, false, false, false, false] rfl rfl (take_ofW HT_.out HW_.out (by kernel_rfl)) (fun _ _ _ h => h) (Or.inl ⟨by rfl, ?_⟩) hHeld ?_ ?_
        rotate_left
        ·rintro w' ⟨s0, s1, s2, s3⟩
         go_simp
         with_reducible rfl
        rotate_left
        ·simp only [Act.put, List.setIfInBounds_toArray, List.set_cons_zero, List.set_cons_succ, i64_w, i32_w]
         rfl
        refine take_ (i := 3) (N := some 35) (v := ?_) (a' := ?_) #[true, true, false, true, false, false, false, false, false, false, false, false, false] rfl rfl (take_ofW HT_.out HW_.out (by kernel_rfl)) (fun _ _ _ h => h) (Or.inl ⟨by rfl, ?_⟩) hHeld ?_ ?_
        rotate_left
        ·rintro w' ⟨s0, s1, s2, s3⟩
         go_simp
         with_reducible rfl
        rotate_left
        ·simp only [Act.put, List.setIfInBounds_toArray, List.set_cons_zero, List.set_cons_succ, i64_w, i32_w]
         rfl
        refine take_ (i := 4) (N := some 36) (v := ?_) (a' := ?_) #[true, true, false, true, true, false, false, false, false, false, false, false, false] rfl rfl (take_ofW HT_.out HW_.out (by kernel_rfl)) (fun _ _ _ h => h) (Or.inl ⟨by rfl, ?_⟩) hHeld ?_ ?_
        rotate_left
        ·rintro w' ⟨s0, s1, s2, s3⟩
         go_simp
         with_reducible rfl
        rotate_left
        ·simp only [Act.put, List.setIfInBounds_toArray, List.set_cons_zero, List.set_cons_succ, i64_w, i32_w]
         rfl
        refine join_ (σ := Value × Value × Value × Nat) 2 #[true, true, true, true, true, true, true, true, true, true, true, false, false] (fun s_ => [(34, .agg #[.bool t116, s_.1]), (37, .agg #[.bool t120, s_.2.1]), (38, .tuple #[.agg #[.bool t124, s_.2.2.1], .int .i64 t128]), (7, .pointer (some ⟨s_.2.2.2, 0, none⟩)), (31, .tuple #[.agg #[.bool t124, s_.2.2.1], .int .i64 t128]), (39, .agg #[.bool t124, s_.2.2.1]), (40, .int .i64 t128)]) (fun s_ w' => (w'.cell? ⟨gb101, 0, none⟩ = some (.bool a0_0) ∧ w'.cell? ⟨gb101, 1, none⟩ = some (.slice A0_1 l0_1.length c0_1) ∧ w'.cell? ⟨gb102, 0, none⟩ = some (.bool a1_0) ∧ w'.cell? ⟨gb102, 1, none⟩ = some (.slice A1_1 l1_1.length c1_1)) ∧ (Kd.R (Kd.int .u32) 22 w' w.heap.size (fun k_ => (w.heap.size ≤ k_) ∧ some k_ ≠ (s_.1 : Value).ownBlock ∧ some k_ ≠ (s_.2.1 : Value).ownBlock ∧ some k_ ≠ (s_.2.2.1 : Value).ownBlock) (.slice Ao63 t111.length co63) t111) ∧ (Kd.R (Kd.int .u32) 22 w' w.heap.size (fun k_ => (w.heap.size ≤ k_) ∧ some k_ ≠ (.slice Ao63 t111.length co63 : Value).ownBlock ∧ some k_ ≠ (s_.2.1 : Value).ownBlock ∧ some k_ ≠ (s_.2.2.1 : Value).ownBlock) s_.1 t117) ∧ (Kd.R (Kd.int .u32) 22 w' w.heap.size (fun k_ => (w.heap.size ≤ k_) ∧ some k_ ≠ (.slice Ao63 t111.length co63 : Value).ownBlock ∧ some k_ ≠ (s_.1 : Value).ownBlock ∧ some k_ ≠ (s_.2.2.1 : Value).ownBlock) s_.2.1 t121) ∧ (Kd.R (Kd.int .u32) 22 w' w.heap.size (fun k_ => (w.heap.size ≤ k_) ∧ some k_ ≠ (.slice Ao63 t111.length co63 : Value).ownBlock ∧ some k_ ≠ (s_.1 : Value).ownBlock ∧ some k_ ≠ (s_.2.1 : Value).ownBlock) s_.2.2.1 t125) ∧ (Kd.V (Kd.int .u32) 22 w' w.heap.size (fun k_ => ((P0_1_ k_ ∨ P1_1_ k_) ∨ w.heap.size ≤ k_) ∧ some k_ ≠ (.slice Ao63 t111.length co63 : Value).ownBlock ∧ some k_ ≠ (s_.1 : Value).ownBlock ∧ some k_ ≠ (s_.2.1 : Value).ownBlock ∧ some k_ ≠ (s_.2.2.1 : Value).ownBlock ∧ k_ ≠ gb101 ∧ k_ ≠ gb102 ∧ k_ ≠ gb115 ∧ k_ ≠ s_.2.2.2) (.slice A0_1 l0_1.length c0_1) l0_1) ∧ (Kd.V (Kd.int .u32) 22 w' w.heap.size (fun k_ => ((P0_1_ k_ ∨ P1_1_ k_) ∨ w.heap.size ≤ k_) ∧ some k_ ≠ (.slice Ao63 t111.length co63 : Value).ownBlock ∧ some k_ ≠ (s_.1 : Value).ownBlock ∧ some k_ ≠ (s_.2.1 : Value).ownBlock ∧ some k_ ≠ (s_.2.2.1 : Value).ownBlock ∧ k_ ≠ gb101 ∧ k_ ≠ gb102 ∧ k_ ≠ gb115 ∧ k_ ≠ s_.2.2.2) (.slice A1_1 l1_1.length c1_1) l1_1) ∧ (w'.heap[gb101]? = some (.cells #[.bool a0_0, .slice A0_1 l0_1.length c0_1] 27 (0, 0))) ∧ (w'.heap[gb102]? = some (.cells #[.bool a1_0, .slice A1_1 l1_1.length c1_1] 27 (0, 0))) ∧ (w'.heap[gb115]? = some (.cells #[.bool t110, .slice Ao63 t111.length co63] 27 (0, 0))) ∧ (w'.heap[s_.2.2.2]? = some (.cells #[.bool false, .slice none 0 0] 27 (0, 0))) ∧ (w.heap.size ≤ s_.2.2.2) ∧ (w.heap.size ≤ s_.2.2.2) ∧ (gb101 ≠ s_.2.2.2) ∧ (s_.2.2.2 ≠ gb101) ∧ (gb102 ≠ s_.2.2.2) ∧ (s_.2.2.2 ≠ gb102) ∧ (gb115 ≠ s_.2.2.2) ∧ (s_.2.2.2 ≠ gb115) ∧ (Below w.heap.size w w')) ?_ ?_
        rotate_left
        ·intro hCont
         refine two_ (i := 2) (j := 10) (Ni := some 34) (Nj := some 7) #[true, true, true, true, true, false, false, false, false, false, false, false, false] #[true, true, false, true, true, false, false, false, false, false, true, false, false] rfl rfl rfl rfl (two_of HT_.out (by kernel_rfl)) (by decide) (by decide) (fun K hK => ?_) (fun K hK => ?_)
         ·skip
          refine goes_ Tryd.func44 (by kernel_rfl) rfl #[.agg #[.bool a0_0, .slice A0_1 l0_1.length c0_1], .agg #[.bool a0_0, .slice A0_1 l0_1.length c0_1]] (by rfl) rfl rfl (by (try simp only [List.map_toArray, List.map_cons, List.map_nil]); first | done | rfl | (simp only [List.length_drop, List.length_take]; rfl)) ?_
          with_reducible refine (substationlaw01_product.calls kj4 a0_0 _ _ l0_1 a0_0 _ _ l0_1 t116 t117 _ ?side1 ?side2 ?side3 ?side4 A40.out).mono ?_
          (case side1 => repeat (first | exact (Kd.V_reads' HO_102001.out).2.2 | (with_reducible refine Kd.C_alloc ?_ _) | (with_reducible refine Kd.C_drewN ?_ _) | (with_reducible refine Kd.C_drew ?_)))
          (case side2 => exact (Kd.V_reads' HO_102001.out).2.1)
          (case side3 => repeat (first | exact (Kd.V_reads' HO_102001.out).2.2 | (with_reducible refine Kd.C_alloc ?_ _) | (with_reducible refine Kd.C_drewN ?_ _) | (with_reducible refine Kd.C_drew ?_)))
          (case side4 => exact (Kd.V_reads' HO_102001.out).2.1)
          rintro e w66 ⟨v118, rfl, ho0, hb⟩
          refine ⟨_, rfl, ?_⟩
          have n0_ := Aside0.mk (Kd.V_elder' (by (with_reducible repeat (first | apply Kd.V_alloc | apply Kd.V_drewN | apply Kd.V_drew)); exact HO_102001.out) (Kd.R_base ho0) hb)
          have n1_ := Aside0.mk (Kd.V_elder' (by (with_reducible repeat (first | apply Kd.V_alloc | apply Kd.V_drewN | apply Kd.V_drew)); exact HO_103001.out) (Kd.R_base ho0) hb)
          have n2_ := Aside0.mk (Kd.R_elder' (by (with_reducible repeat (first | apply Kd.R_alloc | apply Kd.R_drewN | apply Kd.R_drew)); exact HO113.out) (Kd.R_base ho0) hb)
          have n3_ := Aside0.mk (Kd.R_lower (Kd.R_new' (Kd.R_newM (M := fun k_ => (w.heap.size ≤ k_)) ho0 (below_size (by repeat (first | (with_reducible first | exact HB.out | apply below_alloc | apply pw_below_drewN | apply below_drew1 | refine below_set ?_ GE101.out | refine below_set ?_ GE102.out | refine below_set ?_ GE115.out) | exact HB.out))) (fun k_ h_ => h_)) (Kd.R_lt (by (with_reducible repeat (first | apply Kd.R_alloc | apply Kd.R_drewN | apply Kd.R_drew)); exact HO113.out))) (below_size (by repeat (first | (with_reducible first | exact HB.out | apply below_alloc | apply pw_below_drewN | apply below_drew1 | refine below_set ?_ GE101.out | refine below_set ?_ GE102.out | refine below_set ?_ GE115.out) | exact HB.out))))
          have n4_ := Aside0.mk (blk_below (g := gb101) (o := .cells #[.bool a0_0, .slice A0_1 l0_1.length c0_1] 27 (0, 0)) (by (with_reducible repeat (first | refine blk_drewN ?_ _ | refine blk_drew ?_ | refine blk_alloc ?_ _)); exact BK101.out) hb)
          have n5_ := Aside0.mk (blk_below (g := gb102) (o := .cells #[.bool a1_0, .slice A1_1 l1_1.length c1_1] 27 (0, 0)) (by (with_reducible repeat (first | refine blk_drewN ?_ _ | refine blk_drew ?_ | refine blk_alloc ?_ _)); exact BK102.out) hb)
          have n6_ := Aside0.mk (blk_below (g := gb115) (o := .cells #[.bool t110, .slice Ao63 t111.length co63] 27 (0, 0)) (by (with_reducible repeat (first | refine blk_drewN ?_ _ | refine blk_drew ?_ | refine blk_alloc ?_ _)); exact BK115.out) hb)
          have n7_ := Aside0.mk (below_step (by repeat (first | (with_reducible first | exact HB.out | apply below_alloc | apply pw_below_drewN | apply below_drew1 | refine below_set ?_ GE101.out | refine below_set ?_ GE102.out | refine below_set ?_ GE115.out) | exact HB.out)) hb)
          clear HO_102001
          clear HO_103001
          clear HO113
          clear BK101
          clear BK102
          clear BK115
          clear HB
          have HO_102001 := n0_
          have HO_103001 := n1_
          have HO113 := n2_
          have HO119 := n3_
          have BK101 := n4_
          have BK102 := n5_
          have BK115 := n6_
          have HB := n7_
          clear n0_ n1_ n2_ n3_ n4_ n5_ n6_ n7_
          (try clear hb)
          (try clear hb2)
          (try clear hk)
          (try clear hi)
          (try clear ho0)
          refine hK.out _ _ ⟨(blk_cell BK101.out 0).trans rfl, (blk_cell BK101.out 1).trans rfl, (blk_cell BK102.out 0).trans rfl, (blk_cell BK102.out 1).trans rfl⟩ (fun hHeld => ?_)
          clear hK K
          refine norm_ (a' := ?_) ?_ ?_
          rotate_left
          ·show Act.put _ (some 34) _ = _
           simp only [Act.put, List.setIfInBounds_toArray, List.set_cons_zero, List.set_cons_succ, i64_w, i32_w]
           rfl
          refine two_ (i := 5) (j := 10) (Ni := some 37) (Nj := some 7) #[true, true, true, true, true, true, false, false, false, false, false, false, false] #[true, true, true, true, true, false, false, false, false, false, true, false, false] rfl rfl rfl rfl (two_of HT_.out (by kernel_rfl)) (by decide) (by decide) (fun K hK => ?_) (fun K hK => ?_)
          ·skip
           refine goes_ Tryd.func44 (by kernel_rfl) rfl #[.agg #[.bool a1_0, .slice A1_1 l1_1.length c1_1], .agg #[.bool a1_0, .slice A1_1 l1_1.length c1_1]] (by rfl) rfl rfl (by (try simp only [List.map_toArray, List.map_cons, List.map_nil]); first | done | rfl | (simp only [List.length_drop, List.length_take]; rfl)) ?_
           with_reducible refine (substationlaw01_product.calls kj4 a1_0 _ _ l1_1 a1_0 _ _ l1_1 t120 t121 _ ?side1 ?side2 ?side3 ?side4 A41.out).mono ?_
           (case side1 => repeat (first | exact (Kd.V_reads' HO_103001.out).2.2 | (with_reducible refine Kd.C_alloc ?_ _) | (with_reducible refine Kd.C_drewN ?_ _) | (with_reducible refine Kd.C_drew ?_)))
           (case side2 => exact (Kd.V_reads' HO_103001.out).2.1)
           (case side3 => repeat (first | exact (Kd.V_reads' HO_103001.out).2.2 | (with_reducible refine Kd.C_alloc ?_ _) | (with_reducible refine Kd.C_drewN ?_ _) | (with_reducible refine Kd.C_drew ?_)))
           (case side4 => exact (Kd.V_reads' HO_103001.out).2.1)
           rintro e w67 ⟨v122, rfl, ho0, hb⟩
           refine ⟨_, rfl, ?_⟩
           have n0_ := Aside0.mk (Kd.V_elder' (by (with_reducible repeat (first | apply Kd.V_alloc | apply Kd.V_drewN | apply Kd.V_drew)); exact HO_102001.out) (Kd.R_base ho0) hb)
           have n1_ := Aside0.mk (Kd.V_elder' (by (with_reducible repeat (first | apply Kd.V_alloc | apply Kd.V_drewN | apply Kd.V_drew)); exact HO_103001.out) (Kd.R_base ho0) hb)
           have n2_ := Aside0.mk (Kd.R_elder' (by (with_reducible repeat (first | apply Kd.R_alloc | apply Kd.R_drewN | apply Kd.R_drew)); exact HO113.out) (Kd.R_base ho0) hb)
           have n3_ := Aside0.mk (Kd.R_elder' (by (with_reducible repeat (first | apply Kd.R_alloc | apply Kd.R_drewN | apply Kd.R_drew)); exact HO119.out) (Kd.R_base ho0) hb)
           have n4_ := Aside0.mk (Kd.R_lower (Kd.R_new' (Kd.R_new' (Kd.R_newM (M := fun k_ => (w.heap.size ≤ k_)) ho0 (below_size (by repeat (first | (with_reducible first | exact HB.out | apply below_alloc | apply pw_below_drewN | apply below_drew1 | refine below_set ?_ GE101.out | refine below_set ?_ GE102.out | refine below_set ?_ GE115.out) | exact HB.out))) (fun k_ h_ => h_)) (Kd.R_lt (by (with_reducible repeat (first | apply Kd.R_alloc | apply Kd.R_drewN | apply Kd.R_drew)); exact HO113.out))) (Kd.R_lt (by (with_reducible repeat (first | apply Kd.R_alloc | apply Kd.R_drewN | apply Kd.R_drew)); exact HO119.out))) (below_size (by repeat (first | (with_reducible first | exact HB.out | apply below_alloc | apply pw_below_drewN | apply below_drew1 | refine below_set ?_ GE101.out | refine below_set ?_ GE102.out | refine below_set ?_ GE115.out) | exact HB.out))))
           have n5_ := Aside0.mk (blk_below (g := gb101) (o := .cells #[.bool a0_0, .slice A0_1 l0_1.length c0_1] 27 (0, 0)) (by (with_reducible repeat (first | refine blk_drewN ?_ _ | refine blk_drew ?_ | refine blk_alloc ?_ _)); exact BK101.out) hb)
           have n6_ := Aside0.mk (blk_below (g := gb102) (o := .cells #[.bool a1_0, .slice A1_1 l1_1.length c1_1] 27 (0, 0)) (by (with_reducible repeat (first | refine blk_drewN ?_ _ | refine blk_drew ?_ | refine blk_alloc ?_ _)); exact BK102.out) hb)
           have n7_ := Aside0.mk (blk_below (g := gb115) (o := .cells #[.bool t110, .slice Ao63 t111.length co63] 27 (0, 0)) (by (with_reducible repeat (first | refine blk_drewN ?_ _ | refine blk_drew ?_ | refine blk_alloc ?_ _)); exact BK115.out) hb)
           have n8_ := Aside0.mk (below_step (by repeat (first | (with_reducible first | exact HB.out | apply below_alloc | apply pw_below_drewN | apply below_drew1 | refine below_set ?_ GE101.out | refine below_set ?_ GE102.out | refine below_set ?_ GE115.out) | exact HB.out)) hb)
           clear HO_102001
           clear HO_103001
           clear HO113
           clear HO119
           clear BK101
           clear BK102
           clear BK115
           clear HB
           have HO_102001 := n0_
           have HO_103001 := n1_
           have HO113 := n2_
           have HO119 := n3_
           have HO123 := n4_
           have BK101 := n5_
           have BK102 := n6_
           have BK115 := n7_
           have HB := n8_
           clear n0_ n1_ n2_ n3_ n4_ n5_ n6_ n7_ n8_
           (try clear hb)
           (try clear hb2)
           (try clear hk)
           (try clear hi)
           (try clear ho0)
           obtain ⟨Ao68, co68, eo68⟩ := Kd.R_slice HO119.out
           (first | subst eo68 | (injection eo68 with f1_ f2_ f3_; have f4_ := f1_.symm; have f5_ := f3_.symm; clear f1_ f2_ f3_; subst f4_; subst f5_))
           obtain ⟨Ao69, co69, eo69⟩ := Kd.R_slice HO123.out
           (first | subst eo69 | (injection eo69 with f1_ f2_ f3_; have f4_ := f1_.symm; have f5_ := f3_.symm; clear f1_ f2_ f3_; subst f4_; subst f5_))
           refine hK.out _ _ ⟨(blk_cell BK101.out 0).trans rfl, (blk_cell BK101.out 1).trans rfl, (blk_cell BK102.out 0).trans rfl, (blk_cell BK102.out 1).trans rfl⟩ (fun hHeld => ?_)
           clear hK K
           refine norm_ (a' := ?_) ?_ ?_
           rotate_left
           ·show Act.put _ (some 37) _ = _
            simp only [Act.put, List.setIfInBounds_toArray, List.set_cons_zero, List.set_cons_succ, i64_w, i32_w]
            rfl
           refine two_ (i := 6) (j := 10) (Ni := some 38) (Nj := some 7) #[true, true, true, true, true, true, true, false, false, false, false, false, false] #[true, true, true, true, true, true, false, false, false, false, true, false, false] rfl rfl rfl rfl (two_of HT_.out (by kernel_rfl)) (by decide) (by decide) (fun K hK => ?_) (fun K hK => ?_)
           ·skip
            refine goes_ Tryd.func40 (by kernel_rfl) rfl #[.agg #[.bool t116, .slice Ao68 t117.length co68], .agg #[.bool t120, .slice Ao69 t121.length co69]] (by rfl) rfl rfl (by (try simp only [List.map_toArray, List.map_cons, List.map_nil]); first | done | rfl | (simp only [List.length_drop, List.length_take]; rfl)) ?_
            with_reducible refine (integer_Sub.calls kj4 t116 _ _ t117 t120 _ _ t121 t124 t125 t128 _ ?side1 ?side2 ?side3 ?side4 A42.out).mono ?_
            (case side1 => repeat (first | exact (Kd.R_reads' HO119.out).2.2 | (with_reducible refine Kd.C_alloc ?_ _) | (with_reducible refine Kd.C_drewN ?_ _) | (with_reducible refine Kd.C_drew ?_)))
            (case side2 => exact (Kd.R_reads' HO119.out).2.1)
            (case side3 => repeat (first | exact (Kd.R_reads' HO123.out).2.2 | (with_reducible refine Kd.C_alloc ?_ _) | (with_reducible refine Kd.C_drewN ?_ _) | (with_reducible refine Kd.C_drew ?_)))
            (case side4 => exact (Kd.R_reads' HO123.out).2.1)
            rintro e w70 ⟨v126, rfl, ho0, hb⟩
            refine ⟨_, rfl, ?_⟩
            have n0_ := Aside0.mk (Kd.V_elder' (by (with_reducible repeat (first | apply Kd.V_alloc | apply Kd.V_drewN | apply Kd.V_drew)); exact HO_102001.out) (Kd.R_base ho0) hb)
            have n1_ := Aside0.mk (Kd.V_elder' (by (with_reducible repeat (first | apply Kd.V_alloc | apply Kd.V_drewN | apply Kd.V_drew)); exact HO_103001.out) (Kd.R_base ho0) hb)
            have n2_ := Aside0.mk (Kd.R_elder' (by (with_reducible repeat (first | apply Kd.R_alloc | apply Kd.R_drewN | apply Kd.R_drew)); exact HO113.out) (Kd.R_base ho0) hb)
            have n3_ := Aside0.mk (Kd.R_elder' (by (with_reducible repeat (first | apply Kd.R_alloc | apply Kd.R_drewN | apply Kd.R_drew)); exact HO119.out) (Kd.R_base ho0) hb)
            have n4_ := Aside0.mk (Kd.R_elder' (by (with_reducible repeat (first | apply Kd.R_alloc | apply Kd.R_drewN | apply Kd.R_drew)); exact HO123.out) (Kd.R_base ho0) hb)
            have n5_ := Aside0.mk (Kd.R_lower (Kd.R_new' (Kd.R_new' (Kd.R_new' (Kd.R_newM (M := fun k_ => (w.heap.size ≤ k_)) ho0 (below_size (by repeat (first | (with_reducible first | exact HB.out | apply below_alloc | apply pw_below_drewN | apply below_drew1 | refine below_set ?_ GE101.out | refine below_set ?_ GE102.out | refine below_set ?_ GE115.out) | exact HB.out))) (fun k_ h_ => h_)) (Kd.R_lt (by (with_reducible repeat (first | apply Kd.R_alloc | apply Kd.R_drewN | apply Kd.R_drew)); exact HO113.out))) (Kd.R_lt (by (with_reducible repeat (first | apply Kd.R_alloc | apply Kd.R_drewN | apply Kd.R_drew)); exact HO119.out))) (Kd.R_lt (by (with_reducible repeat (first | apply Kd.R_alloc | apply Kd.R_drewN | apply Kd.R_drew)); exact HO123.out))) (below_size (by repeat (first | (with_reducible first | exact HB.out | apply below_alloc | apply pw_below_drewN | apply below_drew1 | refine below_set ?_ GE101.out | refine below_set ?_ GE102.out | refine below_set ?_ GE115.out) | exact HB.out))))
            have n6_ := Aside0.mk (blk_below (g := gb101) (o := .cells #[.bool a0_0, .slice A0_1 l0_1.length c0_1] 27 (0, 0)) (by (with_reducible repeat (first | refine blk_drewN ?_ _ | refine blk_drew ?_ | refine blk_alloc ?_ _)); exact BK101.out) hb)
            have n7_ := Aside0.mk (blk_below (g := gb102) (o := .cells #[.bool a1_0, .slice A1_1 l1_1.length c1_1] 27 (0, 0)) (by (with_reducible repeat (first | refine blk_drewN ?_ _ | refine blk_drew ?_ | refine blk_alloc ?_ _)); exact BK102.out) hb)
            have n8_ := Aside0.mk (blk_below (g := gb115) (o := .cells #[.bool t110, .slice Ao63 t111.length co63] 27 (0, 0)) (by (with_reducible repeat (first | refine blk_drewN ?_ _ | refine blk_drew ?_ | refine blk_alloc ?_ _)); exact BK115.out) hb)
            have n9_ := Aside0.mk (below_step (by repeat (first | (with_reducible first | exact HB.out | apply below_alloc | apply pw_below_drewN | apply below_drew1 | refine below_set ?_ GE101.out | refine below_set ?_ GE102.out | refine below_set ?_ GE115.out) | exact HB.out)) hb)
            clear HO_102001
            clear HO_103001
            clear HO113
            clear HO119
            clear HO123
            clear BK101
            clear BK102
            clear BK115
            clear HB
            have HO_102001 := n0_
            have HO_103001 := n1_
            have HO113 := n2_
            have HO119 := n3_
            have HO123 := n4_
            have HO127 := n5_
            have BK101 := n6_
            have BK102 := n7_
            have BK115 := n8_
            have HB := n9_
            clear n0_ n1_ n2_ n3_ n4_ n5_ n6_ n7_ n8_ n9_
            (try clear hb)
            (try clear hb2)
            (try clear hk)
            (try clear hi)
            (try clear ho0)
            refine hK.out _ _ ⟨(blk_cell BK101.out 0).trans rfl, (blk_cell BK101.out 1).trans rfl, (blk_cell BK102.out 0).trans rfl, (blk_cell BK102.out 1).trans rfl⟩ (fun hHeld => ?_)
            clear hK K
            refine norm_ (a' := ?_) ?_ ?_
            rotate_left
            ·show Act.put _ (some 38) _ = _
             simp only [Act.put, List.setIfInBounds_toArray, List.set_cons_zero, List.set_cons_succ, i64_w, i32_w]
             rfl
            refine pure_ (i := 7) (N := some 31) (v := ?_) (a' := ?_) #[true, true, true, true, true, true, true, true, false, false, false, false, false] rfl rfl (any_of HT_.out (by kernel_rfl)) (fun _ _ _ h => h) (Or.inl ⟨by rfl, ?_⟩) ?_ ?_
            rotate_left
            ·intro w'
             go_simp
             with_reducible rfl
            rotate_left
            ·simp only [Act.put, List.setIfInBounds_toArray, List.set_cons_zero, List.set_cons_succ, i64_w, i32_w]
             rfl
            refine pure_ (i := 8) (N := some 39) (v := ?_) (a' := ?_) #[true, true, true, true, true, true, true, true, true, false, false, false, false] rfl rfl (any_of HT_.out (by kernel_rfl)) (fun _ _ _ h => h) (Or.inl ⟨by rfl, ?_⟩) ?_ ?_
            rotate_left
            ·intro w'
             go_simp
             with_reducible rfl
            rotate_left
            ·simp only [Act.put, List.setIfInBounds_toArray, List.set_cons_zero, List.set_cons_succ, i64_w, i32_w]
             rfl
            refine pure_ (i := 9) (N := some 40) (v := ?_) (a' := ?_) #[true, true, true, true, true, true, true, true, true, true, false, false, false] rfl rfl (any_of HT_.out (by kernel_rfl)) (fun _ _ _ h => h) (Or.inl ⟨by rfl, ?_⟩) ?_ ?_
            rotate_left
            ·intro w'
             go_simp
             with_reducible rfl
            rotate_left
            ·simp only [Act.put, List.setIfInBounds_toArray, List.set_cons_zero, List.set_cons_succ, i64_w, i32_w]
             rfl
            refine one_ (i := 10) (N := some 7) #[true, true, true, true, true, true, true, true, true, true, true, false, false] rfl rfl (one_of HT_.out (by kernel_rfl)) (by decide) (fun K hK => ?_)
            refine box_step ?hg (N := 7) ?hd (cs := #[.bool false, .slice none 0 0]) (t := 27) ?hr ?_; (case hd => rfl); (case hg => rfl); (case hr => first | (go_simp; done) | (go_simp; rfl))
            intro gb129 hg w71 hbox hb
            have n0_ := Aside0.mk (Kd.V_below (Kd.V_elderB (by (with_reducible repeat (first | apply Kd.V_alloc | apply Kd.V_drewN | apply Kd.V_drew)); exact HO_102001.out) gb129 (Nat.le_of_eq hg.symm)) hb)
            have n1_ := Aside0.mk (Kd.V_below (Kd.V_elderB (by (with_reducible repeat (first | apply Kd.V_alloc | apply Kd.V_drewN | apply Kd.V_drew)); exact HO_103001.out) gb129 (Nat.le_of_eq hg.symm)) hb)
            have n2_ := Aside0.mk (Kd.R_below (by (with_reducible repeat (first | apply Kd.R_alloc | apply Kd.R_drewN | apply Kd.R_drew)); exact HO113.out) hb)
            have n3_ := Aside0.mk (Kd.R_below (by (with_reducible repeat (first | apply Kd.R_alloc | apply Kd.R_drewN | apply Kd.R_drew)); exact HO119.out) hb)
            have n4_ := Aside0.mk (Kd.R_below (by (with_reducible repeat (first | apply Kd.R_alloc | apply Kd.R_drewN | apply Kd.R_drew)); exact HO123.out) hb)
            have n5_ := Aside0.mk (Kd.R_below (by (with_reducible repeat (first | apply Kd.R_alloc | apply Kd.R_drewN | apply Kd.R_drew)); exact HO127.out) hb)
            have n6_ := Aside0.mk (blk_below (g := gb101) (o := .cells #[.bool a0_0, .slice A0_1 l0_1.length c0_1] 27 (0, 0)) (by (with_reducible repeat (first | refine blk_drewN ?_ _ | refine blk_drew ?_ | refine blk_alloc ?_ _)); exact BK101.out) hb)
            have n7_ := Aside0.mk (blk_below (g := gb102) (o := .cells #[.bool a1_0, .slice A1_1 l1_1.length c1_1] 27 (0, 0)) (by (with_reducible repeat (first | refine blk_drewN ?_ _ | refine blk_drew ?_ | refine blk_alloc ?_ _)); exact BK102.out) hb)
            have n8_ := Aside0.mk (blk_below (g := gb115) (o := .cells #[.bool t110, .slice Ao63 t111.length co63] 27 (0, 0)) (by (with_reducible repeat (first | refine blk_drewN ?_ _ | refine blk_drew ?_ | refine blk_alloc ?_ _)); exact BK115.out) hb)
            have n9_ := Aside0.mk (below_step (by repeat (first | (with_reducible first | exact HB.out | apply below_alloc | apply pw_below_drewN | apply below_drew1 | refine below_set ?_ GE101.out | refine below_set ?_ GE102.out | refine below_set ?_ GE115.out) | exact HB.out)) hb)
            have n10_ := Aside0.mk (hbox)
            have n11_ := Aside0.mk ((by rw [hg]; exact (below_size (by repeat (first | (with_reducible first | exact HB.out | apply below_alloc | apply pw_below_drewN | apply below_drew1 | refine below_set ?_ GE101.out | refine below_set ?_ GE102.out | refine below_set ?_ GE115.out) | exact HB.out))) : w.heap.size ≤ gb129))
            have n12_ := Aside0.mk ((by rw [hg]; exact (below_size (by repeat (first | (with_reducible first | exact HB.out | apply below_alloc | apply pw_below_drewN | apply below_drew1 | refine below_set ?_ GE101.out | refine below_set ?_ GE102.out | refine below_set ?_ GE115.out) | exact HB.out))) : w.heap.size ≤ gb129))
            have n13_ := Aside0.mk ((by rw [hg]; exact Nat.ne_of_lt (blk_lt (g := gb101) (o := .cells #[.bool a0_0, .slice A0_1 l0_1.length c0_1] 27 (0, 0)) (by (with_reducible repeat (first | refine blk_drewN ?_ _ | refine blk_drew ?_ | refine blk_alloc ?_ _)); exact BK101.out)) : gb101 ≠ gb129))
            have n14_ := Aside0.mk ((by rw [hg]; exact Nat.ne_of_gt (blk_lt (g := gb101) (o := .cells #[.bool a0_0, .slice A0_1 l0_1.length c0_1] 27 (0, 0)) (by (with_reducible repeat (first | refine blk_drewN ?_ _ | refine blk_drew ?_ | refine blk_alloc ?_ _)); exact BK101.out)) : gb129 ≠ gb101))
            have n15_ := Aside0.mk ((by rw [hg]; exact Nat.ne_of_lt (blk_lt (g := gb102) (o := .cells #[.bool a1_0, .slice A1_1 l1_1.length c1_1] 27 (0, 0)) (by (with_reducible repeat (first | refine blk_drewN ?_ _ | refine blk_drew ?_ | refine blk_alloc ?_ _)); exact BK102.out)) : gb102 ≠ gb129))
            have n16_ := Aside0.mk ((by rw [hg]; exact Nat.ne_of_gt (blk_lt (g := gb102) (o := .cells #[.bool a1_0, .slice A1_1 l1_1.length c1_1] 27 (0, 0)) (by (with_reducible repeat (first | refine blk_drewN ?_ _ | refine blk_drew ?_ | refine blk_alloc ?_ _)); exact BK102.out)) : gb129 ≠ gb102))
            have n17_ := Aside0.mk ((by rw [hg]; exact Nat.ne_of_lt (blk_lt (g := gb115) (o := .cells #[.bool t110, .slice Ao63 t111.length co63] 27 (0, 0)) (by (with_reducible repeat (first | refine blk_drewN ?_ _ | refine blk_drew ?_ | refine blk_alloc ?_ _)); exact BK115.out)) : gb115 ≠ gb129))
            have n18_ := Aside0.mk ((by rw [hg]; exact Nat.ne_of_gt (blk_lt (g := gb115) (o := .cells #[.bool t110, .slice Ao63 t111.length co63] 27 (0, 0)) (by (with_reducible repeat (first | refine blk_drewN ?_ _ | refine blk_drew ?_ | refine blk_alloc ?_ _)); exact BK115.out)) : gb129 ≠ gb115))
            clear HO_102001
            clear HO_103001
            clear HO113
            clear HO119
            clear HO123
            clear HO127
            clear BK101
            clear BK102
            clear BK115
            clear HB
            have HO_102001 := n0_
            have HO_103001 := n1_
            have HO113 := n2_
            have HO119 := n3_
            have HO123 := n4_
            have HO127 := n5_
            have BK101 := n6_
            have BK102 := n7_
            have BK115 := n8_
            have HB := n9_
            have BK129 := n10_
            have GW129 := n11_
            have GE129 := n12_
            have NB101_129 := n13_
            have NB129_101 := n14_
            have NB102_129 := n15_
            have NB129_102 := n16_
            have NB115_129 := n17_
            have NB129_115 := n18_
            clear n0_ n1_ n2_ n3_ n4_ n5_ n6_ n7_ n8_ n9_ n10_ n11_ n12_ n13_ n14_ n15_ n16_ n17_ n18_
            clear hb hbox hg
            refine hK.out _ _ ⟨(blk_cell BK101.out 0).trans rfl, (blk_cell BK101.out 1).trans rfl, (blk_cell BK102.out 0).trans rfl, (blk_cell BK102.out 1).trans rfl⟩ (fun hHeld => ?_)
            clear hK K
            refine norm_ (a' := ?_) ?_ ?_
            rotate_left
            ·show Act.put _ (some 7) _ = _
             simp only [Act.put, List.setIfInBounds_toArray, List.set_cons_zero, List.set_cons_succ, i64_w, i32_w]
             rfl
            exact norm_ (by simp only [putAll, Act.put, List.setIfInBounds_toArray, List.set_cons_zero, List.set_cons_succ]) (hCont (.slice Ao68 t117.length co68, .slice Ao69 t121.length co69, v126, gb129) _ ⟨hHeld, (by (with_reducible repeat (first | apply Kd.R_alloc | apply Kd.R_drewN | apply Kd.R_drew)); exact Kd.R_mono HO113.out (fun _ hk => ⟨hk.1.1.1, ⟨hk.1.1.2, ⟨hk.1.2, hk.2⟩⟩⟩)), (by (with_reducible repeat (first | apply Kd.R_alloc | apply Kd.R_drewN | apply Kd.R_drew)); exact Kd.R_mono HO119.out (fun _ hk => ⟨hk.1.1.1.1, ⟨hk.1.1.2, ⟨hk.1.2, hk.2⟩⟩⟩)), (by (with_reducible repeat (first | apply Kd.R_alloc | apply Kd.R_drewN | apply Kd.R_drew)); exact Kd.R_mono HO123.out (fun _ hk => ⟨hk.1.1.1.1, ⟨hk.1.1.2, ⟨hk.1.2, hk.2⟩⟩⟩)), (by (with_reducible repeat (first | apply Kd.R_alloc | apply Kd.R_drewN | apply Kd.R_drew)); exact Kd.R_mono HO127.out (fun _ hk => ⟨hk.1.1.1.1, ⟨hk.1.1.2, ⟨hk.1.2, hk.2⟩⟩⟩)), (by (with_reducible repeat (first | apply Kd.V_alloc | apply Kd.V_drewN | apply Kd.V_drew)); exact Kd.V_mono HO_102001.out (fun _ hk => ⟨hk.1.1.1.1.1, ⟨hk.1.1.1.1.2.1, ⟨hk.1.1.1.2, ⟨hk.1.1.2, ⟨hk.1.2, ⟨hk.1.1.1.1.2.2.1, ⟨hk.1.1.1.1.2.2.2.1, ⟨hk.1.1.1.1.2.2.2.2, hk.2⟩⟩⟩⟩⟩⟩⟩⟩)), (by (with_reducible repeat (first | apply Kd.V_alloc | apply Kd.V_drewN | apply Kd.V_drew)); exact Kd.V_mono HO_103001.out (fun _ hk => ⟨hk.1.1.1.1.1, ⟨hk.1.1.1.1.2.1, ⟨hk.1.1.1.2, ⟨hk.1.1.2, ⟨hk.1.2, ⟨hk.1.1.1.1.2.2.1, ⟨hk.1.1.1.1.2.2.2.1, ⟨hk.1.1.1.1.2.2.2.2, hk.2⟩⟩⟩⟩⟩⟩⟩⟩)), (by (with_reducible repeat (first | refine blk_drewN ?_ _ | refine blk_drew ?_ | refine blk_alloc ?_ _)); exact BK101.out), (by (with_reducible repeat (first | refine blk_drewN ?_ _ | refine blk_drew ?_ | refine blk_alloc ?_ _)); exact BK102.out), (by (with_reducible repeat (first | refine blk_drewN ?_ _ | refine blk_drew ?_ | refine blk_alloc ?_ _)); exact BK115.out), (by (with_reducible repeat (first | refine blk_drewN ?_ _ | refine blk_drew ?_ | refine blk_alloc ?_ _)); exact BK129.out), GW129.out, GE129.out, NB101_129.out, NB129_101.out, NB102_129.out, NB129_102.out, NB115_129.out, NB129_115.out, (by repeat (first | (with_reducible first | exact HB.out | apply below_alloc | apply pw_below_drewN | apply below_drew1 | refine below_set ?_ GE101.out | refine below_set ?_ GE102.out | refine below_set ?_ GE115.out | refine below_set ?_ GE129.out) | exact HB.out))⟩)
           ·skip
            refine box_step ?hg (N := 7) ?hd (cs := #[.bool false, .slice none 0 0]) (t := 27) ?hr ?_; (case hd => rfl); (case hg => rfl); (case hr => first | (go_simp; done) | (go_simp; rfl))
            intro gb129 hg w68 hbox hb
            have n0_ := Aside0.mk (Kd.V_below (Kd.V_elderB (by (with_reducible repeat (first | apply Kd.V_alloc | apply Kd.V_drewN | apply Kd.V_drew)); exact HO_102001.out) gb129 (Nat.le_of_eq hg.symm)) hb)
            have n1_ := Aside0.mk (Kd.V_below (Kd.V_elderB (by (with_reducible repeat (first | apply Kd.V_alloc | apply Kd.V_drewN | apply Kd.V_drew)); exact HO_103001.out) gb129 (Nat.le_of_eq hg.symm)) hb)
            have n2_ := Aside0.mk (Kd.R_below (by (with_reducible repeat (first | apply Kd.R_alloc | apply Kd.R_drewN | apply Kd.R_drew)); exact HO113.out) hb)
            have n3_ := Aside0.mk (Kd.R_below (by (with_reducible repeat (first | apply Kd.R_alloc | apply Kd.R_drewN | apply Kd.R_drew)); exact HO119.out) hb)
            have n4_ := Aside0.mk (Kd.R_below (by (with_reducible repeat (first | apply Kd.R_alloc | apply Kd.R_drewN | apply Kd.R_drew)); exact HO123.out) hb)
            have n5_ := Aside0.mk (blk_below (g := gb101) (o := .cells #[.bool a0_0, .slice A0_1 l0_1.length c0_1] 27 (0, 0)) (by (with_reducible repeat (first | refine blk_drewN ?_ _ | refine blk_drew ?_ | refine blk_alloc ?_ _)); exact BK101.out) hb)
            have n6_ := Aside0.mk (blk_below (g := gb102) (o := .cells #[.bool a1_0, .slice A1_1 l1_1.length c1_1] 27 (0, 0)) (by (with_reducible repeat (first | refine blk_drewN ?_ _ | refine blk_drew ?_ | refine blk_alloc ?_ _)); exact BK102.out) hb)
            have n7_ := Aside0.mk (blk_below (g := gb115) (o := .cells #[.bool t110, .slice Ao63 t111.length co63] 27 (0, 0)) (by (with_reducible repeat (first | refine blk_drewN ?_ _ | refine blk_drew ?_ | refine blk_alloc ?_ _)); exact BK115.out) hb)
            have n8_ := Aside0.mk (below_step (by repeat (first | (with_reducible first | exact HB.out | apply below_alloc | apply pw_below_drewN | apply below_drew1 | refine below_set ?_ GE101.out | refine below_set ?_ GE102.out | refine below_set ?_ GE115.out) | exact HB.out)) hb)
            have n9_ := Aside0.mk (hbox)
            have n10_ := Aside0.mk ((by rw [hg]; exact (below_size (by repeat (first | (with_reducible first | exact HB.out | apply below_alloc | apply pw_below_drewN | apply below_drew1 | refine below_set ?_ GE101.out | refine below_set ?_ GE102.out | refine below_set ?_ GE115.out) | exact HB.out))) : w.heap.size ≤ gb129))
            have n11_ := Aside0.mk ((by rw [hg]; exact (below_size (by repeat (first | (with_reducible first | exact HB.out | apply below_alloc | apply pw_below_drewN | apply below_drew1 | refine below_set ?_ GE101.out | refine below_set ?_ GE102.out | refine below_set ?_ GE115.out) | exact HB.out))) : w.heap.size ≤ gb129))
            have n12_ := Aside0.mk ((by rw [hg]; exact Nat.ne_of_lt (blk_lt (g := gb101) (o := .cells #[.bool a0_0, .slice A0_1 l0_1.length c0_1] 27 (0, 0)) (by (with_reducible repeat (first | refine blk_drewN ?_ _ | refine blk_drew ?_ | refine blk_alloc ?_ _)); exact BK101.out)) : gb101 ≠ gb129))
            have n13_ := Aside0.mk ((by rw [hg]; exact Nat.ne_of_gt (blk_lt (g := gb101) (o := .cells #[.bool a0_0, .slice A0_1 l0_1.length c0_1] 27 (0, 0)) (by (with_reducible repeat (first | refine blk_drewN ?_ _ | refine blk_drew ?_ | refine blk_alloc ?_ _)); exact BK101.out)) : gb129 ≠ gb101))
            have n14_ := Aside0.mk ((by rw [hg]; exact Nat.ne_of_lt (blk_lt (g := gb102) (o := .cells #[.bool a1_0, .slice A1_1 l1_1.length c1_1] 27 (0, 0)) (by (with_reducible repeat (first | refine blk_drewN ?_ _ | refine blk_drew ?_ | refine blk_alloc ?_ _)); exact BK102.out)) : gb102 ≠ gb129))
            have n15_ := Aside0.mk ((by rw [hg]; exact Nat.ne_of_gt (blk_lt (g := gb102) (o := .cells #[.bool a1_0, .slice A1_1 l1_1.length c1_1] 27 (0, 0)) (by (with_reducible repeat (first | refine blk_drewN ?_ _ | refine blk_drew ?_ | refine blk_alloc ?_ _)); exact BK102.out)) : gb129 ≠ gb102))
            have n16_ := Aside0.mk ((by rw [hg]; exact Nat.ne_of_lt (blk_lt (g := gb115) (o := .cells #[.bool t110, .slice Ao63 t111.length co63] 27 (0, 0)) (by (with_reducible repeat (first | refine blk_drewN ?_ _ | refine blk_drew ?_ | refine blk_alloc ?_ _)); exact BK115.out)) : gb115 ≠ gb129))
            have n17_ := Aside0.mk ((by rw [hg]; exact Nat.ne_of_gt (blk_lt (g := gb115) (o := .cells #[.bool t110, .slice Ao63 t111.length co63] 27 (0, 0)) (by (with_reducible repeat (first | refine blk_drewN ?_ _ | refine blk_drew ?_ | refine blk_alloc ?_ _)); exact BK115.out)) : gb129 ≠ gb115))
            clear HO_102001
            clear HO_103001
            clear HO113
            clear HO119
            clear HO123
            clear BK101
            clear BK102
            clear BK115
            clear HB
            have HO_102001 := n0_
            have HO_103001 := n1_
            have HO113 := n2_
            have HO119 := n3_
            have HO123 := n4_
            have BK101 := n5_
            have BK102 := n6_
            have BK115 := n7_
            have HB := n8_
            have BK129 := n9_
            have GW129 := n10_
            have GE129 := n11_
            have NB101_129 := n12_
            have NB129_101 := n13_
            have NB102_129 := n14_
            have NB129_102 := n15_
            have NB115_129 := n16_
            have NB129_115 := n17_
            clear n0_ n1_ n2_ n3_ n4_ n5_ n6_ n7_ n8_ n9_ n10_ n11_ n12_ n13_ n14_ n15_ n16_ n17_
            clear hb hbox hg
            obtain ⟨Ao69, co69, eo69⟩ := Kd.R_slice HO119.out
            (first | subst eo69 | (injection eo69 with f1_ f2_ f3_; have f4_ := f1_.symm; have f5_ := f3_.symm; clear f1_ f2_ f3_; subst f4_; subst f5_))
            obtain ⟨Ao70, co70, eo70⟩ := Kd.R_slice HO123.out
            (first | subst eo70 | (injection eo70 with f1_ f2_ f3_; have f4_ := f1_.symm; have f5_ := f3_.symm; clear f1_ f2_ f3_; subst f4_; subst f5_))
            refine hK.out _ _ ⟨(blk_cell BK101.out 0).trans rfl, (blk_cell BK101.out 1).trans rfl, (blk_cell BK102.out 0).trans rfl, (blk_cell BK102.out 1).trans rfl⟩ (fun hHeld => ?_)
            clear hK K
            refine norm_ (a' := ?_) ?_ ?_
            rotate_left
            ·show Act.put _ (some 7) _ = _
             simp only [Act.put, List.setIfInBounds_toArray, List.set_cons_zero, List.set_cons_succ, i64_w, i32_w]
             rfl
            refine one_ (i := 6) (N := some 38) #[true, true, true, true, true, true, true, false, false, false, true, false, false] rfl rfl (one_of HT_.out (by kernel_rfl)) (by decide) (fun K hK => ?_)
            refine goes_ Tryd.func40 (by kernel_rfl) rfl #[.agg #[.bool t116, .slice Ao69 t117.length co69], .agg #[.bool t120, .slice Ao70 t121.length co70]] (by rfl) rfl rfl (by (try simp only [List.map_toArray, List.map_cons, List.map_nil]); first | done | rfl | (simp only [List.length_drop, List.length_take]; rfl)) ?_
            with_reducible refine (integer_Sub.calls kj4 t116 _ _ t117 t120 _ _ t121 t124 t125 t128 _ ?side1 ?side2 ?side3 ?side4 A42.out).mono ?_
            (case side1 => repeat (first | exact (Kd.R_reads' HO119.out).2.2 | (with_reducible refine Kd.C_alloc ?_ _) | (with_reducible refine Kd.C_drewN ?_ _) | (with_reducible refine Kd.C_drew ?_)))
            (case side2 => exact (Kd.R_reads' HO119.out).2.1)
            (case side3 => repeat (first | exact (Kd.R_reads' HO123.out).2.2 | (with_reducible refine Kd.C_alloc ?_ _) | (with_reducible refine Kd.C_drewN ?_ _) | (with_reducible refine Kd.C_drew ?_)))
            (case side4 => exact (Kd.R_reads' HO123.out).2.1)
            rintro e w71 ⟨v126, rfl, ho0, hb⟩
            refine ⟨_, rfl, ?_⟩
            have n0_ := Aside0.mk (Kd.V_elder' (by (with_reducible repeat (first | apply Kd.V_alloc | apply Kd.V_drewN | apply Kd.V_drew)); exact HO_102001.out) (Kd.R_base ho0) hb)
            have n1_ := Aside0.mk (Kd.V_elder' (by (with_reducible repeat (first | apply Kd.V_alloc | apply Kd.V_drewN | apply Kd.V_drew)); exact HO_103001.out) (Kd.R_base ho0) hb)
            have n2_ := Aside0.mk (Kd.R_elder' (by (with_reducible repeat (first | apply Kd.R_alloc | apply Kd.R_drewN | apply Kd.R_drew)); exact HO113.out) (Kd.R_base ho0) hb)
            have n3_ := Aside0.mk (Kd.R_elder' (by (with_reducible repeat (first | apply Kd.R_alloc | apply Kd.R_drewN | apply Kd.R_drew)); exact HO119.out) (Kd.R_base ho0) hb)
            have n4_ := Aside0.mk (Kd.R_elder' (by (with_reducible repeat (first | apply Kd.R_alloc | apply Kd.R_drewN | apply Kd.R_drew)); exact HO123.out) (Kd.R_base ho0) hb)
            have n5_ := Aside0.mk (Kd.R_lower (Kd.R_new' (Kd.R_new' (Kd.R_new' (Kd.R_newM (M := fun k_ => (w.heap.size ≤ k_)) ho0 (below_size (by repeat (first | (with_reducible first | exact HB.out | apply below_alloc | apply pw_below_drewN | apply below_drew1 | refine below_set ?_ GE101.out | refine below_set ?_ GE102.out | refine below_set ?_ GE115.out | refine below_set ?_ GE129.out) | exact HB.out))) (fun k_ h_ => h_)) (Kd.R_lt (by (with_reducible repeat (first | apply Kd.R_alloc | apply Kd.R_drewN | apply Kd.R_drew)); exact HO113.out))) (Kd.R_lt (by (with_reducible repeat (first | apply Kd.R_alloc | apply Kd.R_drewN | apply Kd.R_drew)); exact HO119.out))) (Kd.R_lt (by (with_reducible repeat (first | apply Kd.R_alloc | apply Kd.R_drewN | apply Kd.R_drew)); exact HO123.out))) (below_size (by repeat (first | (with_reducible first | exact HB.out | apply below_alloc | apply pw_below_drewN | apply below_drew1 | refine below_set ?_ GE101.out | refine below_set ?_ GE102.out | refine below_set ?_ GE115.out | refine below_set ?_ GE129.out) | exact HB.out))))
            have n6_ := Aside0.mk (blk_below (g := gb101) (o := .cells #[.bool a0_0, .slice A0_1 l0_1.length c0_1] 27 (0, 0)) (by (with_reducible repeat (first | refine blk_drewN ?_ _ | refine blk_drew ?_ | refine blk_alloc ?_ _)); exact BK101.out) hb)
            have n7_ := Aside0.mk (blk_below (g := gb102) (o := .cells #[.bool a1_0, .slice A1_1 l1_1.length c1_1] 27 (0, 0)) (by (with_reducible repeat (first | refine blk_drewN ?_ _ | refine blk_drew ?_ | refine blk_alloc ?_ _)); exact BK102.out) hb)
            have n8_ := Aside0.mk (blk_below (g := gb115) (o := .cells #[.bool t110, .slice Ao63 t111.length co63] 27 (0, 0)) (by (with_reducible repeat (first | refine blk_drewN ?_ _ | refine blk_drew ?_ | refine blk_alloc ?_ _)); exact BK115.out) hb)
            have n9_ := Aside0.mk (blk_below (g := gb129) (o := .cells #[.bool false, .slice none 0 0] 27 (0, 0)) (by (with_reducible repeat (first | refine blk_drewN ?_ _ | refine blk_drew ?_ | refine blk_alloc ?_ _)); exact BK129.out) hb)
            have n10_ := Aside0.mk (below_step (by repeat (first | (with_reducible first | exact HB.out | apply below_alloc | apply pw_below_drewN | apply below_drew1 | refine below_set ?_ GE101.out | refine below_set ?_ GE102.out | refine below_set ?_ GE115.out | refine below_set ?_ GE129.out) | exact HB.out)) hb)
            clear HO_102001
            clear HO_103001
            clear HO113
            clear HO119
            clear HO123
            clear BK101
            clear BK102
            clear BK115
            clear BK129
            clear HB
            have HO_102001 := n0_
            have HO_103001 := n1_
            have HO113 := n2_
            have HO119 := n3_
            have HO123 := n4_
            have HO127 := n5_
            have BK101 := n6_
            have BK102 := n7_
            have BK115 := n8_
            have BK129 := n9_
            have HB := n10_
            clear n0_ n1_ n2_ n3_ n4_ n5_ n6_ n7_ n8_ n9_ n10_
            (try clear hb)
            (try clear hb2)
            (try clear hk)
            (try clear hi)
            (try clear ho0)
            refine hK.out _ _ ⟨(blk_cell BK101.out 0).trans rfl, (blk_cell BK101.out 1).trans rfl, (blk_cell BK102.out 0).trans rfl, (blk_cell BK102.out 1).trans rfl⟩ (fun hHeld => ?_)
            clear hK K
            refine norm_ (a' := ?_) ?_ ?_
            rotate_left
            ·show Act.put _ (some 38) _ = _
             simp only [Act.put, List.setIfInBounds_toArray, List.set_cons_zero, List.set_cons_succ, i64_w, i32_w]
             rfl
            refine pure_ (i := 7) (N := some 31) (v := ?_) (a' := ?_) #[true, true, true, true, true, true, true, true, false, false, true, false, false] rfl rfl (any_of HT_.out (by kernel_rfl)) (fun _ _ _ h => h) (Or.inl ⟨by rfl, ?_⟩) ?_ ?_
            rotate_left
            ·intro w'
             go_simp
             with_reducible rfl
            rotate_left
            ·simp only [Act.put, List.setIfInBounds_toArray, List.set_cons_zero, List.set_cons_succ, i64_w, i32_w]
             rfl
            refine pure_ (i := 8) (N := some 39) (v := ?_) (a' := ?_) #[true, true, true, true, true, true, true, true, true, false, true, false, false] rfl rfl (any_of HT_.out (by kernel_rfl)) (fun _ _ _ h => h) (Or.inl ⟨by rfl, ?_⟩) ?_ ?_
            rotate_left
            ·intro w'
             go_simp
             with_reducible rfl
            rotate_left
            ·simp only [Act.put, List.setIfInBounds_toArray, List.set_cons_zero, List.set_cons_succ, i64_w, i32_w]
             rfl
            refine pure_ (i := 9) (N := some 40) (v := ?_) (a' := ?_) #[true, true, true, true, true, true, true, true, true, true, true, false, false] rfl rfl (any_of HT_.out (by kernel_rfl)) (fun _ _ _ h => h) (Or.inl ⟨by rfl, ?_⟩) ?_ ?_
            rotate_left
            ·intro w'
             go_simp
             with_reducible rfl
            rotate_left
            ·simp only [Act.put, List.setIfInBounds_toArray, List.set_cons_zero, List.set_cons_succ, i64_w, i32_w]
             rfl
            exact norm_ (by simp only [putAll, Act.put, List.setIfInBounds_toArray, List.set_cons_zero, List.set_cons_succ]) (hCont (.slice Ao69 t117.length co69, .slice Ao70 t121.length co70, v126, gb129) _ ⟨hHeld, (by (with_reducible repeat (first | apply Kd.R_alloc | apply Kd.R_drewN | apply Kd.R_drew)); exact Kd.R_mono HO113.out (fun _ hk => ⟨hk.1.1.1, ⟨hk.1.1.2, ⟨hk.1.2, hk.2⟩⟩⟩)), (by (with_reducible repeat (first | apply Kd.R_alloc | apply Kd.R_drewN | apply Kd.R_drew)); exact Kd.R_mono HO119.out (fun _ hk => ⟨hk.1.1.1.1, ⟨hk.1.1.2, ⟨hk.1.2, hk.2⟩⟩⟩)), (by (with_reducible repeat (first | apply Kd.R_alloc | apply Kd.R_drewN | apply Kd.R_drew)); exact Kd.R_mono HO123.out (fun _ hk => ⟨hk.1.1.1.1, ⟨hk.1.1.2, ⟨hk.1.2, hk.2⟩⟩⟩)), (by (with_reducible repeat (first | apply Kd.R_alloc | apply Kd.R_drewN | apply Kd.R_drew)); exact Kd.R_mono HO127.out (fun _ hk => ⟨hk.1.1.1.1, ⟨hk.1.1.2, ⟨hk.1.2, hk.2⟩⟩⟩)), (by (with_reducible repeat (first | apply Kd.V_alloc | apply Kd.V_drewN | apply Kd.V_drew)); exact Kd.V_mono HO_102001.out (fun _ hk => ⟨hk.1.1.1.1.1, ⟨hk.1.1.1.1.2.1, ⟨hk.1.1.1.2, ⟨hk.1.1.2, ⟨hk.2, ⟨hk.1.1.1.1.2.2.1, ⟨hk.1.1.1.1.2.2.2.1, ⟨hk.1.1.1.1.2.2.2.2, hk.1.2⟩⟩⟩⟩⟩⟩⟩⟩)), (by (with_reducible repeat (first | apply Kd.V_alloc | apply Kd.V_drewN | apply Kd.V_drew)); exact Kd.V_mono HO_103001.out (fun _ hk => ⟨hk.1.1.1.1.1, ⟨hk.1.1.1.1.2.1, ⟨hk.1.1.1.2, ⟨hk.1.1.2, ⟨hk.2, ⟨hk.1.1.1.1.2.2.1, ⟨hk.1.1.1.1.2.2.2.1, ⟨hk.1.1.1.1.2.2.2.2, hk.1.2⟩⟩⟩⟩⟩⟩⟩⟩)), (by (with_reducible repeat (first | refine blk_drewN ?_ _ | refine blk_drew ?_ | refine blk_alloc ?_ _)); exact BK101.out), (by (with_reducible repeat (first | refine blk_drewN ?_ _ | refine blk_drew ?_ | refine blk_alloc ?_ _)); exact BK102.out), (by (with_reducible repeat (first | refine blk_drewN ?_ _ | refine blk_drew ?_ | refine blk_alloc ?_ _)); exact BK115.out), (by (with_reducible repeat (first | refine blk_drewN ?_ _ | refine blk_drew ?_ | refine blk_alloc ?_ _)); exact BK129.out), GW129.out, GE129.out, NB101_129.out, NB129_101.out, NB102_129.out, NB129_102.out, NB115_129.out, NB129_115.out, (by repeat (first | (with_reducible first | exact HB.out | apply below_alloc | apply pw_below_drewN | apply below_drew1 | refine below_set ?_ GE101.out | refine below_set ?_ GE102.out | refine below_set ?_ GE115.out | refine below_set ?_ GE129.out) | exact HB.out))⟩)
          ·skip
           refine box_step ?hg (N := 7) ?hd (cs := #[.bool false, .slice none 0 0]) (t := 27) ?hr ?_; (case hd => rfl); (case hg => rfl); (case hr => first | (go_simp; done) | (go_simp; rfl))
           intro gb129 hg w67 hbox hb
           have n0_ := Aside0.mk (Kd.V_below (Kd.V_elderB (by (with_reducible repeat (first | apply Kd.V_alloc | apply Kd.V_drewN | apply Kd.V_drew)); exact HO_102001.out) gb129 (Nat.le_of_eq hg.symm)) hb)
           have n1_ := Aside0.mk (Kd.V_below (Kd.V_elderB (by (with_reducible repeat (first | apply Kd.V_alloc | apply Kd.V_drewN | apply Kd.V_drew)); exact HO_103001.out) gb129 (Nat.le_of_eq hg.symm)) hb)
           have n2_ := Aside0.mk (Kd.R_below (by (with_reducible repeat (first | apply Kd.R_alloc | apply Kd.R_drewN | apply Kd.R_drew)); exact HO113.out) hb)
           have n3_ := Aside0.mk (Kd.R_below (by (with_reducible repeat (first | apply Kd.R_alloc | apply Kd.R_drewN | apply Kd.R_drew)); exact HO119.out) hb)
           have n4_ := Aside0.mk (blk_below (g := gb101) (o := .cells #[.bool a0_0, .slice A0_1 l0_1.length c0_1] 27 (0, 0)) (by (with_reducible repeat (first | refine blk_drewN ?_ _ | refine blk_drew ?_ | refine blk_alloc ?_ _)); exact BK101.out) hb)
           have n5_ := Aside0.mk (blk_below (g := gb102) (o := .cells #[.bool a1_0, .slice A1_1 l1_1.length c1_1] 27 (0, 0)) (by (with_reducible repeat (first | refine blk_drewN ?_ _ | refine blk_drew ?_ | refine blk_alloc ?_ _)); exact BK102.out) hb)
           have n6_ := Aside0.mk (blk_below (g := gb115) (o := .cells #[.bool t110, .slice Ao63 t111.length co63] 27 (0, 0)) (by (with_reducible repeat (first | refine blk_drewN ?_ _ | refine blk_drew ?_ | refine blk_alloc ?_ _)); exact BK115.out) hb)
           have n7_ := Aside0.mk (below_step (by repeat (first | (with_reducible first | exact HB.out | apply below_alloc | apply pw_below_drewN | apply below_drew1 | refine below_set ?_ GE101.out | refine below_set ?_ GE102.out | refine below_set ?_ GE115.out) | exact HB.out)) hb)
           have n8_ := Aside0.mk (hbox)
           have n9_ := Aside0.mk ((by rw [hg]; exact (below_size (by repeat (first | (with_reducible first | exact HB.out | apply below_alloc | apply pw_below_drewN | apply below_drew1 | refine below_set ?_ GE101.out | refine below_set ?_ GE102.out | refine below_set ?_ GE115.out) | exact HB.out))) : w.heap.size ≤ gb129))
           have n10_ := Aside0.mk ((by rw [hg]; exact (below_size (by repeat (first | (with_reducible first | exact HB.out | apply below_alloc | apply pw_below_drewN | apply below_drew1 | refine below_set ?_ GE101.out | refine below_set ?_ GE102.out | refine below_set ?_ GE115.out) | exact HB.out))) : w.heap.size ≤ gb129))
           have n11_ := Aside0.mk ((by rw [hg]; exact Nat.ne_of_lt (blk_lt (g := gb101) (o := .cells #[.bool a0_0, .slice A0_1 l0_1.length c0_1] 27 (0, 0)) (by (with_reducible repeat (first | refine blk_drewN ?_ _ | refine blk_drew ?_ | refine blk_alloc ?_ _)); exact BK101.out)) : gb101 ≠ gb129))
           have n12_ := Aside0.mk ((by rw [hg]; exact Nat.ne_of_gt (blk_lt (g := gb101) (o := .cells #[.bool a0_0, .slice A0_1 l0_1.length c0_1] 27 (0, 0)) (by (with_reducible repeat (first | refine blk_drewN ?_ _ | refine blk_drew ?_ | refine blk_alloc ?_ _)); exact BK101.out)) : gb129 ≠ gb101))
           have n13_ := Aside0.mk ((by rw [hg]; exact Nat.ne_of_lt (blk_lt (g := gb102) (o := .cells #[.bool a1_0, .slice A1_1 l1_1.length c1_1] 27 (0, 0)) (by (with_reducible repeat (first | refine blk_drewN ?_ _ | refine blk_drew ?_ | refine blk_alloc ?_ _)); exact BK102.out)) : gb102 ≠ gb129))
           have n14_ := Aside0.mk ((by rw [hg]; exact Nat.ne_of_gt (blk_lt (g := gb102) (o := .cells #[.bool a1_0, .slice A1_1 l1_1.length c1_1] 27 (0, 0)) (by (with_reducible repeat (first | refine blk_drewN ?_ _ | refine blk_drew ?_ | refine blk_alloc ?_ _)); exact BK102.out)) : gb129 ≠ gb102))
           have n15_ := Aside0.mk ((by rw [hg]; exact Nat.ne_of_lt (blk_lt (g := gb115) (o := .cells #[.bool t110, .slice Ao63 t111.length co63] 27 (0, 0)) (by (with_reducible repeat (first | refine blk_drewN ?_ _ | refine blk_drew ?_ | refine blk_alloc ?_ _)); exact BK115.out)) : gb115 ≠ gb129))
           have n16_ := Aside0.mk ((by rw [hg]; exact Nat.ne_of_gt (blk_lt (g := gb115) (o := .cells #[.bool t110, .slice Ao63 t111.length co63] 27 (0, 0)) (by (with_reducible repeat (first | refine blk_drewN ?_ _ | refine blk_drew ?_ | refine blk_alloc ?_ _)); exact BK115.out)) : gb129 ≠ gb115))
           clear HO_102001
           clear HO_103001
           clear HO113
           clear HO119
           clear BK101
           clear BK102
           clear BK115
           clear HB
           have HO_102001 := n0_
           have HO_103001 := n1_
           have HO113 := n2_
           have HO119 := n3_
           have BK101 := n4_
           have BK102 := n5_
           have BK115 := n6_
           have HB := n7_
           have BK129 := n8_
           have GW129 := n9_
           have GE129 := n10_
           have NB101_129 := n11_
           have NB129_101 := n12_
           have NB102_129 := n13_
           have NB129_102 := n14_
           have NB115_129 := n15_
           have NB129_115 := n16_
           clear n0_ n1_ n2_ n3_ n4_ n5_ n6_ n7_ n8_ n9_ n10_ n11_ n12_ n13_ n14_ n15_ n16_
           clear hb hbox hg
           refine hK.out _ _ ⟨(blk_cell BK101.out 0).trans rfl, (blk_cell BK101.out 1).trans rfl, (blk_cell BK102.out 0).trans rfl, (blk_cell BK102.out 1).trans rfl⟩ (fun hHeld => ?_)
           clear hK K
           refine norm_ (a' := ?_) ?_ ?_
           rotate_left
           ·show Act.put _ (some 7) _ = _
            simp only [Act.put, List.setIfInBounds_toArray, List.set_cons_zero, List.set_cons_succ, i64_w, i32_w]
            rfl
           refine one_ (i := 5) (N := some 37) #[true, true, true, true, true, true, false, false, false, false, true, false, false] rfl rfl (one_of HT_.out (by kernel_rfl)) (by decide) (fun K hK => ?_)
           refine goes_ Tryd.func44 (by kernel_rfl) rfl #[.agg #[.bool a1_0, .slice A1_1 l1_1.length c1_1], .agg #[.bool a1_0, .slice A1_1 l1_1.length c1_1]] (by rfl) rfl rfl (by (try simp only [List.map_toArray, List.map_cons, List.map_nil]); first | done | rfl | (simp only [List.length_drop, List.length_take]; rfl)) ?_
           with_reducible refine (substationlaw01_product.calls kj4 a1_0 _ _ l1_1 a1_0 _ _ l1_1 t120 t121 _ ?side1 ?side2 ?side3 ?side4 A41.out).mono ?_
           (case side1 => repeat (first | exact (Kd.V_reads' HO_103001.out).2.2 | (with_reducible refine Kd.C_alloc ?_ _) | (with_reducible refine Kd.C_drewN ?_ _) | (with_reducible refine Kd.C_drew ?_)))
           (case side2 => exact (Kd.V_reads' HO_103001.out).2.1)
           (case side3 => repeat (first | exact (Kd.V_reads' HO_103001.out).2.2 | (with_reducible refine Kd.C_alloc ?_ _) | (with_reducible refine Kd.C_drewN ?_ _) | (with_reducible refine Kd.C_drew ?_)))
           (case side4 => exact (Kd.V_reads' HO_103001.out).2.1)
           rintro e w68 ⟨v122, rfl, ho0, hb⟩
           refine ⟨_, rfl, ?_⟩
           have n0_ := Aside0.mk (Kd.V_elder' (by (with_reducible repeat (first | apply Kd.V_alloc | apply Kd.V_drewN | apply Kd.V_drew)); exact HO_102001.out) (Kd.R_base ho0) hb)
           have n1_ := Aside0.mk (Kd.V_elder' (by (with_reducible repeat (first | apply Kd.V_alloc | apply Kd.V_drewN | apply Kd.V_drew)); exact HO_103001.out) (Kd.R_base ho0) hb)
           have n2_ := Aside0.mk (Kd.R_elder' (by (with_reducible repeat (first | apply Kd.R_alloc | apply Kd.R_drewN | apply Kd.R_drew)); exact HO113.out) (Kd.R_base ho0) hb)
           have n3_ := Aside0.mk (Kd.R_elder' (by (with_reducible repeat (first | apply Kd.R_alloc | apply Kd.R_drewN | apply Kd.R_drew)); exact HO119.out) (Kd.R_base ho0) hb)
           have n4_ := Aside0.mk (Kd.R_lower (Kd.R_new' (Kd.R_new' (Kd.R_newM (M := fun k_ => (w.heap.size ≤ k_)) ho0 (below_size (by repeat (first | (with_reducible first | exact HB.out | apply below_alloc | apply pw_below_drewN | apply below_drew1 | refine below_set ?_ GE101.out | refine below_set ?_ GE102.out | refine below_set ?_ GE115.out | refine below_set ?_ GE129.out) | exact HB.out))) (fun k_ h_ => h_)) (Kd.R_lt (by (with_reducible repeat (first | apply Kd.R_alloc | apply Kd.R_drewN | apply Kd.R_drew)); exact HO113.out))) (Kd.R_lt (by (with_reducible repeat (first | apply Kd.R_alloc | apply Kd.R_drewN | apply Kd.R_drew)); exact HO119.out))) (below_size (by repeat (first | (with_reducible first | exact HB.out | apply below_alloc | apply pw_below_drewN | apply below_drew1 | refine below_set ?_ GE101.out | refine below_set ?_ GE102.out | refine below_set ?_ GE115.out | refine below_set ?_ GE129.out) | exact HB.out))))
           have n5_ := Aside0.mk (blk_below (g := gb101) (o := .cells #[.bool a0_0, .slice A0_1 l0_1.length c0_1] 27 (0, 0)) (by (with_reducible repeat (first | refine blk_drewN ?_ _ | refine blk_drew ?_ | refine blk_alloc ?_ _)); exact BK101.out) hb)
           have n6_ := Aside0.mk (blk_below (g := gb102) (o := .cells #[.bool a1_0, .slice A1_1 l1_1.length c1_1] 27 (0, 0)) (by (with_reducible repeat (first | refine blk_drewN ?_ _ | refine blk_drew ?_ | refine blk_alloc ?_ _)); exact BK102.out) hb)
           have n7_ := Aside0.mk (blk_below (g := gb115) (o := .cells #[.bool t110, .slice Ao63 t111.length co63] 27 (0, 0)) (by (with_reducible repeat (first | refine blk_drewN ?_ _ | refine blk_drew ?_ | refine blk_alloc ?_ _)); exact BK115.out) hb)
           have n8_ := Aside0.mk (blk_below (g := gb129) (o := .cells #[.bool false, .slice none 0 0] 27 (0, 0)) (by (with_reducible repeat (first | refine blk_drewN ?_ _ | refine blk_drew ?_ | refine blk_alloc ?_ _)); exact BK129.out) hb)
           have n9_ := Aside0.mk (below_step (by repeat (first | (with_reducible first | exact HB.out | apply below_alloc | apply pw_below_drewN | apply below_drew1 | refine below_set ?_ GE101.out | refine below_set ?_ GE102.out | refine below_set ?_ GE115.out | refine below_set ?_ GE129.out) | exact HB.out)) hb)
           clear HO_102001
           clear HO_103001
           clear HO113
           clear HO119
           clear BK101
           clear BK102
           clear BK115
           clear BK129
           clear HB
           have HO_102001 := n0_
           have HO_103001 := n1_
           have HO113 := n2_
           have HO119 := n3_
           have HO123 := n4_
           have BK101 := n5_
           have BK102 := n6_
           have BK115 := n7_
           have BK129 := n8_
           have HB := n9_
           clear n0_ n1_ n2_ n3_ n4_ n5_ n6_ n7_ n8_ n9_
           (try clear hb)
           (try clear hb2)
           (try clear hk)
           (try clear hi)
           (try clear ho0)
           obtain ⟨Ao69, co69, eo69⟩ := Kd.R_slice HO119.out
           (first | subst eo69 | (injection eo69 with f1_ f2_ f3_; have f4_ := f1_.symm; have f5_ := f3_.symm; clear f1_ f2_ f3_; subst f4_; subst f5_))
           obtain ⟨Ao70, co70, eo70⟩ := Kd.R_slice HO123.out
           (first | subst eo70 | (injection eo70 with f1_ f2_ f3_; have f4_ := f1_.symm; have f5_ := f3_.symm; clear f1_ f2_ f3_; subst f4_; subst f5_))
           refine hK.out _ _ ⟨(blk_cell BK101.out 0).trans rfl, (blk_cell BK101.out 1).trans rfl, (blk_cell BK102.out 0).trans rfl, (blk_cell BK102.out 1).trans rfl⟩ (fun hHeld => ?_)
           clear hK K
           refine norm_ (a' := ?_) ?_ ?_
           rotate_left
           ·show Act.put _ (some 37) _ = _
            simp only [Act.put, List.setIfInBounds_toArray, List.set_cons_zero, List.set_cons_succ, i64_w, i32_w]
            rfl
           refine one_ (i := 6) (N := some 38) #[true, true, true, true, true, true, true, false, false, false, true, false, false] rfl rfl (one_of HT_.out (by kernel_rfl)) (by decide) (fun K hK => ?_)
           refine goes_ Tryd.func40 (by kernel_rfl) rfl #[.agg #[.bool t116, .slice Ao69 t117.length co69], .agg #[.bool t120, .slice Ao70 t121.length co70]] (by rfl) rfl rfl (by (try simp only [List.map_toArray, List.map_cons, List.map_nil]); first | done | rfl | (simp only [List.length_drop, List.length_take]; rfl)) ?_
           with_reducible refine (integer_Sub.calls kj4 t116 _ _ t117 t120 _ _ t121 t124 t125 t128 _ ?side1 ?side2 ?side3 ?side4 A42.out).mono ?_
           (case side1 => repeat (first | exact (Kd.R_reads' HO119.out).2.2 | (with_reducible refine Kd.C_alloc ?_ _) | (with_reducible refine Kd.C_drewN ?_ _) | (with_reducible refine Kd.C_drew ?_)))
           (case side2 => exact (Kd.R_reads' HO119.out).2.1)
           (case side3 => repeat (first | exact (Kd.R_reads' HO123.out).2.2 | (with_reducible refine Kd.C_alloc ?_ _) | (with_reducible refine Kd.C_drewN ?_ _) | (with_reducible refine Kd.C_drew ?_)))
           (case side4 => exact (Kd.R_reads' HO123.out).2.1)
           rintro e w71 ⟨v126, rfl, ho0, hb⟩
           refine ⟨_, rfl, ?_⟩
           have n0_ := Aside0.mk (Kd.V_elder' (by (with_reducible repeat (first | apply Kd.V_alloc | apply Kd.V_drewN | apply Kd.V_drew)); exact HO_102001.out) (Kd.R_base ho0) hb)
           have n1_ := Aside0.mk (Kd.V_elder' (by (with_reducible repeat (first | apply Kd.V_alloc | apply Kd.V_drewN | apply Kd.V_drew)); exact HO_103001.out) (Kd.R_base ho0) hb)
           have n2_ := Aside0.mk (Kd.R_elder' (by (with_reducible repeat (first | apply Kd.R_alloc | apply Kd.R_drewN | apply Kd.R_drew)); exact HO113.out) (Kd.R_base ho0) hb)
           have n3_ := Aside0.mk (Kd.R_elder' (by (with_reducible repeat (first | apply Kd.R_alloc | apply Kd.R_drewN | apply Kd.R_drew)); exact HO119.out) (Kd.R_base ho0) hb)
           have n4_ := Aside0.mk (Kd.R_elder' (by (with_reducible repeat (first | apply Kd.R_alloc | apply Kd.R_drewN | apply Kd.R_drew)); exact HO123.out) (Kd.R_base ho0) hb)
           have n5_ := Aside0.mk (Kd.R_lower (Kd.R_new' (Kd.R_new' (Kd.R_new' (Kd.R_newM (M := fun k_ => (w.heap.size ≤ k_)) ho0 (below_size (by repeat (first | (with_reducible first | exact HB.out | apply below_alloc | apply pw_below_drewN | apply below_drew1 | refine below_set ?_ GE101.out | refine below_set ?_ GE102.out | refine below_set ?_ GE115.out | refine below_set ?_ GE129.out) | exact HB.out))) (fun k_ h_ => h_)) (Kd.R_lt (by (with_reducible repeat (first | apply Kd.R_alloc | apply Kd.R_drewN | apply Kd.R_drew)); exact HO113.out))) (Kd.R_lt (by (with_reducible repeat (first | apply Kd.R_alloc | apply Kd.R_drewN | apply Kd.R_drew)); exact HO119.out))) (Kd.R_lt (by (with_reducible repeat (first | apply Kd.R_alloc | apply Kd.R_drewN | apply Kd.R_drew)); exact HO123.out))) (below_size (by repeat (first | (with_reducible first | exact HB.out | apply below_alloc | apply pw_below_drewN | apply below_drew1 | refine below_set ?_ GE101.out | refine below_set ?_ GE102.out | refine below_set ?_ GE115.out | refine below_set ?_ GE129.out) | exact HB.out))))
           have n6_ := Aside0.mk (blk_below (g := gb101) (o := .cells #[.bool a0_0, .slice A0_1 l0_1.length c0_1] 27 (0, 0)) (by (with_reducible repeat (first | refine blk_drewN ?_ _ | refine blk_drew ?_ | refine blk_alloc ?_ _)); exact BK101.out) hb)
           have n7_ := Aside0.mk (blk_below (g := gb102) (o := .cells #[.bool a1_0, .slice A1_1 l1_1.length c1_1] 27 (0, 0)) (by (with_reducible repeat (first | refine blk_drewN ?_ _ | refine blk_drew ?_ | refine blk_alloc ?_ _)); exact BK102.out) hb)
           have n8_ := Aside0.mk (blk_below (g := gb115) (o := .cells #[.bool t110, .slice Ao63 t111.length co63] 27 (0, 0)) (by (with_reducible repeat (first | refine blk_drewN ?_ _ | refine blk_drew ?_ | refine blk_alloc ?_ _)); exact BK115.out) hb)
           have n9_ := Aside0.mk (blk_below (g := gb129) (o := .cells #[.bool false, .slice none 0 0] 27 (0, 0)) (by (with_reducible repeat (first | refine blk_drewN ?_ _ | refine blk_drew ?_ | refine blk_alloc ?_ _)); exact BK129.out) hb)
           have n10_ := Aside0.mk (below_step (by repeat (first | (with_reducible first | exact HB.out | apply below_alloc | apply pw_below_drewN | apply below_drew1 | refine below_set ?_ GE101.out | refine below_set ?_ GE102.out | refine below_set ?_ GE115.out | refine below_set ?_ GE129.out) | exact HB.out)) hb)
           clear HO_102001
           clear HO_103001
           clear HO113
           clear HO119
           clear HO123
           clear BK101
           clear BK102
           clear BK115
           clear BK129
           clear HB
           have HO_102001 := n0_
           have HO_103001 := n1_
           have HO113 := n2_
           have HO119 := n3_
           have HO123 := n4_
           have HO127 := n5_
           have BK101 := n6_
           have BK102 := n7_
           have BK115 := n8_
           have BK129 := n9_
           have HB := n10_
           clear n0_ n1_ n2_ n3_ n4_ n5_ n6_ n7_ n8_ n9_ n10_
           (try clear hb)
           (try clear hb2)
           (try clear hk)
           (try clear hi)
           (try clear ho0)
           refine hK.out _ _ ⟨(blk_cell BK101.out 0).trans rfl, (blk_cell BK101.out 1).trans rfl, (blk_cell BK102.out 0).trans rfl, (blk_cell BK102.out 1).trans rfl⟩ (fun hHeld => ?_)
           clear hK K
           refine norm_ (a' := ?_) ?_ ?_
           rotate_left
           ·show Act.put _ (some 38) _ = _
            simp only [Act.put, List.setIfInBounds_toArray, List.set_cons_zero, List.set_cons_succ, i64_w, i32_w]
            rfl
           refine pure_ (i := 7) (N := some 31) (v := ?_) (a' := ?_) #[true, true, true, true, true, true, true, true, false, false, true, false, false] rfl rfl (any_of HT_.out (by kernel_rfl)) (fun _ _ _ h => h) (Or.inl ⟨by rfl, ?_⟩) ?_ ?_
           rotate_left
           ·intro w'
            go_simp
            with_reducible rfl
           rotate_left
           ·simp only [Act.put, List.setIfInBounds_toArray, List.set_cons_zero, List.set_cons_succ, i64_w, i32_w]
            rfl
           refine pure_ (i := 8) (N := some 39) (v := ?_) (a' := ?_) #[true, true, true, true, true, true, true, true, true, false, true, false, false] rfl rfl (any_of HT_.out (by kernel_rfl)) (fun _ _ _ h => h) (Or.inl ⟨by rfl, ?_⟩) ?_ ?_
           rotate_left
           ·intro w'
            go_simp
            with_reducible rfl
           rotate_left
           ·simp only [Act.put, List.setIfInBounds_toArray, List.set_cons_zero, List.set_cons_succ, i64_w, i32_w]
            rfl
           refine pure_ (i := 9) (N := some 40) (v := ?_) (a' := ?_) #[true, true, true, true, true, true, true, true, true, true, true, false, false] rfl rfl (any_of HT_.out (by kernel_rfl)) (fun _ _ _ h => h) (Or.inl ⟨by rfl, ?_⟩) ?_ ?_
           rotate_left
           ·intro w'
            go_simp
            with_reducible rfl
           rotate_left
           ·simp only [Act.put, List.setIfInBounds_toArray, List.set_cons_zero, List.set_cons_succ, i64_w, i32_w]
            rfl
           exact norm_ (by simp only [putAll, Act.put, List.setIfInBounds_toArray, List.set_cons_zero, List.set_cons_succ]) (hCont (.slice Ao69 t117.length co69, .slice Ao70 t121.length co70, v126, gb129) _ ⟨hHeld, (by (with_reducible repeat (first | apply Kd.R_alloc | apply Kd.R_drewN | apply Kd.R_drew)); exact Kd.R_mono HO113.out (fun _ hk => ⟨hk.1.1.1, ⟨hk.1.1.2, ⟨hk.1.2, hk.2⟩⟩⟩)), (by (with_reducible repeat (first | apply Kd.R_alloc | apply Kd.R_drewN | apply Kd.R_drew)); exact Kd.R_mono HO119.out (fun _ hk => ⟨hk.1.1.1.1, ⟨hk.1.1.2, ⟨hk.1.2, hk.2⟩⟩⟩)), (by (with_reducible repeat (first | apply Kd.R_alloc | apply Kd.R_drewN | apply Kd.R_drew)); exact Kd.R_mono HO123.out (fun _ hk => ⟨hk.1.1.1.1, ⟨hk.1.1.2, ⟨hk.1.2, hk.2⟩⟩⟩)), (by (with_reducible repeat (first | apply Kd.R_alloc | apply Kd.R_drewN | apply Kd.R_drew)); exact Kd.R_mono HO127.out (fun _ hk => ⟨hk.1.1.1.1, ⟨hk.1.1.2, ⟨hk.1.2, hk.2⟩⟩⟩)), (by (with_reducible repeat (first | apply Kd.V_alloc | apply Kd.V_drewN | apply Kd.V_drew)); exact Kd.V_mono HO_102001.out (fun _ hk => ⟨hk.1.1.1.1.1, ⟨hk.1.1.1.1.2.1, ⟨hk.1.1.1.2, ⟨hk.1.2, ⟨hk.2, ⟨hk.1.1.1.1.2.2.1, ⟨hk.1.1.1.1.2.2.2.1, ⟨hk.1.1.1.1.2.2.2.2, hk.1.1.2⟩⟩⟩⟩⟩⟩⟩⟩)), (by (with_reducible repeat (first | apply Kd.V_alloc | apply Kd.V_drewN | apply Kd.V_drew)); exact Kd.V_mono HO_103001.out (fun _ hk => ⟨hk.1.1.1.1.1, ⟨hk.1.1.1.1.2.1, ⟨hk.1.1.1.2, ⟨hk.1.2, ⟨hk.2, ⟨hk.1.1.1.1.2.2.1, ⟨hk.1.1.1.1.2.2.2.1, ⟨hk.1.1.1.1.2.2.2.2, hk.1.1.2⟩⟩⟩⟩⟩⟩⟩⟩)), (by (with_reducible repeat (first | refine blk_drewN ?_ _ | refine blk_drew ?_ | refine blk_alloc ?_ _)); exact BK101.out), (by (with_reducible repeat (first | refine blk_drewN ?_ _ | refine blk_drew ?_ | refine blk_alloc ?_ _)); exact BK102.out), (by (with_reducible repeat (first | refine blk_drewN ?_ _ | refine blk_drew ?_ | refine blk_alloc ?_ _)); exact BK115.out), (by (with_reducible repeat (first | refine blk_drewN ?_ _ | refine blk_drew ?_ | refine blk_alloc ?_ _)); exact BK129.out), GW129.out, GE129.out, NB101_129.out, NB129_101.out, NB102_129.out, NB129_102.out, NB115_129.out, NB129_115.out, (by repeat (first | (with_reducible first | exact HB.out | apply below_alloc | apply pw_below_drewN | apply below_drew1 | refine below_set ?_ GE101.out | refine below_set ?_ GE102.out | refine below_set ?_ GE115.out | refine below_set ?_ GE129.out) | exact HB.out))⟩)
         ·skip
          refine box_step ?hg (N := 7) ?hd (cs := #[.bool false, .slice none 0 0]) (t := 27) ?hr ?_; (case hd => rfl); (case hg => rfl); (case hr => first | (go_simp; done) | (go_simp; rfl))
          intro gb129 hg w66 hbox hb
          have n0_ := Aside0.mk (Kd.V_below (Kd.V_elderB (by (with_reducible repeat (first | apply Kd.V_alloc | apply Kd.V_drewN | apply Kd.V_drew)); exact HO_102001.out) gb129 (Nat.le_of_eq hg.symm)) hb)
          have n1_ := Aside0.mk (Kd.V_below (Kd.V_elderB (by (with_reducible repeat (first | apply Kd.V_alloc | apply Kd.V_drewN | apply Kd.V_drew)); exact HO_103001.out) gb129 (Nat.le_of_eq hg.symm)) hb)
          have n2_ := Aside0.mk (Kd.R_below (by (with_reducible repeat (first | apply Kd.R_alloc | apply Kd.R_drewN | apply Kd.R_drew)); exact HO113.out) hb)
          have n3_ := Aside0.mk (blk_below (g := gb101) (o := .cells #[.bool a0_0, .slice A0_1 l0_1.length c0_1] 27 (0, 0)) (by (with_reducible repeat (first | refine blk_drewN ?_ _ | refine blk_drew ?_ | refine blk_alloc ?_ _)); exact BK101.out) hb)
          have n4_ := Aside0.mk (blk_below (g := gb102) (o := .cells #[.bool a1_0, .slice A1_1 l1_1.length c1_1] 27 (0, 0)) (by (with_reducible repeat (first | refine blk_drewN ?_ _ | refine blk_drew ?_ | refine blk_alloc ?_ _)); exact BK102.out) hb)
          have n5_ := Aside0.mk (blk_below (g := gb115) (o := .cells #[.bool t110, .slice Ao63 t111.length co63] 27 (0, 0)) (by (with_reducible repeat (first | refine blk_drewN ?_ _ | refine blk_drew ?_ | refine blk_alloc ?_ _)); exact BK115.out) hb)
          have n6_ := Aside0.mk (below_step (by repeat (first | (with_reducible first | exact HB.out | apply below_alloc | apply pw_below_drewN | apply below_drew1 | refine below_set ?_ GE101.out | refine below_set ?_ GE102.out | refine below_set ?_ GE115.out) | exact HB.out)) hb)
          have n7_ := Aside0.mk (hbox)
          have n8_ := Aside0.mk ((by rw [hg]; exact (below_size (by repeat (first | (with_reducible first | exact HB.out | apply below_alloc | apply pw_below_drewN | apply below_drew1 | refine below_set ?_ GE101.out | refine below_set ?_ GE102.out | refine below_set ?_ GE115.out) | exact HB.out))) : w.heap.size ≤ gb129))
          have n9_ := Aside0.mk ((by rw [hg]; exact (below_size (by repeat (first | (with_reducible first | exact HB.out | apply below_alloc | apply pw_below_drewN | apply below_drew1 | refine below_set ?_ GE101.out | refine below_set ?_ GE102.out | refine below_set ?_ GE115.out) | exact HB.out))) : w.heap.size ≤ gb129))
          have n10_ := Aside0.mk ((by rw [hg]; exact Nat.ne_of_lt (blk_lt (g := gb101) (o := .cells #[.bool a0_0, .slice A0_1 l0_1.length c0_1] 27 (0, 0)) (by (with_reducible repeat (first | refine blk_drewN ?_ _ | refine blk_drew ?_ | refine blk_alloc ?_ _)); exact BK101.out)) : gb101 ≠ gb129))
          have n11_ := Aside0.mk ((by rw [hg]; exact Nat.ne_of_gt (blk_lt (g := gb101) (o := .cells #[.bool a0_0, .slice A0_1 l0_1.length c0_1] 27 (0, 0)) (by (with_reducible repeat (first | refine blk_drewN ?_ _ | refine blk_drew ?_ | refine blk_alloc ?_ _)); exact BK101.out)) : gb129 ≠ gb101))
          have n12_ := Aside0.mk ((by rw [hg]; exact Nat.ne_of_lt (blk_lt (g := gb102) (o := .cells #[.bool a1_0, .slice A1_1 l1_1.length c1_1] 27 (0, 0)) (by (with_reducible repeat (first | refine blk_drewN ?_ _ | refine blk_drew ?_ | refine blk_alloc ?_ _)); exact BK102.out)) : gb102 ≠ gb129))
          have n13_ := Aside0.mk ((by rw [hg]; exact Nat.ne_of_gt (blk_lt (g := gb102) (o := .cells #[.bool a1_0, .slice A1_1 l1_1.length c1_1] 27 (0, 0)) (by (with_reducible repeat (first | refine blk_drewN ?_ _ | refine blk_drew ?_ | refine blk_alloc ?_ _)); exact BK102.out)) : gb129 ≠ gb102))
          have n14_ := Aside0.mk ((by rw [hg]; exact Nat.ne_of_lt (blk_lt (g := gb115) (o := .cells #[.bool t110, .slice Ao63 t111.length co63] 27 (0, 0)) (by (with_reducible repeat (first | refine blk_drewN ?_ _ | refine blk_drew ?_ | refine blk_alloc ?_ _)); exact BK115.out)) : gb115 ≠ gb129))
          have n15_ := Aside0.mk ((by rw [hg]; exact Nat.ne_of_gt (blk_lt (g := gb115) (o := .cells #[.bool t110, .slice Ao63 t111.length co63] 27 (0, 0)) (by (with_reducible repeat (first | refine blk_drewN ?_ _ | refine blk_drew ?_ | refine blk_alloc ?_ _)); exact BK115.out)) : gb129 ≠ gb115))
          clear HO_102001
          clear HO_103001
          clear HO113
          clear BK101
          clear BK102
          clear BK115
          clear HB
          have HO_102001 := n0_
          have HO_103001 := n1_
          have HO113 := n2_
          have BK101 := n3_
          have BK102 := n4_
          have BK115 := n5_
          have HB := n6_
          have BK129 := n7_
          have GW129 := n8_
          have GE129 := n9_
          have NB101_129 := n10_
          have NB129_101 := n11_
          have NB102_129 := n12_
          have NB129_102 := n13_
          have NB115_129 := n14_
          have NB129_115 := n15_
          clear n0_ n1_ n2_ n3_ n4_ n5_ n6_ n7_ n8_ n9_ n10_ n11_ n12_ n13_ n14_ n15_
          clear hb hbox hg
          refine hK.out _ _ ⟨(blk_cell BK101.out 0).trans rfl, (blk_cell BK101.out 1).trans rfl, (blk_cell BK102.out 0).trans rfl, (blk_cell BK102.out 1).trans rfl⟩ (fun hHeld => ?_)
          clear hK K
          refine norm_ (a' := ?_) ?_ ?_
          rotate_left
          ·show Act.put _ (some 7) _ = _
           simp only [Act.put, List.setIfInBounds_toArray, List.set_cons_zero, List.set_cons_succ, i64_w, i32_w]
           rfl
          refine one_ (i := 2) (N := some 34) #[true, true, true, true, true, false, false, false, false, false, true, false, false] rfl rfl (one_of HT_.out (by kernel_rfl)) (by decide) (fun K hK => ?_)
          refine goes_ Tryd.func44 (by kernel_rfl) rfl #[.agg #[.bool a0_0, .slice A0_1 l0_1.length c0_1], .agg #[.bool a0_0, .slice A0_1 l0_1.length c0_1]] (by rfl) rfl rfl (by (try simp only [List.map_toArray, List.map_cons, List.map_nil]); first | done | rfl | (simp only [List.length_drop, List.length_take]; rfl)) ?_
          with_reducible refine (substationlaw01_product.calls kj4 a0_0 _ _ l0_1 a0_0 _ _ l0_1 t116 t117 _ ?side1 ?side2 ?side3 ?side4 A40.out).mono ?_
          (case side1 => repeat (first | exact (Kd.V_reads' HO_102001.out).2.2 | (with_reducible refine Kd.C_alloc ?_ _) | (with_reducible refine Kd.C_drewN ?_ _) | (with_reducible refine Kd.C_drew ?_)))
          (case side2 => exact (Kd.V_reads' HO_102001.out).2.1)
          (case side3 => repeat (first | exact (Kd.V_reads' HO_102001.out).2.2 | (with_reducible refine Kd.C_alloc ?_ _) | (with_reducible refine Kd.C_drewN ?_ _) | (with_reducible refine Kd.C_drew ?_)))
          (case side4 => exact (Kd.V_reads' HO_102001.out).2.1)
          rintro e w67 ⟨v118, rfl, ho0, hb⟩
          refine ⟨_, rfl, ?_⟩
          have n0_ := Aside0.mk (Kd.V_elder' (by (with_reducible repeat (first | apply Kd.V_alloc | apply Kd.V_drewN | apply Kd.V_drew)); exact HO_102001.out) (Kd.R_base ho0) hb)
          have n1_ := Aside0.mk (Kd.V_elder' (by (with_reducible repeat (first | apply Kd.V_alloc | apply Kd.V_drewN | apply Kd.V_drew)); exact HO_103001.out) (Kd.R_base ho0) hb)
          have n2_ := Aside0.mk (Kd.R_elder' (by (with_reducible repeat (first | apply Kd.R_alloc | apply Kd.R_drewN | apply Kd.R_drew)); exact HO113.out) (Kd.R_base ho0) hb)
          have n3_ := Aside0.mk (Kd.R_lower (Kd.R_new' (Kd.R_newM (M := fun k_ => (w.heap.size ≤ k_)) ho0 (below_size (by repeat (first | (with_reducible first | exact HB.out | apply below_alloc | apply pw_below_drewN | apply below_drew1 | refine below_set ?_ GE101.out | refine below_set ?_ GE102.out | refine below_set ?_ GE115.out | refine below_set ?_ GE129.out) | exact HB.out))) (fun k_ h_ => h_)) (Kd.R_lt (by (with_reducible repeat (first | apply Kd.R_alloc | apply Kd.R_drewN | apply Kd.R_drew)); exact HO113.out))) (below_size (by repeat (first | (with_reducible first | exact HB.out | apply below_alloc | apply pw_below_drewN | apply below_drew1 | refine below_set ?_ GE101.out | refine below_set ?_ GE102.out | refine below_set ?_ GE115.out | refine below_set ?_ GE129.out) | exact HB.out))))
          have n4_ := Aside0.mk (blk_below (g := gb101) (o := .cells #[.bool a0_0, .slice A0_1 l0_1.length c0_1] 27 (0, 0)) (by (with_reducible repeat (first | refine blk_drewN ?_ _ | refine blk_drew ?_ | refine blk_alloc ?_ _)); exact BK101.out) hb)
          have n5_ := Aside0.mk (blk_below (g := gb102) (o := .cells #[.bool a1_0, .slice A1_1 l1_1.length c1_1] 27 (0, 0)) (by (with_reducible repeat (first | refine blk_drewN ?_ _ | refine blk_drew ?_ | refine blk_alloc ?_ _)); exact BK102.out) hb)
          have n6_ := Aside0.mk (blk_below (g := gb115) (o := .cells #[.bool t110, .slice Ao63 t111.length co63] 27 (0, 0)) (by (with_reducible repeat (first | refine blk_drewN ?_ _ | refine blk_drew ?_ | refine blk_alloc ?_ _)); exact BK115.out) hb)
          have n7_ := Aside0.mk (blk_below (g := gb129) (o := .cells #[.bool false, .slice none 0 0] 27 (0, 0)) (by (with_reducible repeat (first | refine blk_drewN ?_ _ | refine blk_drew ?_ | refine blk_alloc ?_ _)); exact BK129.out) hb)
          have n8_ := Aside0.mk (below_step (by repeat (first | (with_reducible first | exact HB.out | apply below_alloc | apply pw_below_drewN | apply below_drew1 | refine below_set ?_ GE101.out | refine below_set ?_ GE102.out | refine below_set ?_ GE115.out | refine below_set ?_ GE129.out) | exact HB.out)) hb)
          clear HO_102001
          clear HO_103001
          clear HO113
          clear BK101
          clear BK102
          clear BK115
          clear BK129
          clear HB
          have HO_102001 := n0_
          have HO_103001 := n1_
          have HO113 := n2_
          have HO119 := n3_
          have BK101 := n4_
          have BK102 := n5_
          have BK115 := n6_
          have BK129 := n7_
          have HB := n8_
          clear n0_ n1_ n2_ n3_ n4_ n5_ n6_ n7_ n8_
          (try clear hb)
          (try clear hb2)
          (try clear hk)
          (try clear hi)
          (try clear ho0)
          refine hK.out _ _ ⟨(blk_cell BK101.out 0).trans rfl, (blk_cell BK101.out 1).trans rfl, (blk_cell BK102.out 0).trans rfl, (blk_cell BK102.out 1).trans rfl⟩ (fun hHeld => ?_)
          clear hK K
          refine norm_ (a' := ?_) ?_ ?_
          rotate_left
          ·show Act.put _ (some 34) _ = _
           simp only [Act.put, List.setIfInBounds_toArray, List.set_cons_zero, List.set_cons_succ, i64_w, i32_w]
           rfl
          refine one_ (i := 5) (N := some 37) #[true, true, true, true, true, true, false, false, false, false, true, false, false] rfl rfl (one_of HT_.out (by kernel_rfl)) (by decide) (fun K hK => ?_)
          refine goes_ Tryd.func44 (by kernel_rfl) rfl #[.agg #[.bool a1_0, .slice A1_1 l1_1.length c1_1], .agg #[.bool a1_0, .slice A1_1 l1_1.length c1_1]] (by rfl) rfl rfl (by (try simp only [List.map_toArray, List.map_cons, List.map_nil]); first | done | rfl | (simp only [List.length_drop, List.length_take]; rfl)) ?_
          with_reducible refine (substationlaw01_product.calls kj4 a1_0 _ _ l1_1 a1_0 _ _ l1_1 t120 t121 _ ?side1 ?side2 ?side3 ?side4 A41.out).mono ?_
          (case side1 => repeat (first | exact (Kd.V_reads' HO_103001.out).2.2 | (with_reducible refine Kd.C_alloc ?_ _) | (with_reducible refine Kd.C_drewN ?_ _) | (with_reducible refine Kd.C_drew ?_)))
          (case side2 => exact (Kd.V_reads' HO_103001.out).2.1)
          (case side3 => repeat (first | exact (Kd.V_reads' HO_103001.out).2.2 | (with_reducible refine Kd.C_alloc ?_ _) | (with_reducible refine Kd.C_drewN ?_ _) | (with_reducible refine Kd.C_drew ?_)))
          (case side4 => exact (Kd.V_reads' HO_103001.out).2.1)
          rintro e w68 ⟨v122, rfl, ho0, hb⟩
          refine ⟨_, rfl, ?_⟩
          have n0_ := Aside0.mk (Kd.V_elder' (by (with_reducible repeat (first | apply Kd.V_alloc | apply Kd.V_drewN | apply Kd.V_drew)); exact HO_102001.out) (Kd.R_base ho0) hb)
          have n1_ := Aside0.mk (Kd.V_elder' (by (with_reducible repeat (first | apply Kd.V_alloc | apply Kd.V_drewN | apply Kd.V_drew)); exact HO_103001.out) (Kd.R_base ho0) hb)
          have n2_ := Aside0.mk (Kd.R_elder' (by (with_reducible repeat (first | apply Kd.R_alloc | apply Kd.R_drewN | apply Kd.R_drew)); exact HO113.out) (Kd.R_base ho0) hb)
          have n3_ := Aside0.mk (Kd.R_elder' (by (with_reducible repeat (first | apply Kd.R_alloc | apply Kd.R_drewN | apply Kd.R_drew)); exact HO119.out) (Kd.R_base ho0) hb)
          have n4_ := Aside0.mk (Kd.R_lower (Kd.R_new' (Kd.R_new' (Kd.R_newM (M := fun k_ => (w.heap.size ≤ k_)) ho0 (below_size (by repeat (first | (with_reducible first | exact HB.out | apply below_alloc | apply pw_below_drewN | apply below_drew1 | refine below_set ?_ GE101.out | refine below_set ?_ GE102.out | refine below_set ?_ GE115.out | refine below_set ?_ GE129.out) | exact HB.out))) (fun k_ h_ => h_)) (Kd.R_lt (by (with_reducible repeat (first | apply Kd.R_alloc | apply Kd.R_drewN | apply Kd.R_drew)); exact HO113.out))) (Kd.R_lt (by (with_reducible repeat (first | apply Kd.R_alloc | apply Kd.R_drewN | apply Kd.R_drew)); exact HO119.out))) (below_size (by repeat (first | (with_reducible first | exact HB.out | apply below_alloc | apply pw_below_drewN | apply below_drew1 | refine below_set ?_ GE101.out | refine below_set ?_ GE102.out | refine below_set ?_ GE115.out | refine below_set ?_ GE129.out) | exact HB.out))))
          have n5_ := Aside0.mk (blk_below (g := gb101) (o := .cells #[.bool a0_0, .slice A0_1 l0_1.length c0_1] 27 (0, 0)) (by (with_reducible repeat (first | refine blk_drewN ?_ _ | refine blk_drew ?_ | refine blk_alloc ?_ _)); exact BK101.out) hb)
          have n6_ := Aside0.mk (blk_below (g := gb102) (o := .cells #[.bool a1_0, .slice A1_1 l1_1.length c1_1] 27 (0, 0)) (by (with_reducible repeat (first | refine blk_drewN ?_ _ | refine blk_drew ?_ | refine blk_alloc ?_ _)); exact BK102.out) hb)
          have n7_ := Aside0.mk (blk_below (g := gb115) (o := .cells #[.bool t110, .slice Ao63 t111.length co63] 27 (0, 0)) (by (with_reducible repeat (first | refine blk_drewN ?_ _ | refine blk_drew ?_ | refine blk_alloc ?_ _)); exact BK115.out) hb)
          have n8_ := Aside0.mk (blk_below (g := gb129) (o := .cells #[.bool false, .slice none 0 0] 27 (0, 0)) (by (with_reducible repeat (first | refine blk_drewN ?_ _ | refine blk_drew ?_ | refine blk_alloc ?_ _)); exact BK129.out) hb)
          have n9_ := Aside0.mk (below_step (by repeat (first | (with_reducible first | exact HB.out | apply below_alloc | apply pw_below_drewN | apply below_drew1 | refine below_set ?_ GE101.out | refine below_set ?_ GE102.out | refine below_set ?_ GE115.out | refine below_set ?_ GE129.out) | exact HB.out)) hb)
          clear HO_102001
          clear HO_103001
          clear HO113
          clear HO119
          clear BK101
          clear BK102
          clear BK115
          clear BK129
          clear HB
          have HO_102001 := n0_
          have HO_103001 := n1_
          have HO113 := n2_
          have HO119 := n3_
          have HO123 := n4_
          have BK101 := n5_
          have BK102 := n6_
          have BK115 := n7_
          have BK129 := n8_
          have HB := n9_
          clear n0_ n1_ n2_ n3_ n4_ n5_ n6_ n7_ n8_ n9_
          (try clear hb)
          (try clear hb2)
          (try clear hk)
          (try clear hi)
          (try clear ho0)
          obtain ⟨Ao69, co69, eo69⟩ := Kd.R_slice HO119.out
          (first | subst eo69 | (injection eo69 with f1_ f2_ f3_; have f4_ := f1_.symm; have f5_ := f3_.symm; clear f1_ f2_ f3_; subst f4_; subst f5_))
          obtain ⟨Ao70, co70, eo70⟩ := Kd.R_slice HO123.out
          (first | subst eo70 | (injection eo70 with f1_ f2_ f3_; have f4_ := f1_.symm; have f5_ := f3_.symm; clear f1_ f2_ f3_; subst f4_; subst f5_))
          refine hK.out _ _ ⟨(blk_cell BK101.out 0).trans rfl, (blk_cell BK101.out 1).trans rfl, (blk_cell BK102.out 0).trans rfl, (blk_cell BK102.out 1).trans rfl⟩ (fun hHeld => ?_)
          clear hK K
          refine norm_ (a' := ?_) ?_ ?_
          rotate_left
          ·show Act.put _ (some 37) _ = _
           simp only [Act.put, List.setIfInBounds_toArray, List.set_cons_zero, List.set_cons_succ, i64_w, i32_w]
           rfl
          refine one_ (i := 6) (N := some 38) #[true, true, true, true, true, true, true, false, false, false, true, false, false] rfl rfl (one_of HT_.out (by kernel_rfl)) (by decide) (fun K hK => ?_)
          refine goes_ Tryd.func40 (by kernel_rfl) rfl #[.agg #[.bool t116, .slice Ao69 t117.length co69], .agg #[.bool t120, .slice Ao70 t121.length co70]] (by rfl) rfl rfl (by (try simp only [List.map_toArray, List.map_cons, List.map_nil]); first | done | rfl | (simp only [List.length_drop, List.length_take]; rfl)) ?_
          with_reducible refine (integer_Sub.calls kj4 t116 _ _ t117 t120 _ _ t121 t124 t125 t128 _ ?side1 ?side2 ?side3 ?side4 A42.out).mono ?_
          (case side1 => repeat (first | exact (Kd.R_reads' HO119.out).2.2 | (with_reducible refine Kd.C_alloc ?_ _) | (with_reducible refine Kd.C_drewN ?_ _) | (with_reducible refine Kd.C_drew ?_)))
          (case side2 => exact (Kd.R_reads' HO119.out).2.1)
          (case side3 => repeat (first | exact (Kd.R_reads' HO123.out).2.2 | (with_reducible refine Kd.C_alloc ?_ _) | (with_reducible refine Kd.C_drewN ?_ _) | (with_reducible refine Kd.C_drew ?_)))
          (case side4 => exact (Kd.R_reads' HO123.out).2.1)
          rintro e w71 ⟨v126, rfl, ho0, hb⟩
          refine ⟨_, rfl, ?_⟩
          have n0_ := Aside0.mk (Kd.V_elder' (by (with_reducible repeat (first | apply Kd.V_alloc | apply Kd.V_drewN | apply Kd.V_drew)); exact HO_102001.out) (Kd.R_base ho0) hb)
          have n1_ := Aside0.mk (Kd.V_elder' (by (with_reducible repeat (first | apply Kd.V_alloc | apply Kd.V_drewN | apply Kd.V_drew)); exact HO_103001.out) (Kd.R_base ho0) hb)
          have n2_ := Aside0.mk (Kd.R_elder' (by (with_reducible repeat (first | apply Kd.R_alloc | apply Kd.R_drewN | apply Kd.R_drew)); exact HO113.out) (Kd.R_base ho0) hb)
          have n3_ := Aside0.mk (Kd.R_elder' (by (with_reducible repeat (first | apply Kd.R_alloc | apply Kd.R_drewN | apply Kd.R_drew)); exact HO119.out) (Kd.R_base ho0) hb)
          have n4_ := Aside0.mk (Kd.R_elder' (by (with_reducible repeat (first | apply Kd.R_alloc | apply Kd.R_drewN | apply Kd.R_drew)); exact HO123.out) (Kd.R_base ho0) hb)
          have n5_ := Aside0.mk (Kd.R_lower (Kd.R_new' (Kd.R_new' (Kd.R_new' (Kd.R_newM (M := fun k_ => (w.heap.size ≤ k_)) ho0 (below_size (by repeat (first | (with_reducible first | exact HB.out | apply below_alloc | apply pw_below_drewN | apply below_drew1 | refine below_set ?_ GE101.out | refine below_set ?_ GE102.out | refine below_set ?_ GE115.out | refine below_set ?_ GE129.out) | exact HB.out))) (fun k_ h_ => h_)) (Kd.R_lt (by (with_reducible repeat (first | apply Kd.R_alloc | apply Kd.R_drewN | apply Kd.R_drew)); exact HO113.out))) (Kd.R_lt (by (with_reducible repeat (first | apply Kd.R_alloc | apply Kd.R_drewN | apply Kd.R_drew)); exact HO119.out))) (Kd.R_lt (by (with_reducible repeat (first | apply Kd.R_alloc | apply Kd.R_drewN | apply Kd.R_drew)); exact HO123.out))) (below_size (by repeat (first | (with_reducible first | exact HB.out | apply below_alloc | apply pw_below_drewN | apply below_drew1 | refine below_set ?_ GE101.out | refine below_set ?_ GE102.out | refine below_set ?_ GE115.out | refine below_set ?_ GE129.out) | exact HB.out))))
          have n6_ := Aside0.mk (blk_below (g := gb101) (o := .cells #[.bool a0_0, .slice A0_1 l0_1.length c0_1] 27 (0, 0)) (by (with_reducible repeat (first | refine blk_drewN ?_ _ | refine blk_drew ?_ | refine blk_alloc ?_ _)); exact BK101.out) hb)
          have n7_ := Aside0.mk (blk_below (g := gb102) (o := .cells #[.bool a1_0, .slice A1_1 l1_1.length c1_1] 27 (0, 0)) (by (with_reducible repeat (first | refine blk_drewN ?_ _ | refine blk_drew ?_ | refine blk_alloc ?_ _)); exact BK102.out) hb)
          have n8_ := Aside0.mk (blk_below (g := gb115) (o := .cells #[.bool t110, .slice Ao63 t111.length co63] 27 (0, 0)) (by (with_reducible repeat (first | refine blk_drewN ?_ _ | refine blk_drew ?_ | refine blk_alloc ?_ _)); exact BK115.out) hb)
          have n9_ := Aside0.mk (blk_below (g := gb129) (o := .cells #[.bool false, .slice none 0 0] 27 (0, 0)) (by (with_reducible repeat (first | refine blk_drewN ?_ _ | refine blk_drew ?_ | refine blk_alloc ?_ _)); exact BK129.out) hb)
          have n10_ := Aside0.mk (below_step (by repeat (first | (with_reducible first | exact HB.out | apply below_alloc | apply pw_below_drewN | apply below_drew1 | refine below_set ?_ GE101.out | refine below_set ?_ GE102.out | refine below_set ?_ GE115.out | refine below_set ?_ GE129.out) | exact HB.out)) hb)
          clear HO_102001
          clear HO_103001
          clear HO113
          clear HO119
          clear HO123
          clear BK101
          clear BK102
          clear BK115
          clear BK129
          clear HB
          have HO_102001 := n0_
          have HO_103001 := n1_
          have HO113 := n2_
          have HO119 := n3_
          have HO123 := n4_
          have HO127 := n5_
          have BK101 := n6_
          have BK102 := n7_
          have BK115 := n8_
          have BK129 := n9_
          have HB := n10_
          clear n0_ n1_ n2_ n3_ n4_ n5_ n6_ n7_ n8_ n9_ n10_
          (try clear hb)
          (try clear hb2)
          (try clear hk)
          (try clear hi)
          (try clear ho0)
          refine hK.out _ _ ⟨(blk_cell BK101.out 0).trans rfl, (blk_cell BK101.out 1).trans rfl, (blk_cell BK102.out 0).trans rfl, (blk_cell BK102.out 1).trans rfl⟩ (fun hHeld => ?_)
          clear hK K
          refine norm_ (a' := ?_) ?_ ?_
          rotate_left
          ·show Act.put _ (some 38) _ = _
           simp only [Act.put, List.setIfInBounds_toArray, List.set_cons_zero, List.set_cons_succ, i64_w, i32_w]
           rfl
          refine pure_ (i := 7) (N := some 31) (v := ?_) (a' := ?_) #[true, true, true, true, true, true, true, true, false, false, true, false, false] rfl rfl (any_of HT_.out (by kernel_rfl)) (fun _ _ _ h => h) (Or.inl ⟨by rfl, ?_⟩) ?_ ?_
          rotate_left
          ·intro w'
           go_simp
           with_reducible rfl
          rotate_left
          ·simp only [Act.put, List.setIfInBounds_toArray, List.set_cons_zero, List.set_cons_succ, i64_w, i32_w]
           rfl
          refine pure_ (i := 8) (N := some 39) (v := ?_) (a' := ?_) #[true, true, true, true, true, true, true, true, true, false, true, false, false] rfl rfl (any_of HT_.out (by kernel_rfl)) (fun _ _ _ h => h) (Or.inl ⟨by rfl, ?_⟩) ?_ ?_
          rotate_left
          ·intro w'
           go_simp
           with_reducible rfl
          rotate_left
          ·simp only [Act.put, List.setIfInBounds_toArray, List.set_cons_zero, List.set_cons_succ, i64_w, i32_w]
           rfl
          refine pure_ (i := 9) (N := some 40) (v := ?_) (a' := ?_) #[true, true, true, true, true, true, true, true, true, true, true, false, false] rfl rfl (any_of HT_.out (by kernel_rfl)) (fun _ _ _ h => h) (Or.inl ⟨by rfl, ?_⟩) ?_ ?_
          rotate_left
          ·intro w'
           go_simp
           with_reducible rfl
          rotate_left
          ·simp only [Act.put, List.setIfInBounds_toArray, List.set_cons_zero, List.set_cons_succ, i64_w, i32_w]
           rfl
          exact norm_ (by simp only [putAll, Act.put, List.setIfInBounds_toArray, List.set_cons_zero, List.set_cons_succ]) (hCont (.slice Ao69 t117.length co69, .slice Ao70 t121.length co70, v126, gb129) _ ⟨hHeld, (by (with_reducible repeat (first | apply Kd.R_alloc | apply Kd.R_drewN | apply Kd.R_drew)); exact Kd.R_mono HO113.out (fun _ hk => ⟨hk.1.1.1, ⟨hk.1.1.2, ⟨hk.1.2, hk.2⟩⟩⟩)), (by (with_reducible repeat (first | apply Kd.R_alloc | apply Kd.R_drewN | apply Kd.R_drew)); exact Kd.R_mono HO119.out (fun _ hk => ⟨hk.1.1.1.1, ⟨hk.1.1.2, ⟨hk.1.2, hk.2⟩⟩⟩)), (by (with_reducible repeat (first | apply Kd.R_alloc | apply Kd.R_drewN | apply Kd.R_drew)); exact Kd.R_mono HO123.out (fun _ hk => ⟨hk.1.1.1.1, ⟨hk.1.1.2, ⟨hk.1.2, hk.2⟩⟩⟩)), (by (with_reducible repeat (first | apply Kd.R_alloc | apply Kd.R_drewN | apply Kd.R_drew)); exact Kd.R_mono HO127.out (fun _ hk => ⟨hk.1.1.1.1, ⟨hk.1.1.2, ⟨hk.1.2, hk.2⟩⟩⟩)), (by (with_reducible repeat (first | apply Kd.V_alloc | apply Kd.V_drewN | apply Kd.V_drew)); exact Kd.V_mono HO_102001.out (fun _ hk => ⟨hk.1.1.1.1.1, ⟨hk.1.1.1.1.2.1, ⟨hk.1.1.2, ⟨hk.1.2, ⟨hk.2, ⟨hk.1.1.1.1.2.2.1, ⟨hk.1.1.1.1.2.2.2.1, ⟨hk.1.1.1.1.2.2.2.2, hk.1.1.1.2⟩⟩⟩⟩⟩⟩⟩⟩)), (by (with_reducible repeat (first | apply Kd.V_alloc | apply Kd.V_drewN | apply Kd.V_drew)); exact Kd.V_mono HO_103001.out (fun _ hk => ⟨hk.1.1.1.1.1, ⟨hk.1.1.1.1.2.1, ⟨hk.1.1.2, ⟨hk.1.2, ⟨hk.2, ⟨hk.1.1.1.1.2.2.1, ⟨hk.1.1.1.1.2.2.2.1, ⟨hk.1.1.1.1.2.2.2.2, hk.1.1.1.2⟩⟩⟩⟩⟩⟩⟩⟩)), (by (with_reducible repeat (first | refine blk_drewN ?_ _ | refine blk_drew ?_ | refine blk_alloc ?_ _)); exact BK101.out), (by (with_reducible repeat (first | refine blk_drewN ?_ _ | refine blk_drew ?_ | refine blk_alloc ?_ _)); exact BK102.out), (by (with_reducible repeat (first | refine blk_drewN ?_ _ | refine blk_drew ?_ | refine blk_alloc ?_ _)); exact BK115.out), (by (with_reducible repeat (first | refine blk_drewN ?_ _ | refine blk_drew ?_ | refine blk_alloc ?_ _)); exact BK129.out), GW129.out, GE129.out, NB101_129.out, NB129_101.out, NB102_129.out, NB129_102.out, NB115_129.out, NB129_115.out, (by repeat (first | (with_reducible first | exact HB.out | apply below_alloc | apply pw_below_drewN | apply below_drew1 | refine below_set ?_ GE101.out | refine below_set ?_ GE102.out | refine below_set ?_ GE115.out | refine below_set ?_ GE129.out) | exact HB.out))⟩)
        rintro ⟨v118, v122, v126, gb129⟩ w72 ⟨hS_, h0_, h1_, h2_, h3_, h4_, h5_, h6_, h7_, h8_, h9_, h10_, h11_, h12_, h13_, h14_, h15_, h16_, h17_, h18_⟩
        have n0_ : Aside0 (Kd.R (Kd.int .u32) 22 w72 w.heap.size (fun k_ => (w.heap.size ≤ k_) ∧ some k_ ≠ (v118 : Value).ownBlock ∧ some k_ ≠ (v122 : Value).ownBlock ∧ some k_ ≠ (v126 : Value).ownBlock) (.slice Ao63 t111.length co63) t111) := ⟨h0_⟩
        have n1_ : Aside0 (Kd.R (Kd.int .u32) 22 w72 w.heap.size (fun k_ => (w.heap.size ≤ k_) ∧ some k_ ≠ (.slice Ao63 t111.length co63 : Value).ownBlock ∧ some k_ ≠ (v122 : Value).ownBlock ∧ some k_ ≠ (v126 : Value).ownBlock) v118 t117) := ⟨h1_⟩
        have n2_ : Aside0 (Kd.R (Kd.int .u32) 22 w72 w.heap.size (fun k_ => (w.heap.size ≤ k_) ∧ some k_ ≠ (.slice Ao63 t111.length co63 : Value).ownBlock ∧ some k_ ≠ (v118 : Value).ownBlock ∧ some k_ ≠ (v126 : Value).ownBlock) v122 t121) := ⟨h2_⟩
        have n3_ : Aside0 (Kd.R (Kd.int .u32) 22 w72 w.heap.size (fun k_ => (w.heap.size ≤ k_) ∧ some k_ ≠ (.slice Ao63 t111.length co63 : Value).ownBlock ∧ some k_ ≠ (v118 : Value).ownBlock ∧ some k_ ≠ (v122 : Value).ownBlock) v126 t125) := ⟨h3_⟩
        have n4_ : Aside0 (Kd.V (Kd.int .u32) 22 w72 w.heap.size (fun k_ => ((P0_1_ k_ ∨ P1_1_ k_) ∨ w.heap.size ≤ k_) ∧ some k_ ≠ (.slice Ao63 t111.length co63 : Value).ownBlock ∧ some k_ ≠ (v118 : Value).ownBlock ∧ some k_ ≠ (v122 : Value).ownBlock ∧ some k_ ≠ (v126 : Value).ownBlock ∧ k_ ≠ gb101 ∧ k_ ≠ gb102 ∧ k_ ≠ gb115 ∧ k_ ≠ gb129) (.slice A0_1 l0_1.length c0_1) l0_1) := ⟨h4_⟩
        have n5_ : Aside0 (Kd.V (Kd.int .u32) 22 w72 w.heap.size (fun k_ => ((P0_1_ k_ ∨ P1_1_ k_) ∨ w.heap.size ≤ k_) ∧ some k_ ≠ (.slice Ao63 t111.length co63 : Value).ownBlock ∧ some k_ ≠ (v118 : Value).ownBlock ∧ some k_ ≠ (v122 : Value).ownBlock ∧ some k_ ≠ (v126 : Value).ownBlock ∧ k_ ≠ gb101 ∧ k_ ≠ gb102 ∧ k_ ≠ gb115 ∧ k_ ≠ gb129) (.slice A1_1 l1_1.length c1_1) l1_1) := ⟨h5_⟩
        have n6_ : Aside0 (w72.heap[gb101]? = some (.cells #[.bool a0_0, .slice A0_1 l0_1.length c0_1] 27 (0, 0))) := ⟨h6_⟩
        have n7_ : Aside0 (w72.heap[gb102]? = some (.cells #[.bool a1_0, .slice A1_1 l1_1.length c1_1] 27 (0, 0))) := ⟨h7_⟩
        have n8_ : Aside0 (w72.heap[gb115]? = some (.cells #[.bool t110, .slice Ao63 t111.length co63] 27 (0, 0))) := ⟨h8_⟩
        have n9_ : Aside0 (w72.heap[gb129]? = some (.cells #[.bool false, .slice none 0 0] 27 (0, 0))) := ⟨h9_⟩
        have n10_ : Aside0 (w.heap.size ≤ gb129) := ⟨h10_⟩
        have n11_ : Aside0 (w.heap.size ≤ gb129) := ⟨h11_⟩
        have n12_ : Aside0 (gb101 ≠ gb129) := ⟨h12_⟩
        have n13_ : Aside0 (gb129 ≠ gb101) := ⟨h13_⟩
        have n14_ : Aside0 (gb102 ≠ gb129) := ⟨h14_⟩
        have n15_ : Aside0 (gb129 ≠ gb102) := ⟨h15_⟩
        have n16_ : Aside0 (gb115 ≠ gb129) := ⟨h16_⟩
        have n17_ : Aside0 (gb129 ≠ gb115) := ⟨h17_⟩
        have n18_ : Aside0 (Below w.heap.size w w72) := ⟨h18_⟩
        clear HO_102001
        clear HO_103001
        clear HO113
        clear BK101
        clear BK102
        clear BK115
        clear HB
        clear h0_ h1_ h2_ h3_ h4_ h5_ h6_ h7_ h8_ h9_ h10_ h11_ h12_ h13_ h14_ h15_ h16_ h17_ h18_
        have HO113 := n0_
        have HO119 := n1_
        have HO123 := n2_
        have HO127 := n3_
        have HO_102001 := n4_
        have HO_103001 := n5_
        have BK101 := n6_
        have BK102 := n7_
        have BK115 := n8_
        have BK129 := n9_
        have GW129 := n10_
        have GE129 := n11_
        have NB101_129 := n12_
        have NB129_101 := n13_
        have NB102_129 := n14_
        have NB129_102 := n15_
        have NB115_129 := n16_
        have NB129_115 := n17_
        have HB := n18_
        clear n0_ n1_ n2_ n3_ n4_ n5_ n6_ n7_ n8_ n9_ n10_ n11_ n12_ n13_ n14_ n15_ n16_ n17_ n18_
        have hHeld : w72.cell? ⟨gb101, 0, none⟩ = some (.bool a0_0) ∧ w72.cell? ⟨gb101, 1, none⟩ = some (.slice A0_1 l0_1.length c0_1) ∧ w72.cell? ⟨gb102, 0, none⟩ = some (.bool a1_0) ∧ w72.cell? ⟨gb102, 1, none⟩ = some (.slice A1_1 l1_1.length c1_1) := hS_
        obtain ⟨Ao74, co74, eo74⟩ := Kd.R_slice HO127.out
        (first | subst eo74 | (injection eo74 with f1_ f2_ f3_; have f4_ := f1_.symm; have f5_ := f3_.symm; clear f1_ f2_ f3_; subst f4_; subst f5_))
        refine norm_ (a' := ?_) ?_ ?_
        rotate_left
        ·simp only [putAll, Act.put, List.setIfInBounds_toArray, List.set_cons_zero, List.set_cons_succ]
         rfl
        refine one_ (i := 11) (N := none) #[true, true, true, true, true, true, true, true, true, true, true, true, false] rfl rfl (one_of HT_.out (by kernel_rfl)) (by decide) (fun K hK => ?_)
        have hs73 : w72.cell? ⟨gb129, 0, none⟩ = some (.bool false) := (blk_cell BK129.out 0).trans rfl
        have hfs73 := blk_frozen BK129.out 0
        have hns73_0 := NB101_129.out
        have hns73_1 := NB102_129.out
        have hns73_2 := NB115_129.out
        have hms73_0 := NB129_101.out
        have hms73_1 := NB129_102.out
        have hms73_2 := NB129_115.out
        have hs75 : w72.cell? ⟨gb129, 1, none⟩ = some (.slice none 0 0) := (blk_cell BK129.out 1).trans rfl
        have hfs75 := blk_frozen BK129.out 1
        have hns75_0 := NB101_129.out
        have hns75_1 := NB102_129.out
        have hns75_2 := NB115_129.out
        have hms75_0 := NB129_101.out
        have hms75_1 := NB129_102.out
        have hms75_2 := NB129_115.out
        refine skip_ (w1 := ?_) (by rfl) rfl ?_ ?_
        rotate_left
        ·go_simp
         rfl
        refine hK.out _ _ ⟨((cell_far (p := ⟨gb129, _, none⟩) NB101_129.out _).trans (((cell_far (p := ⟨gb129, _, none⟩) NB101_129.out _).trans (hHeld.1)))), ((cell_far (p := ⟨gb129, _, none⟩) NB101_129.out _).trans (((cell_far (p := ⟨gb129, _, none⟩) NB101_129.out _).trans (hHeld.2.1)))), ((cell_far (p := ⟨gb129, _, none⟩) NB102_129.out _).trans (((cell_far (p := ⟨gb129, _, none⟩) NB102_129.out _).trans (hHeld.2.2.1)))), ((cell_far (p := ⟨gb129, _, none⟩) NB102_129.out _).trans (((cell_far (p := ⟨gb129, _, none⟩) NB102_129.out _).trans (hHeld.2.2.2))))⟩ (fun hHeld => ?_)
        clear hK K
        refine pure_ (i := 12) (N := some 8) (v := ?_) (a' := ?_) #[true, true, true, true, true, true, true, true, true, true, true, true, true] rfl rfl (any_of HT_.out (by kernel_rfl)) (fun _ _ _ h => h) (Or.inl ⟨by rfl, ?_⟩) ?_ ?_
        rotate_left
        ·intro w'
         go_simp
         with_reducible rfl
        rotate_left
        ·simp only [Act.put, List.setIfInBounds_toArray, List.set_cons_zero, List.set_cons_succ, i64_w, i32_w]
         rfl
        refine done_ (done_of HT_.out (by kernel_rfl)) ?_
        try go_wp2
        have n0_ : Aside0 (Kd.V (Kd.int .u32) 22 ((w72.setCell ⟨gb129, 0, none⟩ (.bool t124)).setCell ⟨gb129, 1, none⟩ (.slice Ao74 t125.length co74)) w.heap.size (fun k_ => ((P0_1_ k_ ∨ P1_1_ k_) ∨ w.heap.size ≤ k_) ∧ some k_ ≠ (.slice Ao63 t111.length co63 : Value).ownBlock ∧ some k_ ≠ (v118 : Value).ownBlock ∧ some k_ ≠ (v122 : Value).ownBlock ∧ some k_ ≠ (.slice Ao74 t125.length co74 : Value).ownBlock ∧ k_ ≠ gb101 ∧ k_ ≠ gb102 ∧ k_ ≠ gb115 ∧ k_ ≠ gb129) (.slice A0_1 l0_1.length c0_1) l0_1) := ⟨by (with_reducible repeat (first | apply Kd.V_alloc | apply Kd.V_drewN | apply Kd.V_drew)); exact Kd.V_mono (Kd.V_far (p := ⟨gb129, 1, none⟩) (Kd.V_far (p := ⟨gb129, 0, none⟩) (Kd.V_mono HO_102001.out (fun k_ hk => (⟨hk, hk.2.2.2.2.2.2.2.2⟩ : _ ∧ k_ ≠ gb129))) (fun _ hk => hk.2) (.bool t124)) (fun _ hk => hk.2) (.slice Ao74 t125.length co74)) (fun _ hk => ⟨hk.1.1, ⟨hk.1.2.1, ⟨hk.1.2.2.1, ⟨hk.1.2.2.2.1, ⟨hk.1.2.2.2.2.1, ⟨hk.1.2.2.2.2.2.1, ⟨hk.1.2.2.2.2.2.2.1, ⟨hk.1.2.2.2.2.2.2.2.1, hk.1.2.2.2.2.2.2.2.2⟩⟩⟩⟩⟩⟩⟩⟩)⟩
        have n1_ : Aside0 (Kd.V (Kd.int .u32) 22 ((w72.setCell ⟨gb129, 0, none⟩ (.bool t124)).setCell ⟨gb129, 1, none⟩ (.slice Ao74 t125.length co74)) w.heap.size (fun k_ => ((P0_1_ k_ ∨ P1_1_ k_) ∨ w.heap.size ≤ k_) ∧ some k_ ≠ (.slice Ao63 t111.length co63 : Value).ownBlock ∧ some k_ ≠ (v118 : Value).ownBlock ∧ some k_ ≠ (v122 : Value).ownBlock ∧ some k_ ≠ (.slice Ao74 t125.length co74 : Value).ownBlock ∧ k_ ≠ gb101 ∧ k_ ≠ gb102 ∧ k_ ≠ gb115 ∧ k_ ≠ gb129) (.slice A1_1 l1_1.length c1_1) l1_1) := ⟨by (with_reducible repeat (first | apply Kd.V_alloc | apply Kd.V_drewN | apply Kd.V_drew)); exact Kd.V_mono (Kd.V_far (p := ⟨gb129, 1, none⟩) (Kd.V_far (p := ⟨gb129, 0, none⟩) (Kd.V_mono HO_103001.out (fun k_ hk => (⟨hk, hk.2.2.2.2.2.2.2.2⟩ : _ ∧ k_ ≠ gb129))) (fun _ hk => hk.2) (.bool t124)) (fun _ hk => hk.2) (.slice Ao74 t125.length co74)) (fun _ hk => ⟨hk.1.1, ⟨hk.1.2.1, ⟨hk.1.2.2.1, ⟨hk.1.2.2.2.1, ⟨hk.1.2.2.2.2.1, ⟨hk.1.2.2.2.2.2.1, ⟨hk.1.2.2.2.2.2.2.1, ⟨hk.1.2.2.2.2.2.2.2.1, hk.1.2.2.2.2.2.2.2.2⟩⟩⟩⟩⟩⟩⟩⟩)⟩
        have n2_ : Aside0 (Kd.R (Kd.int .u32) 22 ((w72.setCell ⟨gb129, 0, none⟩ (.bool t124)).setCell ⟨gb129, 1, none⟩ (.slice Ao74 t125.length co74)) w.heap.size (fun k_ => (w.heap.size ≤ k_) ∧ some k_ ≠ (v118 : Value).ownBlock ∧ some k_ ≠ (v122 : Value).ownBlock ∧ some k_ ≠ (.slice Ao74 t125.length co74 : Value).ownBlock) (.slice Ao63 t111.length co63) t111) := ⟨by (with_reducible repeat (first | apply Kd.R_alloc | apply Kd.R_drewN | apply Kd.R_drew)); exact Kd.R_mono (Kd.R_far (p := ⟨gb129, 1, none⟩) (Kd.R_far (p := ⟨gb129, 0, none⟩) (Kd.R_types HO113.out BK129.out (by decide)) (fun _ hk => hk.2) (.bool t124)) (fun _ hk => hk.2) (.slice Ao74 t125.length co74)) (fun _ hk => ⟨hk.1.1, ⟨hk.1.2.1, ⟨hk.1.2.2.1, hk.1.2.2.2⟩⟩⟩)⟩
        have n3_ : Aside0 (Kd.R (Kd.int .u32) 22 ((w72.setCell ⟨gb129, 0, none⟩ (.bool t124)).setCell ⟨gb129, 1, none⟩ (.slice Ao74 t125.length co74)) w.heap.size (fun k_ => (w.heap.size ≤ k_) ∧ some k_ ≠ (.slice Ao63 t111.length co63 : Value).ownBlock ∧ some k_ ≠ (v122 : Value).ownBlock ∧ some k_ ≠ (.slice Ao74 t125.length co74 : Value).ownBlock) v118 t117) := ⟨by (with_reducible repeat (first | apply Kd.R_alloc | apply Kd.R_drewN | apply Kd.R_drew)); exact Kd.R_mono (Kd.R_far (p := ⟨gb129, 1, none⟩) (Kd.R_far (p := ⟨gb129, 0, none⟩) (Kd.R_types HO119.out BK129.out (by decide)) (fun _ hk => hk.2) (.bool t124)) (fun _ hk => hk.2) (.slice Ao74 t125.length co74)) (fun _ hk => ⟨hk.1.1, ⟨hk.1.2.1, ⟨hk.1.2.2.1, hk.1.2.2.2⟩⟩⟩)⟩
        have n4_ : Aside0 (Kd.R (Kd.int .u32) 22 ((w72.setCell ⟨gb129, 0, none⟩ (.bool t124)).setCell ⟨gb129, 1, none⟩ (.slice Ao74 t125.length co74)) w.heap.size (fun k_ => (w.heap.size ≤ k_) ∧ some k_ ≠ (.slice Ao63 t111.length co63 : Value).ownBlock ∧ some k_ ≠ (v118 : Value).ownBlock ∧ some k_ ≠ (.slice Ao74 t125.length co74 : Value).ownBlock) v122 t121) := ⟨by (with_reducible repeat (first | apply Kd.R_alloc | apply Kd.R_drewN | apply Kd.R_drew)); exact Kd.R_mono (Kd.R_far (p := ⟨gb129, 1, none⟩) (Kd.R_far (p := ⟨gb129, 0, none⟩) (Kd.R_types HO123.out BK129.out (by decide)) (fun _ hk => hk.2) (.bool t124)) (fun _ hk => hk.2) (.slice Ao74 t125.length co74)) (fun _ hk => ⟨hk.1.1, ⟨hk.1.2.1, ⟨hk.1.2.2.1, hk.1.2.2.2⟩⟩⟩)⟩
        have n5_ : Aside0 (Kd.R (Kd.int .u32) 22 ((w72.setCell ⟨gb129, 0, none⟩ (.bool t124)).setCell ⟨gb129, 1, none⟩ (.slice Ao74 t125.length co74)) w.heap.size (fun k_ => (w.heap.size ≤ k_) ∧ some k_ ≠ (.slice Ao63 t111.length co63 : Value).ownBlock ∧ some k_ ≠ (v118 : Value).ownBlock ∧ some k_ ≠ (v122 : Value).ownBlock) (.slice Ao74 t125.length co74) t125) := ⟨by (with_reducible repeat (first | apply Kd.R_alloc | apply Kd.R_drewN | apply Kd.R_drew)); exact Kd.R_mono (Kd.R_far (p := ⟨gb129, 1, none⟩) (Kd.R_far (p := ⟨gb129, 0, none⟩) (Kd.R_types HO127.out BK129.out (by decide)) (fun _ hk => hk.2) (.bool t124)) (fun _ hk => hk.2) (.slice Ao74 t125.length co74)) (fun _ hk => ⟨hk.1.1, ⟨hk.1.2.1, ⟨hk.1.2.2.1, hk.1.2.2.2⟩⟩⟩)⟩
        have n6_ : Aside0 (((w72.setCell ⟨gb129, 0, none⟩ (.bool t124)).setCell ⟨gb129, 1, none⟩ (.slice Ao74 t125.length co74)).heap[gb101]? = some (.cells #[.bool a0_0, .slice A0_1 l0_1.length c0_1] 27 (0, 0))) := ⟨by (with_reducible repeat (first | refine blk_drewN ?_ _ | refine blk_drew ?_ | refine blk_alloc ?_ _)); refine blk_far ?_ NB101_129.out _; (with_reducible repeat (first | refine blk_drewN ?_ _ | refine blk_drew ?_ | refine blk_alloc ?_ _)); refine blk_far ?_ NB101_129.out _; (with_reducible repeat (first | refine blk_drewN ?_ _ | refine blk_drew ?_ | refine blk_alloc ?_ _)); exact BK101.out⟩
        have n7_ : Aside0 (((w72.setCell ⟨gb129, 0, none⟩ (.bool t124)).setCell ⟨gb129, 1, none⟩ (.slice Ao74 t125.length co74)).heap[gb102]? = some (.cells #[.bool a1_0, .slice A1_1 l1_1.length c1_1] 27 (0, 0))) := ⟨by (with_reducible repeat (first | refine blk_drewN ?_ _ | refine blk_drew ?_ | refine blk_alloc ?_ _)); refine blk_far ?_ NB102_129.out _; (with_reducible repeat (first | refine blk_drewN ?_ _ | refine blk_drew ?_ | refine blk_alloc ?_ _)); refine blk_far ?_ NB102_129.out _; (with_reducible repeat (first | refine blk_drewN ?_ _ | refine blk_drew ?_ | refine blk_alloc ?_ _)); exact BK102.out⟩
        have n8_ : Aside0 (((w72.setCell ⟨gb129, 0, none⟩ (.bool t124)).setCell ⟨gb129, 1, none⟩ (.slice Ao74 t125.length co74)).heap[gb115]? = some (.cells #[.bool t110, .slice Ao63 t111.length co63] 27 (0, 0))) := ⟨by (with_reducible repeat (first | refine blk_drewN ?_ _ | refine blk_drew ?_ | refine blk_alloc ?_ _)); refine blk_far ?_ NB115_129.out _; (with_reducible repeat (first | refine blk_drewN ?_ _ | refine blk_drew ?_ | refine blk_alloc ?_ _)); refine blk_far ?_ NB115_129.out _; (with_reducible repeat (first | refine blk_drewN ?_ _ | refine blk_drew ?_ | refine blk_alloc ?_ _)); exact BK115.out⟩
        have n9_ : Aside0 (((w72.setCell ⟨gb129, 0, none⟩ (.bool t124)).setCell ⟨gb129, 1, none⟩ (.slice Ao74 t125.length co74)).heap[gb129]? = some (.cells #[.bool t124, .slice Ao74 t125.length co74] 27 (0, 0))) := ⟨by (with_reducible repeat (first | refine blk_drewN ?_ _ | refine blk_drew ?_ | refine blk_alloc ?_ _)); refine blk_put (cs := #[.bool t124, .slice none 0 0]) ?_ 1 _ rfl; (with_reducible repeat (first | refine blk_drewN ?_ _ | refine blk_drew ?_ | refine blk_alloc ?_ _)); refine blk_put (cs := #[.bool false, .slice none 0 0]) ?_ 0 _ rfl; (with_reducible repeat (first | refine blk_drewN ?_ _ | refine blk_drew ?_ | refine blk_alloc ?_ _)); exact BK129.out⟩
        have n10_ : Aside0 (Below w.heap.size w ((w72.setCell ⟨gb129, 0, none⟩ (.bool t124)).setCell ⟨gb129, 1, none⟩ (.slice Ao74 t125.length co74))) := ⟨by repeat (first | (with_reducible first | exact HB.out | apply below_alloc | apply pw_below_drewN | apply below_drew1 | refine below_set ?_ GE101.out | refine below_set ?_ GE102.out | refine below_set ?_ GE115.out | refine below_set ?_ GE129.out) | exact HB.out)⟩
        (try clear HO_102001)
        (try clear HO_103001)
        (try clear HO113)
        (try clear HO119)
        (try clear HO123)
        (try clear HO127)
        (try clear BK101)
        (try clear BK102)
        (try clear BK115)
        (try clear BK129)
        (try clear HB)
        generalize ((w72.setCell ⟨gb129, 0, none⟩ (.bool t124)).setCell ⟨gb129, 1, none⟩ (.slice Ao74 t125.length co74)) = w76 at n0_ n1_ n2_ n3_ n4_ n5_ n6_ n7_ n8_ n9_ n10_ ⊢
        have HO_102001 := n0_
        have HO_103001 := n1_
        have HO113 := n2_
        have HO119 := n3_
        have HO123 := n4_
        have HO127 := n5_
        have BK101 := n6_
        have BK102 := n7_
        have BK115 := n8_
        have BK129 := n9_
        have HB := n10_
        clear n0_ n1_ n2_ n3_ n4_ n5_ n6_ n7_ n8_ n9_ n10_
        have n0_ := Aside0.mk (Kd.V_drew HO_102001.out)
        have n1_ := Aside0.mk (Kd.V_drew HO_103001.out)
        have n2_ := Aside0.mk (Kd.R_drew HO113.out)
        have n3_ := Aside0.mk (Kd.R_drew HO119.out)
        have n4_ := Aside0.mk (Kd.R_drew HO123.out)
        have n5_ := Aside0.mk (Kd.R_drew HO127.out)
        have n6_ := Aside0.mk (blk_drew BK101.out)
        have n7_ := Aside0.mk (blk_drew BK102.out)
        have n8_ := Aside0.mk (blk_drew BK115.out)
        have n9_ := Aside0.mk (blk_drew BK129.out)
        have n10_ := Aside0.mk (below_drew1 HB.out)
        clear HO_102001
        clear HO_103001
        clear HO113
        clear HO119
        clear HO123
        clear HO127
        clear BK101
        clear BK102
        clear BK115
        clear BK129
        clear HB
        have HO_102001 := n0_
        have HO_103001 := n1_
        have HO113 := n2_
        have HO119 := n3_
        have HO123 := n4_
        have HO127 := n5_
        have BK101 := n6_
        have BK102 := n7_
        have BK115 := n8_
        have BK129 := n9_
        have HB := n10_
        clear n0_ n1_ n2_ n3_ n4_ n5_ n6_ n7_ n8_ n9_ n10_
        refine start_ (n := 31) (S := fun w' => w'.cell? ⟨gb101, 0, none⟩ = some (.bool a0_0) ∧ w'.cell? ⟨gb101, 1, none⟩ = some (.slice A0_1 l0_1.length c0_1) ∧ w'.cell? ⟨gb102, 0, none⟩ = some (.bool a1_0) ∧ w'.cell? ⟨gb102, 1, none⟩ = some (.slice A1_1 l1_1.length c1_1) ∧ w'.cell? ⟨gb115, 0, none⟩ = some (.bool t110) ∧ w'.cell? ⟨gb115, 1, none⟩ = some (.slice Ao63 t111.length co63) ∧ w'.cell? ⟨gb129, 0, none⟩ = some (.bool t124) ∧ w'.cell? ⟨gb129, 1, none⟩ = some (.slice Ao74 t125.length co74)) (ds := []) #[false, false, false, false, false, false, false, false, false, false, false, false, false, false, false, false, false, false, false, false, false, false, false, false, false, false, false, false, false, false, false] (by kernel_rfl) rfl rfl ⟨(blk_cell BK101.out 0).trans rfl, (blk_cell BK101.out 1).trans rfl, (blk_cell BK102.out 0).trans rfl, (blk_cell BK102.out 1).trans rfl, (blk_cell BK115.out 0).trans rfl, (blk_cell BK115.out 1).trans rfl, (blk_cell BK129.out 0).trans rfl, (blk_cell BK129.out 1).trans rfl⟩ (fun hHeld => ?_); refine with_tabW substationlaw01_IntegerSquares.tab7 substationlaw01_IntegerSquares.bits7 (fun HT_ HW_ => ?_)
        generalize w76.drew = w77 at HO_102001 HO_103001 HO113 HO119 HO123 HO127 BK101 BK102 BK115 BK129 HB hHeld ⊢
        refine pure_ (i := 0) (N := some 41) (v := ?_) (a' := ?_) #[true, false, false, false, false, false, false, false, false, false, false, false, false, false, false, false, false, false, false, false, false, false, false, false, false, false, false, false, false, false, false] rfl rfl (any_of HT_.out (by kernel_rfl)) (fun _ _ _ h => h) (Or.inl ⟨by rfl, ?_⟩) ?_ ?_
        rotate_left
        ·intro w'
         go_simp
         with_reducible rfl
        rotate_left
        ·simp only [Act.put, List.setIfInBounds_toArray, List.set_cons_zero, List.set_cons_succ, i64_w, i32_w]
         rfl
        refine pure_ (i := 1) (N := some 42) (v := ?_) (a' := ?_) #[true, true, false, false, false, false, false, false, false, false, false, false, false, false, false, false, false, false, false, false, false, false, false, false, false, false, false, false, false, false, false] rfl rfl (any_of HT_.out (by kernel_rfl)) (fun _ _ _ h => h) (Or.inl ⟨by rfl, ?_⟩) ?_ ?_
        rotate_left
        ·intro w'
         go_simp
         with_reducible rfl
        rotate_left
        ·simp only [Act.put, List.setIfInBounds_toArray, List.set_cons_zero, List.set_cons_succ, i64_w, i32_w]
         rfl
        refine pure_ (i := 2) (N := some 43) (v := ?_) (a' := ?_) #[true, true, true, false, false, false, false, false, false, false, false, false, false, false, false, false, false, false, false, false, false, false, false, false, false, false, false, false, false, false, false] rfl rfl (any_of HT_.out (by kernel_rfl)) (fun _ _ _ h => h) (Or.inl ⟨by rfl, ?_⟩) ?_ ?_
        rotate_left
        ·intro w'
         go_simp
         with_reducible rfl
        rotate_left
        ·simp only [Act.put, List.setIfInBounds_toArray, List.set_cons_zero, List.set_cons_succ, i64_w, i32_w]
         rfl
        refine pure_ (i := 3) (N := some 44) (v := ?_) (a' := ?_) #[true, true, true, true, false, false, false, false, false, false, false, false, false, false, false, false, false, false, false, false, false, false, false, false, false, false, false, false, false, false, false] rfl rfl (any_of HT_.out (by kernel_rfl)) (fun _ _ _ h => h) (Or.inl ⟨by rfl, ?_⟩) ?_ ?_
        rotate_left
        ·intro w'
         go_simp
         with_reducible rfl
        rotate_left
        ·simp only [Act.put, List.setIfInBounds_toArray, List.set_cons_zero, List.set_cons_succ, i64_w, i32_w]
         rfl
        refine pure_ (i := 4) (N := some 45) (v := ?_) (a' := ?_) #[true, true, true, true, true, false, false, false, false, false, false, false, false, false, false, false, false, false, false, false, false, false, false, false, false, false, false, false, false, false, false] rfl rfl (any_of HT_.out (by kernel_rfl)) (fun _ _ _ h => h) (Or.inl ⟨by rfl, ?_⟩) ?_ ?_
        rotate_left
        ·intro w'
         go_simp
         with_reducible rfl
        rotate_left
        ·simp only [Act.put, List.setIfInBounds_toArray, List.set_cons_zero, List.set_cons_succ, i64_w, i32_w]
         rfl
        refine pure_ (i := 5) (N := some 46) (v := ?_) (a' := ?_) #[true, true, true, true, true, true, false, false, false, false, false, false, false, false, false, false, false, false, false, false, false, false, false, false, false, false, false, false, false, false, false] rfl rfl (any_of HT_.out (by kernel_rfl)) (fun _ _ _ h => h) (Or.inl ⟨by rfl, ?_⟩) ?_ ?_
        rotate_left
        ·intro w'
         go_simp
         with_reducible rfl
        rotate_left
        ·simp only [Act.put, List.setIfInBounds_toArray, List.set_cons_zero, List.set_cons_succ, i64_w, i32_w]
         rfl
        refine pure_ (i := 6) (N := some 47) (v := ?_) (a' := ?_) #[true, true, true, true, true, true, true, false, false, false, false, false, false, false, false, false, false, false, false, false, false, false, false, false, false, false, false, false, false, false, false] rfl rfl (any_of HT_.out (by kernel_rfl)) (fun _ _ _ h => h) (Or.inl ⟨by rfl, ?_⟩) ?_ ?_
        rotate_left
        ·intro w'
         go_simp
         with_reducible rfl
        rotate_left
        ·simp only [Act.put, List.setIfInBounds_toArray, List.set_cons_zero, List.set_cons_succ, i64_w, i32_w]
         rfl
        refine take_ (i := 7) (N := some 48) (v := ?_) (a' := ?_) #[true, true, true, true, true, true, true, true, false, false, false, false, false, false, false, false, false, false, false, false, false, false, false, false, false, false, false, false, false, false, false] rfl rfl (take_ofW HT_.out HW_.out (by kernel_rfl)) (fun _ _ _ h => h) (Or.inl ⟨by rfl, ?_⟩) hHeld ?_ ?_
        rotate_left
        ·rintro w' ⟨s0, s1, s2, s3, s4, s5, s6, s7⟩
         go_simp
         with_reducible rfl
        rotate_left
        ·simp only [Act.put, List.setIfInBounds_toArray, List.set_cons_zero, List.set_cons_succ, i64_w, i32_w]
         rfl
        refine take_ (i := 8) (N := some 49) (v := ?_) (a' := ?_) #[true, true, true, true, true, true, true, true, true, false, false, false, false, false, false, false, false, false, false, false, false, false, false, false, false, false, false, false, false, false, false] rfl rfl (take_ofW HT_.out HW_.out (by kernel_rfl)) (fun _ _ _ h => h) (Or.inl ⟨by rfl, ?_⟩) hHeld ?_ ?_
        rotate_left
        ·rintro w' ⟨s0, s1, s2, s3, s4, s5, s6, s7⟩
         go_simp
         with_reducible rfl
        rotate_left
        ·simp only [Act.put, List.setIfInBounds_toArray, List.set_cons_zero, List.set_cons_succ, i64_w, i32_w]
         rfl
        refine take_ (i := 10) (N := some 51) (v := ?_) (a' := ?_) #[true, true, true, true, true, true, true, true, true, false, true, false, false, false, false, false, false, false, false, false, false, false, false, false, false, false, false, false, false, false, false] rfl rfl (take_ofW HT_.out HW_.out (by kernel_rfl)) (fun _ _ _ h => h) (Or.inl ⟨by rfl, ?_⟩) hHeld ?_ ?_
        rotate_left
        ·rintro w' ⟨s0, s1, s2, s3, s4, s5, s6, s7⟩
         go_simp
         with_reducible rfl
        rotate_left
        ·simp only [Act.put, List.setIfInBounds_toArray, List.set_cons_zero, List.set_cons_succ, i64_w, i32_w]
         rfl
        refine take_ (i := 12) (N := some 53) (v := ?_) (a' := ?_) #[true, true, true, true, true, true, true, true, true, false, true, false, true, false, false, false, false, false, false, false, false, false, false, false, false, false, false, false, false, false, false] rfl rfl (take_ofW HT_.out HW_.out (by kernel_rfl)) (fun _ _ _ h => h) (Or.inl ⟨by rfl, ?_⟩) hHeld ?_ ?_
        rotate_left
        ·rintro w' ⟨s0, s1, s2, s3, s4, s5, s6, s7⟩
         go_simp
         with_reducible rfl
        rotate_left
        ·simp only [Act.put, List.setIfInBounds_toArray, List.set_cons_zero, List.set_cons_succ, i64_w, i32_w]
         rfl
        refine one_ (i := 9) (N := some 50) #[true, true, true, true, true, true, true, true, true, true, true, false, true, false, false, false, false, false, false, false, false, false, false, false, false, false, false, false, false, false, false] rfl rfl (one_of HT_.out (by kernel_rfl)) (by decide) (fun K hK => ?_)
        refine goes_ Tryd.func43 (by kernel_rfl) rfl #[.agg #[.bool a0_0, .slice A0_1 l0_1.length c0_1], .agg #[.bool a1_0, .slice A1_1 l1_1.length c1_1]] (by rfl) rfl rfl (by (try simp only [List.map_toArray, List.map_cons, List.map_nil]); first | done | rfl | (simp only [List.length_drop, List.length_take]; rfl)) ?_
        with_reducible refine (substationlaw01_sum.calls kj4 a0_0 _ _ l0_1 a1_0 _ _ l1_1 t130 t131 _ ?side1 ?side2 ?side3 ?side4 A45.out).mono ?_
        (case side1 => repeat (first | exact (Kd.V_reads' HO_102001.out).2.2 | (with_reducible refine Kd.C_alloc ?_ _) | (with_reducible refine Kd.C_drewN ?_ _) | (with_reducible refine Kd.C_drew ?_)))
        (case side2 => exact (Kd.V_reads' HO_102001.out).2.1)
        (case side3 => repeat (first | exact (Kd.V_reads' HO_103001.out).2.2 | (with_reducible refine Kd.C_alloc ?_ _) | (with_reducible refine Kd.C_drewN ?_ _) | (with_reducible refine Kd.C_drew ?_)))
        (case side4 => exact (Kd.V_reads' HO_103001.out).2.1)
        rintro e w78 ⟨v132, rfl, ho0, hb⟩
        refine ⟨_, rfl, ?_⟩
        have n0_ := Aside0.mk (Kd.V_elder' (by (with_reducible repeat (first | apply Kd.V_alloc | apply Kd.V_drewN | apply Kd.V_drew)); exact HO_102001.out) (Kd.R_base ho0) hb)
        have n1_ := Aside0.mk (Kd.V_elder' (by (with_reducible repeat (first | apply Kd.V_alloc | apply Kd.V_drewN | apply Kd.V_drew)); exact HO_103001.out) (Kd.R_base ho0) hb)
        have n2_ := Aside0.mk (Kd.R_elder' (by (with_reducible repeat (first | apply Kd.R_alloc | apply Kd.R_drewN | apply Kd.R_drew)); exact HO113.out) (Kd.R_base ho0) hb)
        have n3_ := Aside0.mk (Kd.R_elder' (by (with_reducible repeat (first | apply Kd.R_alloc | apply Kd.R_drewN | apply Kd.R_drew)); exact HO119.out) (Kd.R_base ho0) hb)
        have n4_ := Aside0.mk (Kd.R_elder' (by (with_reducible repeat (first | apply Kd.R_alloc | apply Kd.R_drewN | apply Kd.R_drew)); exact HO123.out) (Kd.R_base ho0) hb)
        have n5_ := Aside0.mk (Kd.R_elder' (by (with_reducible repeat (first | apply Kd.R_alloc | apply Kd.R_drewN | apply Kd.R_drew)); exact HO127.out) (Kd.R_base ho0) hb)
        have n6_ := Aside0.mk (Kd.R_lower (Kd.R_new' (Kd.R_new' (Kd.R_new' (Kd.R_new' (Kd.R_newM (M := fun k_ => (w.heap.size ≤ k_)) ho0 (below_size (by repeat (first | (with_reducible first | exact HB.out | apply below_alloc | apply pw_below_drewN | apply below_drew1 | refine below_set ?_ GE101.out | refine below_set ?_ GE102.out | refine below_set ?_ GE115.out | refine below_set ?_ GE129.out) | exact HB.out))) (fun k_ h_ => h_)) (Kd.R_lt (by (with_reducible repeat (first | apply Kd.R_alloc | apply Kd.R_drewN | apply Kd.R_drew)); exact HO113.out))) (Kd.R_lt (by (with_reducible repeat (first | apply Kd.R_alloc | apply Kd.R_drewN | apply Kd.R_drew)); exact HO119.out))) (Kd.R_lt (by (with_reducible repeat (first | apply Kd.R_alloc | apply Kd.R_drewN | apply Kd.R_drew)); exact HO123.out))) (Kd.R_lt (by (with_reducible repeat (first | apply Kd.R_alloc | apply Kd.R_drewN | apply Kd.R_drew)); exact HO127.out))) (below_size (by repeat (first | (with_reducible first | exact HB.out | apply below_alloc | apply pw_below_drewN | apply below_drew1 | refine below_set ?_ GE101.out | refine below_set ?_ GE102.out | refine below_set ?_ GE115.out | refine below_set ?_ GE129.out) | exact HB.out))))
        have n7_ := Aside0.mk (blk_below (g := gb101) (o := .cells #[.bool a0_0, .slice A0_1 l0_1.length c0_1] 27 (0, 0)) (by (with_reducible repeat (first | refine blk_drewN ?_ _ | refine blk_drew ?_ | refine blk_alloc ?_ _)); exact BK101.out) hb)
        have n8_ := Aside0.mk (blk_below (g := gb102) (o := .cells #[.bool a1_0, .slice A1_1 l1_1.length c1_1] 27 (0, 0)) (by (with_reducible repeat (first | refine blk_drewN ?_ _ | refine blk_drew ?_ | refine blk_alloc ?_ _)); exact BK102.out) hb)
        have n9_ := Aside0.mk (blk_below (g := gb115) (o := .cells #[.bool t110, .slice Ao63 t111.length co63] 27 (0, 0)) (by (with_reducible repeat (first | refine blk_drewN ?_ _ | refine blk_drew ?_ | refine blk_alloc ?_ _)); exact BK115.out) hb)
        have n10_ := Aside0.mk (blk_below (g := gb129) (o := .cells #[.bool t124, .slice Ao74 t125.length co74] 27 (0, 0)) (by (with_reducible repeat (first | refine blk_drewN ?_ _ | refine blk_drew ?_ | refine blk_alloc ?_ _)); exact BK129.out) hb)
        have n11_ := Aside0.mk (below_step (by repeat (first | (with_reducible first | exact HB.out | apply below_alloc | apply pw_below_drewN | apply below_drew1 | refine below_set ?_ GE101.out | refine below_set ?_ GE102.out | refine below_set ?_ GE115.out | refine below_set ?_ GE129.out) | exact HB.out)) hb)
        clear HO_102001
        clear HO_103001
        clear HO113
        clear HO119
        clear HO123
        clear HO127
        clear BK101
        clear BK102
        clear BK115
        clear BK129
        clear HB
        have HO_102001 := n0_
        have HO_103001 := n1_
        have HO113 := n2_
        have HO119 := n3_
        have HO123 := n4_
        have HO127 := n5_
        have HO133 := n6_
        have BK101 := n7_
        have BK102 := n8_
        have BK115 := n9_
        have BK129 := n10_
        have HB := n11_
        clear n0_ n1_ n2_ n3_ n4_ n5_ n6_ n7_ n8_ n9_ n10_ n11_
        (try clear hb)
        (try clear hb2)
        (try clear hk)
        (try clear hi)
        (try clear ho0)
        obtain ⟨Ao79, co79, eo79⟩ := Kd.R_slice HO133.out
        (first | subst eo79 | (injection eo79 with f1_ f2_ f3_; have f4_ := f1_.symm; have f5_ := f3_.symm; clear f1_ f2_ f3_; subst f4_; subst f5_))
        refine hK.out _ _ ⟨(blk_cell BK101.out 0).trans rfl, (blk_cell BK101.out 1).trans rfl, (blk_cell BK102.out 0).trans rfl, (blk_cell BK102.out 1).trans rfl, (blk_cell BK115.out 0).trans rfl, (blk_cell BK115.out 1).trans rfl, (blk_cell BK129.out 0).trans rfl, (blk_cell BK129.out 1).trans rfl⟩ (fun hHeld => ?_)
        clear hK K
        refine norm_ (a' := ?_) ?_ ?_
        rotate_left
        ·show Act.put _ (some 50) _ = _
         simp only [Act.put, List.setIfInBounds_toArray, List.set_cons_zero, List.set_cons_succ, i64_w, i32_w]
         rfl
        refine one_ (i := 11) (N := some 52) #[true, true, true, true, true, true, true, true, true, true, true, true, true, false, false, false, false, false, false, false, false, false, false, false, false, false, false, false, false, false, false] rfl rfl (one_of HT_.out (by kernel_rfl)) (by decide) (fun K hK => ?_)
        refine goes_ Tryd.func44 (by kernel_rfl) rfl #[.agg #[.bool t130, .slice Ao79 t131.length co79], .agg #[.bool t110, .slice Ao63 t111.length co63]] (by rfl) rfl rfl (by (try simp only [List.map_toArray, List.map_cons, List.map_nil]); first | done | rfl | (simp only [List.length_drop, List.length_take]; rfl)) ?_
        with_reducible refine (substationlaw01_product.calls kj4 t130 _ _ t131 t110 _ _ t111 t134 t135 _ ?side1 ?side2 ?side3 ?side4 A46.out).mono ?_
        (case side1 => repeat (first | exact (Kd.R_reads' HO133.out).2.2 | (with_reducible refine Kd.C_alloc ?_ _) | (with_reducible refine Kd.C_drewN ?_ _) | (with_reducible refine Kd.C_drew ?_)))
        (case side2 => exact (Kd.R_reads' HO133.out).2.1)
        (case side3 => repeat (first | exact (Kd.R_reads' HO113.out).2.2 | (with_reducible refine Kd.C_alloc ?_ _) | (with_reducible refine Kd.C_drewN ?_ _) | (with_reducible refine Kd.C_drew ?_)))
        (case side4 => exact (Kd.R_reads' HO113.out).2.1)
        rintro e w80 ⟨v136, rfl, ho0, hb⟩
        refine ⟨_, rfl, ?_⟩
        have n0_ := Aside0.mk (Kd.V_elder' (by (with_reducible repeat (first | apply Kd.V_alloc | apply Kd.V_drewN | apply Kd.V_drew)); exact HO_102001.out) (Kd.R_base ho0) hb)
        have n1_ := Aside0.mk (Kd.V_elder' (by (with_reducible repeat (first | apply Kd.V_alloc | apply Kd.V_drewN | apply Kd.V_drew)); exact HO_103001.out) (Kd.R_base ho0) hb)
        have n2_ := Aside0.mk (Kd.R_elder' (by (with_reducible repeat (first | apply Kd.R_alloc | apply Kd.R_drewN | apply Kd.R_drew)); exact HO113.out) (Kd.R_base ho0) hb)
        have n3_ := Aside0.mk (Kd.R_elder' (by (with_reducible repeat (first | apply Kd.R_alloc | apply Kd.R_drewN | apply Kd.R_drew)); exact HO119.out) (Kd.R_base ho0) hb)
        have n4_ := Aside0.mk (Kd.R_elder' (by (with_reducible repeat (first | apply Kd.R_alloc | apply Kd.R_drewN | apply Kd.R_drew)); exact HO123.out) (Kd.R_base ho0) hb)
        have n5_ := Aside0.mk (Kd.R_elder' (by (with_reducible repeat (first | apply Kd.R_alloc | apply Kd.R_drewN | apply Kd.R_drew)); exact HO127.out) (Kd.R_base ho0) hb)
        have n6_ := Aside0.mk (Kd.R_elder' (by (with_reducible repeat (first | apply Kd.R_alloc | apply Kd.R_drewN | apply Kd.R_drew)); exact HO133.out) (Kd.R_base ho0) hb)
        have n7_ := Aside0.mk (Kd.R_lower (Kd.R_new' (Kd.R_new' (Kd.R_new' (Kd.R_new' (Kd.R_new' (Kd.R_newM (M := fun k_ => (w.heap.size ≤ k_)) ho0 (below_size (by repeat (first | (with_reducible first | exact HB.out | apply below_alloc | apply pw_below_drewN | apply below_drew1 | refine below_set ?_ GE101.out | refine below_set ?_ GE102.out | refine below_set ?_ GE115.out | refine below_set ?_ GE129.out) | exact HB.out))) (fun k_ h_ => h_)) (Kd.R_lt (by (with_reducible repeat (first | apply Kd.R_alloc | apply Kd.R_drewN | apply Kd.R_drew)); exact HO113.out))) (Kd.R_lt (by (with_reducible repeat (first | apply Kd.R_alloc | apply Kd.R_drewN | apply Kd.R_drew)); exact HO119.out))) (Kd.R_lt (by (with_reducible repeat (first | apply Kd.R_alloc | apply Kd.R_drewN | apply Kd.R_drew)); exact HO123.out))) (Kd.R_lt (by (with_reducible repeat (first | apply Kd.R_alloc | apply Kd.R_drewN | apply Kd.R_drew)); exact HO127.out))) (Kd.R_lt (by (with_reducible repeat (first | apply Kd.R_alloc | apply Kd.R_drewN | apply Kd.R_drew)); exact HO133.out))) (below_size (by repeat (first | (with_reducible first | exact HB.out | apply below_alloc | apply pw_below_drewN | apply below_drew1 | refine below_set ?_ GE101.out | refine below_set ?_ GE102.out | refine below_set ?_ GE115.out | refine below_set ?_ GE129.out) | exact HB.out))))
        have n8_ := Aside0.mk (blk_below (g := gb101) (o := .cells #[.bool a0_0, .slice A0_1 l0_1.length c0_1] 27 (0, 0)) (by (with_reducible repeat (first | refine blk_drewN ?_ _ | refine blk_drew ?_ | refine blk_alloc ?_ _)); exact BK101.out) hb)
        have n9_ := Aside0.mk (blk_below (g := gb102) (o := .cells #[.bool a1_0, .slice A1_1 l1_1.length c1_1] 27 (0, 0)) (by (with_reducible repeat (first | refine blk_drewN ?_ _ | refine blk_drew ?_ | refine blk_alloc ?_ _)); exact BK102.out) hb)
        have n10_ := Aside0.mk (blk_below (g := gb115) (o := .cells #[.bool t110, .slice Ao63 t111.length co63] 27 (0, 0)) (by (with_reducible repeat (first | refine blk_drewN ?_ _ | refine blk_drew ?_ | refine blk_alloc ?_ _)); exact BK115.out) hb)
        have n11_ := Aside0.mk (blk_below (g := gb129) (o := .cells #[.bool t124, .slice Ao74 t125.length co74] 27 (0, 0)) (by (with_reducible repeat (first | refine blk_drewN ?_ _ | refine blk_drew ?_ | refine blk_alloc ?_ _)); exact BK129.out) hb)
        have n12_ := Aside0.mk (below_step (by repeat (first | (with_reducible first | exact HB.out | apply below_alloc | apply pw_below_drewN | apply below_drew1 | refine below_set ?_ GE101.out | refine below_set ?_ GE102.out | refine below_set ?_ GE115.out | refine below_set ?_ GE129.out) | exact HB.out)) hb)
        clear HO_102001
        clear HO_103001
        clear HO113
        clear HO119
        clear HO123
        clear HO127
        clear HO133
        clear BK101
        clear BK102
        clear BK115
        clear BK129
        clear HB
        have HO_102001 := n0_
        have HO_103001 := n1_
        have HO113 := n2_
        have HO119 := n3_
        have HO123 := n4_
        have HO127 := n5_
        have HO133 := n6_
        have HO137 := n7_
        have BK101 := n8_
        have BK102 := n9_
        have BK115 := n10_
        have BK129 := n11_
        have HB := n12_
        clear n0_ n1_ n2_ n3_ n4_ n5_ n6_ n7_ n8_ n9_ n10_ n11_ n12_
        (try clear hb)
        (try clear hb2)
        (try clear hk)
        (try clear hi)
        (try clear ho0)
        obtain ⟨Ao81, co81, eo81⟩ := Kd.R_slice HO137.out
        (first | subst eo81 | (injection eo81 with f1_ f2_ f3_; have f4_ := f1_.symm; have f5_ := f3_.symm; clear f1_ f2_ f3_; subst f4_; subst f5_))
        refine hK.out _ _ ⟨(blk_cell BK101.out 0).trans rfl, (blk_cell BK101.out 1).trans rfl, (blk_cell BK102.out 0).trans rfl, (blk_cell BK102.out 1).trans rfl, (blk_cell BK115.out 0).trans rfl, (blk_cell BK115.out 1).trans rfl, (blk_cell BK129.out 0).trans rfl, (blk_cell BK129.out 1).trans rfl⟩ (fun hHeld => ?_)
        clear hK K
        refine norm_ (a' := ?_) ?_ ?_
        rotate_left
        ·show Act.put _ (some 52) _ = _
         simp only [Act.put, List.setIfInBounds_toArray, List.set_cons_zero, List.set_cons_succ, i64_w, i32_w]
         rfl
        refine one_ (i := 13) (N := some 54) #[true, true, true, true, true, true, true, true, true, true, true, true, true, true, false, false, false, false, false, false, false, false, false, false, false, false, false, false, false, false, false] rfl rfl (one_of HT_.out (by kernel_rfl)) (by decide) (fun K hK => ?_)
        refine goes_ Tryd.func33 (by kernel_rfl) rfl #[.agg #[.bool t134, .slice Ao81 t135.length co81], .agg #[.bool t124, .slice Ao74 t125.length co74]] (by rfl) rfl rfl (by (try simp only [List.map_toArray, List.map_cons, List.map_nil]); first | done | rfl | (simp only [List.length_drop, List.length_take]; rfl)) ?_
        with_reducible refine (substationref01_Same.calls kj4 t134 _ _ t135 t124 _ _ t125 true _ ?side1 ?side2 ?side3 ?side4 A47.out).mono ?_
        (case side1 => repeat (first | exact (Kd.R_reads' HO137.out).2.2 | (with_reducible refine Kd.C_alloc ?_ _) | (with_reducible refine Kd.C_drewN ?_ _) | (with_reducible refine Kd.C_drew ?_)))
        (case side2 => exact (Kd.R_reads' HO137.out).2.1)
        (case side3 => repeat (first | exact (Kd.R_reads' HO127.out).2.2 | (with_reducible refine Kd.C_alloc ?_ _) | (with_reducible refine Kd.C_drewN ?_ _) | (with_reducible refine Kd.C_drew ?_)))
        (case side4 => exact (Kd.R_reads' HO127.out).2.1)
        rintro e w82 ⟨rfl, hb⟩
        refine ⟨_, rfl, ?_⟩
        have n0_ := Aside0.mk (Kd.V_below (by (with_reducible repeat (first | apply Kd.V_alloc | apply Kd.V_drewN | apply Kd.V_drew)); exact HO_102001.out) hb)
        have n1_ := Aside0.mk (Kd.V_below (by (with_reducible repeat (first | apply Kd.V_alloc | apply Kd.V_drewN | apply Kd.V_drew)); exact HO_103001.out) hb)
        have n2_ := Aside0.mk (Kd.R_below (by (with_reducible repeat (first | apply Kd.R_alloc | apply Kd.R_drewN | apply Kd.R_drew)); exact HO113.out) hb)
        have n3_ := Aside0.mk (Kd.R_below (by (with_reducible repeat (first | apply Kd.R_alloc | apply Kd.R_drewN | apply Kd.R_drew)); exact HO119.out) hb)
        have n4_ := Aside0.mk (Kd.R_below (by (with_reducible repeat (first | apply Kd.R_alloc | apply Kd.R_drewN | apply Kd.R_drew)); exact HO123.out) hb)
        have n5_ := Aside0.mk (Kd.R_below (by (with_reducible repeat (first | apply Kd.R_alloc | apply Kd.R_drewN | apply Kd.R_drew)); exact HO127.out) hb)
        have n6_ := Aside0.mk (Kd.R_below (by (with_reducible repeat (first | apply Kd.R_alloc | apply Kd.R_drewN | apply Kd.R_drew)); exact HO133.out) hb)
        have n7_ := Aside0.mk (Kd.R_below (by (with_reducible repeat (first | apply Kd.R_alloc | apply Kd.R_drewN | apply Kd.R_drew)); exact HO137.out) hb)
        have n8_ := Aside0.mk (blk_below (g := gb101) (o := .cells #[.bool a0_0, .slice A0_1 l0_1.length c0_1] 27 (0, 0)) (by (with_reducible repeat (first | refine blk_drewN ?_ _ | refine blk_drew ?_ | refine blk_alloc ?_ _)); exact BK101.out) hb)
        have n9_ := Aside0.mk (blk_below (g := gb102) (o := .cells #[.bool a1_0, .slice A1_1 l1_1.length c1_1] 27 (0, 0)) (by (with_reducible repeat (first | refine blk_drewN ?_ _ | refine blk_drew ?_ | refine blk_alloc ?_ _)); exact BK102.out) hb)
        have n10_ := Aside0.mk (blk_below (g := gb115) (o := .cells #[.bool t110, .slice Ao63 t111.length co63] 27 (0, 0)) (by (with_reducible repeat (first | refine blk_drewN ?_ _ | refine blk_drew ?_ | refine blk_alloc ?_ _)); exact BK115.out) hb)
        have n11_ := Aside0.mk (blk_below (g := gb129) (o := .cells #[.bool t124, .slice Ao74 t125.length co74] 27 (0, 0)) (by (with_reducible repeat (first | refine blk_drewN ?_ _ | refine blk_drew ?_ | refine blk_alloc ?_ _)); exact BK129.out) hb)
        have n12_ := Aside0.mk (below_step (by repeat (first | (with_reducible first | exact HB.out | apply below_alloc | apply pw_below_drewN | apply below_drew1 | refine below_set ?_ GE101.out | refine below_set ?_ GE102.out | refine below_set ?_ GE115.out | refine below_set ?_ GE129.out) | exact HB.out)) hb)
        clear HO_102001
        clear HO_103001
        clear HO113
        clear HO119
        clear HO123
        clear HO127
        clear HO133
        clear HO137
        clear BK101
        clear BK102
        clear BK115
        clear BK129
        clear HB
        have HO_102001 := n0_
        have HO_103001 := n1_
        have HO113 := n2_
        have HO119 := n3_
        have HO123 := n4_
        have HO127 := n5_
        have HO133 := n6_
        have HO137 := n7_
        have BK101 := n8_
        have BK102 := n9_
        have BK115 := n10_
        have BK129 := n11_
        have HB := n12_
        clear n0_ n1_ n2_ n3_ n4_ n5_ n6_ n7_ n8_ n9_ n10_ n11_ n12_
        (try clear hb)
        (try clear hb2)
        (try clear hk)
        (try clear hi)
        refine hK.out _ _ ⟨(blk_cell BK101.out 0).trans rfl, (blk_cell BK101.out 1).trans rfl, (blk_cell BK102.out 0).trans rfl, (blk_cell BK102.out 1).trans rfl, (blk_cell BK115.out 0).trans rfl, (blk_cell BK115.out 1).trans rfl, (blk_cell BK129.out 0).trans rfl, (blk_cell BK129.out 1).trans rfl⟩ (fun hHeld => ?_)
        clear hK K
        refine norm_ (a' := ?_) ?_ ?_
        rotate_left
        ·show Act.put _ (some 54) _ = _
         simp only [Act.put, List.setIfInBounds_toArray, List.set_cons_zero, List.set_cons_succ, i64_w, i32_w]
         rfl
        refine pure_ (i := 14) (N := some 55) (v := ?_) (a' := ?_) #[true, true, true, true, true, true, true, true, true, true, true, true, true, true, true, false, false, false, false, false, false, false, false, false, false, false, false, false, false, false, false] rfl rfl (any_of HT_.out (by kernel_rfl)) (fun _ _ _ h => h) (Or.inl ⟨by rfl, ?_⟩) ?_ ?_
        rotate_left
        ·intro w'
         go_simp
         with_reducible rfl
        rotate_left
        ·simp only [Act.put, List.setIfInBounds_toArray, List.set_cons_zero, List.set_cons_succ, i64_w, i32_w]
         rfl
        refine pure_ (i := 15) (N := some 56) (v := ?_) (a' := ?_) #[true, true, true, true, true, true, true, true, true, true, true, true, true, true, true, true, false, false, false, false, false, false, false, false, false, false, false, false, false, false, false] rfl rfl (any_of HT_.out (by kernel_rfl)) (fun _ _ _ h => h) (Or.inl ⟨by rfl, ?_⟩) ?_ ?_
        rotate_left
        ·intro w'
         go_simp
         with_reducible rfl
        rotate_left
        ·simp only [Act.put, List.setIfInBounds_toArray, List.set_cons_zero, List.set_cons_succ, i64_w, i32_w]
         rfl
        refine take_ (i := 16) (N := some 57) (v := ?_) (a' := ?_) #[true, true, true, true, true, true, true, true, true, true, true, true, true, true, true, true, true, false, false, false, false, false, false, false, false, false, false, false, false, false, false] rfl rfl (take_ofW HT_.out HW_.out (by kernel_rfl)) (fun _ _ _ h => h) (Or.inl ⟨by rfl, ?_⟩) hHeld ?_ ?_
        rotate_left
        ·rintro w' ⟨s0, s1, s2, s3, s4, s5, s6, s7⟩
         go_simp
         with_reducible rfl
        rotate_left
        ·simp only [Act.put, List.setIfInBounds_toArray, List.set_cons_zero, List.set_cons_succ, i64_w, i32_w]
         rfl
        refine take_ (i := 17) (N := some 58) (v := ?_) (a' := ?_) #[true, true, true, true, true, true, true, true, true, true, true, true, true, true, true, true, true, true, false, false, false, false, false, false, false, false, false, false, false, false, false] rfl rfl (take_ofW HT_.out HW_.out (by kernel_rfl)) (fun _ _ _ h => h) (Or.inl ⟨by rfl, ?_⟩) hHeld ?_ ?_
        rotate_left
        ·rintro w' ⟨s0, s1, s2, s3, s4, s5, s6, s7⟩
         go_simp
         with_reducible rfl
        rotate_left
        ·simp only [Act.put, List.setIfInBounds_toArray, List.set_cons_zero, List.set_cons_succ, i64_w, i32_w]
         rfl
        refine take_ (i := 19) (N := some 60) (v := ?_) (a' := ?_) #[true, true, true, true, true, true, true, true, true, true, true, true, true, true, true, true, true, true, false, true, false, false, false, false, false, false, false, false, false, false, false] rfl rfl (take_ofW HT_.out HW_.out (by kernel_rfl)) (fun _ _ _ h => h) (Or.inl ⟨by rfl, ?_⟩) hHeld ?_ ?_
        rotate_left
        ·rintro w' ⟨s0, s1, s2, s3, s4, s5, s6, s7⟩
         go_simp
         with_reducible rfl
        rotate_left
        ·simp only [Act.put, List.setIfInBounds_toArray, List.set_cons_zero, List.set_cons_succ, i64_w, i32_w]
         rfl
        refine take_ (i := 20) (N := some 61) (v := ?_) (a' := ?_) #[true, true, true, true, true, true, true, true, true, true, true, true, true, true, true, true, true, true, false, true, true, false, false, false, false, false, false, false, false, false, false] rfl rfl (take_ofW HT_.out HW_.out (by kernel_rfl)) (fun _ _ _ h => h) (Or.inl ⟨by rfl, ?_⟩) hHeld ?_ ?_
        rotate_left
        ·rintro w' ⟨s0, s1, s2, s3, s4, s5, s6, s7⟩
         go_simp
         with_reducible rfl
        rotate_left
        ·simp only [Act.put, List.setIfInBounds_toArray, List.set_cons_zero, List.set_cons_succ, i64_w, i32_w]
         rfl
        refine take_ (i := 23) (N := some 64) (v := ?_) (a' := ?_) #[true, true, true, true, true, true, true, true, true, true, true, true, true, true, true, true, true, true, false, true, true, false, false, true, false, false, false, false, false, false, false] rfl rfl (take_ofW HT_.out HW_.out (by kernel_rfl)) (fun _ _ _ h => h) (Or.inl ⟨by rfl, ?_⟩) hHeld ?_ ?_
        rotate_left
        ·rintro w' ⟨s0, s1, s2, s3, s4, s5, s6, s7⟩
         go_simp
         with_reducible rfl
        rotate_left
        ·simp only [Act.put, List.setIfInBounds_toArray, List.set_cons_zero, List.set_cons_succ, i64_w, i32_w]
         rfl
        refine take_ (i := 25) (N := some 66) (v := ?_) (a' := ?_) #[true, true, true, true, true, true, true, true, true, true, true, true, true, true, true, true, true, true, false, true, true, false, false, true, false, true, false, false, false, false, false] rfl rfl (take_ofW HT_.out HW_.out (by kernel_rfl)) (fun _ _ _ h => h) (Or.inl ⟨by rfl, ?_⟩) hHeld ?_ ?_
        rotate_left
        ·rintro w' ⟨s0, s1, s2, s3, s4, s5, s6, s7⟩
         go_simp
         with_reducible rfl
        rotate_left
        ·simp only [Act.put, List.setIfInBounds_toArray, List.set_cons_zero, List.set_cons_succ, i64_w, i32_w]
         rfl
        refine one_ (i := 18) (N := some 59) #[true, true, true, true, true, true, true, true, true, true, true, true, true, true, true, true, true, true, true, true, true, false, false, true, false, true, false, false, false, false, false] rfl rfl (one_of HT_.out (by kernel_rfl)) (by decide) (fun K hK => ?_)
        refine goes_ Tryd.func44 (by kernel_rfl) rfl #[.agg #[.bool a0_0, .slice A0_1 l0_1.length c0_1], .agg #[.bool a0_0, .slice A0_1 l0_1.length c0_1]] (by rfl) rfl rfl (by (try simp only [List.map_toArray, List.map_cons, List.map_nil]); first | done | rfl | (simp only [List.length_drop, List.length_take]; rfl)) ?_
        with_reducible refine (substationlaw01_product.calls kj4 a0_0 _ _ l0_1 a0_0 _ _ l0_1 t139 t140 _ ?side1 ?side2 ?side3 ?side4 A49.out).mono ?_
        (case side1 => repeat (first | exact (Kd.V_reads' HO_102001.out).2.2 | (with_reducible refine Kd.C_alloc ?_ _) | (with_reducible refine Kd.C_drewN ?_ _) | (with_reducible refine Kd.C_drew ?_)))
        (case side2 => exact (Kd.V_reads' HO_102001.out).2.1)
        (case side3 => repeat (first | exact (Kd.V_reads' HO_102001.out).2.2 | (with_reducible refine Kd.C_alloc ?_ _) | (with_reducible refine Kd.C_drewN ?_ _) | (with_reducible refine Kd.C_drew ?_)))
        (case side4 => exact (Kd.V_reads' HO_102001.out).2.1)
        rintro e w83 ⟨v141, rfl, ho0, hb⟩
        refine ⟨_, rfl, ?_⟩
        have n0_ := Aside0.mk (Kd.V_elder' (by (with_reducible repeat (first | apply Kd.V_alloc | apply Kd.V_drewN | apply Kd.V_drew)); exact HO_102001.out) (Kd.R_base ho0) hb)
        have n1_ := Aside0.mk (Kd.V_elder' (by (with_reducible repeat (first | apply Kd.V_alloc | apply Kd.V_drewN | apply Kd.V_drew)); exact HO_103001.out) (Kd.R_base ho0) hb)
        have n2_ := Aside0.mk (Kd.R_elder' (by (with_reducible repeat (first | apply Kd.R_alloc | apply Kd.R_drewN | apply Kd.R_drew)); exact HO113.out) (Kd.R_base ho0) hb)
        have n3_ := Aside0.mk (Kd.R_elder' (by (with_reducible repeat (first | apply Kd.R_alloc | apply Kd.R_drewN | apply Kd.R_drew)); exact HO119.out) (Kd.R_base ho0) hb)
        have n4_ := Aside0.mk (Kd.R_elder' (by (with_reducible repeat (first | apply Kd.R_alloc | apply Kd.R_drewN | apply Kd.R_drew)); exact HO123.out) (Kd.R_base ho0) hb)
        have n5_ := Aside0.mk (Kd.R_elder' (by (with_reducible repeat (first | apply Kd.R_alloc | apply Kd.R_drewN | apply Kd.R_drew)); exact HO127.out) (Kd.R_base ho0) hb)
        have n6_ := Aside0.mk (Kd.R_elder' (by (with_reducible repeat (first | apply Kd.R_alloc | apply Kd.R_drewN | apply Kd.R_drew)); exact HO133.out) (Kd.R_base ho0) hb)
        have n7_ := Aside0.mk (Kd.R_elder' (by (with_reducible repeat (first | apply Kd.R_alloc | apply Kd.R_drewN | apply Kd.R_drew)); exact HO137.out) (Kd.R_base ho0) hb)
        have n8_ := Aside0.mk (Kd.R_lower (Kd.R_new' (Kd.R_new' (Kd.R_new' (Kd.R_new' (Kd.R_new' (Kd.R_new' (Kd.R_newM (M := fun k_ => (w.heap.size ≤ k_)) ho0 (below_size (by repeat (first | (with_reducible first | exact HB.out | apply below_alloc | apply pw_below_drewN | apply below_drew1 | refine below_set ?_ GE101.out | refine below_set ?_ GE102.out | refine below_set ?_ GE115.out | refine below_set ?_ GE129.out) | exact HB.out))) (fun k_ h_ => h_)) (Kd.R_lt (by (with_reducible repeat (first | apply Kd.R_alloc | apply Kd.R_drewN | apply Kd.R_drew)); exact HO113.out))) (Kd.R_lt (by (with_reducible repeat (first | apply Kd.R_alloc | apply Kd.R_drewN | apply Kd.R_drew)); exact HO119.out))) (Kd.R_lt (by (with_reducible repeat (first | apply Kd.R_alloc | apply Kd.R_drewN | apply Kd.R_drew)); exact HO123.out))) (Kd.R_lt (by (with_reducible repeat (first | apply Kd.R_alloc | apply Kd.R_drewN | apply Kd.R_drew)); exact HO127.out))) (Kd.R_lt (by (with_reducible repeat (first | apply Kd.R_alloc | apply Kd.R_drewN | apply Kd.R_drew)); exact HO133.out))) (Kd.R_lt (by (with_reducible repeat (first | apply Kd.R_alloc | apply Kd.R_drewN | apply Kd.R_drew)); exact HO137.out))) (below_size (by repeat (first | (with_reducible first | exact HB.out | apply below_alloc | apply pw_below_drewN | apply below_drew1 | refine below_set ?_ GE101.out | refine below_set ?_ GE102.out | refine below_set ?_ GE115.out | refine below_set ?_ GE129.out) | exact HB.out))))
        have n9_ := Aside0.mk (blk_below (g := gb101) (o := .cells #[.bool a0_0, .slice A0_1 l0_1.length c0_1] 27 (0, 0)) (by (with_reducible repeat (first | refine blk_drewN ?_ _ | refine blk_drew ?_ | refine blk_alloc ?_ _)); exact BK101.out) hb)
        have n10_ := Aside0.mk (blk_below (g := gb102) (o := .cells #[.bool a1_0, .slice A1_1 l1_1.length c1_1] 27 (0, 0)) (by (with_reducible repeat (first | refine blk_drewN ?_ _ | refine blk_drew ?_ | refine blk_alloc ?_ _)); exact BK102.out) hb)
        have n11_ := Aside0.mk (blk_below (g := gb115) (o := .cells #[.bool t110, .slice Ao63 t111.length co63] 27 (0, 0)) (by (with_reducible repeat (first | refine blk_drewN ?_ _ | refine blk_drew ?_ | refine blk_alloc ?_ _)); exact BK115.out) hb)
        have n12_ := Aside0.mk (blk_below (g := gb129) (o := .cells #[.bool t124, .slice Ao74 t125.length co74] 27 (0, 0)) (by (with_reducible repeat (first | refine blk_drewN ?_ _ | refine blk_drew ?_ | refine blk_alloc ?_ _)); exact BK129.out) hb)
        have n13_ := Aside0.mk (below_step (by repeat (first | (with_reducible first | exact HB.out | apply below_alloc | apply pw_below_drewN | apply below_drew1 | refine below_set ?_ GE101.out | refine below_set ?_ GE102.out | refine below_set ?_ GE115.out | refine below_set ?_ GE129.out) | exact HB.out)) hb)
        clear HO_102001
        clear HO_103001
        clear HO113
        clear HO119
        clear HO123
        clear HO127
        clear HO133
        clear HO137
        clear BK101
        clear BK102
        clear BK115
        clear BK129
        clear HB
        have HO_102001 := n0_
        have HO_103001 := n1_
        have HO113 := n2_
        have HO119 := n3_
        have HO123 := n4_
        have HO127 := n5_
        have HO133 := n6_
        have HO137 := n7_
        have HO142 := n8_
        have BK101 := n9_
        have BK102 := n10_
        have BK115 := n11_
        have BK129 := n12_
        have HB := n13_
        clear n0_ n1_ n2_ n3_ n4_ n5_ n6_ n7_ n8_ n9_ n10_ n11_ n12_ n13_
        (try clear hb)
        (try clear hb2)
        (try clear hk)
        (try clear hi)
        (try clear ho0)
        refine hK.out _ _ ⟨(blk_cell BK101.out 0).trans rfl, (blk_cell BK101.out 1).trans rfl, (blk_cell BK102.out 0).trans rfl, (blk_cell BK102.out 1).trans rfl, (blk_cell BK115.out 0).trans rfl, (blk_cell BK115.out 1).trans rfl, (blk_cell BK129.out 0).trans rfl, (blk_cell BK129.out 1).trans rfl⟩ (fun hHeld => ?_)
        clear hK K
        refine norm_ (a' := ?_) ?_ ?_
        rotate_left
        ·show Act.put _ (some 59) _ = _
         simp only [Act.put, List.setIfInBounds_toArray, List.set_cons_zero, List.set_cons_succ, i64_w, i32_w]
         rfl
        refine one_ (i := 21) (N := some 62) #[true, true, true, true, true, true, true, true, true, true, true, true, true, true, true, true, true, true, true, true, true, true, false, true, false, true, false, false, false, false, false] rfl rfl (one_of HT_.out (by kernel_rfl)) (by decide) (fun K hK => ?_)
        refine goes_ Tryd.func44 (by kernel_rfl) rfl #[.agg #[.bool a1_0, .slice A1_1 l1_1.length c1_1], .agg #[.bool a1_0, .slice A1_1 l1_1.length c1_1]] (by rfl) rfl rfl (by (try simp only [List.map_toArray, List.map_cons, List.map_nil]); first | done | rfl | (simp only [List.length_drop, List.length_take]; rfl)) ?_
        with_reducible refine (substationlaw01_product.calls kj4 a1_0 _ _ l1_1 a1_0 _ _ l1_1 t143 t144 _ ?side1 ?side2 ?side3 ?side4 A50.out).mono ?_
        (case side1 => repeat (first | exact (Kd.V_reads' HO_103001.out).2.2 | (with_reducible refine Kd.C_alloc ?_ _) | (with_reducible refine Kd.C_drewN ?_ _) | (with_reducible refine Kd.C_drew ?_)))
        (case side2 => exact (Kd.V_reads' HO_103001.out).2.1)
        (case side3 => repeat (first | exact (Kd.V_reads' HO_103001.out).2.2 | (with_reducible refine Kd.C_alloc ?_ _) | (with_reducible refine Kd.C_drewN ?_ _) | (with_reducible refine Kd.C_drew ?_)))
        (case side4 => exact (Kd.V_reads' HO_103001.out).2.1)
        rintro e w84 ⟨v145, rfl, ho0, hb⟩
        refine ⟨_, rfl, ?_⟩
        have n0_ := Aside0.mk (Kd.V_elder' (by (with_reducible repeat (first | apply Kd.V_alloc | apply Kd.V_drewN | apply Kd.V_drew)); exact HO_102001.out) (Kd.R_base ho0) hb)
        have n1_ := Aside0.mk (Kd.V_elder' (by (with_reducible repeat (first | apply Kd.V_alloc | apply Kd.V_drewN | apply Kd.V_drew)); exact HO_103001.out) (Kd.R_base ho0) hb)
        have n2_ := Aside0.mk (Kd.R_elder' (by (with_reducible repeat (first | apply Kd.R_alloc | apply Kd.R_drewN | apply Kd.R_drew)); exact HO113.out) (Kd.R_base ho0) hb)
        have n3_ := Aside0.mk (Kd.R_elder' (by (with_reducible repeat (first | apply Kd.R_alloc | apply Kd.R_drewN | apply Kd.R_drew)); exact HO119.out) (Kd.R_base ho0) hb)
        have n4_ := Aside0.mk (Kd.R_elder' (by (with_reducible repeat (first | apply Kd.R_alloc | apply Kd.R_drewN | apply Kd.R_drew)); exact HO123.out) (Kd.R_base ho0) hb)
        have n5_ := Aside0.mk (Kd.R_elder' (by (with_reducible repeat (first | apply Kd.R_alloc | apply Kd.R_drewN | apply Kd.R_drew)); exact HO127.out) (Kd.R_base ho0) hb)
        have n6_ := Aside0.mk (Kd.R_elder' (by (with_reducible repeat (first | apply Kd.R_alloc | apply Kd.R_drewN | apply Kd.R_drew)); exact HO133.out) (Kd.R_base ho0) hb)
        have n7_ := Aside0.mk (Kd.R_elder' (by (with_reducible repeat (first | apply Kd.R_alloc | apply Kd.R_drewN | apply Kd.R_drew)); exact HO137.out) (Kd.R_base ho0) hb)
        have n8_ := Aside0.mk (Kd.R_elder' (by (with_reducible repeat (first | apply Kd.R_alloc | apply Kd.R_drewN | apply Kd.R_drew)); exact HO142.out) (Kd.R_base ho0) hb)
        have n9_ := Aside0.mk (Kd.R_lower (Kd.R_new' (Kd.R_new' (Kd.R_new' (Kd.R_new' (Kd.R_new' (Kd.R_new' (Kd.R_new' (Kd.R_newM (M := fun k_ => (w.heap.size ≤ k_)) ho0 (below_size (by repeat (first | (with_reducible first | exact HB.out | apply below_alloc | apply pw_below_drewN | apply below_drew1 | refine below_set ?_ GE101.out | refine below_set ?_ GE102.out | refine below_set ?_ GE115.out | refine below_set ?_ GE129.out) | exact HB.out))) (fun k_ h_ => h_)) (Kd.R_lt (by (with_reducible repeat (first | apply Kd.R_alloc | apply Kd.R_drewN | apply Kd.R_drew)); exact HO113.out))) (Kd.R_lt (by (with_reducible repeat (first | apply Kd.R_alloc | apply Kd.R_drewN | apply Kd.R_drew)); exact HO119.out))) (Kd.R_lt (by (with_reducible repeat (first | apply Kd.R_alloc | apply Kd.R_drewN | apply Kd.R_drew)); exact HO123.out))) (Kd.R_lt (by (with_reducible repeat (first | apply Kd.R_alloc | apply Kd.R_drewN | apply Kd.R_drew)); exact HO127.out))) (Kd.R_lt (by (with_reducible repeat (first | apply Kd.R_alloc | apply Kd.R_drewN | apply Kd.R_drew)); exact HO133.out))) (Kd.R_lt (by (with_reducible repeat (first | apply Kd.R_alloc | apply Kd.R_drewN | apply Kd.R_drew)); exact HO137.out))) (Kd.R_lt (by (with_reducible repeat (first | apply Kd.R_alloc | apply Kd.R_drewN | apply Kd.R_drew)); exact HO142.out))) (below_size (by repeat (first | (with_reducible first | exact HB.out | apply below_alloc | apply pw_below_drewN | apply below_drew1 | refine below_set ?_ GE101.out | refine below_set ?_ GE102.out | refine below_set ?_ GE115.out | refine below_set ?_ GE129.out) | exact HB.out))))
        have n10_ := Aside0.mk (blk_below (g := gb101) (o := .cells #[.bool a0_0, .slice A0_1 l0_1.length c0_1] 27 (0, 0)) (by (with_reducible repeat (first | refine blk_drewN ?_ _ | refine blk_drew ?_ | refine blk_alloc ?_ _)); exact BK101.out) hb)
        have n11_ := Aside0.mk (blk_below (g := gb102) (o := .cells #[.bool a1_0, .slice A1_1 l1_1.length c1_1] 27 (0, 0)) (by (with_reducible repeat (first | refine blk_drewN ?_ _ | refine blk_drew ?_ | refine blk_alloc ?_ _)); exact BK102.out) hb)
        have n12_ := Aside0.mk (blk_below (g := gb115) (o := .cells #[.bool t110, .slice Ao63 t111.length co63] 27 (0, 0)) (by (with_reducible repeat (first | refine blk_drewN ?_ _ | refine blk_drew ?_ | refine blk_alloc ?_ _)); exact BK115.out) hb)
        have n13_ := Aside0.mk (blk_below (g := gb129) (o := .cells #[.bool t124, .slice Ao74 t125.length co74] 27 (0, 0)) (by (with_reducible repeat (first | refine blk_drewN ?_ _ | refine blk_drew ?_ | refine blk_alloc ?_ _)); exact BK129.out) hb)
        have n14_ := Aside0.mk (below_step (by repeat (first | (with_reducible first | exact HB.out | apply below_alloc | apply pw_below_drewN | apply below_drew1 | refine below_set ?_ GE101.out | refine below_set ?_ GE102.out | refine below_set ?_ GE115.out | refine below_set ?_ GE129.out) | exact HB.out)) hb)
        clear HO_102001
        clear HO_103001
        clear HO113
        clear HO119
        clear HO123
        clear HO127
        clear HO133
        clear HO137
        clear HO142
        clear BK101
        clear BK102
        clear BK115
        clear BK129
        clear HB
        have HO_102001 := n0_
        have HO_103001 := n1_
        have HO113 := n2_
        have HO119 := n3_
        have HO123 := n4_
        have HO127 := n5_
        have HO133 := n6_
        have HO137 := n7_
        have HO142 := n8_
        have HO146 := n9_
        have BK101 := n10_
        have BK102 := n11_
        have BK115 := n12_
        have BK129 := n13_
        have HB := n14_
        clear n0_ n1_ n2_ n3_ n4_ n5_ n6_ n7_ n8_ n9_ n10_ n11_ n12_ n13_ n14_
        (try clear hb)
        (try clear hb2)
        (try clear hk)
        (try clear hi)
        (try clear ho0)
        obtain ⟨Ao85, co85, eo85⟩ := Kd.R_slice HO142.out
        (first | subst eo85 | (injection eo85 with f1_ f2_ f3_; have f4_ := f1_.symm; have f5_ := f3_.symm; clear f1_ f2_ f3_; subst f4_; subst f5_))
        obtain ⟨Ao86, co86, eo86⟩ := Kd.R_slice HO146.out
        (first | subst eo86 | (injection eo86 with f1_ f2_ f3_; have f4_ := f1_.symm; have f5_ := f3_.symm; clear f1_ f2_ f3_; subst f4_; subst f5_))
        refine hK.out _ _ ⟨(blk_cell BK101.out 0).trans rfl, (blk_cell BK101.out 1).trans rfl, (blk_cell BK102.out 0).trans rfl, (blk_cell BK102.out 1).trans rfl, (blk_cell BK115.out 0).trans rfl, (blk_cell BK115.out 1).trans rfl, (blk_cell BK129.out 0).trans rfl, (blk_cell BK129.out 1).trans rfl⟩ (fun hHeld => ?_)
        clear hK K
        refine norm_ (a' := ?_) ?_ ?_
        rotate_left
        ·show Act.put _ (some 62) _ = _
         simp only [Act.put, List.setIfInBounds_toArray, List.set_cons_zero, List.set_cons_succ, i64_w, i32_w]
         rfl
        refine one_ (i := 22) (N := some 63) #[true, true, true, true, true, true, true, true, true, true, true, true, true, true, true, true, true, true, true, true, true, true, true, true, false, true, false, false, false, false, false] rfl rfl (one_of HT_.out (by kernel_rfl)) (by decide) (fun K hK => ?_)
        refine goes_ Tryd.func27 (by kernel_rfl) rfl #[.agg #[.bool t139, .slice Ao85 t140.length co85], .agg #[.bool t143, .slice Ao86 t144.length co86]] (by rfl) rfl rfl (by (try simp only [List.map_toArray, List.map_cons, List.map_nil]); first | done | rfl | (simp only [List.length_drop, List.length_take]; rfl)) ?_
        with_reducible refine (integer_Compare.calls kj4 t139 _ _ t140 t143 _ _ t144 t147 _ ?side1 ?side2 ?side3 ?side4 A51.out).mono ?_
        (case side1 => repeat (first | exact (Kd.R_reads' HO142.out).2.2 | (with_reducible refine Kd.C_alloc ?_ _) | (with_reducible refine Kd.C_drewN ?_ _) | (with_reducible refine Kd.C_drew ?_)))
        (case side2 => exact (Kd.R_reads' HO142.out).2.1)
        (case side3 => repeat (first | exact (Kd.R_reads' HO146.out).2.2 | (with_reducible refine Kd.C_alloc ?_ _) | (with_reducible refine Kd.C_drewN ?_ _) | (with_reducible refine Kd.C_drew ?_)))
        (case side4 => exact (Kd.R_reads' HO146.out).2.1)
        rintro e w87 ⟨rfl, hb⟩
        refine ⟨_, rfl, ?_⟩
        have n0_ := Aside0.mk (Kd.V_below (by (with_reducible repeat (first | apply Kd.V_alloc | apply Kd.V_drewN | apply Kd.V_drew)); exact HO_102001.out) hb)
        have n1_ := Aside0.mk (Kd.V_below (by (with_reducible repeat (first | apply Kd.V_alloc | apply Kd.V_drewN | apply Kd.V_drew)); exact HO_103001.out) hb)
        have n2_ := Aside0.mk (Kd.R_below (by (with_reducible repeat (first | apply Kd.R_alloc | apply Kd.R_drewN | apply Kd.R_drew)); exact HO113.out) hb)
        have n3_ := Aside0.mk (Kd.R_below (by (with_reducible repeat (first | apply Kd.R_alloc | apply Kd.R_drewN | apply Kd.R_drew)); exact HO119.out) hb)
        have n4_ := Aside0.mk (Kd.R_below (by (with_reducible repeat (first | apply Kd.R_alloc | apply Kd.R_drewN | apply Kd.R_drew)); exact HO123.out) hb)
        have n5_ := Aside0.mk (Kd.R_below (by (with_reducible repeat (first | apply Kd.R_alloc | apply Kd.R_drewN | apply Kd.R_drew)); exact HO127.out) hb)
        have n6_ := Aside0.mk (Kd.R_below (by (with_reducible repeat (first | apply Kd.R_alloc | apply Kd.R_drewN | apply Kd.R_drew)); exact HO133.out) hb)
        have n7_ := Aside0.mk (Kd.R_below (by (with_reducible repeat (first | apply Kd.R_alloc | apply Kd.R_drewN | apply Kd.R_drew)); exact HO137.out) hb)
        have n8_ := Aside0.mk (Kd.R_below (by (with_reducible repeat (first | apply Kd.R_alloc | apply Kd.R_drewN | apply Kd.R_drew)); exact HO142.out) hb)
        have n9_ := Aside0.mk (Kd.R_below (by (with_reducible repeat (first | apply Kd.R_alloc | apply Kd.R_drewN | apply Kd.R_drew)); exact HO146.out) hb)
        have n10_ := Aside0.mk (blk_below (g := gb101) (o := .cells #[.bool a0_0, .slice A0_1 l0_1.length c0_1] 27 (0, 0)) (by (with_reducible repeat (first | refine blk_drewN ?_ _ | refine blk_drew ?_ | refine blk_alloc ?_ _)); exact BK101.out) hb)
        have n11_ := Aside0.mk (blk_below (g := gb102) (o := .cells #[.bool a1_0, .slice A1_1 l1_1.length c1_1] 27 (0, 0)) (by (with_reducible repeat (first | refine blk_drewN ?_ _ | refine blk_drew ?_ | refine blk_alloc ?_ _)); exact BK102.out) hb)
        have n12_ := Aside0.mk (blk_below (g := gb115) (o := .cells #[.bool t110, .slice Ao63 t111.length co63] 27 (0, 0)) (by (with_reducible repeat (first | refine blk_drewN ?_ _ | refine blk_drew ?_ | refine blk_alloc ?_ _)); exact BK115.out) hb)
        have n13_ := Aside0.mk (blk_below (g := gb129) (o := .cells #[.bool t124, .slice Ao74 t125.length co74] 27 (0, 0)) (by (with_reducible repeat (first | refine blk_drewN ?_ _ | refine blk_drew ?_ | refine blk_alloc ?_ _)); exact BK129.out) hb)
        have n14_ := Aside0.mk (below_step (by repeat (first | (with_reducible first | exact HB.out | apply below_alloc | apply pw_below_drewN | apply below_drew1 | refine below_set ?_ GE101.out | refine below_set ?_ GE102.out | refine below_set ?_ GE115.out | refine below_set ?_ GE129.out) | exact HB.out)) hb)
        clear HO_102001
        clear HO_103001
        clear HO113
        clear HO119
        clear HO123
        clear HO127
        clear HO133
        clear HO137
        clear HO142
        clear HO146
        clear BK101
        clear BK102
        clear BK115
        clear BK129
        clear HB
        have HO_102001 := n0_
        have HO_103001 := n1_
        have HO113 := n2_
        have HO119 := n3_
        have HO123 := n4_
        have HO127 := n5_
        have HO133 := n6_
        have HO137 := n7_
        have HO142 := n8_
        have HO146 := n9_
        have BK101 := n10_
        have BK102 := n11_
        have BK115 := n12_
        have BK129 := n13_
        have HB := n14_
        clear n0_ n1_ n2_ n3_ n4_ n5_ n6_ n7_ n8_ n9_ n10_ n11_ n12_ n13_ n14_
        (try clear hb)
        (try clear hb2)
        (try clear hk)
        (try clear hi)
        refine hK.out _ _ ⟨(blk_cell BK101.out 0).trans rfl, (blk_cell BK101.out 1).trans rfl, (blk_cell BK102.out 0).trans rfl, (blk_cell BK102.out 1).trans rfl, (blk_cell BK115.out 0).trans rfl, (blk_cell BK115.out 1).trans rfl, (blk_cell BK129.out 0).trans rfl, (blk_cell BK129.out 1).trans rfl⟩ (fun hHeld => ?_)
        clear hK K
        refine norm_ (a' := ?_) ?_ ?_
        rotate_left
        ·show Act.put _ (some 63) _ = _
         simp only [Act.put, List.setIfInBounds_toArray, List.set_cons_zero, List.set_cons_succ, i64_w, i32_w]
         rfl
        refine one_ (i := 24) (N := some 65) #[true, true, true, true, true, true, true, true, true, true, true, true, true, true, true, true, true, true, true, true, true, true, true, true, true, true, false, false, false, false, false] rfl rfl (one_of HT_.out (by kernel_rfl)) (by decide) (fun K hK => ?_)
        refine goes_ Tryd.func45 (by kernel_rfl) rfl #[.agg #[.bool a0_0, .slice A0_1 l0_1.length c0_1]] (by rfl) rfl rfl (by (try simp only [List.map_toArray, List.map_cons, List.map_nil]); first | done | rfl | (simp only [List.length_drop, List.length_take]; rfl)) ?_
        with_reducible refine (substationref01_Size.calls kj4 a0_0 _ _ l0_1 t148 t149 _ ?side1 ?side2 A52.out).mono ?_
        (case side1 => repeat (first | exact (Kd.V_reads' HO_102001.out).2.2 | (with_reducible refine Kd.C_alloc ?_ _) | (with_reducible refine Kd.C_drewN ?_ _) | (with_reducible refine Kd.C_drew ?_)))
        (case side2 => exact (Kd.V_reads' HO_102001.out).2.1)
        rintro e w88 ⟨v150, rfl, ho0, hb⟩
        refine ⟨_, rfl, ?_⟩
        have n0_ := Aside0.mk (Kd.V_elder' (by (with_reducible repeat (first | apply Kd.V_alloc | apply Kd.V_drewN | apply Kd.V_drew)); exact HO_102001.out) (Kd.R_base ho0) hb)
        have n1_ := Aside0.mk (Kd.V_elder' (by (with_reducible repeat (first | apply Kd.V_alloc | apply Kd.V_drewN | apply Kd.V_drew)); exact HO_103001.out) (Kd.R_base ho0) hb)
        have n2_ := Aside0.mk (Kd.R_elder' (by (with_reducible repeat (first | apply Kd.R_alloc | apply Kd.R_drewN | apply Kd.R_drew)); exact HO113.out) (Kd.R_base ho0) hb)
        have n3_ := Aside0.mk (Kd.R_elder' (by (with_reducible repeat (first | apply Kd.R_alloc | apply Kd.R_drewN | apply Kd.R_drew)); exact HO119.out) (Kd.R_base ho0) hb)
        have n4_ := Aside0.mk (Kd.R_elder' (by (with_reducible repeat (first | apply Kd.R_alloc | apply Kd.R_drewN | apply Kd.R_drew)); exact HO123.out) (Kd.R_base ho0) hb)
        have n5_ := Aside0.mk (Kd.R_elder' (by (with_reducible repeat (first | apply Kd.R_alloc | apply Kd.R_drewN | apply Kd.R_drew)); exact HO127.out) (Kd.R_base ho0) hb)
        have n6_ := Aside0.mk (Kd.R_elder' (by (with_reducible repeat (first | apply Kd.R_alloc | apply Kd.R_drewN | apply Kd.R_drew)); exact HO133.out) (Kd.R_base ho0) hb)
        have n7_ := Aside0.mk (Kd.R_elder' (by (with_reducible repeat (first | apply Kd.R_alloc | apply Kd.R_drewN | apply Kd.R_drew)); exact HO137.out) (Kd.R_base ho0) hb)
        have n8_ := Aside0.mk (Kd.R_elder' (by (with_reducible repeat (first | apply Kd.R_alloc | apply Kd.R_drewN | apply Kd.R_drew)); exact HO142.out) (Kd.R_base ho0) hb)
        have n9_ := Aside0.mk (Kd.R_elder' (by (with_reducible repeat (first | apply Kd.R_alloc | apply Kd.R_drewN | apply Kd.R_drew)); exact HO146.out) (Kd.R_base ho0) hb)
        have n10_ := Aside0.mk (Kd.R_lower (Kd.R_new' (Kd.R_new' (Kd.R_new' (Kd.R_new' (Kd.R_new' (Kd.R_new' (Kd.R_new' (Kd.R_new' (Kd.R_newM (M := fun k_ => (w.heap.size ≤ k_)) ho0 (below_size (by repeat (first | (with_reducible first | exact HB.out | apply below_alloc | apply pw_below_drewN | apply below_drew1 | refine below_set ?_ GE101.out | refine below_set ?_ GE102.out | refine below_set ?_ GE115.out | refine below_set ?_ GE129.out) | exact HB.out))) (fun k_ h_ => h_)) (Kd.R_lt (by (with_reducible repeat (first | apply Kd.R_alloc | apply Kd.R_drewN | apply Kd.R_drew)); exact HO113.out))) (Kd.R_lt (by (with_reducible repeat (first | apply Kd.R_alloc | apply Kd.R_drewN | apply Kd.R_drew)); exact HO119.out))) (Kd.R_lt (by (with_reducible repeat (first | apply Kd.R_alloc | apply Kd.R_drewN | apply Kd.R_drew)); exact HO123.out))) (Kd.R_lt (by (with_reducible repeat (first | apply Kd.R_alloc | apply Kd.R_drewN | apply Kd.R_drew)); exact HO127.out))) (Kd.R_lt (by (with_reducible repeat (first | apply Kd.R_alloc | apply Kd.R_drewN | apply Kd.R_drew)); exact HO133.out))) (Kd.R_lt (by (with_reducible repeat (first | apply Kd.R_alloc | apply Kd.R_drewN | apply Kd.R_drew)); exact HO137.out))) (Kd.R_lt (by (with_reducible repeat (first | apply Kd.R_alloc | apply Kd.R_drewN | apply Kd.R_drew)); exact HO142.out))) (Kd.R_lt (by (with_reducible repeat (first | apply Kd.R_alloc | apply Kd.R_drewN | apply Kd.R_drew)); exact HO146.out))) (below_size (by repeat (first | (with_reducible first | exact HB.out | apply below_alloc | apply pw_below_drewN | apply below_drew1 | refine below_set ?_ GE101.out | refine below_set ?_ GE102.out | refine below_set ?_ GE115.out | refine below_set ?_ GE129.out) | exact HB.out))))
        have n11_ := Aside0.mk (blk_below (g := gb101) (o := .cells #[.bool a0_0, .slice A0_1 l0_1.length c0_1] 27 (0, 0)) (by (with_reducible repeat (first | refine blk_drewN ?_ _ | refine blk_drew ?_ | refine blk_alloc ?_ _)); exact BK101.out) hb)
        have n12_ := Aside0.mk (blk_below (g := gb102) (o := .cells #[.bool a1_0, .slice A1_1 l1_1.length c1_1] 27 (0, 0)) (by (with_reducible repeat (first | refine blk_drewN ?_ _ | refine blk_drew ?_ | refine blk_alloc ?_ _)); exact BK102.out) hb)
        have n13_ := Aside0.mk (blk_below (g := gb115) (o := .cells #[.bool t110, .slice Ao63 t111.length co63] 27 (0, 0)) (by (with_reducible repeat (first | refine blk_drewN ?_ _ | refine blk_drew ?_ | refine blk_alloc ?_ _)); exact BK115.out) hb)
        have n14_ := Aside0.mk (blk_below (g := gb129) (o := .cells #[.bool t124, .slice Ao74 t125.length co74] 27 (0, 0)) (by (with_reducible repeat (first | refine blk_drewN ?_ _ | refine blk_drew ?_ | refine blk_alloc ?_ _)); exact BK129.out) hb)
        have n15_ := Aside0.mk (below_step (by repeat (first | (with_reducible first | exact HB.out | apply below_alloc | apply pw_below_drewN | apply below_drew1 | refine below_set ?_ GE101.out | refine below_set ?_ GE102.out | refine below_set ?_ GE115.out | refine below_set ?_ GE129.out) | exact HB.out)) hb)
        clear HO_102001
        clear HO_103001
        clear HO113
        clear HO119
        clear HO123
        clear HO127
        clear HO133
        clear HO137
        clear HO142
        clear HO146
        clear BK101
        clear BK102
        clear BK115
        clear BK129
        clear HB
        have HO_102001 := n0_
        have HO_103001 := n1_
        have HO113 := n2_
        have HO119 := n3_
        have HO123 := n4_
        have HO127 := n5_
        have HO133 := n6_
        have HO137 := n7_
        have HO142 := n8_
        have HO146 := n9_
        have HO151 := n10_
        have BK101 := n11_
        have BK102 := n12_
        have BK115 := n13_
        have BK129 := n14_
        have HB := n15_
        clear n0_ n1_ n2_ n3_ n4_ n5_ n6_ n7_ n8_ n9_ n10_ n11_ n12_ n13_ n14_ n15_
        (try clear hb)
        (try clear hb2)
        (try clear hk)
        (try clear hi)
        (try clear ho0)
        refine hK.out _ _ ⟨(blk_cell BK101.out 0).trans rfl, (blk_cell BK101.out 1).trans rfl, (blk_cell BK102.out 0).trans rfl, (blk_cell BK102.out 1).trans rfl, (blk_cell BK115.out 0).trans rfl, (blk_cell BK115.out 1).trans rfl, (blk_cell BK129.out 0).trans rfl, (blk_cell BK129.out 1).trans rfl⟩ (fun hHeld => ?_)
        clear hK K
        refine norm_ (a' := ?_) ?_ ?_
        rotate_left
        ·show Act.put _ (some 65) _ = _
         simp only [Act.put, List.setIfInBounds_toArray, List.set_cons_zero, List.set_cons_succ, i64_w, i32_w]
         rfl
        refine one_ (i := 26) (N := some 67) #[true, true, true, true, true, true, true, true, true, true, true, true, true, true, true, true, true, true, true, true, true, true, true, true, true, true, true, false, false, false, false] rfl rfl (one_of HT_.out (by kernel_rfl)) (by decide) (fun K hK => ?_)
        refine goes_ Tryd.func45 (by kernel_rfl) rfl #[.agg #[.bool a1_0, .slice A1_1 l1_1.length c1_1]] (by rfl) rfl rfl (by (try simp only [List.map_toArray, List.map_cons, List.map_nil]); first | done | rfl | (simp only [List.length_drop, List.length_take]; rfl)) ?_
        with_reducible refine (substationref01_Size.calls kj4 a1_0 _ _ l1_1 t152 t153 _ ?side1 ?side2 A53.out).mono ?_
        (case side1 => repeat (first | exact (Kd.V_reads' HO_103001.out).2.2 | (with_reducible refine Kd.C_alloc ?_ _) | (with_reducible refine Kd.C_drewN ?_ _) | (with_reducible refine Kd.C_drew ?_)))
        (case side2 => exact (Kd.V_reads' HO_103001.out).2.1)
        rintro e w89 ⟨v154, rfl, ho0, hb⟩
        refine ⟨_, rfl, ?_⟩
        have n0_ := Aside0.mk (Kd.V_elder' (by (with_reducible repeat (first | apply Kd.V_alloc | apply Kd.V_drewN | apply Kd.V_drew)); exact HO_102001.out) (Kd.R_base ho0) hb)
        have n1_ := Aside0.mk (Kd.V_elder' (by (with_reducible repeat (first | apply Kd.V_alloc | apply Kd.V_drewN | apply Kd.V_drew)); exact HO_103001.out) (Kd.R_base ho0) hb)
        have n2_ := Aside0.mk (Kd.R_elder' (by (with_reducible repeat (first | apply Kd.R_alloc | apply Kd.R_drewN | apply Kd.R_drew)); exact HO113.out) (Kd.R_base ho0) hb)
        have n3_ := Aside0.mk (Kd.R_elder' (by (with_reducible repeat (first | apply Kd.R_alloc | apply Kd.R_drewN | apply Kd.R_drew)); exact HO119.out) (Kd.R_base ho0) hb)
        have n4_ := Aside0.mk (Kd.R_elder' (by (with_reducible repeat (first | apply Kd.R_alloc | apply Kd.R_drewN | apply Kd.R_drew)); exact HO123.out) (Kd.R_base ho0) hb)
        have n5_ := Aside0.mk (Kd.R_elder' (by (with_reducible repeat (first | apply Kd.R_alloc | apply Kd.R_drewN | apply Kd.R_drew)); exact HO127.out) (Kd.R_base ho0) hb)
        have n6_ := Aside0.mk (Kd.R_elder' (by (with_reducible repeat (first | apply Kd.R_alloc | apply Kd.R_drewN | apply Kd.R_drew)); exact HO133.out) (Kd.R_base ho0) hb)
        have n7_ := Aside0.mk (Kd.R_elder' (by (with_reducible repeat (first | apply Kd.R_alloc | apply Kd.R_drewN | apply Kd.R_drew)); exact HO137.out) (Kd.R_base ho0) hb)
        have n8_ := Aside0.mk (Kd.R_elder' (by (with_reducible repeat (first | apply Kd.R_alloc | apply Kd.R_drewN | apply Kd.R_drew)); exact HO142.out) (Kd.R_base ho0) hb)
        have n9_ := Aside0.mk (Kd.R_elder' (by (with_reducible repeat (first | apply Kd.R_alloc | apply Kd.R_drewN | apply Kd.R_drew)); exact HO146.out) (Kd.R_base ho0) hb)
        have n10_ := Aside0.mk (Kd.R_elder' (by (with_reducible repeat (first | apply Kd.R_alloc | apply Kd.R_drewN | apply Kd.R_drew)); exact HO151.out) (Kd.R_base ho0) hb)
        have n11_ := Aside0.mk (Kd.R_lower (Kd.R_new' (Kd.R_new' (Kd.R_new' (Kd.R_new' (Kd.R_new' (Kd.R_new' (Kd.R_new' (Kd.R_new' (Kd.R_new' (Kd.R_newM (M := fun k_ => (w.heap.size ≤ k_)) ho0 (below_size (by repeat (first | (with_reducible first | exact HB.out | apply below_alloc | apply pw_below_drewN | apply below_drew1 | refine below_set ?_ GE101.out | refine below_set ?_ GE102.out | refine below_set ?_ GE115.out | refine below_set ?_ GE129.out) | exact HB.out))) (fun k_ h_ => h_)) (Kd.R_lt (by (with_reducible repeat (first | apply Kd.R_alloc | apply Kd.R_drewN | apply Kd.R_drew)); exact HO113.out))) (Kd.R_lt (by (with_reducible repeat (first | apply Kd.R_alloc | apply Kd.R_drewN | apply Kd.R_drew)); exact HO119.out))) (Kd.R_lt (by (with_reducible repeat (first | apply Kd.R_alloc | apply Kd.R_drewN | apply Kd.R_drew)); exact HO123.out))) (Kd.R_lt (by (with_reducible repeat (first | apply Kd.R_alloc | apply Kd.R_drewN | apply Kd.R_drew)); exact HO127.out))) (Kd.R_lt (by (with_reducible repeat (first | apply Kd.R_alloc | apply Kd.R_drewN | apply Kd.R_drew)); exact HO133.out))) (Kd.R_lt (by (with_reducible repeat (first | apply Kd.R_alloc | apply Kd.R_drewN | apply Kd.R_drew)); exact HO137.out))) (Kd.R_lt (by (with_reducible repeat (first | apply Kd.R_alloc | apply Kd.R_drewN | apply Kd.R_drew)); exact HO142.out))) (Kd.R_lt (by (with_reducible repeat (first | apply Kd.R_alloc | apply Kd.R_drewN | apply Kd.R_drew)); exact HO146.out))) (Kd.R_lt (by (with_reducible repeat (first | apply Kd.R_alloc | apply Kd.R_drewN | apply Kd.R_drew)); exact HO151.out))) (below_size (by repeat (first | (with_reducible first | exact HB.out | apply below_alloc | apply pw_below_drewN | apply below_drew1 | refine below_set ?_ GE101.out | refine below_set ?_ GE102.out | refine below_set ?_ GE115.out | refine below_set ?_ GE129.out) | exact HB.out))))
        have n12_ := Aside0.mk (blk_below (g := gb101) (o := .cells #[.bool a0_0, .slice A0_1 l0_1.length c0_1] 27 (0, 0)) (by (with_reducible repeat (first | refine blk_drewN ?_ _ | refine blk_drew ?_ | refine blk_alloc ?_ _)); exact BK101.out) hb)
        have n13_ := Aside0.mk (blk_below (g := gb102) (o := .cells #[.bool a1_0, .slice A1_1 l1_1.length c1_1] 27 (0, 0)) (by (with_reducible repeat (first | refine blk_drewN ?_ _ | refine blk_drew ?_ | refine blk_alloc ?_ _)); exact BK102.out) hb)
        have n14_ := Aside0.mk (blk_below (g := gb115) (o := .cells #[.bool t110, .slice Ao63 t111.length co63] 27 (0, 0)) (by (with_reducible repeat (first | refine blk_drewN ?_ _ | refine blk_drew ?_ | refine blk_alloc ?_ _)); exact BK115.out) hb)
        have n15_ := Aside0.mk (blk_below (g := gb129) (o := .cells #[.bool t124, .slice Ao74 t125.length co74] 27 (0, 0)) (by (with_reducible repeat (first | refine blk_drewN ?_ _ | refine blk_drew ?_ | refine blk_alloc ?_ _)); exact BK129.out) hb)
        have n16_ := Aside0.mk (below_step (by repeat (first | (with_reducible first | exact HB.out | apply below_alloc | apply pw_below_drewN | apply below_drew1 | refine below_set ?_ GE101.out | refine below_set ?_ GE102.out | refine below_set ?_ GE115.out | refine below_set ?_ GE129.out) | exact HB.out)) hb)
        clear HO_102001
        clear HO_103001
        clear HO113
        clear HO119
        clear HO123
        clear HO127
        clear HO133
        clear HO137
        clear HO142
        clear HO146
        clear HO151
        clear BK101
        clear BK102
        clear BK115
        clear BK129
        clear HB
        have HO_102001 := n0_
        have HO_103001 := n1_
        have HO113 := n2_
        have HO119 := n3_
        have HO123 := n4_
        have HO127 := n5_
        have HO133 := n6_
        have HO137 := n7_
        have HO142 := n8_
        have HO146 := n9_
        have HO151 := n10_
        have HO155 := n11_
        have BK101 := n12_
        have BK102 := n13_
        have BK115 := n14_
        have BK129 := n15_
        have HB := n16_
        clear n0_ n1_ n2_ n3_ n4_ n5_ n6_ n7_ n8_ n9_ n10_ n11_ n12_ n13_ n14_ n15_ n16_
        (try clear hb)
        (try clear hb2)
        (try clear hk)
        (try clear hi)
        (try clear ho0)
        obtain ⟨Ao90, co90, eo90⟩ := Kd.R_slice HO151.out
        (first | subst eo90 | (injection eo90 with f1_ f2_ f3_; have f4_ := f1_.symm; have f5_ := f3_.symm; clear f1_ f2_ f3_; subst f4_; subst f5_))
        obtain ⟨Ao91, co91, eo91⟩ := Kd.R_slice HO155.out
        (first | subst eo91 | (injection eo91 with f1_ f2_ f3_; have f4_ := f1_.symm; have f5_ := f3_.symm; clear f1_ f2_ f3_; subst f4_; subst f5_))
        refine hK.out _ _ ⟨(blk_cell BK101.out 0).trans rfl, (blk_cell BK101.out 1).trans rfl, (blk_cell BK102.out 0).trans rfl, (blk_cell BK102.out 1).trans rfl, (blk_cell BK115.out 0).trans rfl, (blk_cell BK115.out 1).trans rfl, (blk_cell BK129.out 0).trans rfl, (blk_cell BK129.out 1).trans rfl⟩ (fun hHeld => ?_)
        clear hK K
        refine norm_ (a' := ?_) ?_ ?_
        rotate_left
        ·show Act.put _ (some 67) _ = _
         simp only [Act.put, List.setIfInBounds_toArray, List.set_cons_zero, List.set_cons_succ, i64_w, i32_w]
         rfl
        refine one_ (i := 27) (N := some 68) #[true, true, true, true, true, true, true, true, true, true, true, true, true, true, true, true, true, true, true, true, true, true, true, true, true, true, true, true, false, false, false] rfl rfl (one_of HT_.out (by kernel_rfl)) (by decide) (fun K hK => ?_)
        refine goes_ Tryd.func27 (by kernel_rfl) rfl #[.agg #[.bool t148, .slice Ao90 t149.length co90], .agg #[.bool t152, .slice Ao91 t153.length co91]] (by rfl) rfl rfl (by (try simp only [List.map_toArray, List.map_cons, List.map_nil]); first | done | rfl | (simp only [List.length_drop, List.length_take]; rfl)) ?_
        with_reducible refine (integer_Compare.calls kj4 t148 _ _ t149 t152 _ _ t153 t156 _ ?side1 ?side2 ?side3 ?side4 A54.out).mono ?_
        (case side1 => repeat (first | exact (Kd.R_reads' HO151.out).2.2 | (with_reducible refine Kd.C_alloc ?_ _) | (with_reducible refine Kd.C_drewN ?_ _) | (with_reducible refine Kd.C_drew ?_)))
        (case side2 => exact (Kd.R_reads' HO151.out).2.1)
        (case side3 => repeat (first | exact (Kd.R_reads' HO155.out).2.2 | (with_reducible refine Kd.C_alloc ?_ _) | (with_reducible refine Kd.C_drewN ?_ _) | (with_reducible refine Kd.C_drew ?_)))
        (case side4 => exact (Kd.R_reads' HO155.out).2.1)
        rintro e w92 ⟨rfl, hb⟩
        refine ⟨_, rfl, ?_⟩
        have n0_ := Aside0.mk (Kd.V_below (by (with_reducible repeat (first | apply Kd.V_alloc | apply Kd.V_drewN | apply Kd.V_drew)); exact HO_102001.out) hb)
        have n1_ := Aside0.mk (Kd.V_below (by (with_reducible repeat (first | apply Kd.V_alloc | apply Kd.V_drewN | apply Kd.V_drew)); exact HO_103001.out) hb)
        have n2_ := Aside0.mk (Kd.R_below (by (with_reducible repeat (first | apply Kd.R_alloc | apply Kd.R_drewN | apply Kd.R_drew)); exact HO113.out) hb)
        have n3_ := Aside0.mk (Kd.R_below (by (with_reducible repeat (first | apply Kd.R_alloc | apply Kd.R_drewN | apply Kd.R_drew)); exact HO119.out) hb)
        have n4_ := Aside0.mk (Kd.R_below (by (with_reducible repeat (first | apply Kd.R_alloc | apply Kd.R_drewN | apply Kd.R_drew)); exact HO123.out) hb)
        have n5_ := Aside0.mk (Kd.R_below (by (with_reducible repeat (first | apply Kd.R_alloc | apply Kd.R_drewN | apply Kd.R_drew)); exact HO127.out) hb)
        have n6_ := Aside0.mk (Kd.R_below (by (with_reducible repeat (first | apply Kd.R_alloc | apply Kd.R_drewN | apply Kd.R_drew)); exact HO133.out) hb)
        have n7_ := Aside0.mk (Kd.R_below (by (with_reducible repeat (first | apply Kd.R_alloc | apply Kd.R_drewN | apply Kd.R_drew)); exact HO137.out) hb)
        have n8_ := Aside0.mk (Kd.R_below (by (with_reducible repeat (first | apply Kd.R_alloc | apply Kd.R_drewN | apply Kd.R_drew)); exact HO142.out) hb)
        have n9_ := Aside0.mk (Kd.R_below (by (with_reducible repeat (first | apply Kd.R_alloc | apply Kd.R_drewN | apply Kd.R_drew)); exact HO146.out) hb)
        have n10_ := Aside0.mk (Kd.R_below (by (with_reducible repeat (first | apply Kd.R_alloc | apply Kd.R_drewN | apply Kd.R_drew)); exact HO151.out) hb)
        have n11_ := Aside0.mk (Kd.R_below (by (with_reducible repeat (first | apply Kd.R_alloc | apply Kd.R_drewN | apply Kd.R_drew)); exact HO155.out) hb)
        have n12_ := Aside0.mk (blk_below (g := gb101) (o := .cells #[.bool a0_0, .slice A0_1 l0_1.length c0_1] 27 (0, 0)) (by (with_reducible repeat (first | refine blk_drewN ?_ _ | refine blk_drew ?_ | refine blk_alloc ?_ _)); exact BK101.out) hb)
        have n13_ := Aside0.mk (blk_below (g := gb102) (o := .cells #[.bool a1_0, .slice A1_1 l1_1.length c1_1] 27 (0, 0)) (by (with_reducible repeat (first | refine blk_drewN ?_ _ | refine blk_drew ?_ | refine blk_alloc ?_ _)); exact BK102.out) hb)
        have n14_ := Aside0.mk (blk_below (g := gb115) (o := .cells #[.bool t110, .slice Ao63 t111.length co63] 27 (0, 0)) (by (with_reducible repeat (first | refine blk_drewN ?_ _ | refine blk_drew ?_ | refine blk_alloc ?_ _)); exact BK115.out) hb)
        have n15_ := Aside0.mk (blk_below (g := gb129) (o := .cells #[.bool t124, .slice Ao74 t125.length co74] 27 (0, 0)) (by (with_reducible repeat (first | refine blk_drewN ?_ _ | refine blk_drew ?_ | refine blk_alloc ?_ _)); exact BK129.out) hb)
        have n16_ := Aside0.mk (below_step (by repeat (first | (with_reducible first | exact HB.out | apply below_alloc | apply pw_below_drewN | apply below_drew1 | refine below_set ?_ GE101.out | refine below_set ?_ GE102.out | refine below_set ?_ GE115.out | refine below_set ?_ GE129.out) | exact HB.out)) hb)
        clear HO_102001
        clear HO_103001
        clear HO113
        clear HO119
        clear HO123
        clear HO127
        clear HO133
        clear HO137
        clear HO142
        clear HO146
        clear HO151
        clear HO155
        clear BK101
        clear BK102
        clear BK115
        clear BK129
        clear HB
        have HO_102001 := n0_
        have HO_103001 := n1_
        have HO113 := n2_
        have HO119 := n3_
        have HO123 := n4_
        have HO127 := n5_
        have HO133 := n6_
        have HO137 := n7_
        have HO142 := n8_
        have HO146 := n9_
        have HO151 := n10_
        have HO155 := n11_
        have BK101 := n12_
        have BK102 := n13_
        have BK115 := n14_
        have BK129 := n15_
        have HB := n16_
        clear n0_ n1_ n2_ n3_ n4_ n5_ n6_ n7_ n8_ n9_ n10_ n11_ n12_ n13_ n14_ n15_ n16_
        (try clear hb)
        (try clear hb2)
        (try clear hk)
        (try clear hi)
        refine hK.out _ _ ⟨(blk_cell BK101.out 0).trans rfl, (blk_cell BK101.out 1).trans rfl, (blk_cell BK102.out 0).trans rfl, (blk_cell BK102.out 1).trans rfl, (blk_cell BK115.out 0).trans rfl, (blk_cell BK115.out 1).trans rfl, (blk_cell BK129.out 0).trans rfl, (blk_cell BK129.out 1).trans rfl⟩ (fun hHeld => ?_)
        clear hK K
        refine norm_ (a' := ?_) ?_ ?_
        rotate_left
        ·show Act.put _ (some 68) _ = _
         simp only [Act.put, List.setIfInBounds_toArray, List.set_cons_zero, List.set_cons_succ, i64_w, i32_w]
         rfl
        refine pure_ (i := 28) (N := some 69) (v := ?_) (a' := ?_) #[true, true, true, true, true, true, true, true, true, true, true, true, true, true, true, true, true, true, true, true, true, true, true, true, true, true, true, true, true, false, false] rfl rfl (any_of HT_.out (by kernel_rfl)) (fun _ _ _ h => h) (Or.inl ⟨by rfl, ?_⟩) ?_ ?_
        rotate_left
        ·intro w'
         go_simp
         with_reducible rfl
        rotate_left
        ·simp only [Act.put, List.setIfInBounds_toArray, List.set_cons_zero, List.set_cons_succ, i64_w, i32_w]
         rfl
        refine pure_ (i := 29) (N := some 70) (v := ?_) (a' := ?_) #[true, true, true, true, true, true, true, true, true, true, true, true, true, true, true, true, true, true, true, true, true, true, true, true, true, true, true, true, true, true, false] rfl rfl (any_of HT_.out (by kernel_rfl)) (fun _ _ _ h => h) (Or.inl ⟨by rfl, ?_⟩) ?_ ?_
        rotate_left
        ·intro w'
         go_simp
         with_reducible rfl
        rotate_left
        ·simp only [Act.put, List.setIfInBounds_toArray, List.set_cons_zero, List.set_cons_succ, i64_w, i32_w]
         rfl
        refine pure_ (i := 30) (N := some 4) (v := ?_) (a' := ?_) #[true, true, true, true, true, true, true, true, true, true, true, true, true, true, true, true, true, true, true, true, true, true, true, true, true, true, true, true, true, true, true] rfl rfl (any_of HT_.out (by kernel_rfl)) (fun _ _ _ h => h) (Or.inl ⟨by rfl, ?_⟩) ?_ ?_
        rotate_left
        ·intro w'
         go_simp
         with_reducible rfl
        rotate_left
        ·simp only [Act.put, List.setIfInBounds_toArray, List.set_cons_zero, List.set_cons_succ, i64_w, i32_w]
         rfl
        refine done_ (done_of HT_.out (by kernel_rfl)) ?_
        try go_wp2
        go_ret
        exact ⟨by first | rfl | (simp [errW_none, errW_some] <;> rfl) | (simp [*, errW_none, errW_some] <;> rfl), by repeat (first | (with_reducible first | exact HB.out | apply below_alloc | apply pw_below_drewN | apply below_drew1 | refine below_set ?_ GE101.out | refine below_set ?_ GE102.out | refine below_set ?_ GE115.out | refine below_set ?_ GE129.out) | exact HB.out)⟩
       ·replace c48 := Bool.eq_false_iff.mpr c48
        subst c48
        have H1 : (some false) = some r := by rw [if_neg (show ¬ (false = true) by decide)] at H; exact H
        clear H
        have H := H1
        clear H1
        exact absurd (hr_.symm.trans (Option.some.inj H).symm) (by decide)
      ·rw [if_neg c44] at H
       have c44b0 : (t128 == 0) = false := beq_eq_false_iff_ne.mpr c44
       have c44b1 : (t128 != 0) = true := bne_iff_ne.mpr c44
       exact absurd (hr_.symm.trans (Option.some.inj H).symm) (by decide)
     ·rw [if_neg c43] at H
      have c43b0 : (t114 == 0) = false := beq_eq_false_iff_ne.mpr c43
      have c43b1 : (t114 != 0) = true := bne_iff_ne.mpr c43
      exact absurd (hr_.symm.trans (Option.some.inj H).symm) (by decide)
 ·replace c4 := Bool.eq_false_iff.mpr c4
  subst c4
  have H1 : (some false) = some r := by rw [if_neg (show ¬ (false = true) by decide)] at H; exact H
  clear H
  have H := H1
  clear H1
  exact absurd (hr_.symm.trans (Option.some.inj H).symm) (by decide)
end Go.Proofs.YtmjceijbbodbfaaDoor.XA
end
