/- A part of the proof of the law twinExactlyOnce_holds: general lemmas, functions of the program as plain functions with proofs that the calls compute them, and what they compute; merged from this session's texts. -/
import Derived.Test.YtnjddjpohobelaaMOnce6
section
namespace Go.Proofs.Ytnjddjpohobelaa.XB
open Go.RowKit Go.Proofs.YtnjddjpohobelaaW.PrintWords Go.Proofs.YtnjddjpohobelaaW.PrintLast Go.Proofs.YtnjddjpohobelaaW.PrintMore
attribute [local go_sem] max2_int min2_int max_two min_two max_three min_three max_four min_four   -- for this text's walks alone
set_option linter.unusedVariables false
set_option linter.unusedSimpArgs false
/-! ### substationlaw16_TwinExactlyOnce: function 3 -/
mutual
def substationlaw16_TwinExactlyOnce.l0 : Nat → Int → Int → List (S30) → Int → List Int → Int → List (S36) → Option (Bool)
 | 0, _, _, _, _, _, _, _ => none
 | k + 1, x0, x1, x2, x7, x8, x10, x108000 => if x10 < (wrap64 (x7 + x1)) then (if x10 < x7 then (if 0 ≤ x10 then (if x10 < (x2.length : Int) then (substationlaw16_TwinExactlyOnce.j1 k x0 x1 x2 x7 x8 x10 (!((rd_T30 x2 x10).f0)) x108000) else (none)) else (none)) else (substationlaw16_TwinExactlyOnce.j1 k x0 x1 x2 x7 x8 x10 false x108000)) else (substationlaw16_TwinExactlyOnce.l1 k x2 x7 x8 0)
def substationlaw16_TwinExactlyOnce.j1 : Nat → Int → Int → List (S30) → Int → List Int → Int → Bool → List (S36) → Option (Bool)
 | 0, _, _, _, _, _, _, _, _ => none
 | k + 1, x0, x1, x2, x7, x8, x10, x46, x108000 => if x46 = true then ((twin_Accept.f x108000 9 (Int.tmod (wrap64 (x0 + x10)) 65536)).bind fun bt109 => (if bt109.2 = true then (if 0 ≤ x10 then (if x10 < (x8.length : Int) then (substationlaw16_TwinExactlyOnce.j2 k x0 x1 x2 x7 (x8.set (x10 : Int).toNat (wrap64 ((rd x8 x10) + 1))) x10 bt109.1) else (none)) else (none)) else (substationlaw16_TwinExactlyOnce.j2 k x0 x1 x2 x7 x8 x10 bt109.1))) else (substationlaw16_TwinExactlyOnce.j2 k x0 x1 x2 x7 x8 x10 x108000)
def substationlaw16_TwinExactlyOnce.j2 : Nat → Int → Int → List (S30) → Int → List Int → Int → List (S36) → Option (Bool)
 | 0, _, _, _, _, _, _, _ => none
 | k + 1, x0, x1, x2, x7, x8, x10, x108000 => if x10 ≥ x1 then (if (wrap64 (x10 - x1)) < x7 then (if 0 ≤ (wrap64 (x10 - x1)) then (if (wrap64 (x10 - x1)) < (x2.length : Int) then (substationlaw16_TwinExactlyOnce.j3 k x0 x1 x2 x7 x8 x10 (!((rd_T30 x2 (wrap64 (x10 - x1))).f1)) x108000) else (none)) else (none)) else (substationlaw16_TwinExactlyOnce.j3 k x0 x1 x2 x7 x8 x10 false x108000)) else (substationlaw16_TwinExactlyOnce.j3 k x0 x1 x2 x7 x8 x10 false x108000)
def substationlaw16_TwinExactlyOnce.j3 : Nat → Int → Int → List (S30) → Int → List Int → Int → Bool → List (S36) → Option (Bool)
 | 0, _, _, _, _, _, _, _, _ => none
 | k + 1, x0, x1, x2, x7, x8, x10, x83, x108000 => if x83 = true then ((twin_Accept.f x108000 9 (Int.tmod (wrap64 ((wrap64 (x0 + x10)) - x1)) 65536)).bind fun bt117 => (if bt117.2 = true then (if 0 ≤ (wrap64 (x10 - x1)) then (if (wrap64 (x10 - x1)) < (x8.length : Int) then (substationlaw16_TwinExactlyOnce.l0 k x0 x1 x2 x7 (x8.set ((wrap64 (x10 - x1)) : Int).toNat (wrap64 ((rd x8 (wrap64 (x10 - x1))) + 1))) (wrap64 (x10 + 1)) bt117.1) else (none)) else (none)) else (substationlaw16_TwinExactlyOnce.l0 k x0 x1 x2 x7 x8 (wrap64 (x10 + 1)) bt117.1))) else (substationlaw16_TwinExactlyOnce.l0 k x0 x1 x2 x7 x8 (wrap64 (x10 + 1)) x108000)
def substationlaw16_TwinExactlyOnce.l1 : Nat → List (S30) → Int → List Int → Int → Option (Bool)
 | 0, _, _, _, _ => none
 | k + 1, x2, x7, x8, x15 => if x15 < x7 then (if 0 ≤ x15 then (if x15 < (x2.length : Int) then (if (rd_T30 x2 x15).f0 = true then (substationlaw16_TwinExactlyOnce.j5 k x2 x7 x8 x15 1 ((rd_T30 x2 x15).f1)) else (substationlaw16_TwinExactlyOnce.j5 k x2 x7 x8 x15 1 false)) else (none)) else (none)) else (some true)
def substationlaw16_TwinExactlyOnce.j5 : Nat → List (S30) → Int → List Int → Int → Int → Bool → Option (Bool)
 | 0, _, _, _, _, _, _ => none
 | k + 1, x2, x7, x8, x15, x16, x121 => if x121 = true then (if 0 ≤ x15 then (if x15 < (x8.length : Int) then (if (rd x8 x15) = 0 then (substationlaw16_TwinExactlyOnce.l1 k x2 x7 x8 (wrap64 (x15 + 1))) else (some false)) else (none)) else (none)) else (if 0 ≤ x15 then (if x15 < (x8.length : Int) then (if (rd x8 x15) = x16 then (substationlaw16_TwinExactlyOnce.l1 k x2 x7 x8 (wrap64 (x15 + 1))) else (some false)) else (none)) else (none))
end
def substationlaw16_TwinExactlyOnce.f (k : Nat) (a0 : Int) (a1 : Int) (l2 : List (S30)) : Option (Bool) := (substationlaw16_known.f).bind fun t101 => (if t101 = true then ((substationlaw16_within.f a0 65536).bind fun t102 => ((substationlaw16_within.f a1 60).bind fun t103 => (if 0 ≤ (mn (l2.length : Int) 150) then (if (mn (l2.length : Int) 150 : Int).toNat ≤ 35184372088832 then (substationlaw16_TwinExactlyOnce.l0 k t102 t103 l2 (mn (l2.length : Int) 150) (List.replicate (mn (l2.length : Int) 150 : Int).toNat 0) 0 ([] : List (S36))) else (none)) else (none)))) else (some false))
theorem substationlaw16_TwinExactlyOnce.mono_l : ∀ k, (∀ y0 y1 y2 y3 y4 y5 y6, LeO (substationlaw16_TwinExactlyOnce.l0 k y0 y1 y2 y3 y4 y5 y6) (substationlaw16_TwinExactlyOnce.l0 (k + 1) y0 y1 y2 y3 y4 y5 y6)) ∧ (∀ y0 y1 y2 y3 y4 y5 y6 y7, LeO (substationlaw16_TwinExactlyOnce.j1 k y0 y1 y2 y3 y4 y5 y6 y7) (substationlaw16_TwinExactlyOnce.j1 (k + 1) y0 y1 y2 y3 y4 y5 y6 y7)) ∧ (∀ y0 y1 y2 y3 y4 y5 y6, LeO (substationlaw16_TwinExactlyOnce.j2 k y0 y1 y2 y3 y4 y5 y6) (substationlaw16_TwinExactlyOnce.j2 (k + 1) y0 y1 y2 y3 y4 y5 y6)) ∧ (∀ y0 y1 y2 y3 y4 y5 y6 y7, LeO (substationlaw16_TwinExactlyOnce.j3 k y0 y1 y2 y3 y4 y5 y6 y7) (substationlaw16_TwinExactlyOnce.j3 (k + 1) y0 y1 y2 y3 y4 y5 y6 y7)) ∧ (∀ y0 y1 y2 y3, LeO (substationlaw16_TwinExactlyOnce.l1 k y0 y1 y2 y3) (substationlaw16_TwinExactlyOnce.l1 (k + 1) y0 y1 y2 y3)) ∧ (∀ y0 y1 y2 y3 y4 y5, LeO (substationlaw16_TwinExactlyOnce.j5 k y0 y1 y2 y3 y4 y5) (substationlaw16_TwinExactlyOnce.j5 (k + 1) y0 y1 y2 y3 y4 y5))
 | 0 => ⟨fun _ _ _ _ _ _ _ r h => by simp [substationlaw16_TwinExactlyOnce.l0] at h, fun _ _ _ _ _ _ _ _ r h => by simp [substationlaw16_TwinExactlyOnce.j1] at h, fun _ _ _ _ _ _ _ r h => by simp [substationlaw16_TwinExactlyOnce.j2] at h, fun _ _ _ _ _ _ _ _ r h => by simp [substationlaw16_TwinExactlyOnce.j3] at h, fun _ _ _ _ r h => by simp [substationlaw16_TwinExactlyOnce.l1] at h, fun _ _ _ _ _ _ r h => by simp [substationlaw16_TwinExactlyOnce.j5] at h⟩
 | k + 1 => by
  obtain ⟨ih0, ih1, ih2, ih3, ih4, ih5⟩ := substationlaw16_TwinExactlyOnce.mono_l k
  refine ⟨?_, ?_, ?_, ?_, ?_, ?_⟩
  ·intro y0 y1 y2 y3 y4 y5 y6
   unfold substationlaw16_TwinExactlyOnce.l0
   repeat' first
   | (with_reducible exact ih0 _ _ _ _ _ _ _)
   | (with_reducible exact ih1 _ _ _ _ _ _ _ _)
   | (with_reducible exact ih2 _ _ _ _ _ _ _)
   | (with_reducible exact ih3 _ _ _ _ _ _ _ _)
   | (with_reducible exact ih4 _ _ _ _)
   | (with_reducible exact ih5 _ _ _ _ _ _)
   | (with_reducible exact LeO.refl _)
   | (with_reducible exact LeO.none _)
   | (with_reducible refine LeO.ite ?_ ?_)
   | (with_reducible refine LeO.bind ?_ (fun _ => ?_))
   | exact ih0 _ _ _ _ _ _ _
   | exact ih1 _ _ _ _ _ _ _ _
   | exact ih2 _ _ _ _ _ _ _
   | exact ih3 _ _ _ _ _ _ _ _
   | exact ih4 _ _ _ _
   | exact ih5 _ _ _ _ _ _
   | exact LeO.none _
   | refine LeO.ite ?_ ?_
   | refine LeO.bind ?_ (fun _ => ?_)
  ·intro y0 y1 y2 y3 y4 y5 y6 y7
   unfold substationlaw16_TwinExactlyOnce.j1
   repeat' first
   | (with_reducible exact ih0 _ _ _ _ _ _ _)
   | (with_reducible exact ih1 _ _ _ _ _ _ _ _)
   | (with_reducible exact ih2 _ _ _ _ _ _ _)
   | (with_reducible exact ih3 _ _ _ _ _ _ _ _)
   | (with_reducible exact ih4 _ _ _ _)
   | (with_reducible exact ih5 _ _ _ _ _ _)
   | (with_reducible exact LeO.refl _)
   | (with_reducible exact LeO.none _)
   | (with_reducible refine LeO.ite ?_ ?_)
   | (with_reducible refine LeO.bind ?_ (fun _ => ?_))
   | exact ih0 _ _ _ _ _ _ _
   | exact ih1 _ _ _ _ _ _ _ _
   | exact ih2 _ _ _ _ _ _ _
   | exact ih3 _ _ _ _ _ _ _ _
   | exact ih4 _ _ _ _
   | exact ih5 _ _ _ _ _ _
   | exact LeO.none _
   | refine LeO.ite ?_ ?_
   | refine LeO.bind ?_ (fun _ => ?_)
  ·intro y0 y1 y2 y3 y4 y5 y6
   unfold substationlaw16_TwinExactlyOnce.j2
   repeat' first
   | (with_reducible exact ih0 _ _ _ _ _ _ _)
   | (with_reducible exact ih1 _ _ _ _ _ _ _ _)
   | (with_reducible exact ih2 _ _ _ _ _ _ _)
   | (with_reducible exact ih3 _ _ _ _ _ _ _ _)
   | (with_reducible exact ih4 _ _ _ _)
   | (with_reducible exact ih5 _ _ _ _ _ _)
   | (with_reducible exact LeO.refl _)
   | (with_reducible exact LeO.none _)
   | (with_reducible refine LeO.ite ?_ ?_)
   | (with_reducible refine LeO.bind ?_ (fun _ => ?_))
   | exact ih0 _ _ _ _ _ _ _
   | exact ih1 _ _ _ _ _ _ _ _
   | exact ih2 _ _ _ _ _ _ _
   | exact ih3 _ _ _ _ _ _ _ _
   | exact ih4 _ _ _ _
   | exact ih5 _ _ _ _ _ _
   | exact LeO.none _
   | refine LeO.ite ?_ ?_
   | refine LeO.bind ?_ (fun _ => ?_)
  ·intro y0 y1 y2 y3 y4 y5 y6 y7
   unfold substationlaw16_TwinExactlyOnce.j3
   repeat' first
   | (with_reducible exact ih0 _ _ _ _ _ _ _)
   | (with_reducible exact ih1 _ _ _ _ _ _ _ _)
   | (with_reducible exact ih2 _ _ _ _ _ _ _)
   | (with_reducible exact ih3 _ _ _ _ _ _ _ _)
   | (with_reducible exact ih4 _ _ _ _)
   | (with_reducible exact ih5 _ _ _ _ _ _)
   | (with_reducible exact LeO.refl _)
   | (with_reducible exact LeO.none _)
   | (with_reducible refine LeO.ite ?_ ?_)
   | (with_reducible refine LeO.bind ?_ (fun _ => ?_))
   | exact ih0 _ _ _ _ _ _ _
   | exact ih1 _ _ _ _ _ _ _ _
   | exact ih2 _ _ _ _ _ _ _
   | exact ih3 _ _ _ _ _ _ _ _
   | exact ih4 _ _ _ _
   | exact ih5 _ _ _ _ _ _
   | exact LeO.none _
   | refine LeO.ite ?_ ?_
   | refine LeO.bind ?_ (fun _ => ?_)
  ·intro y0 y1 y2 y3
   unfold substationlaw16_TwinExactlyOnce.l1
   repeat' first
   | (with_reducible exact ih0 _ _ _ _ _ _ _)
   | (with_reducible exact ih1 _ _ _ _ _ _ _ _)
   | (with_reducible exact ih2 _ _ _ _ _ _ _)
   | (with_reducible exact ih3 _ _ _ _ _ _ _ _)
   | (with_reducible exact ih4 _ _ _ _)
   | (with_reducible exact ih5 _ _ _ _ _ _)
   | (with_reducible exact LeO.refl _)
   | (with_reducible exact LeO.none _)
   | (with_reducible refine LeO.ite ?_ ?_)
   | (with_reducible refine LeO.bind ?_ (fun _ => ?_))
   | exact ih0 _ _ _ _ _ _ _
   | exact ih1 _ _ _ _ _ _ _ _
   | exact ih2 _ _ _ _ _ _ _
   | exact ih3 _ _ _ _ _ _ _ _
   | exact ih4 _ _ _ _
   | exact ih5 _ _ _ _ _ _
   | exact LeO.none _
   | refine LeO.ite ?_ ?_
   | refine LeO.bind ?_ (fun _ => ?_)
  ·intro y0 y1 y2 y3 y4 y5
   unfold substationlaw16_TwinExactlyOnce.j5
   repeat' first
   | (with_reducible exact ih0 _ _ _ _ _ _ _)
   | (with_reducible exact ih1 _ _ _ _ _ _ _ _)
   | (with_reducible exact ih2 _ _ _ _ _ _ _)
   | (with_reducible exact ih3 _ _ _ _ _ _ _ _)
   | (with_reducible exact ih4 _ _ _ _)
   | (with_reducible exact ih5 _ _ _ _ _ _)
   | (with_reducible exact LeO.refl _)
   | (with_reducible exact LeO.none _)
   | (with_reducible refine LeO.ite ?_ ?_)
   | (with_reducible refine LeO.bind ?_ (fun _ => ?_))
   | exact ih0 _ _ _ _ _ _ _
   | exact ih1 _ _ _ _ _ _ _ _
   | exact ih2 _ _ _ _ _ _ _
   | exact ih3 _ _ _ _ _ _ _ _
   | exact ih4 _ _ _ _
   | exact ih5 _ _ _ _ _ _
   | exact LeO.none _
   | refine LeO.ite ?_ ?_
   | refine LeO.bind ?_ (fun _ => ?_)
theorem substationlaw16_TwinExactlyOnce.mono : ∀ a0 a1 a2 k, LeO (substationlaw16_TwinExactlyOnce.f k a0 a1 a2) (substationlaw16_TwinExactlyOnce.f (k + 1) a0 a1 a2) := by
 intro a0 a1 a2 k
 obtain ⟨ih0, ih1, ih2, ih3, ih4, ih5⟩ := substationlaw16_TwinExactlyOnce.mono_l k
 unfold substationlaw16_TwinExactlyOnce.f
 repeat' first
   | (with_reducible exact ih0 _ _ _ _ _ _ _)
   | (with_reducible exact ih1 _ _ _ _ _ _ _ _)
   | (with_reducible exact ih2 _ _ _ _ _ _ _)
   | (with_reducible exact ih3 _ _ _ _ _ _ _ _)
   | (with_reducible exact ih4 _ _ _ _)
   | (with_reducible exact ih5 _ _ _ _ _ _)
   | (with_reducible exact LeO.refl _)
   | (with_reducible exact LeO.none _)
   | (with_reducible refine LeO.ite ?_ ?_)
   | (with_reducible refine LeO.bind ?_ (fun _ => ?_))
   | exact ih0 _ _ _ _ _ _ _
   | exact ih1 _ _ _ _ _ _ _ _
   | exact ih2 _ _ _ _ _ _ _
   | exact ih3 _ _ _ _ _ _ _ _
   | exact ih4 _ _ _ _
   | exact ih5 _ _ _ _ _ _
   | exact LeO.none _
   | refine LeO.ite ?_ ?_
   | refine LeO.bind ?_ (fun _ => ?_)
set_option maxHeartbeats 8000000 in
set_option maxRecDepth 100000 in
theorem substationlaw16_TwinExactlyOnce.calls (k : Nat) (a0 : Int) (a1 : Int) (A2 : Option Addr) (c2 : Nat) (l2 : List (S30)) (r : Bool) (w : World) (hr2 : Kd.C k30 w A2 l2.length l2) (hc2 : l2.length ≤ c2) (hr_ : r = true) (h : substationlaw16_TwinExactlyOnce.f k a0 a1 l2 = some r) :
  Calls Try.prog 3 #[.int .i64 a0, .int .i64 a1, .slice A2 l2.length c2] w fun e w' => e = .returned (.bool r) ∧ Below w.heap.size w w' := by
 have hu28 := Try.underlying28
 have HR2 := Aside0.mk hr2
 have HC2 := Aside0.mk hc2
 clear hr2 hc2
 have HB := Aside0.mk (Below.refl w.heap.size w)
 have H : ((substationlaw16_known.f).bind fun t101 => (if t101 = true then ((substationlaw16_within.f a0 65536).bind fun t102 => ((substationlaw16_within.f a1 60).bind fun t103 => (if 0 ≤ (mn (l2.length : Int) 150) then (if (mn (l2.length : Int) 150 : Int).toNat ≤ 35184372088832 then (substationlaw16_TwinExactlyOnce.l0 k t102 t103 l2 (mn (l2.length : Int) 150) (List.replicate (mn (l2.length : Int) 150 : Int).toNat 0) 0 ([] : List (S36))) else (none)) else (none)))) else (some false))) = some r := h
 clear h
 replace H := Option.bind_eq_some_iff.mp H
 obtain ⟨t101, A40, H⟩ := H
 replace H : (if t101 = true then ((substationlaw16_within.f a0 65536).bind fun t102 => ((substationlaw16_within.f a1 60).bind fun t103 => (if 0 ≤ (mn (l2.length : Int) 150) then (if (mn (l2.length : Int) 150 : Int).toNat ≤ 35184372088832 then (substationlaw16_TwinExactlyOnce.l0 k t102 t103 l2 (mn (l2.length : Int) 150) (List.replicate (mn (l2.length : Int) 150 : Int).toNat 0) 0 ([] : List (S36))) else (none)) else (none)))) else (some false)) = some r := H
 have A4 := Aside0.mk A40
 clear A40
 by_cases c5 : t101 = true
 ·subst c5
  have H1 : ((substationlaw16_within.f a0 65536).bind fun t102 => ((substationlaw16_within.f a1 60).bind fun t103 => (if 0 ≤ (mn (l2.length : Int) 150) then (if (mn (l2.length : Int) 150 : Int).toNat ≤ 35184372088832 then (substationlaw16_TwinExactlyOnce.l0 k t102 t103 l2 (mn (l2.length : Int) 150) (List.replicate (mn (l2.length : Int) 150 : Int).toNat 0) 0 ([] : List (S36))) else (none)) else (none)))) = some r := by rw [if_pos rfl] at H; exact H
  clear H
  have H := H1
  clear H1
  replace H := Option.bind_eq_some_iff.mp H
  obtain ⟨t102, A60, H⟩ := H
  replace H : ((substationlaw16_within.f a1 60).bind fun t103 => (if 0 ≤ (mn (l2.length : Int) 150) then (if (mn (l2.length : Int) 150 : Int).toNat ≤ 35184372088832 then (substationlaw16_TwinExactlyOnce.l0 k t102 t103 l2 (mn (l2.length : Int) 150) (List.replicate (mn (l2.length : Int) 150 : Int).toNat 0) 0 ([] : List (S36))) else (none)) else (none))) = some r := H
  have A6 := Aside0.mk A60
  clear A60
  replace H := Option.bind_eq_some_iff.mp H
  obtain ⟨t103, A70, H⟩ := H
  replace H : (if 0 ≤ (mn (l2.length : Int) 150) then (if (mn (l2.length : Int) 150 : Int).toNat ≤ 35184372088832 then (substationlaw16_TwinExactlyOnce.l0 k t102 t103 l2 (mn (l2.length : Int) 150) (List.replicate (mn (l2.length : Int) 150 : Int).toNat 0) 0 ([] : List (S36))) else (none)) else (none)) = some r := H
  have A7 := Aside0.mk A70
  clear A70
  obtain ⟨ji8, hji8⟩ : ∃ j_ : Int, (mn (l2.length : Int) 150) = j_ := ⟨_, rfl⟩
  replace H : (if 0 ≤ (ji8) then (if (ji8 : Int).toNat ≤ 35184372088832 then (substationlaw16_TwinExactlyOnce.l0 k t102 t103 l2 ji8 (List.replicate (ji8 : Int).toNat 0) 0 ([] : List (S36))) else (none)) else (none)) = some r := by first | (rw [hji8] at H; exact H) | (simp only [hji8] at H ⊢; exact H)
  (try rw [hji8] at A4)
  (try rw [hji8] at A6)
  (try rw [hji8] at A7)
  (try (have hji8h : ji8 ≤ 150 := by (rw [← hji8]; unfold mn; (repeat' split) <;> omega)))
  (try (have hji8g : ji8 ≤ 64 := by omega))
  (try (have hji8l : 0 ≤ ji8 := by (rw [← hji8]; unfold mn; (repeat' split) <;> omega)))
  (try (have hji8m : 0 ≤ ji8 := by omega))
  have hji8_ : (if 150 < (l2.length : Int) then 150 else (l2.length : Int)) = ji8 := hji8
  by_cases c9 : 0 ≤ (ji8)
  ·rw [if_pos c9] at H
   have c9b0 := eq_true c9
   have c9b1 : decide (0 ≤ (ji8)) = true := decide_eq_true c9
   clear c9
   by_cases c10 : (ji8 : Int).toNat ≤ 35184372088832
   ·rw [if_pos c10] at H
    have c10b0 := eq_true c10
    have c10b1 : decide ((ji8 : Int).toNat ≤ 35184372088832) = true := decide_eq_true c10
    clear c10
    obtain ⟨y104, hy104⟩ : ∃ y_ : List Int, y_ = (List.replicate (ji8 : Int).toNat 0) := ⟨_, rfl⟩
    replace H : (substationlaw16_TwinExactlyOnce.l0 k t102 t103 l2 ji8 y104 0 ([] : List (S36))) = some r := by first | (rw [hy104]; with_reducible exact H) | (have H2_ := (Option.bind_some _ _).symm.trans H; rw [hy104]; with_reducible exact H2_) | (have H2_ := (Option.bind_some _ _).symm.trans H; with_reducible exact H2_) | with_reducible exact H | (rw [hy104]; exact H) | exact H
    have Ny104 := Aside0.mk hy104
    clear hy104
    have H' := Aside0.mk H
    clear H
    go_enter Try.func3, Try.ntmps3
    go_wp2_with (first | ((with_reducible refine gate_callee (f := 15) rfl ?_); refine goesL_ (some 17) rfl rfl Try.func15 (by kernel_rfl) rfl #[] rfl (by (try simp only [List.map_toArray, List.map_cons, List.map_nil]); first | done | rfl | (simp only [List.length_drop, List.length_take]; rfl)) ?_; (with_reducible refine (substationlaw16_known.calls  true _ A4.out).mono ?_); rintro e w11 ⟨rfl, hb⟩; refine ⟨_, rfl, ?_⟩; have n0_ := Aside0.mk (below_step (by repeat (first | (with_reducible first | exact HB.out | apply below_alloc | apply pw_below_drewN | apply below_drew1) | exact HB.out)) hb); clear HB; have HB := n0_; clear n0_; (try clear hb); (try clear hb2); (try clear hk); (try clear hi)) | ((with_reducible refine gate_callee (f := 16) rfl ?_); refine goesL_ (some 20) rfl rfl Try.func16 (by kernel_rfl) rfl #[.int .i64 a0, .int .i64 65536] rfl (by (try simp only [List.map_toArray, List.map_cons, List.map_nil]); first | done | rfl | (simp only [List.length_drop, List.length_take]; rfl)) ?_; (with_reducible refine (substationlaw16_within.calls a0 65536 t102 _ A6.out).mono ?_); rintro e w' ⟨rfl, ⟨nd, rfl⟩⟩; refine ⟨_, rfl, ?_⟩; (try (rw [drewN_self w11]; generalize hq_ : World.drewN w11 _ = w11; have n0_ : Aside0 (Below w.heap.size w w11) := ⟨by rw [← hq_]; exact (by repeat (first | (with_reducible first | exact HB.out | apply below_alloc | apply pw_below_drewN | apply below_drew1) | exact HB.out))⟩; clear HB hq_; have HB := n0_; clear n0_))) | ((with_reducible refine gate_callee (f := 16) rfl ?_); refine goesL_ (some 22) rfl rfl Try.func16 (by kernel_rfl) rfl #[.int .i64 a1, .int .i64 60] rfl (by (try simp only [List.map_toArray, List.map_cons, List.map_nil]); first | done | rfl | (simp only [List.length_drop, List.length_take]; rfl)) ?_; (with_reducible refine (substationlaw16_within.calls a1 60 t103 _ A7.out).mono ?_); rintro e w' ⟨rfl, ⟨nd, rfl⟩⟩; refine ⟨_, rfl, ?_⟩; (try (rw [drewN_self w11]; generalize hq_ : World.drewN w11 _ = w11; have n0_ : Aside0 (Below w.heap.size w w11) := ⟨by rw [← hq_]; exact (by repeat (first | (with_reducible first | exact HB.out | apply below_alloc | apply pw_below_drewN | apply below_drew1) | exact HB.out))⟩; clear HB hq_; have HB := n0_; clear n0_))) | ((with_reducible refine gate_dst (N := 27) rfl ?_); refine Kd.R_make (Kd.int .i64) _ 3 rfl (N := 27) rfl 25 _ _ rfl ji8 rfl rfl Try.underlying25 (.int .i64 0) 8 info3 rfl (by decide) (by omega) 0 (ok := fun _ => True) (okp := fun _ => True) rfl (fun _ hk => hk) trivial (of_decide_eq_true (by first | (with_reducible assumption) | assumption)) (Nat.le_trans (Nat.mul_le_mul_right _ (of_decide_eq_true (by first | (with_reducible assumption) | assumption) : ji8.toNat ≤ 35184372088832)) (by omega)) (Below.refl _ _) (Nat.le_refl _) ?_; intro v105 w12 ho13 hb hg_ hnew_; clear hg_ hnew_; (first | rw [← Ny104.out] at ho13 | (simp only [Int.reduceToNat] at ho13; rw [← Ny104.out] at ho13)); have n0_ := Aside0.mk (Kd.R_lower ho13 (below_size (by repeat (first | (with_reducible first | exact HB.out | apply below_alloc | apply pw_below_drewN | apply below_drew1) | exact HB.out)))); have n1_ := Aside0.mk (below_step (by repeat (first | (with_reducible first | exact HB.out | apply below_alloc | apply pw_below_drewN | apply below_drew1) | exact HB.out)) hb); clear HB; have HO106 := n0_; have HB := n1_; clear n0_ n1_; clear hb ho13) | ((with_reducible refine gate_dst (N := 9) rfl ?_); refine box_event ?hg (N := 9) ?hd (cs := #[.slice none 0 0]) (t := 28) ?hr ?_; (case hd => rfl); (case hg => rfl); (case hr => first | (go_simp; done) | (go_simp; rfl)); intro gb107 hg w14 hbox hb; have n0_ := Aside0.mk (Kd.R_below (by (with_reducible repeat (first | apply Kd.R_alloc | apply Kd.R_drewN | apply Kd.R_drew)); exact HO106.out) hb); have n1_ := Aside0.mk (below_step (by repeat (first | (with_reducible first | exact HB.out | apply below_alloc | apply pw_below_drewN | apply below_drew1) | exact HB.out)) hb); have n2_ := Aside0.mk (hbox); have n3_ := Aside0.mk ((by rw [hg]; exact (below_size (by repeat (first | (with_reducible first | exact HB.out | apply below_alloc | apply pw_below_drewN | apply below_drew1) | exact HB.out))) : w.heap.size ≤ gb107)); have n4_ := Aside0.mk ((by rw [hg]; exact (below_size (by repeat (first | (with_reducible first | exact HB.out | apply below_alloc | apply pw_below_drewN | apply below_drew1) | exact HB.out))) : w.heap.size ≤ gb107)); clear HO106; clear HB; have HO106 := n0_; have HB := n1_; have BK107 := n2_; have GW107 := n3_; have GE107 := n4_; clear n0_ n1_ n2_ n3_ n4_; clear hb hbox hg; have hcz15_0 : w14.cell? ⟨gb107, 0, none⟩ = some (.slice none 0 0) := (blk_cell BK107.out 0).trans rfl; have hfz15_0 := blk_frozen BK107.out 0))
    go_loopg [10] k (fun kq v10 w' => ∃ (x8_1 : List Int) (x10_1 : Int) (x108000_1 : List (S36)) (u108000 : Value), v10 = .int .i64 x10_1 ∧ Aside0 (substationlaw16_TwinExactlyOnce.l0 kq t102 t103 l2 ji8 x8_1 x10_1 x108000_1 = some r) ∧ Aside0 (kq ≤ k) ∧ Aside0 (Kd.R (Kd.int .i64) 3 w' w.heap.size (fun _ => True) v105 x8_1) ∧ Aside0 (Kd.R k36 36 w' w.heap.size (fun _ => True) u108000 x108000_1) ∧ Aside0 (w'.heap[gb107]? = some (.cells #[u108000] 28 (0, 0))) ∧ Aside0 (Below w.heap.size w w'))
    case atStart => exact ⟨(y104), (0), (([] : List (S36))), (.slice none 0 0), (by first | rfl | (simp; done) | (simp [*]; done) | (simp; omega)), H', ⟨Nat.le_refl _⟩, ⟨by (with_reducible repeat (first | apply Kd.R_alloc | apply Kd.R_drewN | apply Kd.R_drew)); exact Kd.R_mono (Kd.R_far (p := ⟨gb107, 0, none⟩) (Kd.R_types HO106.out BK107.out (by decide)) (fun _ hk => hk.2) (.slice none 0 0)) (fun _ hk => trivial)⟩, ⟨by first | exact Kd.R_nil _ _ _ _ _ | exact Kd.N_nil _ _ _ _ _ | exact Kd.V_nil _ _ _ _ _ | exact Kd.Q_nil _ _ _ _ _ | exact Kd.S_nil _ _ _ _ _⟩, ⟨by (with_reducible repeat (first | refine blk_drewN ?_ _ | refine blk_drew ?_ | refine blk_alloc ?_ _)); refine blk_put (cs := #[.slice none 0 0]) ?_ 0 _ rfl; (with_reducible repeat (first | refine blk_drewN ?_ _ | refine blk_drew ?_ | refine blk_alloc ?_ _)); exact BK107.out⟩, ⟨by repeat (first | (with_reducible first | exact HB.out | apply below_alloc | apply pw_below_drewN | apply below_drew1 | refine below_set ?_ GE107.out) | exact HB.out)⟩⟩
    case round =>
     clear H'
     try clear c1
     try clear c2
     try clear p2
     try clear c3
     try clear c5
     try clear c9
     try clear c9b0
     try clear c9b1
     try clear c10
     try clear c10b0
     try clear c10b1
     try clear c15
     try clear hcz15_0
     try clear hfz15_0
     obtain ⟨x8_1, x10_1, x108000_1, u108000, rfl, HA, HK1, HO_8, HO_108000, BK107, HB⟩ := hrel
     cases gk with
     | zero => exact absurd HA.out (by simp [substationlaw16_TwinExactlyOnce.l0])
     | succ k1 =>
      have H := HA.out
      clear HA
      simp only [substationlaw16_TwinExactlyOnce.l0] at H
      by_cases c16 : x10_1 < (wrap64 (ji8 + t103))
      ·rw [if_pos c16] at H
       have c16b0 : decide (x10_1 < (wrap64 (ji8 + t103))) = true := decide_eq_true c16
       clear c16
       have HC17 := Aside0.mk H
       clear H
       go_upto_region 10 with (fail)
       go_cut [46] (fun v46 wc => ∃ (kq : Nat) (x46_16 : Bool), v46 = .bool x46_16 ∧ Aside0 (substationlaw16_TwinExactlyOnce.j1 kq t102 t103 l2 ji8 x8_1 x10_1 x46_16 x108000_1 = some r) ∧ Aside0 (kq ≤ k1) ∧ Aside0 (Kd.R (Kd.int .i64) 3 wc w.heap.size (fun _ => True) v105 x8_1) ∧ Aside0 (Kd.R k36 36 wc w.heap.size (fun _ => True) u108000 x108000_1) ∧ Aside0 (wc.heap[gb107]? = some (.cells #[u108000] 28 (0, 0))) ∧ Aside0 (Below w.heap.size w wc))
       case first =>
        have H := HC17.out
        clear HC17
        by_cases c18 : x10_1 < ji8
        ·rw [if_pos c18] at H
         have c18b0 : decide (x10_1 < ji8) = true := decide_eq_true c18
         clear c18
         (first | rw [c18b0] | (simp only [i64_w, i32_w]; rw [c18b0]) | skip)
         by_cases c19 : 0 ≤ x10_1
         ·rw [if_pos c19] at H
          have c19b0 : decide (0 ≤ x10_1) = true := decide_eq_true c19
          clear c19
          by_cases c20 : x10_1 < (l2.length : Int)
          ·rw [if_pos c20] at H
           have c20b0 : decide (x10_1 < (l2.length : Int)) = true := decide_eq_true c20
           clear c20
           have H' := Aside0.mk H
           clear H
           have p108 : 0 ≤ (x10_1 : Int) := of_decide_eq_true (by first | (with_reducible assumption) | assumption)
           have q108 : x10_1 < (l2.length : Int) := of_decide_eq_true (by first | (with_reducible assumption) | assumption)
           obtain ⟨ad108, e108, hx108_0, hx108_1⟩ := at_T30 HR2.out x10_1 p108 q108
           cases e108
           replace hx108_0 := (HB.out.cell (World.block_lt_of_cell? w _ hx108_0)).trans hx108_0
           replace hx108_1 := (HB.out.cell (World.block_lt_of_cell? w _ hx108_1)).trans hx108_1
           replace p108 := eq_true p108
           replace q108 := eq_true q108
           go_wp2
           go_meet
           case rel => exact ⟨_, (!((rd_T30 l2 x10_1).f0)), (by first | rfl | (simp; done) | (simp [*]; done) | (simp; omega)), H', ⟨by have := HK1.out; first | omega | exact Nat.le_refl _⟩, ⟨by (with_reducible repeat (first | apply Kd.R_alloc | apply Kd.R_drewN | apply Kd.R_drew)); exact HO_8.out⟩, ⟨by (with_reducible repeat (first | apply Kd.R_alloc | apply Kd.R_drewN | apply Kd.R_drew)); exact HO_108000.out⟩, ⟨by (with_reducible repeat (first | refine blk_drewN ?_ _ | refine blk_drew ?_ | refine blk_alloc ?_ _)); exact BK107.out⟩, ⟨by repeat (first | (with_reducible first | exact HB.out | apply below_alloc | apply pw_below_drewN | apply below_drew1 | refine below_set ?_ GE107.out) | exact HB.out)⟩⟩
          ·rw [if_neg c20] at H
           exact absurd H (by simp)
         ·rw [if_neg c19] at H
          exact absurd H (by simp)
        ·rw [if_neg c18] at H
         have c18b0 : decide (x10_1 < ji8) = false := decide_eq_false c18
         clear c18
         (first | rw [c18b0] | (simp only [i64_w, i32_w]; rw [c18b0]) | skip)
         have H' := Aside0.mk H
         clear H
         go_wp2
         go_meet
         case rel => exact ⟨_, (false), (by first | rfl | (simp; done) | (simp [*]; done) | (simp; omega)), H', ⟨by have := HK1.out; first | omega | exact Nat.le_refl _⟩, ⟨by (with_reducible repeat (first | apply Kd.R_alloc | apply Kd.R_drewN | apply Kd.R_drew)); exact HO_8.out⟩, ⟨by (with_reducible repeat (first | apply Kd.R_alloc | apply Kd.R_drewN | apply Kd.R_drew)); exact HO_108000.out⟩, ⟨by (with_reducible repeat (first | refine blk_drewN ?_ _ | refine blk_drew ?_ | refine blk_alloc ?_ _)); exact BK107.out⟩, ⟨by repeat (first | (with_reducible first | exact HB.out | apply below_alloc | apply pw_below_drewN | apply below_drew1 | refine below_set ?_ GE107.out) | exact HB.out)⟩⟩
       case rest =>
        clear HC17
        try clear c1
        try clear p1
        try clear q1
        try clear hx1
        try clear c2
        try clear p2
        try clear c3
        try clear c5
        try clear p6
        try clear c9
        try clear c9b0
        try clear c9b1
        try clear c10
        try clear c10b0
        try clear c10b1
        try clear p10
        try clear q10
        try clear hx10
        try clear c15
        try clear c16
        try clear c16b0
        try clear c18
        try clear c18b0
        try clear c19
        try clear c19b0
        try clear c20
        try clear c20b0
        try clear hcz15_0
        try clear hfz15_0
        try clear hx108_0
        try clear hx108_1
        try clear p108
        try clear p2
        try clear q108
        obtain ⟨kq, x46_16, rfl, HA, HJ16, HO_8, HO_108000, BK107, HB⟩ := hcut
        cases kq with
        | zero => exact absurd HA.out (by simp [substationlaw16_TwinExactlyOnce.j1])
        | succ kj16 =>
         have H := HA.out
         clear HA
         simp only [substationlaw16_TwinExactlyOnce.j1] at H
         have HC21 := Aside0.mk H
         clear H
         go_upto_if 46 with (fail)
         go_cut [] (fun wc => ∃ (kq : Nat) (x8_20 : List Int) (x108000_20 : List (S36)) (u108000 : Value), Aside0 (substationlaw16_TwinExactlyOnce.j2 kq t102 t103 l2 ji8 x8_20 x10_1 x108000_20 = some r) ∧ Aside0 (kq ≤ kj16) ∧ Aside0 (Kd.R (Kd.int .i64) 3 wc w.heap.size (fun _ => True) v105 x8_20) ∧ Aside0 (Kd.R k36 36 wc w.heap.size (fun _ => True) u108000 x108000_20) ∧ Aside0 (wc.heap[gb107]? = some (.cells #[u108000] 28 (0, 0))) ∧ Aside0 (Below w.heap.size w wc))
         case first =>
          have H := HC21.out
          clear HC21
          by_cases c22 : x46_16 = true
          ·subst c22
           have H1 : ((twin_Accept.f x108000_1 9 (Int.tmod (wrap64 (t102 + x10_1)) 65536)).bind fun bt109 => (if bt109.2 = true then (if 0 ≤ x10_1 then (if x10_1 < (x8_1.length : Int) then (substationlaw16_TwinExactlyOnce.j2 kj16 t102 t103 l2 ji8 (x8_1.set (x10_1 : Int).toNat (wrap64 ((rd x8_1 x10_1) + 1))) x10_1 bt109.1) else (none)) else (none)) else (substationlaw16_TwinExactlyOnce.j2 kj16 t102 t103 l2 ji8 x8_1 x10_1 bt109.1))) = some r := by rw [if_pos rfl] at H; exact H
           clear H
           have H := H1
           clear H1
           replace H := Option.bind_eq_some_iff.mp H
           obtain ⟨⟨t109, t112⟩, A230, H⟩ := H
           replace H : (if t112 = true then (if 0 ≤ x10_1 then (if x10_1 < (x8_1.length : Int) then (substationlaw16_TwinExactlyOnce.j2 kj16 t102 t103 l2 ji8 (x8_1.set (x10_1 : Int).toNat (wrap64 ((rd x8_1 x10_1) + 1))) x10_1 t109) else (none)) else (none)) else (substationlaw16_TwinExactlyOnce.j2 kj16 t102 t103 l2 ji8 x8_1 x10_1 t109)) = some r := H
           have A23 := Aside0.mk A230
           clear A230
           by_cases c24 : t112 = true
           ·subst c24
            have H1 : (if 0 ≤ x10_1 then (if x10_1 < (x8_1.length : Int) then (substationlaw16_TwinExactlyOnce.j2 kj16 t102 t103 l2 ji8 (x8_1.set (x10_1 : Int).toNat (wrap64 ((rd x8_1 x10_1) + 1))) x10_1 t109) else (none)) else (none)) = some r := by rw [if_pos rfl] at H; exact H
            clear H
            have H := H1
            clear H1
            by_cases c25 : 0 ≤ x10_1
            ·rw [if_pos c25] at H
             have c25b0 : decide (0 ≤ x10_1) = true := decide_eq_true c25
             clear c25
             (first | rw [c25b0] | (simp only [i64_w, i32_w]; rw [c25b0]) | skip)
             by_cases c26 : x10_1 < (x8_1.length : Int)
             ·rw [if_pos c26] at H
              have c26b0 : decide (x10_1 < (x8_1.length : Int)) = true := decide_eq_true c26
              clear c26
              obtain ⟨y115, hy115⟩ : ∃ y_ : List Int, y_ = (x8_1.set (x10_1 : Int).toNat (wrap64 ((rd x8_1 x10_1) + 1))) := ⟨_, rfl⟩
              replace H : (substationlaw16_TwinExactlyOnce.j2 kj16 t102 t103 l2 ji8 y115 x10_1 t109) = some r := by first | (rw [hy115]; with_reducible exact H) | (have H2_ := (Option.bind_some _ _).symm.trans H; rw [hy115]; with_reducible exact H2_) | (have H2_ := (Option.bind_some _ _).symm.trans H; with_reducible exact H2_) | with_reducible exact H | (rw [hy115]; exact H) | exact H
              have Ny115 := Aside0.mk hy115
              clear hy115
              have H' := Aside0.mk H
              clear H
              have hcz28_0 : wc.cell? ⟨gb107, 0, none⟩ = some (u108000) := (blk_cell BK107.out 0).trans rfl
              have hfz28_0 := blk_frozen BK107.out 0
              obtain ⟨Ao29, co29, eo29⟩ := Kd.R_slice HO_108000.out
              subst eo29
              go_wp2_with (first | ((with_reducible refine gate_callee (f := 17) rfl ?_); refine goesL_ (some 53) rfl rfl Try.func17 (by kernel_rfl) rfl #[.agg #[.slice Ao29 x108000_1.length co29], .int .i64 9, .int .i64 (Int.tmod (wrap64 (t102 + x10_1)) 65536)] rfl (by (try simp only [List.map_toArray, List.map_cons, List.map_nil]); first | done | rfl | (simp only [List.length_drop, List.length_take]; rfl)) ?_; (with_reducible refine (twin_Accept.calls _ _ x108000_1 9 (Int.tmod (wrap64 (t102 + x10_1)) 65536) t109 true _ ?side1 ?side2 A23.out).mono ?_); (case side1 => repeat (first | exact (Kd.R_reads' HO_108000.out).2.2 | (with_reducible refine Kd.C_alloc ?_ _) | (with_reducible refine Kd.C_drewN ?_ _) | (with_reducible refine Kd.C_drew ?_))); (case side2 => exact (Kd.R_reads' HO_108000.out).2.1); rintro e w30 ⟨v110, rfl, ho0, hb⟩; refine ⟨_, rfl, ?_⟩; have n0_ := Aside0.mk (Kd.R_below (by (with_reducible repeat (first | apply Kd.R_alloc | apply Kd.R_drewN | apply Kd.R_drew)); exact HO_8.out) hb); have n1_ := Aside0.mk (Kd.R_elder' (by (with_reducible repeat (first | apply Kd.R_alloc | apply Kd.R_drewN | apply Kd.R_drew)); exact HO_108000.out) (Kd.R_base ho0) hb); have n2_ := Aside0.mk (Kd.R_lower (Kd.R_new' ho0 (Kd.R_lt (by (with_reducible repeat (first | apply Kd.R_alloc | apply Kd.R_drewN | apply Kd.R_drew)); exact HO_108000.out))) (below_size (by repeat (first | (with_reducible first | exact HB.out | apply below_alloc | apply pw_below_drewN | apply below_drew1 | refine below_set ?_ GE107.out) | exact HB.out)))); have n3_ := Aside0.mk (blk_below (g := gb107) (o := .cells #[.slice Ao29 x108000_1.length co29] 28 (0, 0)) (by (with_reducible repeat (first | refine blk_drewN ?_ _ | refine blk_drew ?_ | refine blk_alloc ?_ _)); exact BK107.out) hb); have n4_ := Aside0.mk (below_step (by repeat (first | (with_reducible first | exact HB.out | apply below_alloc | apply pw_below_drewN | apply below_drew1 | refine below_set ?_ GE107.out) | exact HB.out)) hb); clear HO_8; clear HO_108000; clear BK107; clear HB; have HO_8 := n0_; have HO_108000 := n1_; have HO111 := n2_; have BK107 := n3_; have HB := n4_; clear n0_ n1_ n2_ n3_ n4_; (try clear hb); (try clear hb2); (try clear hk); (try clear hi); (try clear ho0)) | ((with_reducible refine gate_dst (N := 11) rfl ?_); refine box_event ?hg (N := 11) ?hd (cs := #[.slice none 0 0]) (t := 28) ?hr ?_; (case hd => rfl); (case hg => rfl); (case hr => first | (go_simp; done) | (go_simp; rfl)); intro gb113 hg w31 hbox hb; have n0_ := Aside0.mk (Kd.R_below (by (with_reducible repeat (first | apply Kd.R_alloc | apply Kd.R_drewN | apply Kd.R_drew)); exact HO_8.out) hb); have n1_ := Aside0.mk (Kd.R_below (by (with_reducible repeat (first | apply Kd.R_alloc | apply Kd.R_drewN | apply Kd.R_drew)); exact HO_108000.out) hb); have n2_ := Aside0.mk (Kd.R_below (by (with_reducible repeat (first | apply Kd.R_alloc | apply Kd.R_drewN | apply Kd.R_drew)); exact HO111.out) hb); have n3_ := Aside0.mk (blk_below (g := gb107) (o := .cells #[.slice Ao29 x108000_1.length co29] 28 (0, 0)) (by (with_reducible repeat (first | refine blk_drewN ?_ _ | refine blk_drew ?_ | refine blk_alloc ?_ _)); exact BK107.out) hb); have n4_ := Aside0.mk (below_step (by repeat (first | (with_reducible first | exact HB.out | apply below_alloc | apply pw_below_drewN | apply below_drew1 | refine below_set ?_ GE107.out) | exact HB.out)) hb); have n5_ := Aside0.mk (hbox); have n6_ := Aside0.mk ((by rw [hg]; exact (below_size (by repeat (first | (with_reducible first | exact HB.out | apply below_alloc | apply pw_below_drewN | apply below_drew1 | refine below_set ?_ GE107.out) | exact HB.out))) : w.heap.size ≤ gb113)); have n7_ := Aside0.mk ((by rw [hg]; exact (below_size (by repeat (first | (with_reducible first | exact HB.out | apply below_alloc | apply pw_below_drewN | apply below_drew1 | refine below_set ?_ GE107.out) | exact HB.out))) : w.heap.size ≤ gb113)); have n8_ := Aside0.mk ((by rw [hg]; exact Nat.ne_of_lt (blk_lt (g := gb107) (o := .cells #[.slice Ao29 x108000_1.length co29] 28 (0, 0)) (by (with_reducible repeat (first | refine blk_drewN ?_ _ | refine blk_drew ?_ | refine blk_alloc ?_ _)); exact BK107.out)) : gb107 ≠ gb113)); have n9_ := Aside0.mk ((by rw [hg]; exact Nat.ne_of_gt (blk_lt (g := gb107) (o := .cells #[.slice Ao29 x108000_1.length co29] 28 (0, 0)) (by (with_reducible repeat (first | refine blk_drewN ?_ _ | refine blk_drew ?_ | refine blk_alloc ?_ _)); exact BK107.out)) : gb113 ≠ gb107)); clear HO_8; clear HO_108000; clear HO111; clear BK107; clear HB; have HO_8 := n0_; have HO_108000 := n1_; have HO111 := n2_; have BK107 := n3_; have HB := n4_; have BK113 := n5_; have GW113 := n6_; have GE113 := n7_; have NB107_113 := n8_; have NB113_107 := n9_; clear n0_ n1_ n2_ n3_ n4_ n5_ n6_ n7_ n8_ n9_; clear hb hbox hg; obtain ⟨Ao32, co32, eo32⟩ := Kd.R_slice HO111.out; subst eo32; have hnb33 := NB113_107.out; have hnc33 := NB107_113.out; have hcz34_0 : w31.cell? ⟨gb113, 0, none⟩ = some (.slice none 0 0) := (blk_cell BK113.out 0).trans rfl; have hfz34_0 := blk_frozen BK113.out 0) | ((with_reducible refine gate_store (t := 28) (p := 11) rfl ?_); refine store_event (t := 28) (p := 11) (v := ?vo_w35) (w1 := (w31.setCell ⟨gb113, 0, none⟩ (.slice Ao32 t109.length co32))) ?hg ?ho ?hn ?hr ?_; (case ho => rfl); (case hg => rfl); (case hn => rfl); (case hr => first | (go_simp; done) | (go_simp; rfl)); intro w35 hw; have n0_ : Aside0 (Kd.R (Kd.int .i64) 3 w35 w.heap.size (fun _ => True) v105 x8_1) := ⟨(by rw [hw]; exact (by (with_reducible repeat (first | apply Kd.R_alloc | apply Kd.R_drewN | apply Kd.R_drew)); exact Kd.R_mono (Kd.R_far (p := ⟨gb113, 0, none⟩) (Kd.R_types HO_8.out BK113.out (by decide)) (fun _ hk => hk.2) (.slice Ao32 t109.length co32)) (fun _ hk => trivial)))⟩; have n1_ : Aside0 (Kd.R k36 36 w35 w.heap.size (fun k_ => some k_ ≠ (.slice Ao32 t109.length co32 : Value).ownBlock) (.slice Ao29 x108000_1.length co29) x108000_1) := ⟨(by rw [hw]; exact (by (with_reducible repeat (first | apply Kd.R_alloc | apply Kd.R_drewN | apply Kd.R_drew)); exact Kd.R_mono (Kd.R_far (p := ⟨gb113, 0, none⟩) (Kd.R_types HO_108000.out BK113.out (by decide)) (fun _ hk => hk.2) (.slice Ao32 t109.length co32)) (fun _ hk => hk.1.2)))⟩; have n2_ : Aside0 (Kd.R k36 36 w35 w.heap.size (fun k_ => some k_ ≠ (.slice Ao29 x108000_1.length co29 : Value).ownBlock) (.slice Ao32 t109.length co32) t109) := ⟨(by rw [hw]; exact (by (with_reducible repeat (first | apply Kd.R_alloc | apply Kd.R_drewN | apply Kd.R_drew)); exact Kd.R_mono (Kd.R_far (p := ⟨gb113, 0, none⟩) (Kd.R_types HO111.out BK113.out (by decide)) (fun _ hk => hk.2) (.slice Ao32 t109.length co32)) (fun _ hk => hk.1.2)))⟩; have n3_ : Aside0 (w35.heap[gb107]? = some (.cells #[.slice Ao29 x108000_1.length co29] 28 (0, 0))) := ⟨(by rw [hw]; exact (by (with_reducible repeat (first | refine blk_drewN ?_ _ | refine blk_drew ?_ | refine blk_alloc ?_ _)); refine blk_far ?_ NB107_113.out _; (with_reducible repeat (first | refine blk_drewN ?_ _ | refine blk_drew ?_ | refine blk_alloc ?_ _)); exact BK107.out))⟩; have n4_ : Aside0 (w35.heap[gb113]? = some (.cells #[.slice Ao32 t109.length co32] 28 (0, 0))) := ⟨(by rw [hw]; exact (by (with_reducible repeat (first | refine blk_drewN ?_ _ | refine blk_drew ?_ | refine blk_alloc ?_ _)); refine blk_put (cs := #[.slice none 0 0]) ?_ 0 _ rfl; (with_reducible repeat (first | refine blk_drewN ?_ _ | refine blk_drew ?_ | refine blk_alloc ?_ _)); exact BK113.out))⟩; have n5_ : Aside0 (Below w.heap.size w w35) := ⟨(by rw [hw]; exact (by repeat (first | (with_reducible first | exact HB.out | apply below_alloc | apply pw_below_drewN | apply below_drew1 | refine below_set ?_ GE107.out | refine below_set ?_ GE113.out) | exact HB.out)))⟩; clear hw; clear HO_8; clear HO_108000; clear HO111; clear BK107; clear BK113; clear HB; have HO_8 := n0_; have HO_108000 := n1_; have HO111 := n2_; have BK107 := n3_; have BK113 := n4_; have HB := n5_; clear n0_ n1_ n2_ n3_ n4_ n5_; have hcz36_0 : w35.cell? ⟨gb113, 0, none⟩ = some (.slice Ao32 t109.length co32) := (blk_cell BK113.out 0).trans rfl; have hfz36_0 := blk_frozen BK113.out 0; have hcz37_0 : w35.cell? ⟨gb107, 0, none⟩ = some (.slice Ao29 x108000_1.length co29) := (blk_cell BK107.out 0).trans rfl; have hfz37_0 := blk_frozen BK107.out 0) | ((with_reducible refine gate_store (t := 28) (p := 9) rfl ?_); refine store_event (t := 28) (p := 9) (v := ?vo_w38) (w1 := (w35.setCell ⟨gb107, 0, none⟩ (.slice Ao32 t109.length co32))) ?hg ?ho ?hn ?hr ?_; (case ho => rfl); (case hg => rfl); (case hn => rfl); (case hr => first | (go_simp; done) | (go_simp; rfl)); intro w38 hw; have n0_ : Aside0 (Kd.R (Kd.int .i64) 3 w38 w.heap.size (fun _ => True) v105 x8_1) := ⟨(by rw [hw]; exact (by (with_reducible repeat (first | apply Kd.R_alloc | apply Kd.R_drewN | apply Kd.R_drew)); exact Kd.R_mono (Kd.R_far (p := ⟨gb107, 0, none⟩) (Kd.R_types HO_8.out BK107.out (by decide)) (fun _ hk => hk.2) (.slice Ao32 t109.length co32)) (fun _ hk => trivial)))⟩; have n1_ : Aside0 (Kd.R k36 36 w38 w.heap.size (fun k_ => some k_ ≠ (.slice Ao32 t109.length co32 : Value).ownBlock) (.slice Ao29 x108000_1.length co29) x108000_1) := ⟨(by rw [hw]; exact (by (with_reducible repeat (first | apply Kd.R_alloc | apply Kd.R_drewN | apply Kd.R_drew)); exact Kd.R_mono (Kd.R_far (p := ⟨gb107, 0, none⟩) (Kd.R_types HO_108000.out BK107.out (by decide)) (fun _ hk => hk.2) (.slice Ao32 t109.length co32)) (fun _ hk => hk.1)))⟩; have n2_ : Aside0 (Kd.R k36 36 w38 w.heap.size (fun k_ => some k_ ≠ (.slice Ao29 x108000_1.length co29 : Value).ownBlock) (.slice Ao32 t109.length co32) t109) := ⟨(by rw [hw]; exact (by (with_reducible repeat (first | apply Kd.R_alloc | apply Kd.R_drewN | apply Kd.R_drew)); exact Kd.R_mono (Kd.R_far (p := ⟨gb107, 0, none⟩) (Kd.R_types HO111.out BK107.out (by decide)) (fun _ hk => hk.2) (.slice Ao32 t109.length co32)) (fun _ hk => hk.1)))⟩; have n3_ : Aside0 (w38.heap[gb107]? = some (.cells #[.slice Ao32 t109.length co32] 28 (0, 0))) := ⟨(by rw [hw]; exact (by (with_reducible repeat (first | refine blk_drewN ?_ _ | refine blk_drew ?_ | refine blk_alloc ?_ _)); refine blk_put (cs := #[.slice Ao29 x108000_1.length co29]) ?_ 0 _ rfl; (with_reducible repeat (first | refine blk_drewN ?_ _ | refine blk_drew ?_ | refine blk_alloc ?_ _)); exact BK107.out))⟩; have n4_ : Aside0 (w38.heap[gb113]? = some (.cells #[.slice Ao32 t109.length co32] 28 (0, 0))) := ⟨(by rw [hw]; exact (by (with_reducible repeat (first | refine blk_drewN ?_ _ | refine blk_drew ?_ | refine blk_alloc ?_ _)); refine blk_far ?_ NB113_107.out _; (with_reducible repeat (first | refine blk_drewN ?_ _ | refine blk_drew ?_ | refine blk_alloc ?_ _)); exact BK113.out))⟩; have n5_ : Aside0 (Below w.heap.size w w38) := ⟨(by rw [hw]; exact (by repeat (first | (with_reducible first | exact HB.out | apply below_alloc | apply pw_below_drewN | apply below_drew1 | refine below_set ?_ GE107.out | refine below_set ?_ GE113.out) | exact HB.out)))⟩; clear hw; clear HO_8; clear HO_108000; clear HO111; clear BK107; clear BK113; clear HB; have HO_8 := n0_; have HO_108000 := n1_; have HO111 := n2_; have BK107 := n3_; have BK113 := n4_; have HB := n5_; clear n0_ n1_ n2_ n3_ n4_ n5_; obtain ⟨Ao39, co39, eo39⟩ := Kd.R_slice HO_8.out; subst eo39; have p114 : 0 ≤ (x10_1 : Int) := of_decide_eq_true (by first | (with_reducible assumption) | assumption); have q114 : x10_1 < (x8_1.length : Int) := of_decide_eq_true (by first | (with_reducible assumption) | assumption); obtain ⟨ad114, e114, hx114_0⟩ := Kd.at_int (Kd.R_reads' HO_8.out).2.2 x10_1 p114 q114; cases e114; replace p114 := eq_true p114; replace q114 := eq_true q114; have p27 : 0 ≤ (x10_1 : Int) := of_decide_eq_true (by first | (with_reducible assumption) | assumption); have q27 : (x10_1 : Int) < ((x8_1.length : Int) : Int) := of_decide_eq_true (by first | (with_reducible assumption) | assumption); obtain ⟨go27, co27, eo27, gb27, gl27, cl27, HG27⟩ := Kd.R_form HO_8.out (by omega); (first | cases eo27 | (injection eo27 with ea_ en_ ec_; (first | subst ea_ | (injection ea_ with ea_; subst ea_)); subst ec_; clear en_)); have GB27 := Aside0.mk gb27; have GG27 := Aside0.mk HG27; clear gb27 gl27 HG27; (first | simp only [add_plain] at hx114_0 | skip); obtain ⟨hx27_0, hf27_0⟩ := Kd.R_celln 0 HO_8.out (x10_1 : Int) p27 q27; replace p27 := eq_true p27; replace q27 := eq_true q27; obtain ⟨hy40_, hz40_⟩ := Kd.R_celln 0 HO_8.out (x10_1 : Int) (of_decide_eq_true (by first | (with_reducible assumption) | assumption)) (of_decide_eq_true (by first | (with_reducible assumption) | assumption)); have HP40 := Kd.R_putg HO_8.out (x10_1 : Int) (wrap64 ((rd x8_1 x10_1) + 1))) | ((with_reducible refine gate_store (t := 3) (p := 63) rfl ?_); refine store_event (t := 3) (p := 63) (v := ?vo_w41) (w1 := (w38.setCell ⟨go27, (x10_1 : Int).toNat, none⟩ (.int .i64 (wrap64 ((rd x8_1 x10_1) + 1))))) ?hg ?ho ?hn ?hr ?_; (case ho => rfl); (case hg => rfl); (case hn => rfl); (case hr => first | (go_simp; done) | (go_simp; rfl)); intro w41 hw; have hg : w38.grownBy w41 (some go27) := (by rw [hw]; exact HP40.2); have hp_ : Kd.R (Kd.int .i64) 3 w41 w.heap.size (fun _ => True) (.slice (some ⟨go27, 0, none⟩) x8_1.length co39) y115 := (by rw [hw, Ny115.out]; exact HP40.1); clear HP40; have n0_ := Aside0.mk (hp_); have n1_ := Aside0.mk (Kd.R_over' (v := (.slice (some ⟨go27, 0, none⟩) x8_1.length co39)) (by (with_reducible repeat (first | apply Kd.R_alloc | apply Kd.R_drewN | apply Kd.R_drew)); exact HO_108000.out) (Kd.R_typed HO_8.out) (by decide) hg); have n2_ := Aside0.mk (blk_grown (g := gb107) (o := .cells #[.slice Ao32 t109.length co32] 28 (0, 0)) (by (with_reducible repeat (first | refine blk_drewN ?_ _ | refine blk_drew ?_ | refine blk_alloc ?_ _)); exact BK107.out) hg (Kd.R_ne HO_8.out BK107.out (by decide))); have n3_ := Aside0.mk (Kd.R_over' (v := (.slice (some ⟨go27, 0, none⟩) x8_1.length co39)) (by (with_reducible repeat (first | apply Kd.R_alloc | apply Kd.R_drewN | apply Kd.R_drew)); exact HO111.out) (Kd.R_typed HO_8.out) (by decide) hg); have n4_ := Aside0.mk (blk_grown (g := gb113) (o := .cells #[.slice Ao32 t109.length co32] 28 (0, 0)) (by (with_reducible repeat (first | refine blk_drewN ?_ _ | refine blk_drew ?_ | refine blk_alloc ?_ _)); exact BK113.out) hg (Kd.R_ne HO_8.out BK113.out (by decide))); have n5_ := Aside0.mk ((by rw [hw]; exact below_set (HB.out) GB27.out : Below w.heap.size w w41)); clear HO_8; clear HO_108000; clear BK107; clear HO111; clear BK113; clear HB; have HO_8 := n0_; have HO_108000 := n1_; have BK107 := n2_; have HO111 := n3_; have BK113 := n4_; have HB := n5_; clear n0_ n1_ n2_ n3_ n4_ n5_; clear hg hw hp_))
              go_meet
              case rel => exact ⟨_, (y115), (t109), (.slice Ao32 t109.length co32), H', ⟨by have := HK1.out; have := HJ16.out; first | omega | exact Nat.le_refl _⟩, ⟨by (with_reducible repeat (first | apply Kd.R_alloc | apply Kd.R_drewN | apply Kd.R_drew)); exact HO_8.out⟩, ⟨by (with_reducible repeat (first | apply Kd.R_alloc | apply Kd.R_drewN | apply Kd.R_drew)); exact Kd.R_mono HO111.out (fun _ hk => trivial)⟩, ⟨by (with_reducible repeat (first | refine blk_drewN ?_ _ | refine blk_drew ?_ | refine blk_alloc ?_ _)); exact BK107.out⟩, ⟨by repeat (first | (with_reducible first | exact HB.out | apply below_alloc | apply pw_below_drewN | apply below_drew1 | refine below_set ?_ GE107.out | refine below_set ?_ GE113.out) | exact HB.out)⟩⟩
             ·rw [if_neg c26] at H
              exact absurd H (by simp)
            ·rw [if_neg c25] at H
             exact absurd H (by simp)
           ·replace c24 := Bool.eq_false_iff.mpr c24
            subst c24
            have H1 : (substationlaw16_TwinExactlyOnce.j2 kj16 t102 t103 l2 ji8 x8_1 x10_1 t109) = some r := by rw [if_neg (show ¬ (false = true) by decide)] at H; exact H
            clear H
            have H := H1
            clear H1
            have H' := Aside0.mk H
            clear H
            have hcz42_0 : wc.cell? ⟨gb107, 0, none⟩ = some (u108000) := (blk_cell BK107.out 0).trans rfl
            have hfz42_0 := blk_frozen BK107.out 0
            obtain ⟨Ao43, co43, eo43⟩ := Kd.R_slice HO_108000.out
            subst eo43
            go_wp2_with (first | ((with_reducible refine gate_callee (f := 17) rfl ?_); refine goesL_ (some 53) rfl rfl Try.func17 (by kernel_rfl) rfl #[.agg #[.slice Ao43 x108000_1.length co43], .int .i64 9, .int .i64 (Int.tmod (wrap64 (t102 + x10_1)) 65536)] rfl (by (try simp only [List.map_toArray, List.map_cons, List.map_nil]); first | done | rfl | (simp only [List.length_drop, List.length_take]; rfl)) ?_; (with_reducible refine (twin_Accept.calls _ _ x108000_1 9 (Int.tmod (wrap64 (t102 + x10_1)) 65536) t109 false _ ?side1 ?side2 A23.out).mono ?_); (case side1 => repeat (first | exact (Kd.R_reads' HO_108000.out).2.2 | (with_reducible refine Kd.C_alloc ?_ _) | (with_reducible refine Kd.C_drewN ?_ _) | (with_reducible refine Kd.C_drew ?_))); (case side2 => exact (Kd.R_reads' HO_108000.out).2.1); rintro e w44 ⟨v110, rfl, ho0, hb⟩; refine ⟨_, rfl, ?_⟩; have n0_ := Aside0.mk (Kd.R_below (by (with_reducible repeat (first | apply Kd.R_alloc | apply Kd.R_drewN | apply Kd.R_drew)); exact HO_8.out) hb); have n1_ := Aside0.mk (Kd.R_elder' (by (with_reducible repeat (first | apply Kd.R_alloc | apply Kd.R_drewN | apply Kd.R_drew)); exact HO_108000.out) (Kd.R_base ho0) hb); have n2_ := Aside0.mk (Kd.R_lower (Kd.R_new' ho0 (Kd.R_lt (by (with_reducible repeat (first | apply Kd.R_alloc | apply Kd.R_drewN | apply Kd.R_drew)); exact HO_108000.out))) (below_size (by repeat (first | (with_reducible first | exact HB.out | apply below_alloc | apply pw_below_drewN | apply below_drew1 | refine below_set ?_ GE107.out) | exact HB.out)))); have n3_ := Aside0.mk (blk_below (g := gb107) (o := .cells #[.slice Ao43 x108000_1.length co43] 28 (0, 0)) (by (with_reducible repeat (first | refine blk_drewN ?_ _ | refine blk_drew ?_ | refine blk_alloc ?_ _)); exact BK107.out) hb); have n4_ := Aside0.mk (below_step (by repeat (first | (with_reducible first | exact HB.out | apply below_alloc | apply pw_below_drewN | apply below_drew1 | refine below_set ?_ GE107.out) | exact HB.out)) hb); clear HO_8; clear HO_108000; clear BK107; clear HB; have HO_8 := n0_; have HO_108000 := n1_; have HO111 := n2_; have BK107 := n3_; have HB := n4_; clear n0_ n1_ n2_ n3_ n4_; (try clear hb); (try clear hb2); (try clear hk); (try clear hi); (try clear ho0)) | ((with_reducible refine gate_dst (N := 11) rfl ?_); refine box_event ?hg (N := 11) ?hd (cs := #[.slice none 0 0]) (t := 28) ?hr ?_; (case hd => rfl); (case hg => rfl); (case hr => first | (go_simp; done) | (go_simp; rfl)); intro gb113 hg w45 hbox hb; have n0_ := Aside0.mk (Kd.R_below (by (with_reducible repeat (first | apply Kd.R_alloc | apply Kd.R_drewN | apply Kd.R_drew)); exact HO_8.out) hb); have n1_ := Aside0.mk (Kd.R_below (by (with_reducible repeat (first | apply Kd.R_alloc | apply Kd.R_drewN | apply Kd.R_drew)); exact HO_108000.out) hb); have n2_ := Aside0.mk (Kd.R_below (by (with_reducible repeat (first | apply Kd.R_alloc | apply Kd.R_drewN | apply Kd.R_drew)); exact HO111.out) hb); have n3_ := Aside0.mk (blk_below (g := gb107) (o := .cells #[.slice Ao43 x108000_1.length co43] 28 (0, 0)) (by (with_reducible repeat (first | refine blk_drewN ?_ _ | refine blk_drew ?_ | refine blk_alloc ?_ _)); exact BK107.out) hb); have n4_ := Aside0.mk (below_step (by repeat (first | (with_reducible first | exact HB.out | apply below_alloc | apply pw_below_drewN | apply below_drew1 | refine below_set ?_ GE107.out) | exact HB.out)) hb); have n5_ := Aside0.mk (hbox); have n6_ := Aside0.mk ((by rw [hg]; exact (below_size (by repeat (first | (with_reducible first | exact HB.out | apply below_alloc | apply pw_below_drewN | apply below_drew1 | refine below_set ?_ GE107.out) | exact HB.out))) : w.heap.size ≤ gb113)); have n7_ := Aside0.mk ((by rw [hg]; exact (below_size (by repeat (first | (with_reducible first | exact HB.out | apply below_alloc | apply pw_below_drewN | apply below_drew1 | refine below_set ?_ GE107.out) | exact HB.out))) : w.heap.size ≤ gb113)); have n8_ := Aside0.mk ((by rw [hg]; exact Nat.ne_of_lt (blk_lt (g := gb107) (o := .cells #[.slice Ao43 x108000_1.length co43] 28 (0, 0)) (by (with_reducible repeat (first | refine blk_drewN ?_ _ | refine blk_drew ?_ | refine blk_alloc ?_ _)); exact BK107.out)) : gb107 ≠ gb113)); have n9_ := Aside0.mk ((by rw [hg]; exact Nat.ne_of_gt (blk_lt (g := gb107) (o := .cells #[.slice Ao43 x108000_1.length co43] 28 (0, 0)) (by (with_reducible repeat (first | refine blk_drewN ?_ _ | refine blk_drew ?_ | refine blk_alloc ?_ _)); exact BK107.out)) : gb113 ≠ gb107)); clear HO_8; clear HO_108000; clear HO111; clear BK107; clear HB; have HO_8 := n0_; have HO_108000 := n1_; have HO111 := n2_; have BK107 := n3_; have HB := n4_; have BK113 := n5_; have GW113 := n6_; have GE113 := n7_; have NB107_113 := n8_; have NB113_107 := n9_; clear n0_ n1_ n2_ n3_ n4_ n5_ n6_ n7_ n8_ n9_; clear hb hbox hg; obtain ⟨Ao46, co46, eo46⟩ := Kd.R_slice HO111.out; subst eo46; have hnb47 := NB113_107.out; have hnc47 := NB107_113.out; have hcz48_0 : w45.cell? ⟨gb113, 0, none⟩ = some (.slice none 0 0) := (blk_cell BK113.out 0).trans rfl; have hfz48_0 := blk_frozen BK113.out 0; have hcz49_0 : w45.cell? ⟨gb107, 0, none⟩ = some (.slice Ao43 x108000_1.length co43) := (blk_cell BK107.out 0).trans rfl; have hfz49_0 := blk_frozen BK107.out 0))
            go_meet
            case rel => exact ⟨_, (x8_1), (t109), (.slice Ao46 t109.length co46), H', ⟨by have := HK1.out; have := HJ16.out; first | omega | exact Nat.le_refl _⟩, ⟨by (with_reducible repeat (first | apply Kd.R_alloc | apply Kd.R_drewN | apply Kd.R_drew)); exact Kd.R_mono (Kd.R_far (p := ⟨gb107, 0, none⟩) (Kd.R_far (p := ⟨gb113, 0, none⟩) (Kd.R_types (Kd.R_types HO_8.out BK113.out (by decide)) BK107.out (by decide)) (fun _ hk => hk.1.2) (.slice Ao46 t109.length co46)) (fun _ hk => hk.2) (.slice Ao46 t109.length co46)) (fun _ hk => trivial)⟩, ⟨by (with_reducible repeat (first | apply Kd.R_alloc | apply Kd.R_drewN | apply Kd.R_drew)); exact Kd.R_mono (Kd.R_far (p := ⟨gb107, 0, none⟩) (Kd.R_far (p := ⟨gb113, 0, none⟩) (Kd.R_types (Kd.R_types HO111.out BK113.out (by decide)) BK107.out (by decide)) (fun _ hk => hk.1.2) (.slice Ao46 t109.length co46)) (fun _ hk => hk.2) (.slice Ao46 t109.length co46)) (fun _ hk => trivial)⟩, ⟨by (with_reducible repeat (first | refine blk_drewN ?_ _ | refine blk_drew ?_ | refine blk_alloc ?_ _)); refine blk_put (cs := #[.slice Ao43 x108000_1.length co43]) ?_ 0 _ rfl; (with_reducible repeat (first | refine blk_drewN ?_ _ | refine blk_drew ?_ | refine blk_alloc ?_ _)); refine blk_far ?_ NB107_113.out _; (with_reducible repeat (first | refine blk_drewN ?_ _ | refine blk_drew ?_ | refine blk_alloc ?_ _)); exact BK107.out⟩, ⟨by repeat (first | (with_reducible first | exact HB.out | apply below_alloc | apply pw_below_drewN | apply below_drew1 | refine below_set ?_ GE107.out | refine below_set ?_ GE113.out) | exact HB.out)⟩⟩
          ·replace c22 := Bool.eq_false_iff.mpr c22
           subst c22
           have H1 : (substationlaw16_TwinExactlyOnce.j2 kj16 t102 t103 l2 ji8 x8_1 x10_1 x108000_1) = some r := by rw [if_neg (show ¬ (false = true) by decide)] at H; exact H
           clear H
           have H := H1
           clear H1
           have H' := Aside0.mk H
           clear H
           go_wp2
           go_meet
           case rel => exact ⟨_, (x8_1), (x108000_1), (u108000), H', ⟨by have := HK1.out; have := HJ16.out; first | omega | exact Nat.le_refl _⟩, ⟨by (with_reducible repeat (first | apply Kd.R_alloc | apply Kd.R_drewN | apply Kd.R_drew)); exact HO_8.out⟩, ⟨by (with_reducible repeat (first | apply Kd.R_alloc | apply Kd.R_drewN | apply Kd.R_drew)); exact HO_108000.out⟩, ⟨by (with_reducible repeat (first | refine blk_drewN ?_ _ | refine blk_drew ?_ | refine blk_alloc ?_ _)); exact BK107.out⟩, ⟨by repeat (first | (with_reducible first | exact HB.out | apply below_alloc | apply pw_below_drewN | apply below_drew1 | refine below_set ?_ GE107.out) | exact HB.out)⟩⟩
         case rest =>
          clear HC21
          try clear c1
          try clear p1
          try clear q1
          try clear hx1
          try clear c2
          try clear p2
          try clear q2
          try clear hx2
          try clear c3
          try clear c4
          try clear c5
          try clear p6
          try clear c9
          try clear c9b0
          try clear c9b1
          try clear c10
          try clear c10b0
          try clear c10b1
          try clear p10
          try clear q10
          try clear hx10
          try clear p11
          try clear q11
          try clear hx11
          try clear c15
          try clear c16
          try clear c16b0
          try clear c17
          try clear c18
          try clear c18b0
          try clear c19
          try clear c19b0
          try clear c20
          try clear c20b0
          try clear c22
          try clear c24
          try clear c25
          try clear c25b0
          try clear c26
          try clear c26b0
          try clear p27
          try clear q27
          try clear hx27
          try clear hf27
          try clear c33
          try clear c47
          try clear hcz15_0
          try clear hcz28_0
          try clear hcz34_0
          try clear hcz36_0
          try clear hcz37_0
          try clear hcz42_0
          try clear hcz48_0
          try clear hcz49_0
          try clear hfz15_0
          try clear hfz28_0
          try clear hfz34_0
          try clear hfz36_0
          try clear hfz37_0
          try clear hfz42_0
          try clear hfz48_0
          try clear hfz49_0
          try clear hx108_0
          try clear hx108_1
          try clear hx114_0
          try clear hx27_0
          try clear p1
          try clear p10
          try clear p108
          try clear p114
          try clear p2
          try clear p27
          try clear p6
          try clear q1
          try clear q10
          try clear q108
          try clear q114
          try clear q27
          obtain ⟨kq, x8_20, x108000_20, u108000, HA, HJ20, HO_8, HO_108000, BK107, HB⟩ := hcut
          cases kq with
          | zero => exact absurd HA.out (by simp [substationlaw16_TwinExactlyOnce.j2])
          | succ kj20 =>
           have H := HA.out
           clear HA
           simp only [substationlaw16_TwinExactlyOnce.j2] at H
           have HC50 := Aside0.mk H
           clear H
           go_upto_region 15 with (fail)
           go_cut [83] (fun v83 wc => ∃ (kq : Nat) (x83_49 : Bool), v83 = .bool x83_49 ∧ Aside0 (substationlaw16_TwinExactlyOnce.j3 kq t102 t103 l2 ji8 x8_20 x10_1 x83_49 x108000_20 = some r) ∧ Aside0 (kq ≤ kj20) ∧ Aside0 (Kd.R (Kd.int .i64) 3 wc w.heap.size (fun _ => True) v105 x8_20) ∧ Aside0 (Kd.R k36 36 wc w.heap.size (fun _ => True) u108000 x108000_20) ∧ Aside0 (wc.heap[gb107]? = some (.cells #[u108000] 28 (0, 0))) ∧ Aside0 (Below w.heap.size w wc))
           case first =>
            have H := HC50.out
            clear HC50
            by_cases c51 : x10_1 ≥ t103
            ·rw [if_pos c51] at H
             have c51b0 : decide (t103 ≤ x10_1) = true := decide_eq_true c51
             clear c51
             (first | rw [c51b0] | (simp only [i64_w, i32_w]; rw [c51b0]) | skip)
             by_cases c52 : (wrap64 (x10_1 - t103)) < ji8
             ·rw [if_pos c52] at H
              have c52b0 : decide ((wrap64 (x10_1 - t103)) < ji8) = true := decide_eq_true c52
              clear c52
              obtain ⟨ji53, hji53⟩ : ∃ j_ : Int, (wrap64 (x10_1 - t103)) = j_ := ⟨_, rfl⟩
              replace H : (if 0 ≤ (ji53) then (if (ji53) < (l2.length : Int) then (substationlaw16_TwinExactlyOnce.j3 kj20 t102 t103 l2 ji8 x8_20 x10_1 (!((rd_T30 l2 (ji53)).f1)) x108000_20) else (none)) else (none)) = some r := by first | (rw [hji53] at H; exact H) | (simp only [hji53] at H ⊢; exact H)
              (try rw [hji53] at c52b0)
              have hji53w : (IntKind.i64.wrap (x10_1 - t103)) = ji53 := (i64_w _).trans hji53
              by_cases c54 : 0 ≤ (ji53)
              ·rw [if_pos c54] at H
               have c54b0 : decide (0 ≤ (ji53)) = true := decide_eq_true c54
               clear c54
               by_cases c55 : (ji53) < (l2.length : Int)
               ·rw [if_pos c55] at H
                have c55b0 : decide ((ji53) < (l2.length : Int)) = true := decide_eq_true c55
                clear c55
                have H' := Aside0.mk H
                clear H
                have p116 : 0 ≤ ((ji53) : Int) := of_decide_eq_true (by first | (with_reducible assumption) | assumption)
                have q116 : (ji53) < (l2.length : Int) := of_decide_eq_true (by first | (with_reducible assumption) | assumption)
                obtain ⟨ad116, e116, hx116_0, hx116_1⟩ := at_T30 HR2.out (ji53) p116 q116
                cases e116
                replace hx116_0 := (HB.out.cell (World.block_lt_of_cell? w _ hx116_0)).trans hx116_0
                replace hx116_1 := (HB.out.cell (World.block_lt_of_cell? w _ hx116_1)).trans hx116_1
                replace p116 := eq_true p116
                replace q116 := eq_true q116
                go_wp2
                go_meet
                case rel => exact ⟨_, (!((rd_T30 l2 (ji53)).f1)), (by first | rfl | (simp; done) | (simp only [← hji53] <;> (first | rfl | simp)) | (simp [*]; done)), H', ⟨by have := HK1.out; have := HJ16.out; have := HJ20.out; first | omega | exact Nat.le_refl _⟩, ⟨by (with_reducible repeat (first | apply Kd.R_alloc | apply Kd.R_drewN | apply Kd.R_drew)); exact HO_8.out⟩, ⟨by (with_reducible repeat (first | apply Kd.R_alloc | apply Kd.R_drewN | apply Kd.R_drew)); exact HO_108000.out⟩, ⟨by (with_reducible repeat (first | refine blk_drewN ?_ _ | refine blk_drew ?_ | refine blk_alloc ?_ _)); exact BK107.out⟩, ⟨by repeat (first | (with_reducible first | exact HB.out | apply below_alloc | apply pw_below_drewN | apply below_drew1 | refine below_set ?_ GE107.out) | exact HB.out)⟩⟩
               ·rw [if_neg c55] at H
                exact absurd H (by simp)
              ·rw [if_neg c54] at H
               exact absurd H (by simp)
             ·rw [if_neg c52] at H
              have c52b0 : decide ((wrap64 (x10_1 - t103)) < ji8) = false := decide_eq_false c52
              clear c52
              have H' := Aside0.mk H
              clear H
              go_wp2
              go_meet
              case rel => exact ⟨_, (false), (by first | rfl | (simp; done) | (simp [*]; done) | (simp; omega)), H', ⟨by have := HK1.out; have := HJ16.out; have := HJ20.out; first | omega | exact Nat.le_refl _⟩, ⟨by (with_reducible repeat (first | apply Kd.R_alloc | apply Kd.R_drewN | apply Kd.R_drew)); exact HO_8.out⟩, ⟨by (with_reducible repeat (first | apply Kd.R_alloc | apply Kd.R_drewN | apply Kd.R_drew)); exact HO_108000.out⟩, ⟨by (with_reducible repeat (first | refine blk_drewN ?_ _ | refine blk_drew ?_ | refine blk_alloc ?_ _)); exact BK107.out⟩, ⟨by repeat (first | (with_reducible first | exact HB.out | apply below_alloc | apply pw_below_drewN | apply below_drew1 | refine below_set ?_ GE107.out) | exact HB.out)⟩⟩
            ·rw [if_neg c51] at H
             have c51b0 : decide (t103 ≤ x10_1) = false := decide_eq_false c51
             clear c51
             (first | rw [c51b0] | (simp only [i64_w, i32_w]; rw [c51b0]) | skip)
             have H' := Aside0.mk H
             clear H
             go_wp2
             go_meet
             case rel => exact ⟨_, (false), (by first | rfl | (simp; done) | (simp [*]; done) | (simp; omega)), H', ⟨by have := HK1.out; have := HJ16.out; have := HJ20.out; first | omega | exact Nat.le_refl _⟩, ⟨by (with_reducible repeat (first | apply Kd.R_alloc | apply Kd.R_drewN | apply Kd.R_drew)); exact HO_8.out⟩, ⟨by (with_reducible repeat (first | apply Kd.R_alloc | apply Kd.R_drewN | apply Kd.R_drew)); exact HO_108000.out⟩, ⟨by (with_reducible repeat (first | refine blk_drewN ?_ _ | refine blk_drew ?_ | refine blk_alloc ?_ _)); exact BK107.out⟩, ⟨by repeat (first | (with_reducible first | exact HB.out | apply below_alloc | apply pw_below_drewN | apply below_drew1 | refine below_set ?_ GE107.out) | exact HB.out)⟩⟩
           case rest =>
            clear HC50
            try clear c1
            try clear p1
            try clear q1
            try clear hx1
            try clear c2
            try clear p2
            try clear q2
            try clear hx2
            try clear c3
            try clear c4
            try clear c5
            try clear p6
            try clear c9
            try clear c9b0
            try clear c9b1
            try clear c10
            try clear c10b0
            try clear c10b1
            try clear p10
            try clear q10
            try clear hx10
            try clear p11
            try clear q11
            try clear hx11
            try clear c15
            try clear c16
            try clear c16b0
            try clear c17
            try clear c18
            try clear c18b0
            try clear c19
            try clear c19b0
            try clear c20
            try clear c20b0
            try clear c22
            try clear c24
            try clear c25
            try clear c25b0
            try clear c26
            try clear c26b0
            try clear p27
            try clear q27
            try clear hx27
            try clear hf27
            try clear c33
            try clear c47
            try clear c51
            try clear c51b0
            try clear c52
            try clear c52b0
            try clear c54
            try clear c54b0
            try clear c55
            try clear c55b0
            try clear hcz15_0
            try clear hcz28_0
            try clear hcz34_0
            try clear hcz36_0
            try clear hcz37_0
            try clear hcz42_0
            try clear hcz48_0
            try clear hcz49_0
            try clear hfz15_0
            try clear hfz28_0
            try clear hfz34_0
            try clear hfz36_0
            try clear hfz37_0
            try clear hfz42_0
            try clear hfz48_0
            try clear hfz49_0
            try clear hx108_0
            try clear hx108_1
            try clear hx114_0
            try clear hx116_0
            try clear hx116_1
            try clear hx27_0
            try clear p1
            try clear p10
            try clear p108
            try clear p11
            try clear p114
            try clear p116
            try clear p2
            try clear p27
            try clear p6
            try clear q1
            try clear q10
            try clear q108
            try clear q11
            try clear q114
            try clear q116
            try clear q2
            try clear q27
            obtain ⟨kq, x83_49, rfl, HA, HJ49, HO_8, HO_108000, BK107, HB⟩ := hcut
            cases kq with
            | zero => exact absurd HA.out (by simp [substationlaw16_TwinExactlyOnce.j3])
            | succ kj49 =>
             have H := HA.out
             clear HA
             simp only [substationlaw16_TwinExactlyOnce.j3] at H
             by_cases c56 : x83_49 = true
             ·subst c56
              have H1 : ((twin_Accept.f x108000_20 9 (Int.tmod (wrap64 ((wrap64 (t102 + x10_1)) - t103)) 65536)).bind fun bt117 => (if bt117.2 = true then (if 0 ≤ (wrap64 (x10_1 - t103)) then (if (wrap64 (x10_1 - t103)) < (x8_20.length : Int) then (substationlaw16_TwinExactlyOnce.l0 kj49 t102 t103 l2 ji8 (x8_20.set ((wrap64 (x10_1 - t103)) : Int).toNat (wrap64 ((rd x8_20 (wrap64 (x10_1 - t103))) + 1))) (wrap64 (x10_1 + 1)) bt117.1) else (none)) else (none)) else (substationlaw16_TwinExactlyOnce.l0 kj49 t102 t103 l2 ji8 x8_20 (wrap64 (x10_1 + 1)) bt117.1))) = some r := by rw [if_pos rfl] at H; exact H
              clear H
              have H := H1
              clear H1
              replace H := Option.bind_eq_some_iff.mp H
              obtain ⟨⟨t117, t120⟩, A570, H⟩ := H
              replace H : (if t120 = true then (if 0 ≤ (wrap64 (x10_1 - t103)) then (if (wrap64 (x10_1 - t103)) < (x8_20.length : Int) then (substationlaw16_TwinExactlyOnce.l0 kj49 t102 t103 l2 ji8 (x8_20.set ((wrap64 (x10_1 - t103)) : Int).toNat (wrap64 ((rd x8_20 (wrap64 (x10_1 - t103))) + 1))) (wrap64 (x10_1 + 1)) t117) else (none)) else (none)) else (substationlaw16_TwinExactlyOnce.l0 kj49 t102 t103 l2 ji8 x8_20 (wrap64 (x10_1 + 1)) t117)) = some r := H
              have A57 := Aside0.mk A570
              clear A570
              by_cases c58 : t120 = true
              ·subst c58
               have H1 : (if 0 ≤ (wrap64 (x10_1 - t103)) then (if (wrap64 (x10_1 - t103)) < (x8_20.length : Int) then (substationlaw16_TwinExactlyOnce.l0 kj49 t102 t103 l2 ji8 (x8_20.set ((wrap64 (x10_1 - t103)) : Int).toNat (wrap64 ((rd x8_20 (wrap64 (x10_1 - t103))) + 1))) (wrap64 (x10_1 + 1)) t117) else (none)) else (none)) = some r := by rw [if_pos rfl] at H; exact H
               clear H
               have H := H1
               clear H1
               obtain ⟨ji59, hji59⟩ : ∃ j_ : Int, (wrap64 (x10_1 - t103)) = j_ := ⟨_, rfl⟩
               replace H : (if 0 ≤ (ji59) then (if (ji59) < (x8_20.length : Int) then (substationlaw16_TwinExactlyOnce.l0 kj49 t102 t103 l2 ji8 (x8_20.set ((ji59) : Int).toNat (wrap64 ((rd x8_20 (ji59)) + 1))) (wrap64 (x10_1 + 1)) t117) else (none)) else (none)) = some r := by first | (rw [hji59] at H; exact H) | (simp only [hji59] at H ⊢; exact H)
               (try rw [hji59] at A57)
               have hji59w : (IntKind.i64.wrap (x10_1 - t103)) = ji59 := (i64_w _).trans hji59
               by_cases c60 : 0 ≤ (ji59)
               ·rw [if_pos c60] at H
                have c60b0 : decide (0 ≤ (ji59)) = true := decide_eq_true c60
                clear c60
                by_cases c61 : (ji59) < (x8_20.length : Int)
                ·rw [if_pos c61] at H
                 have c61b0 : decide ((ji59) < (x8_20.length : Int)) = true := decide_eq_true c61
                 clear c61
                 obtain ⟨y123, hy123⟩ : ∃ y_ : List Int, y_ = (x8_20.set ((ji59) : Int).toNat (wrap64 ((rd x8_20 (ji59)) + 1))) := ⟨_, rfl⟩
                 replace H : (substationlaw16_TwinExactlyOnce.l0 kj49 t102 t103 l2 ji8 y123 (wrap64 (x10_1 + 1)) t117) = some r := by first | (rw [hy123]; with_reducible exact H) | (have H2_ := (Option.bind_some _ _).symm.trans H; rw [hy123]; with_reducible exact H2_) | (have H2_ := (Option.bind_some _ _).symm.trans H; with_reducible exact H2_) | with_reducible exact H | (rw [hy123]; exact H) | exact H
                 have Ny123 := Aside0.mk hy123
                 clear hy123
                 have H' := Aside0.mk H
                 clear H
                 have hcz63_0 : wc.cell? ⟨gb107, 0, none⟩ = some (u108000) := (blk_cell BK107.out 0).trans rfl
                 have hfz63_0 := blk_frozen BK107.out 0
                 obtain ⟨Ao64, co64, eo64⟩ := Kd.R_slice HO_108000.out
                 subst eo64
                 go_wp2_with (first | ((with_reducible refine gate_callee (f := 17) rfl ?_); refine goesL_ (some 92) rfl rfl Try.func17 (by kernel_rfl) rfl #[.agg #[.slice Ao64 x108000_20.length co64], .int .i64 9, .int .i64 (Int.tmod (wrap64 ((wrap64 (t102 + x10_1)) - t103)) 65536)] rfl (by (try simp only [List.map_toArray, List.map_cons, List.map_nil]); first | done | rfl | (simp only [List.length_drop, List.length_take]; rfl)) ?_; (with_reducible refine (twin_Accept.calls _ _ x108000_20 9 (Int.tmod (wrap64 ((wrap64 (t102 + x10_1)) - t103)) 65536) t117 true _ ?side1 ?side2 A57.out).mono ?_); (case side1 => repeat (first | exact (Kd.R_reads' HO_108000.out).2.2 | (with_reducible refine Kd.C_alloc ?_ _) | (with_reducible refine Kd.C_drewN ?_ _) | (with_reducible refine Kd.C_drew ?_))); (case side2 => exact (Kd.R_reads' HO_108000.out).2.1); rintro e w65 ⟨v118, rfl, ho0, hb⟩; refine ⟨_, rfl, ?_⟩; have n0_ := Aside0.mk (Kd.R_below (by (with_reducible repeat (first | apply Kd.R_alloc | apply Kd.R_drewN | apply Kd.R_drew)); exact HO_8.out) hb); have n1_ := Aside0.mk (Kd.R_elder' (by (with_reducible repeat (first | apply Kd.R_alloc | apply Kd.R_drewN | apply Kd.R_drew)); exact HO_108000.out) (Kd.R_base ho0) hb); have n2_ := Aside0.mk (Kd.R_lower (Kd.R_new' ho0 (Kd.R_lt (by (with_reducible repeat (first | apply Kd.R_alloc | apply Kd.R_drewN | apply Kd.R_drew)); exact HO_108000.out))) (below_size (by repeat (first | (with_reducible first | exact HB.out | apply below_alloc | apply pw_below_drewN | apply below_drew1 | refine below_set ?_ GE107.out) | exact HB.out)))); have n3_ := Aside0.mk (blk_below (g := gb107) (o := .cells #[.slice Ao64 x108000_20.length co64] 28 (0, 0)) (by (with_reducible repeat (first | refine blk_drewN ?_ _ | refine blk_drew ?_ | refine blk_alloc ?_ _)); exact BK107.out) hb); have n4_ := Aside0.mk (below_step (by repeat (first | (with_reducible first | exact HB.out | apply below_alloc | apply pw_below_drewN | apply below_drew1 | refine below_set ?_ GE107.out) | exact HB.out)) hb); clear HO_8; clear HO_108000; clear BK107; clear HB; have HO_8 := n0_; have HO_108000 := n1_; have HO119 := n2_; have BK107 := n3_; have HB := n4_; clear n0_ n1_ n2_ n3_ n4_; (try clear hb); (try clear hb2); (try clear hk); (try clear hi); (try clear ho0)) | ((with_reducible refine gate_dst (N := 13) rfl ?_); refine box_event ?hg (N := 13) ?hd (cs := #[.slice none 0 0]) (t := 28) ?hr ?_; (case hd => rfl); (case hg => rfl); (case hr => first | (go_simp; done) | (go_simp; rfl)); intro gb121 hg w66 hbox hb; have n0_ := Aside0.mk (Kd.R_below (by (with_reducible repeat (first | apply Kd.R_alloc | apply Kd.R_drewN | apply Kd.R_drew)); exact HO_8.out) hb); have n1_ := Aside0.mk (Kd.R_below (by (with_reducible repeat (first | apply Kd.R_alloc | apply Kd.R_drewN | apply Kd.R_drew)); exact HO_108000.out) hb); have n2_ := Aside0.mk (Kd.R_below (by (with_reducible repeat (first | apply Kd.R_alloc | apply Kd.R_drewN | apply Kd.R_drew)); exact HO119.out) hb); have n3_ := Aside0.mk (blk_below (g := gb107) (o := .cells #[.slice Ao64 x108000_20.length co64] 28 (0, 0)) (by (with_reducible repeat (first | refine blk_drewN ?_ _ | refine blk_drew ?_ | refine blk_alloc ?_ _)); exact BK107.out) hb); have n4_ := Aside0.mk (below_step (by repeat (first | (with_reducible first | exact HB.out | apply below_alloc | apply pw_below_drewN | apply below_drew1 | refine below_set ?_ GE107.out) | exact HB.out)) hb); have n5_ := Aside0.mk (hbox); have n6_ := Aside0.mk ((by rw [hg]; exact (below_size (by repeat (first | (with_reducible first | exact HB.out | apply below_alloc | apply pw_below_drewN | apply below_drew1 | refine below_set ?_ GE107.out) | exact HB.out))) : w.heap.size ≤ gb121)); have n7_ := Aside0.mk ((by rw [hg]; exact (below_size (by repeat (first | (with_reducible first | exact HB.out | apply below_alloc | apply pw_below_drewN | apply below_drew1 | refine below_set ?_ GE107.out) | exact HB.out))) : w.heap.size ≤ gb121)); have n8_ := Aside0.mk ((by rw [hg]; exact Nat.ne_of_lt (blk_lt (g := gb107) (o := .cells #[.slice Ao64 x108000_20.length co64] 28 (0, 0)) (by (with_reducible repeat (first | refine blk_drewN ?_ _ | refine blk_drew ?_ | refine blk_alloc ?_ _)); exact BK107.out)) : gb107 ≠ gb121)); have n9_ := Aside0.mk ((by rw [hg]; exact Nat.ne_of_gt (blk_lt (g := gb107) (o := .cells #[.slice Ao64 x108000_20.length co64] 28 (0, 0)) (by (with_reducible repeat (first | refine blk_drewN ?_ _ | refine blk_drew ?_ | refine blk_alloc ?_ _)); exact BK107.out)) : gb121 ≠ gb107)); clear HO_8; clear HO_108000; clear HO119; clear BK107; clear HB; have HO_8 := n0_; have HO_108000 := n1_; have HO119 := n2_; have BK107 := n3_; have HB := n4_; have BK121 := n5_; have GW121 := n6_; have GE121 := n7_; have NB107_121 := n8_; have NB121_107 := n9_; clear n0_ n1_ n2_ n3_ n4_ n5_ n6_ n7_ n8_ n9_; clear hb hbox hg; obtain ⟨Ao67, co67, eo67⟩ := Kd.R_slice HO119.out; subst eo67; have hnb68 := NB121_107.out; have hnc68 := NB107_121.out; have hcz69_0 : w66.cell? ⟨gb121, 0, none⟩ = some (.slice none 0 0) := (blk_cell BK121.out 0).trans rfl; have hfz69_0 := blk_frozen BK121.out 0) | ((with_reducible refine gate_store (t := 28) (p := 13) rfl ?_); refine store_event (t := 28) (p := 13) (v := ?vo_w70) (w1 := (w66.setCell ⟨gb121, 0, none⟩ (.slice Ao67 t117.length co67))) ?hg ?ho ?hn ?hr ?_; (case ho => rfl); (case hg => rfl); (case hn => rfl); (case hr => first | (go_simp; done) | (go_simp; rfl)); intro w70 hw; have n0_ : Aside0 (Kd.R (Kd.int .i64) 3 w70 w.heap.size (fun _ => True) v105 x8_20) := ⟨(by rw [hw]; exact (by (with_reducible repeat (first | apply Kd.R_alloc | apply Kd.R_drewN | apply Kd.R_drew)); exact Kd.R_mono (Kd.R_far (p := ⟨gb121, 0, none⟩) (Kd.R_types HO_8.out BK121.out (by decide)) (fun _ hk => hk.2) (.slice Ao67 t117.length co67)) (fun _ hk => trivial)))⟩; have n1_ : Aside0 (Kd.R k36 36 w70 w.heap.size (fun k_ => some k_ ≠ (.slice Ao67 t117.length co67 : Value).ownBlock) (.slice Ao64 x108000_20.length co64) x108000_20) := ⟨(by rw [hw]; exact (by (with_reducible repeat (first | apply Kd.R_alloc | apply Kd.R_drewN | apply Kd.R_drew)); exact Kd.R_mono (Kd.R_far (p := ⟨gb121, 0, none⟩) (Kd.R_types HO_108000.out BK121.out (by decide)) (fun _ hk => hk.2) (.slice Ao67 t117.length co67)) (fun _ hk => hk.1.2)))⟩; have n2_ : Aside0 (Kd.R k36 36 w70 w.heap.size (fun k_ => some k_ ≠ (.slice Ao64 x108000_20.length co64 : Value).ownBlock) (.slice Ao67 t117.length co67) t117) := ⟨(by rw [hw]; exact (by (with_reducible repeat (first | apply Kd.R_alloc | apply Kd.R_drewN | apply Kd.R_drew)); exact Kd.R_mono (Kd.R_far (p := ⟨gb121, 0, none⟩) (Kd.R_types HO119.out BK121.out (by decide)) (fun _ hk => hk.2) (.slice Ao67 t117.length co67)) (fun _ hk => hk.1.2)))⟩; have n3_ : Aside0 (w70.heap[gb107]? = some (.cells #[.slice Ao64 x108000_20.length co64] 28 (0, 0))) := ⟨(by rw [hw]; exact (by (with_reducible repeat (first | refine blk_drewN ?_ _ | refine blk_drew ?_ | refine blk_alloc ?_ _)); refine blk_far ?_ NB107_121.out _; (with_reducible repeat (first | refine blk_drewN ?_ _ | refine blk_drew ?_ | refine blk_alloc ?_ _)); exact BK107.out))⟩; have n4_ : Aside0 (w70.heap[gb121]? = some (.cells #[.slice Ao67 t117.length co67] 28 (0, 0))) := ⟨(by rw [hw]; exact (by (with_reducible repeat (first | refine blk_drewN ?_ _ | refine blk_drew ?_ | refine blk_alloc ?_ _)); refine blk_put (cs := #[.slice none 0 0]) ?_ 0 _ rfl; (with_reducible repeat (first | refine blk_drewN ?_ _ | refine blk_drew ?_ | refine blk_alloc ?_ _)); exact BK121.out))⟩; have n5_ : Aside0 (Below w.heap.size w w70) := ⟨(by rw [hw]; exact (by repeat (first | (with_reducible first | exact HB.out | apply below_alloc | apply pw_below_drewN | apply below_drew1 | refine below_set ?_ GE107.out | refine below_set ?_ GE121.out) | exact HB.out)))⟩; clear hw; clear HO_8; clear HO_108000; clear HO119; clear BK107; clear BK121; clear HB; have HO_8 := n0_; have HO_108000 := n1_; have HO119 := n2_; have BK107 := n3_; have BK121 := n4_; have HB := n5_; clear n0_ n1_ n2_ n3_ n4_ n5_; have hcz71_0 : w70.cell? ⟨gb121, 0, none⟩ = some (.slice Ao67 t117.length co67) := (blk_cell BK121.out 0).trans rfl; have hfz71_0 := blk_frozen BK121.out 0; have hcz72_0 : w70.cell? ⟨gb107, 0, none⟩ = some (.slice Ao64 x108000_20.length co64) := (blk_cell BK107.out 0).trans rfl; have hfz72_0 := blk_frozen BK107.out 0) | ((with_reducible refine gate_store (t := 28) (p := 9) rfl ?_); refine store_event (t := 28) (p := 9) (v := ?vo_w73) (w1 := (w70.setCell ⟨gb107, 0, none⟩ (.slice Ao67 t117.length co67))) ?hg ?ho ?hn ?hr ?_; (case ho => rfl); (case hg => rfl); (case hn => rfl); (case hr => first | (go_simp; done) | (go_simp; rfl)); intro w73 hw; have n0_ : Aside0 (Kd.R (Kd.int .i64) 3 w73 w.heap.size (fun _ => True) v105 x8_20) := ⟨(by rw [hw]; exact (by (with_reducible repeat (first | apply Kd.R_alloc | apply Kd.R_drewN | apply Kd.R_drew)); exact Kd.R_mono (Kd.R_far (p := ⟨gb107, 0, none⟩) (Kd.R_types HO_8.out BK107.out (by decide)) (fun _ hk => hk.2) (.slice Ao67 t117.length co67)) (fun _ hk => trivial)))⟩; have n1_ : Aside0 (Kd.R k36 36 w73 w.heap.size (fun k_ => some k_ ≠ (.slice Ao67 t117.length co67 : Value).ownBlock) (.slice Ao64 x108000_20.length co64) x108000_20) := ⟨(by rw [hw]; exact (by (with_reducible repeat (first | apply Kd.R_alloc | apply Kd.R_drewN | apply Kd.R_drew)); exact Kd.R_mono (Kd.R_far (p := ⟨gb107, 0, none⟩) (Kd.R_types HO_108000.out BK107.out (by decide)) (fun _ hk => hk.2) (.slice Ao67 t117.length co67)) (fun _ hk => hk.1)))⟩; have n2_ : Aside0 (Kd.R k36 36 w73 w.heap.size (fun k_ => some k_ ≠ (.slice Ao64 x108000_20.length co64 : Value).ownBlock) (.slice Ao67 t117.length co67) t117) := ⟨(by rw [hw]; exact (by (with_reducible repeat (first | apply Kd.R_alloc | apply Kd.R_drewN | apply Kd.R_drew)); exact Kd.R_mono (Kd.R_far (p := ⟨gb107, 0, none⟩) (Kd.R_types HO119.out BK107.out (by decide)) (fun _ hk => hk.2) (.slice Ao67 t117.length co67)) (fun _ hk => hk.1)))⟩; have n3_ : Aside0 (w73.heap[gb107]? = some (.cells #[.slice Ao67 t117.length co67] 28 (0, 0))) := ⟨(by rw [hw]; exact (by (with_reducible repeat (first | refine blk_drewN ?_ _ | refine blk_drew ?_ | refine blk_alloc ?_ _)); refine blk_put (cs := #[.slice Ao64 x108000_20.length co64]) ?_ 0 _ rfl; (with_reducible repeat (first | refine blk_drewN ?_ _ | refine blk_drew ?_ | refine blk_alloc ?_ _)); exact BK107.out))⟩; have n4_ : Aside0 (w73.heap[gb121]? = some (.cells #[.slice Ao67 t117.length co67] 28 (0, 0))) := ⟨(by rw [hw]; exact (by (with_reducible repeat (first | refine blk_drewN ?_ _ | refine blk_drew ?_ | refine blk_alloc ?_ _)); refine blk_far ?_ NB121_107.out _; (with_reducible repeat (first | refine blk_drewN ?_ _ | refine blk_drew ?_ | refine blk_alloc ?_ _)); exact BK121.out))⟩; have n5_ : Aside0 (Below w.heap.size w w73) := ⟨(by rw [hw]; exact (by repeat (first | (with_reducible first | exact HB.out | apply below_alloc | apply pw_below_drewN | apply below_drew1 | refine below_set ?_ GE107.out | refine below_set ?_ GE121.out) | exact HB.out)))⟩; clear hw; clear HO_8; clear HO_108000; clear HO119; clear BK107; clear BK121; clear HB; have HO_8 := n0_; have HO_108000 := n1_; have HO119 := n2_; have BK107 := n3_; have BK121 := n4_; have HB := n5_; clear n0_ n1_ n2_ n3_ n4_ n5_; obtain ⟨Ao74, co74, eo74⟩ := Kd.R_slice HO_8.out; subst eo74; have p122 : 0 ≤ ((ji59) : Int) := of_decide_eq_true (by first | (with_reducible assumption) | assumption); have q122 : (ji59) < (x8_20.length : Int) := of_decide_eq_true (by first | (with_reducible assumption) | assumption); obtain ⟨ad122, e122, hx122_0⟩ := Kd.at_int (Kd.R_reads' HO_8.out).2.2 (ji59) p122 q122; cases e122; replace p122 := eq_true p122; replace q122 := eq_true q122; have p62 : 0 ≤ ((ji59) : Int) := of_decide_eq_true (by first | (with_reducible assumption) | assumption); have q62 : ((ji59) : Int) < ((x8_20.length : Int) : Int) := of_decide_eq_true (by first | (with_reducible assumption) | assumption); obtain ⟨go62, co62, eo62, gb62, gl62, cl62, HG62⟩ := Kd.R_form HO_8.out (by omega); (first | cases eo62 | (injection eo62 with ea_ en_ ec_; (first | subst ea_ | (injection ea_ with ea_; subst ea_)); subst ec_; clear en_)); have GB62 := Aside0.mk gb62; have GG62 := Aside0.mk HG62; clear gb62 gl62 HG62; (first | simp only [add_plain] at hx122_0 | skip); obtain ⟨hx62_0, hf62_0⟩ := Kd.R_celln 0 HO_8.out ((ji59) : Int) p62 q62; replace p62 := eq_true p62; replace q62 := eq_true q62; obtain ⟨hy75_, hz75_⟩ := Kd.R_celln 0 HO_8.out ((ji59) : Int) (of_decide_eq_true (by first | (with_reducible assumption) | assumption)) (of_decide_eq_true (by first | (with_reducible assumption) | assumption)); have HP75 := Kd.R_putg HO_8.out ((ji59) : Int) (wrap64 ((rd x8_20 (ji59)) + 1))) | ((with_reducible refine gate_store (t := 3) (p := 104) rfl ?_); refine store_event (t := 3) (p := 104) (v := ?vo_w76) (w1 := (w73.setCell ⟨go62, ((ji59) : Int).toNat, none⟩ (.int .i64 (wrap64 ((rd x8_20 (ji59)) + 1))))) ?hg ?ho ?hn ?hr ?_; (case ho => rfl); (case hg => rfl); (case hn => rfl); (case hr => first | (go_simp; done) | (go_simp; rfl)); intro w76 hw; have hg : w73.grownBy w76 (some go62) := (by rw [hw]; exact HP75.2); have hp_ : Kd.R (Kd.int .i64) 3 w76 w.heap.size (fun _ => True) (.slice (some ⟨go62, 0, none⟩) x8_20.length co74) y123 := (by rw [hw, Ny123.out]; exact HP75.1); clear HP75; have n0_ := Aside0.mk (hp_); have n1_ := Aside0.mk (Kd.R_over' (v := (.slice (some ⟨go62, 0, none⟩) x8_20.length co74)) (by (with_reducible repeat (first | apply Kd.R_alloc | apply Kd.R_drewN | apply Kd.R_drew)); exact HO_108000.out) (Kd.R_typed HO_8.out) (by decide) hg); have n2_ := Aside0.mk (blk_grown (g := gb107) (o := .cells #[.slice Ao67 t117.length co67] 28 (0, 0)) (by (with_reducible repeat (first | refine blk_drewN ?_ _ | refine blk_drew ?_ | refine blk_alloc ?_ _)); exact BK107.out) hg (Kd.R_ne HO_8.out BK107.out (by decide))); have n3_ := Aside0.mk (Kd.R_over' (v := (.slice (some ⟨go62, 0, none⟩) x8_20.length co74)) (by (with_reducible repeat (first | apply Kd.R_alloc | apply Kd.R_drewN | apply Kd.R_drew)); exact HO119.out) (Kd.R_typed HO_8.out) (by decide) hg); have n4_ := Aside0.mk (blk_grown (g := gb121) (o := .cells #[.slice Ao67 t117.length co67] 28 (0, 0)) (by (with_reducible repeat (first | refine blk_drewN ?_ _ | refine blk_drew ?_ | refine blk_alloc ?_ _)); exact BK121.out) hg (Kd.R_ne HO_8.out BK121.out (by decide))); have n5_ := Aside0.mk ((by rw [hw]; exact below_set (HB.out) GB62.out : Below w.heap.size w w76)); clear HO_8; clear HO_108000; clear BK107; clear HO119; clear BK121; clear HB; have HO_8 := n0_; have HO_108000 := n1_; have BK107 := n2_; have HO119 := n3_; have BK121 := n4_; have HB := n5_; clear n0_ n1_ n2_ n3_ n4_ n5_; clear hg hw hp_))
                 go_roundg kj49
                 case measure => have := HK1.out; have := HJ16.out; have := HJ20.out; have := HJ49.out; omega
                 case rel => exact ⟨(y123), (wrap64 (x10_1 + 1)), (t117), (.slice Ao67 t117.length co67), (by first | rfl | (simp; done) | (simp [*]; done) | (simp; omega)), H', ⟨by have := HK1.out; have := HJ16.out; have := HJ20.out; have := HJ49.out; omega⟩, ⟨by (with_reducible repeat (first | apply Kd.R_alloc | apply Kd.R_drewN | apply Kd.R_drew)); exact HO_8.out⟩, ⟨by (with_reducible repeat (first | apply Kd.R_alloc | apply Kd.R_drewN | apply Kd.R_drew)); exact Kd.R_mono HO119.out (fun _ hk => trivial)⟩, ⟨by (with_reducible repeat (first | refine blk_drewN ?_ _ | refine blk_drew ?_ | refine blk_alloc ?_ _)); exact BK107.out⟩, ⟨by repeat (first | (with_reducible first | exact HB.out | apply below_alloc | apply pw_below_drewN | apply below_drew1 | refine below_set ?_ GE107.out | refine below_set ?_ GE121.out) | exact HB.out)⟩⟩
                ·rw [if_neg c61] at H
                 exact absurd H (by simp)
               ·rw [if_neg c60] at H
                exact absurd H (by simp)
              ·replace c58 := Bool.eq_false_iff.mpr c58
               subst c58
               have H1 : (substationlaw16_TwinExactlyOnce.l0 kj49 t102 t103 l2 ji8 x8_20 (wrap64 (x10_1 + 1)) t117) = some r := by rw [if_neg (show ¬ (false = true) by decide)] at H; exact H
               clear H
               have H := H1
               clear H1
               have H' := Aside0.mk H
               clear H
               have hcz77_0 : wc.cell? ⟨gb107, 0, none⟩ = some (u108000) := (blk_cell BK107.out 0).trans rfl
               have hfz77_0 := blk_frozen BK107.out 0
               obtain ⟨Ao78, co78, eo78⟩ := Kd.R_slice HO_108000.out
               subst eo78
               go_wp2_with (first | ((with_reducible refine gate_callee (f := 17) rfl ?_); refine goesL_ (some 92) rfl rfl Try.func17 (by kernel_rfl) rfl #[.agg #[.slice Ao78 x108000_20.length co78], .int .i64 9, .int .i64 (Int.tmod (wrap64 ((wrap64 (t102 + x10_1)) - t103)) 65536)] rfl (by (try simp only [List.map_toArray, List.map_cons, List.map_nil]); first | done | rfl | (simp only [List.length_drop, List.length_take]; rfl)) ?_; (with_reducible refine (twin_Accept.calls _ _ x108000_20 9 (Int.tmod (wrap64 ((wrap64 (t102 + x10_1)) - t103)) 65536) t117 false _ ?side1 ?side2 A57.out).mono ?_); (case side1 => repeat (first | exact (Kd.R_reads' HO_108000.out).2.2 | (with_reducible refine Kd.C_alloc ?_ _) | (with_reducible refine Kd.C_drewN ?_ _) | (with_reducible refine Kd.C_drew ?_))); (case side2 => exact (Kd.R_reads' HO_108000.out).2.1); rintro e w79 ⟨v118, rfl, ho0, hb⟩; refine ⟨_, rfl, ?_⟩; have n0_ := Aside0.mk (Kd.R_below (by (with_reducible repeat (first | apply Kd.R_alloc | apply Kd.R_drewN | apply Kd.R_drew)); exact HO_8.out) hb); have n1_ := Aside0.mk (Kd.R_elder' (by (with_reducible repeat (first | apply Kd.R_alloc | apply Kd.R_drewN | apply Kd.R_drew)); exact HO_108000.out) (Kd.R_base ho0) hb); have n2_ := Aside0.mk (Kd.R_lower (Kd.R_new' ho0 (Kd.R_lt (by (with_reducible repeat (first | apply Kd.R_alloc | apply Kd.R_drewN | apply Kd.R_drew)); exact HO_108000.out))) (below_size (by repeat (first | (with_reducible first | exact HB.out | apply below_alloc | apply pw_below_drewN | apply below_drew1 | refine below_set ?_ GE107.out) | exact HB.out)))); have n3_ := Aside0.mk (blk_below (g := gb107) (o := .cells #[.slice Ao78 x108000_20.length co78] 28 (0, 0)) (by (with_reducible repeat (first | refine blk_drewN ?_ _ | refine blk_drew ?_ | refine blk_alloc ?_ _)); exact BK107.out) hb); have n4_ := Aside0.mk (below_step (by repeat (first | (with_reducible first | exact HB.out | apply below_alloc | apply pw_below_drewN | apply below_drew1 | refine below_set ?_ GE107.out) | exact HB.out)) hb); clear HO_8; clear HO_108000; clear BK107; clear HB; have HO_8 := n0_; have HO_108000 := n1_; have HO119 := n2_; have BK107 := n3_; have HB := n4_; clear n0_ n1_ n2_ n3_ n4_; (try clear hb); (try clear hb2); (try clear hk); (try clear hi); (try clear ho0)) | ((with_reducible refine gate_dst (N := 13) rfl ?_); refine box_event ?hg (N := 13) ?hd (cs := #[.slice none 0 0]) (t := 28) ?hr ?_; (case hd => rfl); (case hg => rfl); (case hr => first | (go_simp; done) | (go_simp; rfl)); intro gb121 hg w80 hbox hb; have n0_ := Aside0.mk (Kd.R_below (by (with_reducible repeat (first | apply Kd.R_alloc | apply Kd.R_drewN | apply Kd.R_drew)); exact HO_8.out) hb); have n1_ := Aside0.mk (Kd.R_below (by (with_reducible repeat (first | apply Kd.R_alloc | apply Kd.R_drewN | apply Kd.R_drew)); exact HO_108000.out) hb); have n2_ := Aside0.mk (Kd.R_below (by (with_reducible repeat (first | apply Kd.R_alloc | apply Kd.R_drewN | apply Kd.R_drew)); exact HO119.out) hb); have n3_ := Aside0.mk (blk_below (g := gb107) (o := .cells #[.slice Ao78 x108000_20.length co78] 28 (0, 0)) (by (with_reducible repeat (first | refine blk_drewN ?_ _ | refine blk_drew ?_ | refine blk_alloc ?_ _)); exact BK107.out) hb); have n4_ := Aside0.mk (below_step (by repeat (first | (with_reducible first | exact HB.out | apply below_alloc | apply pw_below_drewN | apply below_drew1 | refine below_set ?_ GE107.out) | exact HB.out)) hb); have n5_ := Aside0.mk (hbox); have n6_ := Aside0.mk ((by rw [hg]; exact (below_size (by repeat (first | (with_reducible first | exact HB.out | apply below_alloc | apply pw_below_drewN | apply below_drew1 | refine below_set ?_ GE107.out) | exact HB.out))) : w.heap.size ≤ gb121)); have n7_ := Aside0.mk ((by rw [hg]; exact (below_size (by repeat (first | (with_reducible first | exact HB.out | apply below_alloc | apply pw_below_drewN | apply below_drew1 | refine below_set ?_ GE107.out) | exact HB.out))) : w.heap.size ≤ gb121)); have n8_ := Aside0.mk ((by rw [hg]; exact Nat.ne_of_lt (blk_lt (g := gb107) (o := .cells #[.slice Ao78 x108000_20.length co78] 28 (0, 0)) (by (with_reducible repeat (first | refine blk_drewN ?_ _ | refine blk_drew ?_ | refine blk_alloc ?_ _)); exact BK107.out)) : gb107 ≠ gb121)); have n9_ := Aside0.mk ((by rw [hg]; exact Nat.ne_of_gt (blk_lt (g := gb107) (o := .cells #[.slice Ao78 x108000_20.length co78] 28 (0, 0)) (by (with_reducible repeat (first | refine blk_drewN ?_ _ | refine blk_drew ?_ | refine blk_alloc ?_ _)); exact BK107.out)) : gb121 ≠ gb107)); clear HO_8; clear HO_108000; clear HO119; clear BK107; clear HB; have HO_8 := n0_; have HO_108000 := n1_; have HO119 := n2_; have BK107 := n3_; have HB := n4_; have BK121 := n5_; have GW121 := n6_; have GE121 := n7_; have NB107_121 := n8_; have NB121_107 := n9_; clear n0_ n1_ n2_ n3_ n4_ n5_ n6_ n7_ n8_ n9_; clear hb hbox hg; obtain ⟨Ao81, co81, eo81⟩ := Kd.R_slice HO119.out; subst eo81; have hnb82 := NB121_107.out; have hnc82 := NB107_121.out; have hcz83_0 : w80.cell? ⟨gb121, 0, none⟩ = some (.slice none 0 0) := (blk_cell BK121.out 0).trans rfl; have hfz83_0 := blk_frozen BK121.out 0; have hcz84_0 : w80.cell? ⟨gb107, 0, none⟩ = some (.slice Ao78 x108000_20.length co78) := (blk_cell BK107.out 0).trans rfl; have hfz84_0 := blk_frozen BK107.out 0))
               go_roundg kj49
               case measure => have := HK1.out; have := HJ16.out; have := HJ20.out; have := HJ49.out; omega
               case rel => exact ⟨(x8_20), (wrap64 (x10_1 + 1)), (t117), (.slice Ao81 t117.length co81), (by first | rfl | (simp; done) | (simp [*]; done) | (simp; omega)), H', ⟨by have := HK1.out; have := HJ16.out; have := HJ20.out; have := HJ49.out; omega⟩, ⟨by (with_reducible repeat (first | apply Kd.R_alloc | apply Kd.R_drewN | apply Kd.R_drew)); exact Kd.R_mono (Kd.R_far (p := ⟨gb107, 0, none⟩) (Kd.R_far (p := ⟨gb121, 0, none⟩) (Kd.R_types (Kd.R_types HO_8.out BK121.out (by decide)) BK107.out (by decide)) (fun _ hk => hk.1.2) (.slice Ao81 t117.length co81)) (fun _ hk => hk.2) (.slice Ao81 t117.length co81)) (fun _ hk => trivial)⟩, ⟨by (with_reducible repeat (first | apply Kd.R_alloc | apply Kd.R_drewN | apply Kd.R_drew)); exact Kd.R_mono (Kd.R_far (p := ⟨gb107, 0, none⟩) (Kd.R_far (p := ⟨gb121, 0, none⟩) (Kd.R_types (Kd.R_types HO119.out BK121.out (by decide)) BK107.out (by decide)) (fun _ hk => hk.1.2) (.slice Ao81 t117.length co81)) (fun _ hk => hk.2) (.slice Ao81 t117.length co81)) (fun _ hk => trivial)⟩, ⟨by (with_reducible repeat (first | refine blk_drewN ?_ _ | refine blk_drew ?_ | refine blk_alloc ?_ _)); refine blk_put (cs := #[.slice Ao78 x108000_20.length co78]) ?_ 0 _ rfl; (with_reducible repeat (first | refine blk_drewN ?_ _ | refine blk_drew ?_ | refine blk_alloc ?_ _)); refine blk_far ?_ NB107_121.out _; (with_reducible repeat (first | refine blk_drewN ?_ _ | refine blk_drew ?_ | refine blk_alloc ?_ _)); exact BK107.out⟩, ⟨by repeat (first | (with_reducible first | exact HB.out | apply below_alloc | apply pw_below_drewN | apply below_drew1 | refine below_set ?_ GE107.out | refine below_set ?_ GE121.out) | exact HB.out)⟩⟩
             ·replace c56 := Bool.eq_false_iff.mpr c56
              subst c56
              have H1 : (substationlaw16_TwinExactlyOnce.l0 kj49 t102 t103 l2 ji8 x8_20 (wrap64 (x10_1 + 1)) x108000_20) = some r := by rw [if_neg (show ¬ (false = true) by decide)] at H; exact H
              clear H
              have H := H1
              clear H1
              have H' := Aside0.mk H
              clear H
              go_wp2
              go_roundg kj49
              case measure => have := HK1.out; have := HJ16.out; have := HJ20.out; have := HJ49.out; omega
              case rel => exact ⟨(x8_20), (wrap64 (x10_1 + 1)), (x108000_20), (u108000), (by first | rfl | (simp; done) | (simp [*]; done) | (simp; omega)), H', ⟨by have := HK1.out; have := HJ16.out; have := HJ20.out; have := HJ49.out; omega⟩, ⟨by (with_reducible repeat (first | apply Kd.R_alloc | apply Kd.R_drewN | apply Kd.R_drew)); exact HO_8.out⟩, ⟨by (with_reducible repeat (first | apply Kd.R_alloc | apply Kd.R_drewN | apply Kd.R_drew)); exact HO_108000.out⟩, ⟨by (with_reducible repeat (first | refine blk_drewN ?_ _ | refine blk_drew ?_ | refine blk_alloc ?_ _)); exact BK107.out⟩, ⟨by repeat (first | (with_reducible first | exact HB.out | apply below_alloc | apply pw_below_drewN | apply below_drew1 | refine below_set ?_ GE107.out) | exact HB.out)⟩⟩
      ·rw [if_neg c16] at H
       have c16b0 : decide (x10_1 < (wrap64 (ji8 + t103))) = false := decide_eq_false c16
       clear c16
       have H' := Aside0.mk H
       clear H
       go_wp2
       go_loopg [15] k1 (fun kq v15 w' => ∃ (x15_2 : Int), v15 = .int .i64 x15_2 ∧ Aside0 (substationlaw16_TwinExactlyOnce.l1 kq l2 ji8 x8_1 x15_2 = some r) ∧ Aside0 (kq ≤ k1) ∧ Aside0 (Kd.R (Kd.int .i64) 3 w' w.heap.size (fun _ => True) v105 x8_1) ∧ Aside0 (Kd.R k36 36 w' w.heap.size (fun _ => True) u108000 x108000_1) ∧ Aside0 (w'.heap[gb107]? = some (.cells #[u108000] 28 (0, 0))) ∧ Aside0 (Below w.heap.size w w'))
       case atStart => exact ⟨(0), (by first | rfl | (simp; done) | (simp [*]; done) | (simp; omega)), H', ⟨Nat.le_refl _⟩, ⟨by (with_reducible repeat (first | apply Kd.R_alloc | apply Kd.R_drewN | apply Kd.R_drew)); exact HO_8.out⟩, ⟨by (with_reducible repeat (first | apply Kd.R_alloc | apply Kd.R_drewN | apply Kd.R_drew)); exact HO_108000.out⟩, ⟨by (with_reducible repeat (first | refine blk_drewN ?_ _ | refine blk_drew ?_ | refine blk_alloc ?_ _)); exact BK107.out⟩, ⟨by repeat (first | (with_reducible first | exact HB.out | apply below_alloc | apply pw_below_drewN | apply below_drew1 | refine below_set ?_ GE107.out) | exact HB.out)⟩⟩
       case round =>
        clear H'
        try clear c1
        try clear p1
        try clear q1
        try clear hx1
        try clear c2
        try clear p2
        try clear q2
        try clear hx2
        try clear c3
        try clear c4
        try clear c5
        try clear c6
        try clear p6
        try clear q6
        try clear hx6
        try clear hf6
        try clear c8
        try clear c9
        try clear c9b0
        try clear c9b1
        try clear c10
        try clear c10b0
        try clear c10b1
        try clear p10
        try clear q10
        try clear hx10
        try clear p11
        try clear q11
        try clear hx11
        try clear p12
        try clear q12
        try clear hx12
        try clear c15
        try clear c16
        try clear c16b0
        try clear c17
        try clear c18
        try clear c18b0
        try clear c19
        try clear c19b0
        try clear c20
        try clear c20b0
        try clear c22
        try clear c24
        try clear c25
        try clear c25b0
        try clear c26
        try clear c26b0
        try clear p27
        try clear q27
        try clear hx27
        try clear hf27
        try clear c33
        try clear c47
        try clear c51
        try clear c51b0
        try clear c52
        try clear c52b0
        try clear c54
        try clear c54b0
        try clear c55
        try clear c55b0
        try clear c56
        try clear c58
        try clear c60
        try clear c60b0
        try clear c61
        try clear c61b0
        try clear p62
        try clear q62
        try clear hx62
        try clear hf62
        try clear p64
        try clear c68
        try clear c82
        try clear hcz15_0
        try clear hcz28_0
        try clear hcz34_0
        try clear hcz36_0
        try clear hcz37_0
        try clear hcz42_0
        try clear hcz48_0
        try clear hcz49_0
        try clear hcz63_0
        try clear hcz69_0
        try clear hcz71_0
        try clear hcz72_0
        try clear hcz77_0
        try clear hcz83_0
        try clear hcz84_0
        try clear hfz15_0
        try clear hfz28_0
        try clear hfz34_0
        try clear hfz36_0
        try clear hfz37_0
        try clear hfz42_0
        try clear hfz48_0
        try clear hfz49_0
        try clear hfz63_0
        try clear hfz69_0
        try clear hfz71_0
        try clear hfz72_0
        try clear hfz77_0
        try clear hfz83_0
        try clear hfz84_0
        try clear hx108_0
        try clear hx108_1
        try clear hx114_0
        try clear hx116_0
        try clear hx116_1
        try clear hx122_0
        try clear hx27_0
        try clear hx62_0
        try clear p1
        try clear p10
        try clear p108
        try clear p11
        try clear p114
        try clear p116
        try clear p122
        try clear p2
        try clear p27
        try clear p6
        try clear p62
        try clear q1
        try clear q10
        try clear q108
        try clear q11
        try clear q114
        try clear q116
        try clear q122
        try clear q2
        try clear q27
        try clear q62
        obtain ⟨x15_2, rfl, HA, HK2, HO_8, HO_108000, BK107, HB⟩ := hrel
        cases gk with
        | zero => exact absurd HA.out (by simp [substationlaw16_TwinExactlyOnce.l1])
        | succ k2 =>
         have H := HA.out
         clear HA
         simp only [substationlaw16_TwinExactlyOnce.l1] at H
         by_cases c85 : x15_2 < ji8
         ·rw [if_pos c85] at H
          have c85b0 : decide (x15_2 < ji8) = true := decide_eq_true c85
          clear c85
          have HC86 := Aside0.mk H
          clear H
          go_upto_region 24 with (fail)
          go_cut [121] (fun v121 wc => ∃ (kq : Nat) (x121_85 : Bool), v121 = .bool x121_85 ∧ Aside0 (substationlaw16_TwinExactlyOnce.j5 kq l2 ji8 x8_1 x15_2 1 x121_85 = some r) ∧ Aside0 (kq ≤ k2) ∧ Aside0 (Kd.R (Kd.int .i64) 3 wc w.heap.size (fun _ => True) v105 x8_1) ∧ Aside0 (Kd.R k36 36 wc w.heap.size (fun _ => True) u108000 x108000_1) ∧ Aside0 (wc.heap[gb107]? = some (.cells #[u108000] 28 (0, 0))) ∧ Aside0 (Below w.heap.size w wc))
          case first =>
           have H := HC86.out
           clear HC86
           by_cases c87 : 0 ≤ x15_2
           ·rw [if_pos c87] at H
            have c87b0 : decide (0 ≤ x15_2) = true := decide_eq_true c87
            clear c87
            (first | rw [c87b0] | (simp only [i64_w, i32_w]; rw [c87b0]) | skip)
            by_cases c88 : x15_2 < (l2.length : Int)
            ·rw [if_pos c88] at H
             have c88b0 : decide (x15_2 < (l2.length : Int)) = true := decide_eq_true c88
             clear c88
             obtain ⟨bq89, hbq89⟩ : ∃ b_ : Bool, b_ = ((rd_T30 l2 x15_2).f0) := ⟨_, rfl⟩
             replace H : (if bq89 = true then (substationlaw16_TwinExactlyOnce.j5 k2 l2 ji8 x8_1 x15_2 1 ((rd_T30 l2 x15_2).f1)) else (substationlaw16_TwinExactlyOnce.j5 k2 l2 ji8 x8_1 x15_2 1 false)) = some r := by rw [← hbq89] at H; exact H
             have Nbq89 := Aside0.mk hbq89
             clear hbq89
             by_cases c90 : bq89 = true
             ·subst c90
              have H1 : (substationlaw16_TwinExactlyOnce.j5 k2 l2 ji8 x8_1 x15_2 1 ((rd_T30 l2 x15_2).f1)) = some r := by rw [if_pos rfl] at H; exact H
              clear H
              have H := H1
              clear H1
              have H' := Aside0.mk H
              clear H
              have p124 : 0 ≤ (x15_2 : Int) := of_decide_eq_true (by first | (with_reducible assumption) | assumption)
              have q124 : x15_2 < (l2.length : Int) := of_decide_eq_true (by first | (with_reducible assumption) | assumption)
              obtain ⟨ad124, e124, hx124_0, hx124_1⟩ := at_T30 HR2.out x15_2 p124 q124
              (try rw [← Nbq89.out] at hx124_0)
              (try rw [← Nbq89.out] at hx124_1)
              cases e124
              replace hx124_0 := (HB.out.cell (World.block_lt_of_cell? w _ hx124_0)).trans hx124_0
              replace hx124_1 := (HB.out.cell (World.block_lt_of_cell? w _ hx124_1)).trans hx124_1
              replace p124 := eq_true p124
              replace q124 := eq_true q124
              have p125 : 0 ≤ (x15_2 : Int) := of_decide_eq_true (by first | (with_reducible assumption) | assumption)
              have q125 : x15_2 < (l2.length : Int) := of_decide_eq_true (by first | (with_reducible assumption) | assumption)
              obtain ⟨ad125, e125, hx125_0, hx125_1⟩ := at_T30 HR2.out x15_2 p125 q125
              (try rw [← Nbq89.out] at hx125_0)
              (try rw [← Nbq89.out] at hx125_1)
              obtain rfl : ad124 = ad125 := (by injection e125)
              replace hx125_0 := (HB.out.cell (World.block_lt_of_cell? w _ hx125_0)).trans hx125_0
              replace hx125_1 := (HB.out.cell (World.block_lt_of_cell? w _ hx125_1)).trans hx125_1
              replace p125 := eq_true p125
              replace q125 := eq_true q125
              go_wp2
              go_meet
              case rel => exact ⟨_, ((rd_T30 l2 x15_2).f1), (by first | rfl | (simp; done) | (simp [*]; done) | (simp; omega)), H', ⟨by have := HK1.out; have := HK2.out; first | omega | exact Nat.le_refl _⟩, ⟨by (with_reducible repeat (first | apply Kd.R_alloc | apply Kd.R_drewN | apply Kd.R_drew)); exact HO_8.out⟩, ⟨by (with_reducible repeat (first | apply Kd.R_alloc | apply Kd.R_drewN | apply Kd.R_drew)); exact HO_108000.out⟩, ⟨by (with_reducible repeat (first | refine blk_drewN ?_ _ | refine blk_drew ?_ | refine blk_alloc ?_ _)); exact BK107.out⟩, ⟨by repeat (first | (with_reducible first | exact HB.out | apply below_alloc | apply pw_below_drewN | apply below_drew1 | refine below_set ?_ GE107.out) | exact HB.out)⟩⟩
             ·replace c90 := Bool.eq_false_iff.mpr c90
              subst c90
              have H1 : (substationlaw16_TwinExactlyOnce.j5 k2 l2 ji8 x8_1 x15_2 1 false) = some r := by rw [if_neg (show ¬ (false = true) by decide)] at H; exact H
              clear H
              have H := H1
              clear H1
              have H' := Aside0.mk H
              clear H
              have p124 : 0 ≤ (x15_2 : Int) := of_decide_eq_true (by first | (with_reducible assumption) | assumption)
              have q124 : x15_2 < (l2.length : Int) := of_decide_eq_true (by first | (with_reducible assumption) | assumption)
              obtain ⟨ad124, e124, hx124_0, hx124_1⟩ := at_T30 HR2.out x15_2 p124 q124
              (try rw [← Nbq89.out] at hx124_0)
              (try rw [← Nbq89.out] at hx124_1)
              cases e124
              replace hx124_0 := (HB.out.cell (World.block_lt_of_cell? w _ hx124_0)).trans hx124_0
              replace hx124_1 := (HB.out.cell (World.block_lt_of_cell? w _ hx124_1)).trans hx124_1
              replace p124 := eq_true p124
              replace q124 := eq_true q124
              go_wp2
              go_meet
              case rel => exact ⟨_, (false), (by first | rfl | (simp; done) | (simp [*]; done) | (simp; omega)), H', ⟨by have := HK1.out; have := HK2.out; first | omega | exact Nat.le_refl _⟩, ⟨by (with_reducible repeat (first | apply Kd.R_alloc | apply Kd.R_drewN | apply Kd.R_drew)); exact HO_8.out⟩, ⟨by (with_reducible repeat (first | apply Kd.R_alloc | apply Kd.R_drewN | apply Kd.R_drew)); exact HO_108000.out⟩, ⟨by (with_reducible repeat (first | refine blk_drewN ?_ _ | refine blk_drew ?_ | refine blk_alloc ?_ _)); exact BK107.out⟩, ⟨by repeat (first | (with_reducible first | exact HB.out | apply below_alloc | apply pw_below_drewN | apply below_drew1 | refine below_set ?_ GE107.out) | exact HB.out)⟩⟩
            ·rw [if_neg c88] at H
             exact absurd H (by simp)
           ·rw [if_neg c87] at H
            exact absurd H (by simp)
          case rest =>
           clear HC86
           try clear c1
           try clear p1
           try clear q1
           try clear hx1
           try clear c2
           try clear p2
           try clear q2
           try clear hx2
           try clear c3
           try clear c4
           try clear c5
           try clear c6
           try clear p6
           try clear q6
           try clear hx6
           try clear hf6
           try clear c8
           try clear q8
           try clear c9
           try clear c9b0
           try clear c9b1
           try clear c10
           try clear c10b0
           try clear c10b1
           try clear p10
           try clear q10
           try clear hx10
           try clear p11
           try clear q11
           try clear hx11
           try clear p12
           try clear q12
           try clear hx12
           try clear c15
           try clear c16
           try clear c16b0
           try clear c17
           try clear c18
           try clear c18b0
           try clear c19
           try clear c19b0
           try clear c20
           try clear c20b0
           try clear c22
           try clear c24
           try clear c25
           try clear c25b0
           try clear c26
           try clear c26b0
           try clear p27
           try clear q27
           try clear hx27
           try clear hf27
           try clear c33
           try clear c47
           try clear c51
           try clear c51b0
           try clear c52
           try clear c52b0
           try clear c54
           try clear c54b0
           try clear c55
           try clear c55b0
           try clear c56
           try clear c58
           try clear c60
           try clear c60b0
           try clear c61
           try clear c61b0
           try clear p62
           try clear q62
           try clear hx62
           try clear hf62
           try clear p64
           try clear c68
           try clear c82
           try clear c85
           try clear c85b0
           try clear c87
           try clear c87b0
           try clear c88
           try clear c88b0
           try clear q89
           try clear c90
           try clear hcz15_0
           try clear hcz28_0
           try clear hcz34_0
           try clear hcz36_0
           try clear hcz37_0
           try clear hcz42_0
           try clear hcz48_0
           try clear hcz49_0
           try clear hcz63_0
           try clear hcz69_0
           try clear hcz71_0
           try clear hcz72_0
           try clear hcz77_0
           try clear hcz83_0
           try clear hcz84_0
           try clear hfz15_0
           try clear hfz28_0
           try clear hfz34_0
           try clear hfz36_0
           try clear hfz37_0
           try clear hfz42_0
           try clear hfz48_0
           try clear hfz49_0
           try clear hfz63_0
           try clear hfz69_0
           try clear hfz71_0
           try clear hfz72_0
           try clear hfz77_0
           try clear hfz83_0
           try clear hfz84_0
           try clear hx108_0
           try clear hx108_1
           try clear hx114_0
           try clear hx116_0
           try clear hx116_1
           try clear hx122_0
           try clear hx124_0
           try clear hx124_1
           try clear hx125_0
           try clear hx125_1
           try clear hx27_0
           try clear hx62_0
           try clear p1
           try clear p10
           try clear p108
           try clear p11
           try clear p114
           try clear p116
           try clear p12
           try clear p122
           try clear p124
           try clear p125
           try clear p2
           try clear p27
           try clear p6
           try clear p62
           try clear p64
           try clear q1
           try clear q10
           try clear q108
           try clear q11
           try clear q114
           try clear q116
           try clear q12
           try clear q122
           try clear q124
           try clear q125
           try clear q2
           try clear q27
           try clear q6
           try clear q62
           obtain ⟨kq, x121_85, rfl, HA, HJ85, HO_8, HO_108000, BK107, HB⟩ := hcut
           cases kq with
           | zero => exact absurd HA.out (by simp [substationlaw16_TwinExactlyOnce.j5])
           | succ kj85 =>
            have H := HA.out
            clear HA
            simp only [substationlaw16_TwinExactlyOnce.j5] at H
            by_cases c91 : x121_85 = true
            ·subst c91
             have H1 : (if 0 ≤ x15_2 then (if x15_2 < (x8_1.length : Int) then (if (rd x8_1 x15_2) = 0 then (substationlaw16_TwinExactlyOnce.l1 kj85 l2 ji8 x8_1 (wrap64 (x15_2 + 1))) else (some false)) else (none)) else (none)) = some r := by rw [if_pos rfl] at H; exact H
             clear H
             have H := H1
             clear H1
             by_cases c92 : 0 ≤ x15_2
             ·rw [if_pos c92] at H
              have c92b0 : decide (0 ≤ x15_2) = true := decide_eq_true c92
              clear c92
              by_cases c93 : x15_2 < (x8_1.length : Int)
              ·rw [if_pos c93] at H
               have c93b0 : decide (x15_2 < (x8_1.length : Int)) = true := decide_eq_true c93
               clear c93
               by_cases c94 : (rd x8_1 x15_2) = 0
               ·rw [if_pos c94] at H
                have c94b0 : ((rd x8_1 x15_2) == 0) = true := beq_iff_eq.mpr c94
                have c94b1 : ((rd x8_1 x15_2) != 0) = false := bne_eq_false_iff_eq.mpr c94
                clear c94
                have H' := Aside0.mk H
                clear H
                obtain ⟨Ao95, co95, eo95⟩ := Kd.R_slice HO_8.out
                subst eo95
                have p126 : 0 ≤ (x15_2 : Int) := of_decide_eq_true (by first | (with_reducible assumption) | assumption)
                have q126 : x15_2 < (x8_1.length : Int) := of_decide_eq_true (by first | (with_reducible assumption) | assumption)
                obtain ⟨ad126, e126, hx126_0⟩ := Kd.at_int (Kd.R_reads' HO_8.out).2.2 x15_2 p126 q126
                cases e126
                replace p126 := eq_true p126
                replace q126 := eq_true q126
                go_wp2
                go_roundg kj85
                case measure => have := HK1.out; have := HK2.out; have := HJ85.out; omega
                case rel => exact ⟨(wrap64 (x15_2 + 1)), (by first | rfl | (simp; done) | (simp [*]; done) | (simp; omega)), H', ⟨by have := HK1.out; have := HK2.out; have := HJ85.out; omega⟩, ⟨by (with_reducible repeat (first | apply Kd.R_alloc | apply Kd.R_drewN | apply Kd.R_drew)); exact HO_8.out⟩, ⟨by (with_reducible repeat (first | apply Kd.R_alloc | apply Kd.R_drewN | apply Kd.R_drew)); exact HO_108000.out⟩, ⟨by (with_reducible repeat (first | refine blk_drewN ?_ _ | refine blk_drew ?_ | refine blk_alloc ?_ _)); exact BK107.out⟩, ⟨by repeat (first | (with_reducible first | exact HB.out | apply below_alloc | apply pw_below_drewN | apply below_drew1 | refine below_set ?_ GE107.out) | exact HB.out)⟩⟩
               ·rw [if_neg c94] at H
                have c94b0 : ((rd x8_1 x15_2) == 0) = false := beq_eq_false_iff_ne.mpr c94
                have c94b1 : ((rd x8_1 x15_2) != 0) = true := bne_iff_ne.mpr c94
                exact absurd (hr_.symm.trans (Option.some.inj H).symm) (by decide)
              ·rw [if_neg c93] at H
               exact absurd H (by simp)
             ·rw [if_neg c92] at H
              exact absurd H (by simp)
            ·replace c91 := Bool.eq_false_iff.mpr c91
             subst c91
             have H1 : (if 0 ≤ x15_2 then (if x15_2 < (x8_1.length : Int) then (if (rd x8_1 x15_2) = 1 then (substationlaw16_TwinExactlyOnce.l1 kj85 l2 ji8 x8_1 (wrap64 (x15_2 + 1))) else (some false)) else (none)) else (none)) = some r := by rw [if_neg (show ¬ (false = true) by decide)] at H; exact H
             clear H
             have H := H1
             clear H1
             by_cases c97 : 0 ≤ x15_2
             ·rw [if_pos c97] at H
              have c97b0 : decide (0 ≤ x15_2) = true := decide_eq_true c97
              clear c97
              by_cases c98 : x15_2 < (x8_1.length : Int)
              ·rw [if_pos c98] at H
               have c98b0 : decide (x15_2 < (x8_1.length : Int)) = true := decide_eq_true c98
               clear c98
               by_cases c99 : (rd x8_1 x15_2) = 1
               ·rw [if_pos c99] at H
                have c99b0 : ((rd x8_1 x15_2) == 1) = true := beq_iff_eq.mpr c99
                have c99b1 : ((rd x8_1 x15_2) != 1) = false := bne_eq_false_iff_eq.mpr c99
                clear c99
                have H' := Aside0.mk H
                clear H
                obtain ⟨Ao100, co100, eo100⟩ := Kd.R_slice HO_8.out
                subst eo100
                have p127 : 0 ≤ (x15_2 : Int) := of_decide_eq_true (by first | (with_reducible assumption) | assumption)
                have q127 : x15_2 < (x8_1.length : Int) := of_decide_eq_true (by first | (with_reducible assumption) | assumption)
                obtain ⟨ad127, e127, hx127_0⟩ := Kd.at_int (Kd.R_reads' HO_8.out).2.2 x15_2 p127 q127
                cases e127
                replace p127 := eq_true p127
                replace q127 := eq_true q127
                go_wp2
                go_roundg kj85
                case measure => have := HK1.out; have := HK2.out; have := HJ85.out; omega
                case rel => exact ⟨(wrap64 (x15_2 + 1)), (by first | rfl | (simp; done) | (simp [*]; done) | (simp; omega)), H', ⟨by have := HK1.out; have := HK2.out; have := HJ85.out; omega⟩, ⟨by (with_reducible repeat (first | apply Kd.R_alloc | apply Kd.R_drewN | apply Kd.R_drew)); exact HO_8.out⟩, ⟨by (with_reducible repeat (first | apply Kd.R_alloc | apply Kd.R_drewN | apply Kd.R_drew)); exact HO_108000.out⟩, ⟨by (with_reducible repeat (first | refine blk_drewN ?_ _ | refine blk_drew ?_ | refine blk_alloc ?_ _)); exact BK107.out⟩, ⟨by repeat (first | (with_reducible first | exact HB.out | apply below_alloc | apply pw_below_drewN | apply below_drew1 | refine below_set ?_ GE107.out) | exact HB.out)⟩⟩
               ·rw [if_neg c99] at H
                have c99b0 : ((rd x8_1 x15_2) == 1) = false := beq_eq_false_iff_ne.mpr c99
                have c99b1 : ((rd x8_1 x15_2) != 1) = true := bne_iff_ne.mpr c99
                exact absurd (hr_.symm.trans (Option.some.inj H).symm) (by decide)
              ·rw [if_neg c98] at H
               exact absurd H (by simp)
             ·rw [if_neg c97] at H
              exact absurd H (by simp)
         ·rw [if_neg c85] at H
          have c85b0 : decide (x15_2 < ji8) = false := decide_eq_false c85
          clear c85
          obtain rfl := Option.some.inj H
          go_wp2
          go_ret
          exact ⟨by first | rfl | (simp [errW_none, errW_some] <;> rfl) | (simp only [← hji8]; first | rfl | (simp [errW_none, errW_some] <;> rfl)) | (simp [*, errW_none, errW_some] <;> rfl), by repeat (first | (with_reducible first | exact HB.out | apply below_alloc | apply pw_below_drewN | apply below_drew1 | refine below_set ?_ GE107.out) | exact HB.out)⟩
   ·rw [if_neg c10] at H
    exact absurd H (by simp)
  ·rw [if_neg c9] at H
   exact absurd H (by simp)
 ·replace c5 := Bool.eq_false_iff.mpr c5
  subst c5
  have H1 : (some false) = some r := by rw [if_neg (show ¬ (false = true) by decide)] at H; exact H
  clear H
  have H := H1
  clear H1
  exact absurd (hr_.symm.trans (Option.some.inj H).symm) (by decide)
end Go.Proofs.Ytnjddjpohobelaa.XB
end
section
namespace Go.Proofs.Ytnjddjpohobelaa.RTwinExactlyOnce
open Go.RowKit Go.Proofs.YtnjddjpohobelaaW.PrintWords Go.Proofs.YtnjddjpohobelaaW.PrintLast Go.Proofs.YtnjddjpohobelaaW.PrintMore Go.Proofs.Ytnjddjpohobelaa.XB Go.Proofs.Ytnjddjpohobelaa.XOpen
set_option linter.unusedVariables false
def ok30 (x : S30) : Prop := True ∧ True
theorem opens30 : Opens Try.prog k30 30 ok30 := fun H enc w base spare held fuel cs x hx => by
  obtain ⟨xs, n, _, _, hl, hlen, hf⟩ := DataW.trod_struct Try.underlying30 hx
  have hcells : Try.prog.cellsOf 30 = 2 := by kernel_rfl
  rw [hcells] at hl
  have hx0 : ∃ z, xs[0]? = some z := by rw [List.getElem?_eq_getElem (show 0 < xs.length by rw [hlen]; decide)]; exact ⟨_, rfl⟩
  obtain ⟨z0, hz0⟩ := hx0
  have hg0 : Try.prog.cellsOf 4 = 1 := by kernel_rfl
  obtain ⟨y0, hk0, ho0⟩ := (opens_bool Try.underlying4) H enc w base spare held n _ z0 ((hf 0 _ rfl).trans hz0)
  change Kd.bool.K w y0 (List.take (Try.prog.cellsOf 4) (List.drop 0 cs)) at hk0
  rw [hg0] at hk0
  have hx1 : ∃ z, xs[1]? = some z := by rw [List.getElem?_eq_getElem (show 1 < xs.length by rw [hlen]; decide)]; exact ⟨_, rfl⟩
  obtain ⟨z1, hz1⟩ := hx1
  have hg1 : Try.prog.cellsOf 4 = 1 := by kernel_rfl
  obtain ⟨y1, hk1, ho1⟩ := (opens_bool Try.underlying4) H enc w base spare held n _ z1 ((hf 1 _ rfl).trans hz1)
  change Kd.bool.K w y1 (List.take (Try.prog.cellsOf 4) (List.drop 1 cs)) at hk1
  rw [hg1] at hk1
  obtain ⟨c0, t0, rfl, hl0⟩ := len_cons (n := 1) hl
  obtain ⟨c1, t1, rfl, hl1⟩ := len_cons (n := 0) hl0
  obtain rfl := List.eq_nil_of_length_eq_zero hl1
  exact ⟨⟨y0, y1⟩, ⟨[c0], [c1], rfl, hk0, hk1⟩, ⟨ho0, ho1⟩⟩
/-- The pure statement of the law. -/
def Pure : Prop := ∀ (x0 : Int) (x1 : Int) (x2 : List S30), (Lit.int .i64 x0).wf = true → (Lit.int .i64 x1).wf = true → (x2.length ≤ 9223372036854775807 ∧ ∀ y_ ∈ x2, ok30 y_) → ∃ k, substationlaw16_TwinExactlyOnce.f k x0 x1 x2 = some true
end Go.Proofs.Ytnjddjpohobelaa.RTwinExactlyOnce
end
section
namespace Go.Proofs.Ytnjddjpohobelaa.Pure
open Go.RowKit Go.Proofs.YtnjddjpohobelaaW.PrintWords Go.Proofs.YtnjddjpohobelaaW.PrintMore Go.Proofs.Ytnjddjpohobelaa.XB Go.Proofs.Ytnjddjpohobelaa.TwA
/-- The state that stands for a set A of accepted frames, the first of which has number s. -/
def StA (s : Int) (A : Nat → Bool) (st : List S36) : Prop :=
  ((∀ j, A j = false) ∧ st = []) ∨ ∃ m, A m = true ∧ (∀ j, m < j → A j = false) ∧ ∃ v : Nat, v < 2 ^ 64 ∧ st = [⟨9, (s + m) % 65536, (v : Int)⟩] ∧ ∀ b, b < 64 → v.testBit b = (decide (b ≤ m) && A (m - b))
def addA (A : Nat → Bool) (q : Nat) : Nat → Bool := fun j => A j || j == q
theorem bit_one (b : Nat) : (1 : Nat).testBit b = decide (b = 0) := by
  cases b with
  | zero => rfl
  | succ b => rw [Nat.testBit_succ]; simp
theorem sq_one (s : Int) (A : Nat → Bool) (st : List S36) (q : Nat) (hst : StA s A st) (hq : q < 200) (hA : ∀ j, A j = true → j < 200 ∧ j < q + 60) :
    ∃ st', twin_Accept.f st 9 ((s + q) % 65536) = some (st', !(A q)) ∧ StA s (addA A q) st' := by
  rcases hst with ⟨h0, rfl⟩ | ⟨m, hm, hmax, v, hv, rfl, hb⟩
  · refine ⟨_, by rw [acc_nil 9 _ (by omega) (by omega) (by omega) (by omega), h0 q]; rfl, .inr ⟨q, by simp [addA], fun j hj => ?_, 1, by omega, rfl, fun b hb => ?_⟩⟩
    · simp only [addA, h0 j, Bool.false_or, beq_eq_false_iff_ne]; omega
    · rw [bit_one]
      simp only [addA, h0, Bool.false_or]
      by_cases h : b = 0
      · subst h; simp
      · by_cases h2 : b ≤ q
        · have : ¬ q - b = q := by omega
          simp [h, h2, this]
        · simp [h, h2]
  · have hbd : Bd ⟨9, (s + m) % 65536, (v : Int)⟩ := ⟨⟨by simp, by simp⟩, ⟨by simp only; omega, by simp only; omega⟩, by simp only; omega, by simp only; omega⟩
    have hacc := acc_one ⟨9, (s + m) % 65536, (v : Int)⟩ ((s + q) % 65536) hbd (by omega) (by omega)
    have hm2 := hA m hm
    simp only at hacc
    rcases Nat.lt_trichotomy m q with hlt | heq | hgt
    · -- a newer number
      have hd : ((s + q) % 65536 - (s + m) % 65536 + 65536) % 65536 = ((q - m : Nat) : Int) := by omega
      have hn : twNew ⟨9, (s + m) % 65536, (v : Int)⟩ ((s + q) % 65536) = ⟨9, (s + q) % 65536, ((((v * 2 ^ min (q - m) 64) % 2 ^ 64 ||| 1 : Nat)) : Int)⟩ := by
        rw [tw_new_a (by simp only; omega) (by simp only; omega)]
        simp only [hd, Int.toNat_natCast]
        rw [or_nat (wrap_bd _).1 (wrap_bd _).2 (by omega) (by omega), u64w]
        congr 3
      have hne : twNe ⟨9, (s + m) % 65536, (v : Int)⟩ (twNew ⟨9, (s + m) % 65536, (v : Int)⟩ ((s + q) % 65536)) = true := by
        rw [hn]
        unfold twNe
        have : ((s + m) % 65536 == (s + q) % 65536) = false := by rw [beq_eq_false_iff_ne]; omega
        simp [this]
      rw [hne, hn] at hacc
      have hAq : A q = false := hmax q hlt
      refine ⟨_, by rw [hacc, hAq]; rfl, .inr ⟨q, by simp [addA], fun j hj => ?_, _, Nat.or_lt_two_pow (Nat.mod_lt _ (by decide)) (by decide), rfl, fun b hb64 => ?_⟩⟩
      · simp only [addA, hmax j (by omega), Bool.false_or, beq_eq_false_iff_ne]; omega
      · rw [Nat.testBit_or, Nat.testBit_mod_two_pow, bit_one, Nat.testBit_mul_two_pow]
        simp only [addA]
        by_cases h0 : b = 0
        · subst h0; simp
        · have hbq : (q - b == q) = decide (b > q ∧ q = 0) := by
            by_cases h1 : b ≤ q
            · rw [beq_eq_false_iff_ne.2 (by omega)]; simp; omega
            · have : q - b = 0 := by omega
              rw [this]
              by_cases h2 : q = 0
              · subst h2; simp; omega
              · rw [beq_eq_false_iff_ne.2 (by omega)]; simp [h2]
          have hq0 : ¬ q = 0 := by omega
          simp only [hbq, hq0, and_false, decide_false, Bool.or_false, h0, hb64, decide_true, Bool.true_and]
          by_cases h1 : q - m ≤ b
          · have hmn : min (q - m) 64 = q - m := by omega
            rw [hmn, hb (b - (q - m)) (by omega)]
            by_cases h2 : b ≤ q
            · have e1 : m - (b - (q - m)) = q - b := by omega
              have e2 : b - (q - m) ≤ m := by omega
              simp [h1, h2, e1, e2]
            · have e2 : ¬ b - (q - m) ≤ m := by omega
              simp [h1, h2, e2]
          · have hmn : ¬ min (q - m) 64 ≤ b := by omega
            have : A (q - b) = false := hmax _ (by omega)
            simp [hmn, this]
    · -- the newest one again
      subst heq
      have hd : ((s + m) % 65536 - (s + m) % 65536 + 65536) % 65536 = 0 := by omega
      have h0b : v.testBit 0 = true := by rw [hb 0 (by omega)]; simp [hm]
      have hv1 : v ||| 1 = v := by
        apply Nat.eq_of_testBit_eq
        intro b
        rw [Nat.testBit_or, bit_one]
        by_cases h : b = 0
        · subst h; simp [h0b]
        · simp [h]
      have hn : twNew ⟨9, (s + m) % 65536, (v : Int)⟩ ((s + m) % 65536) = ⟨9, (s + m) % 65536, (v : Int)⟩ := by
        unfold twNew
        simp only [hd]
        rw [if_neg (by omega), if_pos trivial, or_nat (by omega) (by omega) (by omega) (by omega)]
        simp only [Int.toNat_natCast]
        rw [show (1 : Int).toNat = 1 from rfl, hv1]
      have hne : twNe ⟨9, (s + m) % 65536, (v : Int)⟩ ⟨9, (s + m) % 65536, (v : Int)⟩ = false := by unfold twNe; simp
      rw [hn, hne] at hacc
      refine ⟨_, by rw [hacc, hm]; rfl, .inr ⟨m, by simp [addA], fun j hj => ?_, v, hv, rfl, fun b hb64 => ?_⟩⟩
      · simp only [addA, hmax j hj, Bool.false_or, beq_eq_false_iff_ne]; omega
      · rw [hb b hb64]
        simp only [addA]
        by_cases h2 : b = 0
        · subst h2; simp [hm]
        · by_cases h3 : b ≤ m
          · have : (m - b == m) = false := by rw [beq_eq_false_iff_ne]; omega
            simp [h3, this]
          · simp [h3]
    · -- a number of the window
      have he : m - q < 64 := by omega
      have hd : ((s + q) % 65536 - (s + m) % 65536 + 65536) % 65536 = 65536 - ((m - q : Nat) : Int) := by omega
      have hn : twNew ⟨9, (s + m) % 65536, (v : Int)⟩ ((s + q) % 65536) = ⟨9, (s + m) % 65536, ((v ||| 2 ^ (m - q) : Nat) : Int)⟩ := by
        unfold twNew
        simp only [hd]
        rw [if_neg (by omega), if_neg (by omega), if_pos (by omega), or_nat (by omega) (by omega) (wrap_bd _).1 (wrap_bd _).2, u64w]
        have e1 : (-(65536 - ((m - q : Nat) : Int)) % 65536).toNat = m - q := by omega
        rw [e1]
        congr 3
        have hp : (2 : Nat) ^ (m - q) < 2 ^ 64 := Nat.pow_lt_pow_right (by omega) he
        have e2 : ((2 : Int) ^ (m - q)) % 18446744073709551616 = ((2 ^ (m - q) : Nat) : Int) := by
          rw [show (2 : Int) ^ (m - q) = ((2 ^ (m - q) : Nat) : Int) by rw [Int.natCast_pow]; rfl, show (18446744073709551616 : Int) = ((2 ^ 64 : Nat) : Int) from rfl, ← Int.natCast_emod, Nat.mod_eq_of_lt hp]
        rw [e2, Int.toNat_natCast]
      have hvb : v.testBit (m - q) = A q := by rw [hb _ he, show m - (m - q) = q by omega]; simp
      have hne : twNe ⟨9, (s + m) % 65536, (v : Int)⟩ ⟨9, (s + m) % 65536, ((v ||| 2 ^ (m - q) : Nat) : Int)⟩ = !(A q) := by
        unfold twNe
        rw [← hvb]
        congr 1
        simp only [beq_self_eq_true, Bool.true_and]
        rw [Bool.eq_iff_iff, beq_iff_eq]
        constructor
        · intro h
          have h2 : v = v ||| 2 ^ (m - q) := by omega
          rw [h2, Nat.testBit_or, Nat.testBit_two_pow_self, Bool.or_true]
        · intro h
          congr 1
          apply Nat.eq_of_testBit_eq
          intro b
          rw [Nat.testBit_or, Nat.testBit_two_pow]
          by_cases hx : m - q = b
          · subst hx; simp [h]
          · simp [hx]
      rw [hn, hne] at hacc
      refine ⟨_, hacc, .inr ⟨m, by simp [addA, hm], fun j hj => ?_, _, Nat.or_lt_two_pow hv (Nat.pow_lt_pow_right (by omega) he), rfl, fun b hb64 => ?_⟩⟩
      · simp only [addA, hmax j hj, Bool.false_or, beq_eq_false_iff_ne]; omega
      · rw [Nat.testBit_or, Nat.testBit_two_pow, hb b hb64]
        simp only [addA]
        by_cases h3 : b ≤ m
        · by_cases h4 : m - q = b
          · have : m - b = q := by omega
            simp [h3, h4, this]
          · have : (m - b == q) = false := by rw [beq_eq_false_iff_ne]; omega
            simp [h3, h4, this]
        · have : ¬ m - q = b := by omega
          simp [h3, this]
/-- Which of the two copies of frame j are lost. -/
def lost0 (l : List S30) (j : Nat) : Bool := (rd_T30 l (j : Int)).f0
def lost1 (l : List S30) (j : Nat) : Bool := (rd_T30 l (j : Int)).f1
/-- The frames accepted before step i. -/
def accd (l : List S30) (n late i j : Nat) : Bool := (decide (j < i) && decide (j < n) && !lost0 l j) || (decide (j + late < i) && decide (j < n) && !lost1 l j)
/-- .. and behind the first network's copy of step i. -/
def mid (l : List S30) (n late i j : Nat) : Bool := (decide (j < i + 1) && decide (j < n) && !lost0 l j) || (decide (j + late < i) && decide (j < n) && !lost1 l j)
theorem mid_lt (l : List S30) (n late i j : Nat) (h : mid l n late i j = true) : j < i + 1 ∧ j < n := by
  unfold mid at h
  simp only [Bool.or_eq_true, Bool.and_eq_true, decide_eq_true_eq] at h
  omega
theorem accd_lt (l : List S30) (n late i j : Nat) (h : accd l n late i j = true) : j < i ∧ j < n := by
  unfold accd at h
  simp only [Bool.or_eq_true, Bool.and_eq_true, decide_eq_true_eq] at h
  omega
theorem mid_add (l : List S30) (n late i : Nat) (h : i < n) (h0 : lost0 l i = false) : mid l n late i = addA (accd l n late i) i := by
  funext j
  unfold mid accd addA
  by_cases hj : j = i
  · subst hj; simp [h, h0]
  · have h1 : (j == i) = false := by rw [beq_eq_false_iff_ne]; exact hj
    have h2 : decide (j < i + 1) = decide (j < i) := by apply decide_eq_decide.2; omega
    rw [h1, h2, Bool.or_false]
theorem mid_same (l : List S30) (n late i : Nat) (h : i < n → lost0 l i = true) : mid l n late i = accd l n late i := by
  funext j
  unfold mid accd
  by_cases hj : j = i
  · subst hj
    by_cases hn : j < n
    · simp [h hn, hn]
    · simp [hn]
  · have h2 : decide (j < i + 1) = decide (j < i) := by apply decide_eq_decide.2; omega
    rw [h2]
theorem accd_add (l : List S30) (n late i q : Nat) (hq : q + late = i) (h : q < n) (h1 : lost1 l q = false) : accd l n late (i + 1) = addA (mid l n late i) q := by
  funext j
  unfold mid accd addA
  by_cases hj : j = q
  · subst hj
    have : j + late < i + 1 := by omega
    simp [h, h1, this]
  · have h3 : (j == q) = false := by rw [beq_eq_false_iff_ne]; exact hj
    have h2 : decide (j + late < i + 1) = decide (j + late < i) := by apply decide_eq_decide.2; omega
    rw [h3, h2, Bool.or_false]
theorem accd_same (l : List S30) (n late i : Nat) (h : ∀ q, q + late = i → q < n → lost1 l q = true) : accd l n late (i + 1) = mid l n late i := by
  funext j
  unfold mid accd
  by_cases hj : j + late = i
  · by_cases hn : j < n
    · simp [h j hj hn, hn]
    · simp [hn]
  · have h2 : decide (j + late < i + 1) = decide (j + late < i) := by apply decide_eq_decide.2; omega
    rw [h2]
/-- The counts say which frames have been accepted. -/
def Cnt (n : Nat) (A : Nat → Bool) (c : List Int) : Prop := c.length = n ∧ ∀ j, j < n → rd c (j : Int) = if A j = true then 1 else 0
theorem cnt_add {n : Nat} {A : Nat → Bool} {c : List Int} (h : Cnt n A c) (q : Nat) (hq : q < n) (hA : A q = false) : Cnt n (addA A q) (c.set q (wrap64 (rd c (q : Int) + 1))) := by
  obtain ⟨h1, h2⟩ := h
  refine ⟨by simp [h1], fun j hj => ?_⟩
  have h3 := h2 q hq
  rw [hA] at h3
  by_cases hjq : j = q
  · subst hjq
    have : rd (c.set j (wrap64 (rd c (j : Int) + 1))) (j : Int) = wrap64 (rd c (j : Int) + 1) := by simp [rd, h1, hj]
    rw [this, h3]
    simp [addA, wrap64]
  · have : rd (c.set q (wrap64 (rd c (q : Int) + 1))) (j : Int) = rd c (j : Int) := by
      simp only [rd, Int.toNat_natCast, List.getD_eq_getElem?_getD]
      rw [List.getElem?_set_ne (fun e => hjq e.symm)]
    rw [this, h2 j hj]
    have h4 : (j == q) = false := by rw [beq_eq_false_iff_ne]; exact hjq
    simp [addA, h4]
theorem cnt_same {n : Nat} {A : Nat → Bool} {c : List Int} (h : Cnt n A c) (q : Nat) (hA : A q = true) : Cnt n (addA A q) c := by
  refine ⟨h.1, fun j hj => ?_⟩
  rw [h.2 j hj]
  by_cases hjq : j = q
  · subst hjq; simp [addA, hA]
  · have h4 : (j == q) = false := by rw [beq_eq_false_iff_ne]; exact hjq
    simp [addA, h4]
section
variable (s : Int) (l : List S30) (n late : Nat) (hs0 : 0 ≤ s) (hs1 : s < 65536) (hn : n ≤ 150) (hnl : n ≤ l.length) (hlate : late < 60)
include hn hnl
theorem once_l1 (c : List Int) (hc : Cnt n (accd l n late (n + late)) c) : ∀ (d j : Nat), j + d = n → Ev (fun k => substationlaw16_TwinExactlyOnce.l1 k l (n : Int) c (j : Int)) true
  | 0, j, hj => by
    refine Ev.step (f := fun _ => some true) (fun k => ?_) (Ev.now _)
    simp only [substationlaw16_TwinExactlyOnce.l1]
    rw [if_neg (by omega)]
  | d + 1, j, hj => by
    have ih := once_l1 c hc d (j + 1) (by omega)
    have hv := hc.2 j (by omega)
    have hA : accd l n late (n + late) j = (!lost0 l j || !lost1 l j) := by
      unfold accd
      have h1 : j < n := by omega
      have h2 : j < n + late := by omega
      simp [h1, h2]
    rw [hA] at hv
    have hw : wrap64 ((j : Int) + 1) = ((j + 1 : Nat) : Int) := by rw [w64 (by omega) (by omega)]; rfl
    refine Ev.step (f := fun k => substationlaw16_TwinExactlyOnce.j5 k l (n : Int) c (j : Int) 1 (lost0 l j && lost1 l j)) (fun k => ?_) (Ev.step (fun k => ?_) ih)
    · simp only [substationlaw16_TwinExactlyOnce.l1]
      rw [if_pos (by omega), if_pos (by omega), if_pos (by omega)]
      unfold lost0 lost1
      cases h0 : (rd_T30 l (j : Int)).f0 <;> simp
    · simp only [substationlaw16_TwinExactlyOnce.j5]
      have hcl : (j : Int) < (c.length : Int) := by have := hc.1; omega
      by_cases hb : (lost0 l j && lost1 l j) = true
      · have hv0 : rd c (j : Int) = 0 := by
          rw [hv]
          simp only [Bool.and_eq_true] at hb
          simp [hb.1, hb.2]
        rw [if_pos hb, if_pos (by omega), if_pos hcl, if_pos hv0, hw]
      · have hv0 : rd c (j : Int) = 1 := by
          rw [hv]
          cases h0 : lost0 l j <;> cases h1 : lost1 l j <;> simp [h0, h1] at hb ⊢
        rw [if_neg hb, if_pos (by omega), if_pos hcl, if_pos hv0, hw]
include hs0 hs1 hlate
theorem once_l0 : ∀ (d i : Nat) (c : List Int) (st : List S36), i + d = n + late → StA s (accd l n late i) st → Cnt n (accd l n late i) c →
    Ev (fun k => substationlaw16_TwinExactlyOnce.l0 k s (late : Int) l (n : Int) c (i : Int) st) true
  | 0, i, c, st, hi, hst, hc => by
    obtain rfl : i = n + late := by omega
    refine Ev.step (fun k => ?_) (once_l1 l n late hn hnl c hc n 0 (by omega))
    simp only [substationlaw16_TwinExactlyOnce.l0]
    rw [w64 (by omega) (by omega), if_neg (by omega)]
    rfl
  | d + 1, i, c, st, hi, hst, hc => by
    have hw : wrap64 ((i : Int) + 1) = ((i + 1 : Nat) : Int) := by rw [w64 (by omega) (by omega)]; rfl
    have hsub : wrap64 ((i : Int) - (late : Int)) = (i : Int) - late := w64 (by omega) (by omega)
    have hseq : Int.tmod (wrap64 (s + (i : Int))) 65536 = (s + (i : Nat)) % 65536 := by rw [w64 (by omega) (by omega), tmod_in (by omega)]
    -- the third part: the second network's copy
    have part3 : ∀ (c : List Int) (st : List S36), StA s (mid l n late i) st → Cnt n (mid l n late i) c → Ev (fun k => substationlaw16_TwinExactlyOnce.j2 k s (late : Int) l (n : Int) c (i : Int) st) true := by
      intro c st hst hc
      by_cases hil : late ≤ i
      · obtain ⟨q, hq⟩ : ∃ q, q + late = i := ⟨i - late, by omega⟩
        have hqi : (i : Int) - late = (q : Int) := by omega
        have hsq : wrap64 ((i : Int) - (late : Int)) = (q : Int) := by rw [hsub]; exact hqi
        by_cases hqn : q < n
        · refine Ev.step (f := fun k => substationlaw16_TwinExactlyOnce.j3 k s (late : Int) l (n : Int) c (i : Int) (!lost1 l q) st) (fun k => ?_) ?_
          · simp only [substationlaw16_TwinExactlyOnce.j2]
            rw [if_pos (by omega), hsub, hqi, if_pos (by omega), if_pos (by omega), if_pos (by omega)]
            rfl
          · cases h1 : lost1 l q with
            | true =>
              have e := accd_same l n late i (fun q' h2 _ => (show q' = q by omega) ▸ h1)
              refine Ev.step (fun k => ?_) (once_l0 d (i + 1) c st (by omega) (by rw [e]; exact hst) (by rw [e]; exact hc))
              simp only [substationlaw16_TwinExactlyOnce.j3]
              rw [if_neg (by simp), hw]
            | false =>
              have e := accd_add l n late i q hq hqn h1
              obtain ⟨st', ha, hst'⟩ := sq_one s (mid l n late i) st q hst (by omega) (fun j hj => by have := mid_lt l n late i j hj; omega)
              have hseq2 : Int.tmod (wrap64 (wrap64 (s + (i : Int)) - (late : Int))) 65536 = (s + (q : Nat)) % 65536 := by
                rw [w64 (x := s + (i : Int)) (by omega) (by omega), w64 (by omega) (by omega), tmod_in (by omega)]
                congr 1
                omega
              cases hAq : mid l n late i q with
              | true =>
                rw [hAq] at ha
                refine Ev.step (fun k => ?_) (once_l0 d (i + 1) c st' (by omega) (by rw [e]; exact hst') (by rw [e]; exact cnt_same hc q hAq))
                simp only [substationlaw16_TwinExactlyOnce.j3]
                rw [if_pos (by simp), hseq2, ha]
                simp only [Option.bind_some, hw]
                rw [if_neg (by simp)]
              | false =>
                rw [hAq] at ha
                refine Ev.step (fun k => ?_) (once_l0 d (i + 1) _ st' (by omega) (by rw [e]; exact hst') (by rw [e]; exact cnt_add hc q hqn hAq))
                simp only [substationlaw16_TwinExactlyOnce.j3]
                rw [if_pos (by simp), hseq2, ha]
                simp only [Option.bind_some, hw, hsq]
                rw [if_pos (by simp), if_pos (by omega), if_pos (by have := hc.1; omega)]
                rfl
        · have e := accd_same l n late i (fun q' h2 h3 => absurd h3 (by omega))
          refine Ev.step (f := fun k => substationlaw16_TwinExactlyOnce.j3 k s (late : Int) l (n : Int) c (i : Int) false st) (fun k => ?_) (Ev.step (fun k => ?_) (once_l0 d (i + 1) c st (by omega) (by rw [e]; exact hst) (by rw [e]; exact hc)))
          · simp only [substationlaw16_TwinExactlyOnce.j2]
            rw [if_pos (by omega), hsub, hqi, if_neg (by omega)]
          · simp only [substationlaw16_TwinExactlyOnce.j3]
            rw [if_neg (by simp), hw]
      · have e := accd_same l n late i (fun q' h2 h3 => absurd h2 (by omega))
        refine Ev.step (f := fun k => substationlaw16_TwinExactlyOnce.j3 k s (late : Int) l (n : Int) c (i : Int) false st) (fun k => ?_) (Ev.step (fun k => ?_) (once_l0 d (i + 1) c st (by omega) (by rw [e]; exact hst) (by rw [e]; exact hc)))
        · simp only [substationlaw16_TwinExactlyOnce.j2]
          rw [if_neg (by omega)]
        · simp only [substationlaw16_TwinExactlyOnce.j3]
          rw [if_neg (by simp), hw]
    by_cases hin : i < n
    · refine Ev.step (f := fun k => substationlaw16_TwinExactlyOnce.j1 k s (late : Int) l (n : Int) c (i : Int) (!lost0 l i) st) (fun k => ?_) ?_
      · simp only [substationlaw16_TwinExactlyOnce.l0]
        rw [w64 (by omega) (by omega), if_pos (by omega), if_pos (by omega), if_pos (by omega), if_pos (by omega)]
        rfl
      · cases h0 : lost0 l i with
        | true =>
          have e := mid_same l n late i (fun _ => h0)
          refine Ev.step (fun k => ?_) (part3 c st (by rw [e]; exact hst) (by rw [e]; exact hc))
          simp only [substationlaw16_TwinExactlyOnce.j1]
          rw [if_neg (by simp)]
        | false =>
          have e := mid_add l n late i hin h0
          obtain ⟨st', ha, hst'⟩ := sq_one s (accd l n late i) st i hst (by omega) (fun j hj => by have := accd_lt l n late i j hj; omega)
          have hAi : accd l n late i i = false := by unfold accd; have h6 : ¬ i + late < i := by omega
                                                     simp [h6]
          rw [hAi] at ha
          refine Ev.step (fun k => ?_) (part3 _ st' (by rw [e]; exact hst') (by rw [e]; exact cnt_add hc i hin hAi))
          simp only [substationlaw16_TwinExactlyOnce.j1]
          rw [if_pos (by simp), hseq, ha]
          simp only [Option.bind_some]
          rw [if_pos (by simp), if_pos (by omega), if_pos (by have := hc.1; omega)]
          rfl
    · have e := mid_same l n late i (fun h => absurd h hin)
      refine Ev.step (f := fun k => substationlaw16_TwinExactlyOnce.j1 k s (late : Int) l (n : Int) c (i : Int) false st) (fun k => ?_) (Ev.step (fun k => ?_) (part3 c st (by rw [e]; exact hst) (by rw [e]; exact hc)))
      · simp only [substationlaw16_TwinExactlyOnce.l0]
        rw [w64 (by omega) (by omega), if_pos (by omega), if_neg (by omega)]
      · simp only [substationlaw16_TwinExactlyOnce.j1]
        rw [if_neg (by simp)]
end
theorem TwinExactlyOnce : RTwinExactlyOnce.Pure := by
  intro a b l ha hb hl
  refine Ev.rounds (g := fun k => substationlaw16_TwinExactlyOnce.f k a b l) (r := true) ?_
  unfold substationlaw16_TwinExactlyOnce.f
  rw [known, within a 65536 (by omega) (by omega), within b 60 (by omega) (by omega)]
  simp only [Option.bind_some, if_true]
  have hm : mn (l.length : Int) 150 = ((min l.length 150 : Nat) : Int) := by unfold mn; split <;> omega
  rw [hm]
  refine Ev.congr (f := fun k => substationlaw16_TwinExactlyOnce.l0 k (a % 65536) (b % 60) l ((min l.length 150 : Nat) : Int) (List.replicate ((min l.length 150 : Nat) : Int).toNat 0) 0 ([] : List (S36))) (fun k => by rw [if_pos (by omega), if_pos (by omega)]) ?_
  obtain ⟨late, hlt⟩ : ∃ late : Nat, b % 60 = (late : Int) := ⟨(b % 60).toNat, by omega⟩
  rw [hlt, Int.toNat_natCast]
  have hA : ∀ j, accd l (min l.length 150) late 0 j = false := fun j => by unfold accd; simp
  refine once_l0 (a % 65536) l (min l.length 150) late (by omega) (by omega) (by omega) (by omega) (by omega) (min l.length 150 + late) 0 _ [] (by omega) (.inl ⟨hA, rfl⟩) ⟨by simp, fun j hj => ?_⟩
  rw [hA j, if_neg (by simp)]
  simp [rd, hj]
end Go.Proofs.Ytnjddjpohobelaa.Pure
end
