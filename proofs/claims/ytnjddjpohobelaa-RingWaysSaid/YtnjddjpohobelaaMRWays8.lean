/- A part of the proof of the law ringWays_holds: general lemmas, functions of the program as plain functions with proofs that the calls compute them, and what they compute; merged from this session's texts. -/
import Derived.Test.YtnjddjpohobelaaMRWays7
import Derived.Shelf.SlSortCmp.NoneTotal
section
namespace Go.Proofs.Ytnjddjpohobelaa.XB
open Go.RowKit Go.Proofs.YtnjddjpohobelaaW.PrintWords Go.Proofs.YtnjddjpohobelaaW.PrintLast Go.Proofs.YtnjddjpohobelaaW.PrintMore
attribute [local go_sem] max2_int min2_int max_two min_two max_three min_three max_four min_four   -- for this text's walks alone
set_option linter.unusedVariables false
set_option linter.unusedSimpArgs false
/-! ### (ring.Arrival).compare -/
theorem rg_box_event {P : Program} {ops : Array Oper} {rest : List Oper} {o : Oper} {a : Act} {Q : Exit → Act → World → Prop} {W : World} (hgd : o.guard = none) {N : Tmp} (_hd : o.dst = some N) {cs : Array Value} {t : TypeId}
    (hrun : (execOp a.eval o).run P W = .ok (.value (.pointer (some ⟨W.heap.size, 0, none⟩))) (W.alloc (.cells cs t (0, 0))))
    (h : ∀ g, g = W.heap.size → ∀ w1, w1.heap[g]? = some (.cells cs t (0, 0)) → Below W.heap.size W w1 → W.drawn ≤ w1.drawn → wpList P ops Q rest (a.put o.dst (.pointer (some ⟨g, 0, none⟩))) w1) : wpList P ops Q (o :: rest) a W :=
  Kd.event_run hgd hrun (h _ rfl _ (blk_new W _) (below_alloc (Below.refl _ _) _) (Nat.le_refl _))
theorem rg_lit_step {P : Program} {ops : Array Oper} {o : Oper} {a : Act} {Q : Exit → Act → World → Prop} {Kc : Act → World → Prop} {W : World} (hw : Region.wanted o (yielded ops a.tmps) = true) (t1 t2 t3 t4 : Int)
    (hrun : (execOp a.eval o).run P W = .ok (.value (.slice (some ⟨W.heap.size, 0, none⟩) 4 4)) (W.alloc (.cells #[.int .i64 t1, .int .i64 t2, .int .i64 t3, .int .i64 t4] 3)))
    (h : ∀ v1 w1, Kd.R (Kd.int .i64) 3 w1 W.heap.size (fun _ => True) v1 [t1, t2, t3, t4] → Below W.heap.size W w1 → W.drawn ≤ w1.drawn → Kc (a.put o.dst v1) w1) : if Region.wanted o (yielded ops a.tmps) = true then Oper.wp P o a W Kc Q else Kc (a.put o.dst undef) W :=
  event_step hw hrun (h _ _ (Kd.R_of_own (World.ownsRow_lit W _ 4 (Nat.le_refl _) (by unfold maxLen; omega) rfl) (fun _ _ => trivial)) (below_alloc (Below.refl _ _) _) (Nat.le_refl _))
/-! ### cmp_isNaN_int: function 79 -/
def cmp_isNaN_int.f (a0 : Int) : Option (Bool) := some (a0 != a0)
set_option maxHeartbeats 8000000 in
set_option maxRecDepth 100000 in
theorem cmp_isNaN_int.calls (a0 : Int) (r : Bool) (w : World) (h : cmp_isNaN_int.f a0 = some r) :
  Calls Try.prog 79 #[.int .i64 a0] w fun e w' => e = .returned (.bool r) ∧ Drawn0 w w' := by
 have H : (some (a0 != a0)) = some r := h
 clear h
 obtain rfl := Option.some.inj H
 go_enter Try.func79, Try.ntmps79
 go_wp2
 go_ret
 exact ⟨by first | rfl | (simp; done) | (simp [*]; done), by repeat (first | exact Drawn0.refl _ | apply Drawn0.step)⟩
/-! ### cmp_Compare_int: function 66 -/
def cmp_Compare_int.f (a0 : Int) (a1 : Int) : Option (Int) := (cmp_isNaN_int.f a0).bind fun t101 => ((cmp_isNaN_int.f a1).bind fun t102 => (if t101 = true then (if t102 = true then (some 0) else (some (-1))) else (if t102 = true then (some 1) else (if a0 < a1 then (some (-1)) else (if a0 > a1 then (some 1) else (some 0))))))
set_option maxHeartbeats 8000000 in
set_option maxRecDepth 100000 in
theorem cmp_Compare_int.calls (a0 : Int) (a1 : Int) (r : Int) (w : World) (h : cmp_Compare_int.f a0 a1 = some r) :
  Calls Try.prog 66 #[.int .i64 a0, .int .i64 a1] w fun e w' => e = .returned (.int .i64 r) ∧ Drawn0 w w' := by
 have H : ((cmp_isNaN_int.f a0).bind fun t101 => ((cmp_isNaN_int.f a1).bind fun t102 => (if t101 = true then (if t102 = true then (some 0) else (some (-1))) else (if t102 = true then (some 1) else (if a0 < a1 then (some (-1)) else (if a0 > a1 then (some 1) else (some 0))))))) = some r := h
 clear h
 replace H := Option.bind_eq_some_iff.mp H
 obtain ⟨t101, A30, H⟩ := H
 replace H : ((cmp_isNaN_int.f a1).bind fun t102 => (if t101 = true then (if t102 = true then (some 0) else (some (-1))) else (if t102 = true then (some 1) else (if a0 < a1 then (some (-1)) else (if a0 > a1 then (some 1) else (some 0)))))) = some r := H
 have A3 := Aside0.mk A30
 clear A30
 replace H := Option.bind_eq_some_iff.mp H
 obtain ⟨t102, A40, H⟩ := H
 replace H : (if t101 = true then (if t102 = true then (some 0) else (some (-1))) else (if t102 = true then (some 1) else (if a0 < a1 then (some (-1)) else (if a0 > a1 then (some 1) else (some 0))))) = some r := H
 have A4 := Aside0.mk A40
 clear A40
 by_cases c5 : t101 = true
 ·subst c5
  have H1 : (if t102 = true then (some 0) else (some (-1))) = some r := by rw [if_pos rfl] at H; exact H
  clear H
  have H := H1
  clear H1
  by_cases c6 : t102 = true
  ·subst c6
   have H1 : (some 0) = some r := by rw [if_pos rfl] at H; exact H
   clear H
   have H := H1
   clear H1
   obtain rfl := Option.some.inj H
   go_enter Try.func66, Try.ntmps66
   go_wp2_with (first | ((with_reducible refine gate_callee (f := 79) rfl ?_); refine goesL_ (some 8) rfl rfl Try.func79 (by kernel_rfl) rfl #[.int .i64 a0] rfl (by (try simp only [List.map_toArray, List.map_cons, List.map_nil]); first | done | rfl | (simp only [List.length_drop, List.length_take]; rfl)) ?_; (with_reducible refine (cmp_isNaN_int.calls a0 true _ A3.out).mono ?_); rintro e w' ⟨rfl, ⟨nd, rfl⟩⟩; refine ⟨_, rfl, ?_⟩) | ((with_reducible refine gate_callee (f := 79) rfl ?_); refine goesL_ (some 10) rfl rfl Try.func79 (by kernel_rfl) rfl #[.int .i64 a1] rfl (by (try simp only [List.map_toArray, List.map_cons, List.map_nil]); first | done | rfl | (simp only [List.length_drop, List.length_take]; rfl)) ?_; (with_reducible refine (cmp_isNaN_int.calls a1 true _ A4.out).mono ?_); rintro e w' ⟨rfl, ⟨nd, rfl⟩⟩; refine ⟨_, rfl, ?_⟩))
   go_ret
   exact ⟨by first | rfl | (simp; done) | (simp [*]; done), by repeat (first | exact Drawn0.refl _ | apply Drawn0.step)⟩
  ·replace c6 := Bool.eq_false_iff.mpr c6
   subst c6
   have H1 : (some (-1)) = some r := by rw [if_neg (show ¬ (false = true) by decide)] at H; exact H
   clear H
   have H := H1
   clear H1
   obtain rfl := Option.some.inj H
   go_enter Try.func66, Try.ntmps66
   go_wp2_with (first | ((with_reducible refine gate_callee (f := 79) rfl ?_); refine goesL_ (some 8) rfl rfl Try.func79 (by kernel_rfl) rfl #[.int .i64 a0] rfl (by (try simp only [List.map_toArray, List.map_cons, List.map_nil]); first | done | rfl | (simp only [List.length_drop, List.length_take]; rfl)) ?_; (with_reducible refine (cmp_isNaN_int.calls a0 true _ A3.out).mono ?_); rintro e w' ⟨rfl, ⟨nd, rfl⟩⟩; refine ⟨_, rfl, ?_⟩) | ((with_reducible refine gate_callee (f := 79) rfl ?_); refine goesL_ (some 10) rfl rfl Try.func79 (by kernel_rfl) rfl #[.int .i64 a1] rfl (by (try simp only [List.map_toArray, List.map_cons, List.map_nil]); first | done | rfl | (simp only [List.length_drop, List.length_take]; rfl)) ?_; (with_reducible refine (cmp_isNaN_int.calls a1 false _ A4.out).mono ?_); rintro e w' ⟨rfl, ⟨nd, rfl⟩⟩; refine ⟨_, rfl, ?_⟩))
   go_ret
   exact ⟨by first | rfl | (simp; done) | (simp [*]; done), by repeat (first | exact Drawn0.refl _ | apply Drawn0.step)⟩
 ·replace c5 := Bool.eq_false_iff.mpr c5
  subst c5
  have H1 : (if t102 = true then (some 1) else (if a0 < a1 then (some (-1)) else (if a0 > a1 then (some 1) else (some 0)))) = some r := by rw [if_neg (show ¬ (false = true) by decide)] at H; exact H
  clear H
  have H := H1
  clear H1
  by_cases c7 : t102 = true
  ·subst c7
   have H1 : (some 1) = some r := by rw [if_pos rfl] at H; exact H
   clear H
   have H := H1
   clear H1
   obtain rfl := Option.some.inj H
   go_enter Try.func66, Try.ntmps66
   go_wp2_with (first | ((with_reducible refine gate_callee (f := 79) rfl ?_); refine goesL_ (some 8) rfl rfl Try.func79 (by kernel_rfl) rfl #[.int .i64 a0] rfl (by (try simp only [List.map_toArray, List.map_cons, List.map_nil]); first | done | rfl | (simp only [List.length_drop, List.length_take]; rfl)) ?_; (with_reducible refine (cmp_isNaN_int.calls a0 false _ A3.out).mono ?_); rintro e w' ⟨rfl, ⟨nd, rfl⟩⟩; refine ⟨_, rfl, ?_⟩) | ((with_reducible refine gate_callee (f := 79) rfl ?_); refine goesL_ (some 10) rfl rfl Try.func79 (by kernel_rfl) rfl #[.int .i64 a1] rfl (by (try simp only [List.map_toArray, List.map_cons, List.map_nil]); first | done | rfl | (simp only [List.length_drop, List.length_take]; rfl)) ?_; (with_reducible refine (cmp_isNaN_int.calls a1 true _ A4.out).mono ?_); rintro e w' ⟨rfl, ⟨nd, rfl⟩⟩; refine ⟨_, rfl, ?_⟩))
   go_ret
   exact ⟨by first | rfl | (simp; done) | (simp [*]; done), by repeat (first | exact Drawn0.refl _ | apply Drawn0.step)⟩
  ·replace c7 := Bool.eq_false_iff.mpr c7
   subst c7
   have H1 : (if a0 < a1 then (some (-1)) else (if a0 > a1 then (some 1) else (some 0))) = some r := by rw [if_neg (show ¬ (false = true) by decide)] at H; exact H
   clear H
   have H := H1
   clear H1
   by_cases c8 : a0 < a1
   ·rw [if_pos c8] at H
    have c8b0 : decide (a0 < a1) = true := decide_eq_true c8
    clear c8
    obtain rfl := Option.some.inj H
    go_enter Try.func66, Try.ntmps66
    go_wp2_with (first | ((with_reducible refine gate_callee (f := 79) rfl ?_); refine goesL_ (some 8) rfl rfl Try.func79 (by kernel_rfl) rfl #[.int .i64 a0] rfl (by (try simp only [List.map_toArray, List.map_cons, List.map_nil]); first | done | rfl | (simp only [List.length_drop, List.length_take]; rfl)) ?_; (with_reducible refine (cmp_isNaN_int.calls a0 false _ A3.out).mono ?_); rintro e w' ⟨rfl, ⟨nd, rfl⟩⟩; refine ⟨_, rfl, ?_⟩) | ((with_reducible refine gate_callee (f := 79) rfl ?_); refine goesL_ (some 10) rfl rfl Try.func79 (by kernel_rfl) rfl #[.int .i64 a1] rfl (by (try simp only [List.map_toArray, List.map_cons, List.map_nil]); first | done | rfl | (simp only [List.length_drop, List.length_take]; rfl)) ?_; (with_reducible refine (cmp_isNaN_int.calls a1 false _ A4.out).mono ?_); rintro e w' ⟨rfl, ⟨nd, rfl⟩⟩; refine ⟨_, rfl, ?_⟩))
    go_ret
    exact ⟨by first | rfl | (simp; done) | (simp [*]; done), by repeat (first | exact Drawn0.refl _ | apply Drawn0.step)⟩
   ·rw [if_neg c8] at H
    have c8b0 : decide (a0 < a1) = false := decide_eq_false c8
    clear c8
    by_cases c9 : a0 > a1
    ·rw [if_pos c9] at H
     have c9b0 : decide (a1 < a0) = true := decide_eq_true c9
     clear c9
     obtain rfl := Option.some.inj H
     go_enter Try.func66, Try.ntmps66
     go_wp2_with (first | ((with_reducible refine gate_callee (f := 79) rfl ?_); refine goesL_ (some 8) rfl rfl Try.func79 (by kernel_rfl) rfl #[.int .i64 a0] rfl (by (try simp only [List.map_toArray, List.map_cons, List.map_nil]); first | done | rfl | (simp only [List.length_drop, List.length_take]; rfl)) ?_; (with_reducible refine (cmp_isNaN_int.calls a0 false _ A3.out).mono ?_); rintro e w' ⟨rfl, ⟨nd, rfl⟩⟩; refine ⟨_, rfl, ?_⟩) | ((with_reducible refine gate_callee (f := 79) rfl ?_); refine goesL_ (some 10) rfl rfl Try.func79 (by kernel_rfl) rfl #[.int .i64 a1] rfl (by (try simp only [List.map_toArray, List.map_cons, List.map_nil]); first | done | rfl | (simp only [List.length_drop, List.length_take]; rfl)) ?_; (with_reducible refine (cmp_isNaN_int.calls a1 false _ A4.out).mono ?_); rintro e w' ⟨rfl, ⟨nd, rfl⟩⟩; refine ⟨_, rfl, ?_⟩))
     go_ret
     exact ⟨by first | rfl | (simp; done) | (simp [*]; done), by repeat (first | exact Drawn0.refl _ | apply Drawn0.step)⟩
    ·rw [if_neg c9] at H
     have c9b0 : decide (a1 < a0) = false := decide_eq_false c9
     clear c9
     obtain rfl := Option.some.inj H
     go_enter Try.func66, Try.ntmps66
     go_wp2_with (first | ((with_reducible refine gate_callee (f := 79) rfl ?_); refine goesL_ (some 8) rfl rfl Try.func79 (by kernel_rfl) rfl #[.int .i64 a0] rfl (by (try simp only [List.map_toArray, List.map_cons, List.map_nil]); first | done | rfl | (simp only [List.length_drop, List.length_take]; rfl)) ?_; (with_reducible refine (cmp_isNaN_int.calls a0 false _ A3.out).mono ?_); rintro e w' ⟨rfl, ⟨nd, rfl⟩⟩; refine ⟨_, rfl, ?_⟩) | ((with_reducible refine gate_callee (f := 79) rfl ?_); refine goesL_ (some 10) rfl rfl Try.func79 (by kernel_rfl) rfl #[.int .i64 a1] rfl (by (try simp only [List.map_toArray, List.map_cons, List.map_nil]); first | done | rfl | (simp only [List.length_drop, List.length_take]; rfl)) ?_; (with_reducible refine (cmp_isNaN_int.calls a1 false _ A4.out).mono ?_); rintro e w' ⟨rfl, ⟨nd, rfl⟩⟩; refine ⟨_, rfl, ?_⟩))
     go_ret
     exact ⟨by first | rfl | (simp; done) | (simp [*]; done), by repeat (first | exact Drawn0.refl _ | apply Drawn0.step)⟩
/-! ### cmp_Or_int: function 65 -/
def cmp_Or_int.l0 : Nat → Int → List Int → Int → Int → Option (Int)
 | 0, _, _, _, _ => none
 | k + 1, x3, x6, x7, x8 => if x8 < x7 then (if 0 ≤ x8 then (if x8 < (x6.length : Int) then (if (rd x6 x8) = x3 then (cmp_Or_int.l0 k x3 x6 x7 (wrap64 (x8 + 1))) else (some (rd x6 x8))) else (none)) else (none)) else (some x3)
def cmp_Or_int.f (k : Nat) (l0 : List Int) : Option (Int) := cmp_Or_int.l0 k 0 l0 (l0.length : Int) 0
theorem cmp_Or_int.mono_l : ∀ k, (∀ y0 y1 y2 y3, LeO (cmp_Or_int.l0 k y0 y1 y2 y3) (cmp_Or_int.l0 (k + 1) y0 y1 y2 y3))
 | 0 => fun _ _ _ _ r h => by simp [cmp_Or_int.l0] at h
 | k + 1 => by
  have ih0 := cmp_Or_int.mono_l k
  ·intro y0 y1 y2 y3
   unfold cmp_Or_int.l0
   repeat' first
   | (with_reducible exact ih0 _ _ _ _)
   | (with_reducible exact LeO.refl _)
   | (with_reducible exact LeO.none _)
   | (with_reducible refine LeO.ite ?_ ?_)
   | (with_reducible refine LeO.bind ?_ (fun _ => ?_))
   | exact ih0 _ _ _ _
   | exact LeO.none _
   | refine LeO.ite ?_ ?_
   | refine LeO.bind ?_ (fun _ => ?_)
theorem cmp_Or_int.mono : ∀ a0 k, LeO (cmp_Or_int.f k a0) (cmp_Or_int.f (k + 1) a0) := by
 intro a0 k
 have ih0 := cmp_Or_int.mono_l k
 unfold cmp_Or_int.f
 repeat' first
   | (with_reducible exact ih0 _ _ _ _)
   | (with_reducible exact LeO.refl _)
   | (with_reducible exact LeO.none _)
   | (with_reducible refine LeO.ite ?_ ?_)
   | (with_reducible refine LeO.bind ?_ (fun _ => ?_))
   | exact ih0 _ _ _ _
   | exact LeO.none _
   | refine LeO.ite ?_ ?_
   | refine LeO.bind ?_ (fun _ => ?_)
set_option maxHeartbeats 8000000 in
set_option maxRecDepth 100000 in
theorem cmp_Or_int.calls (k : Nat) (A0 : Option Addr) (c0 : Nat) (l0 : List Int) (r : Int) (w : World) (hr0 : Kd.C (Kd.int .i64) w A0 l0.length l0) (hc0 : l0.length ≤ c0) (h : cmp_Or_int.f k l0 = some r) :
  Calls Try.prog 65 #[.slice A0 l0.length c0] w fun e w' => e = .returned (.int .i64 r) ∧ Drawn0 w w' := by
 have HR0 := Aside0.mk hr0
 have HC0 := Aside0.mk hc0
 clear hr0 hc0
 have H : (cmp_Or_int.l0 k 0 l0 (l0.length : Int) 0) = some r := h
 clear h
 have H' := Aside0.mk H
 clear H
 go_enter Try.func65, Try.ntmps65
 go_wp2
 go_loopg [8] k (fun kq v8 w' => ∃ (x8_1 : Int), v8 = .int .i64 x8_1 ∧ Aside0 (cmp_Or_int.l0 kq 0 l0 (l0.length : Int) x8_1 = some r) ∧ Aside0 (kq ≤ k) ∧ Drawn0 w w')
 case atStart => exact ⟨(0), (by first | rfl | (simp; done) | (simp [*]; done) | (simp; omega)), H', ⟨Nat.le_refl _⟩, by repeat (first | exact Drawn0.refl _ | apply Drawn0.step)⟩
 case round =>
  clear H'
  obtain ⟨x8_1, rfl, HA, HK1, ⟨m1, rfl⟩⟩ := hrel
  cases gk with
  | zero => exact absurd HA.out (by simp [cmp_Or_int.l0])
  | succ k1 =>
   have H := HA.out
   clear HA
   simp only [cmp_Or_int.l0] at H
   by_cases c2 : x8_1 < (l0.length : Int)
   ·rw [if_pos c2] at H
    have c2b0 : decide (x8_1 < (l0.length : Int)) = true := decide_eq_true c2
    clear c2
    by_cases c3 : 0 ≤ x8_1
    ·rw [if_pos c3] at H
     have c3b0 : decide (0 ≤ x8_1) = true := decide_eq_true c3
     clear c3
     by_cases c4 : x8_1 < (l0.length : Int)
     ·rw [if_pos c4] at H
      have c4b0 : decide (x8_1 < (l0.length : Int)) = true := decide_eq_true c4
      clear c4
      by_cases c5 : (rd l0 x8_1) = 0
      ·rw [if_pos c5] at H
       have c5b0 : ((rd l0 x8_1) == 0) = true := beq_iff_eq.mpr c5
       have c5b1 : ((rd l0 x8_1) != 0) = false := bne_eq_false_iff_eq.mpr c5
       clear c5
       have H' := Aside0.mk H
       clear H
       have p101 : 0 ≤ (x8_1 : Int) := of_decide_eq_true (by first | (with_reducible assumption) | assumption)
       have q101 : x8_1 < (l0.length : Int) := of_decide_eq_true (by first | (with_reducible assumption) | assumption)
       obtain ⟨ad101, e101, hx101_0⟩ := Kd.at_int HR0.out x8_1 p101 q101
       cases e101
       replace p101 := eq_true p101
       replace q101 := eq_true q101
       go_wp2
       go_roundg k1
       case measure => have := HK1.out; omega
       case rel => exact ⟨(wrap64 (x8_1 + 1)), (by first | rfl | (simp; done) | (simp [*]; done) | (simp; omega)), H', ⟨by have := HK1.out; omega⟩, by repeat (first | exact Drawn0.refl _ | apply Drawn0.step)⟩
      ·rw [if_neg c5] at H
       have c5b0 : ((rd l0 x8_1) == 0) = false := beq_eq_false_iff_ne.mpr c5
       have c5b1 : ((rd l0 x8_1) != 0) = true := bne_iff_ne.mpr c5
       obtain rfl := Option.some.inj H
       have p101 : 0 ≤ (x8_1 : Int) := of_decide_eq_true (by first | (with_reducible assumption) | assumption)
       have q101 : x8_1 < (l0.length : Int) := of_decide_eq_true (by first | (with_reducible assumption) | assumption)
       obtain ⟨ad101, e101, hx101_0⟩ := Kd.at_int HR0.out x8_1 p101 q101
       cases e101
       replace p101 := eq_true p101
       replace q101 := eq_true q101
       go_wp2
       go_ret
       exact ⟨by first | rfl | (simp; done) | (simp [*]; done), by repeat (first | exact Drawn0.refl _ | apply Drawn0.step)⟩
     ·rw [if_neg c4] at H
      exact absurd H (by simp)
    ·rw [if_neg c3] at H
     exact absurd H (by simp)
   ·rw [if_neg c2] at H
    have c2b0 : decide (x8_1 < (l0.length : Int)) = false := decide_eq_false c2
    clear c2
    obtain rfl := Option.some.inj H
    go_wp2
    go_ret
    exact ⟨by first | rfl | (simp; done) | (simp [*]; done), by repeat (first | exact Drawn0.refl _ | apply Drawn0.step)⟩
/-! ### ring_Arrival_compare: function 57 -/
def ring_Arrival_compare.f (k : Nat) (a0_0 : Int) (a0_1 : Int) (a0_2 : Int) (a0_3 : Int) (a1_0 : Int) (a1_1 : Int) (a1_2 : Int) (a1_3 : Int) : Option (Int) := (cmp_Compare_int.f a0_2 a1_2).bind fun t103 => ((cmp_Compare_int.f a0_1 a1_1).bind fun t104 => ((cmp_Compare_int.f a0_0 a1_0).bind fun t105 => ((cmp_Compare_int.f a0_3 a1_3).bind fun t106 => ((cmp_Or_int.f k (([t103, t104, t105, t106] : List Int))).bind fun t110 => (some t110)))))
theorem ring_Arrival_compare.mono : ∀ a0 a1 a2 a3 a4 a5 a6 a7 k, LeO (ring_Arrival_compare.f k a0 a1 a2 a3 a4 a5 a6 a7) (ring_Arrival_compare.f (k + 1) a0 a1 a2 a3 a4 a5 a6 a7) := by
 intro a0 a1 a2 a3 a4 a5 a6 a7 k
 unfold ring_Arrival_compare.f
 repeat' first
   | (with_reducible exact cmp_Or_int.mono _ _)
   | (with_reducible exact LeO.refl _)
   | (with_reducible exact LeO.none _)
   | (with_reducible refine LeO.ite ?_ ?_)
   | (with_reducible refine LeO.bind ?_ (fun _ => ?_))
   | exact cmp_Or_int.mono _ _
   | exact LeO.none _
   | refine LeO.ite ?_ ?_
   | refine LeO.bind ?_ (fun _ => ?_)
def ring_Arrival_compare.T1 : Bool × List (List Nat × List Nat) := (true, [([], []), ([0], [0]), ([], []), ([2], [2]), ([1, 3], [1, 3]), ([], []), ([5], [5]), ([], []), ([7], [7]), ([6, 8, 4], [6, 8]), ([], []), ([10], [10]), ([], []), ([12], [12]), ([11, 13, 9], [11, 13]), ([], []), ([15], [15]), ([], []), ([17], [17]), ([16, 18, 14], [16, 18]), ([4, 9, 14, 19], [4, 9, 14, 19]), ([20, 19], [20]), ([21, 21, 0, 1, 2, 3, 4, 5, 6, 7, 8, 9, 10, 11, 12, 13, 14, 15, 16, 17, 18, 19, 20, 21], [21])])
def ring_Arrival_compare.B1 : List Nat := [0, 1, 0, 4, 15, 0, 32, 0, 128, 511, 0, 1024, 0, 4096, 16383, 0, 32768, 0, 131072, 524287, 1048575, 2097151, 4194303]
theorem ring_Arrival_compare.tab1 : rtab .any (opsOf Try.f57 1) = ring_Arrival_compare.T1 := by kernel_rfl
theorem ring_Arrival_compare.bits1 : waitsOk ring_Arrival_compare.T1.2 ring_Arrival_compare.B1 = true := by kernel_rfl
set_option maxHeartbeats 8000000 in
set_option maxRecDepth 100000 in
theorem ring_Arrival_compare.calls (k : Nat) (a0_0 : Int) (a0_1 : Int) (a0_2 : Int) (a0_3 : Int) (a1_0 : Int) (a1_1 : Int) (a1_2 : Int) (a1_3 : Int) (r : Int) (w : World) (h : ring_Arrival_compare.f k a0_0 a0_1 a0_2 a0_3 a1_0 a1_1 a1_2 a1_3 = some r) :
  Calls Try.prog 57 #[.agg #[.int .i64 a0_0, .int .i64 a0_1, .int .i64 a0_2, .int .i64 a0_3], .agg #[.int .i64 a1_0, .int .i64 a1_1, .int .i64 a1_2, .int .i64 a1_3]] w fun e w' => e = .returned (.int .i64 r) ∧ Below w.heap.size w w' ∧ w.drawn ≤ w'.drawn := by
 have hu112 := Try.underlying112
 have HB := Aside0.mk (Below.refl w.heap.size w)
 have HD := Aside0.mk (Nat.le_refl w.drawn)
 have H : ((cmp_Compare_int.f a0_2 a1_2).bind fun t103 => ((cmp_Compare_int.f a0_1 a1_1).bind fun t104 => ((cmp_Compare_int.f a0_0 a1_0).bind fun t105 => ((cmp_Compare_int.f a0_3 a1_3).bind fun t106 => ((cmp_Or_int.f k (([t103, t104, t105, t106] : List Int))).bind fun t110 => (some t110)))))) = some r := h
 clear h
 replace H := Option.bind_eq_some_iff.mp H
 obtain ⟨t103, A30, H⟩ := H
 replace H : ((cmp_Compare_int.f a0_1 a1_1).bind fun t104 => ((cmp_Compare_int.f a0_0 a1_0).bind fun t105 => ((cmp_Compare_int.f a0_3 a1_3).bind fun t106 => ((cmp_Or_int.f k (([t103, t104, t105, t106] : List Int))).bind fun t110 => (some t110))))) = some r := H
 have A3 := Aside0.mk A30
 clear A30
 replace H := Option.bind_eq_some_iff.mp H
 obtain ⟨t104, A40, H⟩ := H
 replace H : ((cmp_Compare_int.f a0_0 a1_0).bind fun t105 => ((cmp_Compare_int.f a0_3 a1_3).bind fun t106 => ((cmp_Or_int.f k (([t103, t104, t105, t106] : List Int))).bind fun t110 => (some t110)))) = some r := H
 have A4 := Aside0.mk A40
 clear A40
 replace H := Option.bind_eq_some_iff.mp H
 obtain ⟨t105, A50, H⟩ := H
 replace H : ((cmp_Compare_int.f a0_3 a1_3).bind fun t106 => ((cmp_Or_int.f k (([t103, t104, t105, t106] : List Int))).bind fun t110 => (some t110))) = some r := H
 have A5 := Aside0.mk A50
 clear A50
 replace H := Option.bind_eq_some_iff.mp H
 obtain ⟨t106, A60, H⟩ := H
 replace H : ((cmp_Or_int.f k (([t103, t104, t105, t106] : List Int))).bind fun t110 => (some t110)) = some r := H
 have A6 := Aside0.mk A60
 clear A60
 obtain ⟨y107, hy107⟩ : ∃ y_ : List Int, y_ = (([t103, t104, t105, t106] : List Int)) := ⟨_, rfl⟩
 replace H : ((cmp_Or_int.f k y107).bind fun t110 => (some t110)) = some r := by first | (rw [hy107]; with_reducible exact H) | (have H2_ := (Option.bind_some _ _).symm.trans H; rw [hy107]; with_reducible exact H2_) | (have H2_ := (Option.bind_some _ _).symm.trans H; with_reducible exact H2_) | with_reducible exact H | (rw [hy107]; exact H) | exact H
 have Ny107 := Aside0.mk hy107
 clear hy107
 replace H := Option.bind_eq_some_iff.mp H
 obtain ⟨t110, A70, H⟩ := H
 replace H : (some t110) = some r := H
 have A7 := Aside0.mk A70
 clear A70
 obtain rfl := Option.some.inj H
 go_enter Try.func57, Try.ntmps57
 try go_wp2_with (first | ((with_reducible refine gate_dst (N := 2) rfl ?_); refine rg_box_event ?hg (N := 2) ?hd (cs := #[.int .i64 a0_0, .int .i64 a0_1, .int .i64 a0_2, .int .i64 a0_3]) (t := 112) ?hr ?_; (case hd => rfl); (case hg => rfl); (case hr => first | (go_simp; done) | (go_simp; rfl)); intro gb101 hg w8 hbox hb hdr; have nd_ := Aside0.mk (Nat.le_trans HD.out hdr); clear HD hdr; have HD := nd_; clear nd_; have n0_ := Aside0.mk (below_step (by repeat (first | (with_reducible first | exact HB.out | apply below_alloc | apply pw_below_drewN | apply below_drew1) | exact HB.out)) hb); have n1_ := Aside0.mk (hbox); have n2_ := Aside0.mk ((by rw [hg]; exact (below_size (by repeat (first | (with_reducible first | exact HB.out | apply below_alloc | apply pw_below_drewN | apply below_drew1) | exact HB.out))) : w.heap.size ≤ gb101)); have n3_ := Aside0.mk ((by rw [hg]; exact (below_size (by repeat (first | (with_reducible first | exact HB.out | apply below_alloc | apply pw_below_drewN | apply below_drew1) | exact HB.out))) : w.heap.size ≤ gb101)); clear HB; have HB := n0_; have BK101 := n1_; have GW101 := n2_; have GE101 := n3_; clear n0_ n1_ n2_ n3_; clear hb hbox hg) | ((with_reducible refine gate_dst (N := 3) rfl ?_); refine rg_box_event ?hg (N := 3) ?hd (cs := #[.int .i64 a1_0, .int .i64 a1_1, .int .i64 a1_2, .int .i64 a1_3]) (t := 112) ?hr ?_; (case hd => rfl); (case hg => rfl); (case hr => first | (go_simp; done) | (go_simp; rfl)); intro gb102 hg w9 hbox hb hdr; have nd_ := Aside0.mk (Nat.le_trans HD.out hdr); clear HD hdr; have HD := nd_; clear nd_; have n0_ := Aside0.mk (blk_below (g := gb101) (o := .cells #[.int .i64 a0_0, .int .i64 a0_1, .int .i64 a0_2, .int .i64 a0_3] 112 (0, 0)) (by (with_reducible repeat (first | refine blk_drewN ?_ _ | refine blk_drew ?_ | refine blk_alloc ?_ _)); exact BK101.out) hb); have n1_ := Aside0.mk (below_step (by repeat (first | (with_reducible first | exact HB.out | apply below_alloc | apply pw_below_drewN | apply below_drew1 | refine below_set ?_ GE101.out) | exact HB.out)) hb); have n2_ := Aside0.mk (hbox); have n3_ := Aside0.mk ((by rw [hg]; exact (below_size (by repeat (first | (with_reducible first | exact HB.out | apply below_alloc | apply pw_below_drewN | apply below_drew1 | refine below_set ?_ GE101.out) | exact HB.out))) : w.heap.size ≤ gb102)); have n4_ := Aside0.mk ((by rw [hg]; exact (below_size (by repeat (first | (with_reducible first | exact HB.out | apply below_alloc | apply pw_below_drewN | apply below_drew1 | refine below_set ?_ GE101.out) | exact HB.out))) : w.heap.size ≤ gb102)); have n5_ := Aside0.mk ((by rw [hg]; exact Nat.ne_of_lt (blk_lt (g := gb101) (o := .cells #[.int .i64 a0_0, .int .i64 a0_1, .int .i64 a0_2, .int .i64 a0_3] 112 (0, 0)) (by (with_reducible repeat (first | refine blk_drewN ?_ _ | refine blk_drew ?_ | refine blk_alloc ?_ _)); exact BK101.out)) : gb101 ≠ gb102)); have n6_ := Aside0.mk ((by rw [hg]; exact Nat.ne_of_gt (blk_lt (g := gb101) (o := .cells #[.int .i64 a0_0, .int .i64 a0_1, .int .i64 a0_2, .int .i64 a0_3] 112 (0, 0)) (by (with_reducible repeat (first | refine blk_drewN ?_ _ | refine blk_drew ?_ | refine blk_alloc ?_ _)); exact BK101.out)) : gb102 ≠ gb101)); clear BK101; clear HB; have BK101 := n0_; have HB := n1_; have BK102 := n2_; have GW102 := n3_; have GE102 := n4_; have NB101_102 := n5_; have NB102_101 := n6_; clear n0_ n1_ n2_ n3_ n4_ n5_ n6_; clear hb hbox hg))
 have n0_ := Aside0.mk (blk_drew BK101.out)
 have n1_ := Aside0.mk (blk_drew BK102.out)
 have n2_ := Aside0.mk (below_drew1 HB.out)
 clear BK101
 clear BK102
 clear HB
 have BK101 := n0_
 have BK102 := n1_
 have HB := n2_
 clear n0_ n1_ n2_
 refine start_ (n := 23) (S := fun w' => w'.cell? ⟨gb101, 0, none⟩ = some (.int .i64 a0_0) ∧ w'.cell? ⟨gb101, 1, none⟩ = some (.int .i64 a0_1) ∧ w'.cell? ⟨gb101, 2, none⟩ = some (.int .i64 a0_2) ∧ w'.cell? ⟨gb101, 3, none⟩ = some (.int .i64 a0_3) ∧ w'.cell? ⟨gb102, 0, none⟩ = some (.int .i64 a1_0) ∧ w'.cell? ⟨gb102, 1, none⟩ = some (.int .i64 a1_1) ∧ w'.cell? ⟨gb102, 2, none⟩ = some (.int .i64 a1_2) ∧ w'.cell? ⟨gb102, 3, none⟩ = some (.int .i64 a1_3)) (ds := []) #[false, false, false, false, false, false, false, false, false, false, false, false, false, false, false, false, false, false, false, false, false, false, false] (by kernel_rfl) rfl rfl ⟨(blk_cell BK101.out 0).trans rfl, (blk_cell BK101.out 1).trans rfl, (blk_cell BK101.out 2).trans rfl, (blk_cell BK101.out 3).trans rfl, (blk_cell BK102.out 0).trans rfl, (blk_cell BK102.out 1).trans rfl, (blk_cell BK102.out 2).trans rfl, (blk_cell BK102.out 3).trans rfl⟩ (fun hHeld => ?_); refine with_tabW ring_Arrival_compare.tab1 ring_Arrival_compare.bits1 (fun HT_ HW_ => ?_)
 have nd_ : Aside0 (w.drawn ≤ w9.drew.drawn) := Aside0.mk (Nat.le_succ_of_le HD.out)
 clear HD
 have HD := nd_
 clear nd_
 generalize w9.drew = w10 at BK101 BK102 HB HD hHeld ⊢
 refine pure_ (i := 0) (N := some 5) (v := ?_) (a' := ?_) #[true, false, false, false, false, false, false, false, false, false, false, false, false, false, false, false, false, false, false, false, false, false, false] rfl rfl (any_of HT_.out (by kernel_rfl)) (fun _ _ _ h => h) (Or.inl ⟨by rfl, ?_⟩) ?_ ?_
 rotate_left
 ·intro w'
  go_simp
  with_reducible rfl
 rotate_left
 ·simp only [Act.put, List.setIfInBounds_toArray, List.set_cons_zero, List.set_cons_succ, i64_w, i32_w]
  rfl
 refine pure_ (i := 2) (N := some 7) (v := ?_) (a' := ?_) #[true, false, true, false, false, false, false, false, false, false, false, false, false, false, false, false, false, false, false, false, false, false, false] rfl rfl (any_of HT_.out (by kernel_rfl)) (fun _ _ _ h => h) (Or.inl ⟨by rfl, ?_⟩) ?_ ?_
 rotate_left
 ·intro w'
  go_simp
  with_reducible rfl
 rotate_left
 ·simp only [Act.put, List.setIfInBounds_toArray, List.set_cons_zero, List.set_cons_succ, i64_w, i32_w]
  rfl
 refine pure_ (i := 5) (N := some 10) (v := ?_) (a' := ?_) #[true, false, true, false, false, true, false, false, false, false, false, false, false, false, false, false, false, false, false, false, false, false, false] rfl rfl (any_of HT_.out (by kernel_rfl)) (fun _ _ _ h => h) (Or.inl ⟨by rfl, ?_⟩) ?_ ?_
 rotate_left
 ·intro w'
  go_simp
  with_reducible rfl
 rotate_left
 ·simp only [Act.put, List.setIfInBounds_toArray, List.set_cons_zero, List.set_cons_succ, i64_w, i32_w]
  rfl
 refine pure_ (i := 7) (N := some 12) (v := ?_) (a' := ?_) #[true, false, true, false, false, true, false, true, false, false, false, false, false, false, false, false, false, false, false, false, false, false, false] rfl rfl (any_of HT_.out (by kernel_rfl)) (fun _ _ _ h => h) (Or.inl ⟨by rfl, ?_⟩) ?_ ?_
 rotate_left
 ·intro w'
  go_simp
  with_reducible rfl
 rotate_left
 ·simp only [Act.put, List.setIfInBounds_toArray, List.set_cons_zero, List.set_cons_succ, i64_w, i32_w]
  rfl
 refine pure_ (i := 10) (N := some 15) (v := ?_) (a' := ?_) #[true, false, true, false, false, true, false, true, false, false, true, false, false, false, false, false, false, false, false, false, false, false, false] rfl rfl (any_of HT_.out (by kernel_rfl)) (fun _ _ _ h => h) (Or.inl ⟨by rfl, ?_⟩) ?_ ?_
 rotate_left
 ·intro w'
  go_simp
  with_reducible rfl
 rotate_left
 ·simp only [Act.put, List.setIfInBounds_toArray, List.set_cons_zero, List.set_cons_succ, i64_w, i32_w]
  rfl
 refine pure_ (i := 12) (N := some 17) (v := ?_) (a' := ?_) #[true, false, true, false, false, true, false, true, false, false, true, false, true, false, false, false, false, false, false, false, false, false, false] rfl rfl (any_of HT_.out (by kernel_rfl)) (fun _ _ _ h => h) (Or.inl ⟨by rfl, ?_⟩) ?_ ?_
 rotate_left
 ·intro w'
  go_simp
  with_reducible rfl
 rotate_left
 ·simp only [Act.put, List.setIfInBounds_toArray, List.set_cons_zero, List.set_cons_succ, i64_w, i32_w]
  rfl
 refine pure_ (i := 15) (N := some 20) (v := ?_) (a' := ?_) #[true, false, true, false, false, true, false, true, false, false, true, false, true, false, false, true, false, false, false, false, false, false, false] rfl rfl (any_of HT_.out (by kernel_rfl)) (fun _ _ _ h => h) (Or.inl ⟨by rfl, ?_⟩) ?_ ?_
 rotate_left
 ·intro w'
  go_simp
  with_reducible rfl
 rotate_left
 ·simp only [Act.put, List.setIfInBounds_toArray, List.set_cons_zero, List.set_cons_succ, i64_w, i32_w]
  rfl
 refine pure_ (i := 17) (N := some 22) (v := ?_) (a' := ?_) #[true, false, true, false, false, true, false, true, false, false, true, false, true, false, false, true, false, true, false, false, false, false, false] rfl rfl (any_of HT_.out (by kernel_rfl)) (fun _ _ _ h => h) (Or.inl ⟨by rfl, ?_⟩) ?_ ?_
 rotate_left
 ·intro w'
  go_simp
  with_reducible rfl
 rotate_left
 ·simp only [Act.put, List.setIfInBounds_toArray, List.set_cons_zero, List.set_cons_succ, i64_w, i32_w]
  rfl
 refine take_ (i := 1) (N := some 6) (v := ?_) (a' := ?_) #[true, true, true, false, false, true, false, true, false, false, true, false, true, false, false, true, false, true, false, false, false, false, false] rfl rfl (take_ofW HT_.out HW_.out (by kernel_rfl)) (fun _ _ _ h => h) (Or.inl ⟨by rfl, ?_⟩) hHeld ?_ ?_
 rotate_left
 ·rintro w' ⟨s0, s1, s2, s3, s4, s5, s6, s7⟩
  go_simp
  with_reducible rfl
 rotate_left
 ·simp only [Act.put, List.setIfInBounds_toArray, List.set_cons_zero, List.set_cons_succ, i64_w, i32_w]
  rfl
 refine take_ (i := 3) (N := some 8) (v := ?_) (a' := ?_) #[true, true, true, true, false, true, false, true, false, false, true, false, true, false, false, true, false, true, false, false, false, false, false] rfl rfl (take_ofW HT_.out HW_.out (by kernel_rfl)) (fun _ _ _ h => h) (Or.inl ⟨by rfl, ?_⟩) hHeld ?_ ?_
 rotate_left
 ·rintro w' ⟨s0, s1, s2, s3, s4, s5, s6, s7⟩
  go_simp
  with_reducible rfl
 rotate_left
 ·simp only [Act.put, List.setIfInBounds_toArray, List.set_cons_zero, List.set_cons_succ, i64_w, i32_w]
  rfl
 refine take_ (i := 6) (N := some 11) (v := ?_) (a' := ?_) #[true, true, true, true, false, true, true, true, false, false, true, false, true, false, false, true, false, true, false, false, false, false, false] rfl rfl (take_ofW HT_.out HW_.out (by kernel_rfl)) (fun _ _ _ h => h) (Or.inl ⟨by rfl, ?_⟩) hHeld ?_ ?_
 rotate_left
 ·rintro w' ⟨s0, s1, s2, s3, s4, s5, s6, s7⟩
  go_simp
  with_reducible rfl
 rotate_left
 ·simp only [Act.put, List.setIfInBounds_toArray, List.set_cons_zero, List.set_cons_succ, i64_w, i32_w]
  rfl
 refine take_ (i := 8) (N := some 13) (v := ?_) (a' := ?_) #[true, true, true, true, false, true, true, true, true, false, true, false, true, false, false, true, false, true, false, false, false, false, false] rfl rfl (take_ofW HT_.out HW_.out (by kernel_rfl)) (fun _ _ _ h => h) (Or.inl ⟨by rfl, ?_⟩) hHeld ?_ ?_
 rotate_left
 ·rintro w' ⟨s0, s1, s2, s3, s4, s5, s6, s7⟩
  go_simp
  with_reducible rfl
 rotate_left
 ·simp only [Act.put, List.setIfInBounds_toArray, List.set_cons_zero, List.set_cons_succ, i64_w, i32_w]
  rfl
 refine take_ (i := 11) (N := some 16) (v := ?_) (a' := ?_) #[true, true, true, true, false, true, true, true, true, false, true, true, true, false, false, true, false, true, false, false, false, false, false] rfl rfl (take_ofW HT_.out HW_.out (by kernel_rfl)) (fun _ _ _ h => h) (Or.inl ⟨by rfl, ?_⟩) hHeld ?_ ?_
 rotate_left
 ·rintro w' ⟨s0, s1, s2, s3, s4, s5, s6, s7⟩
  go_simp
  with_reducible rfl
 rotate_left
 ·simp only [Act.put, List.setIfInBounds_toArray, List.set_cons_zero, List.set_cons_succ, i64_w, i32_w]
  rfl
 refine take_ (i := 13) (N := some 18) (v := ?_) (a' := ?_) #[true, true, true, true, false, true, true, true, true, false, true, true, true, true, false, true, false, true, false, false, false, false, false] rfl rfl (take_ofW HT_.out HW_.out (by kernel_rfl)) (fun _ _ _ h => h) (Or.inl ⟨by rfl, ?_⟩) hHeld ?_ ?_
 rotate_left
 ·rintro w' ⟨s0, s1, s2, s3, s4, s5, s6, s7⟩
  go_simp
  with_reducible rfl
 rotate_left
 ·simp only [Act.put, List.setIfInBounds_toArray, List.set_cons_zero, List.set_cons_succ, i64_w, i32_w]
  rfl
 refine take_ (i := 16) (N := some 21) (v := ?_) (a' := ?_) #[true, true, true, true, false, true, true, true, true, false, true, true, true, true, false, true, true, true, false, false, false, false, false] rfl rfl (take_ofW HT_.out HW_.out (by kernel_rfl)) (fun _ _ _ h => h) (Or.inl ⟨by rfl, ?_⟩) hHeld ?_ ?_
 rotate_left
 ·rintro w' ⟨s0, s1, s2, s3, s4, s5, s6, s7⟩
  go_simp
  with_reducible rfl
 rotate_left
 ·simp only [Act.put, List.setIfInBounds_toArray, List.set_cons_zero, List.set_cons_succ, i64_w, i32_w]
  rfl
 refine take_ (i := 18) (N := some 23) (v := ?_) (a' := ?_) #[true, true, true, true, false, true, true, true, true, false, true, true, true, true, false, true, true, true, true, false, false, false, false] rfl rfl (take_ofW HT_.out HW_.out (by kernel_rfl)) (fun _ _ _ h => h) (Or.inl ⟨by rfl, ?_⟩) hHeld ?_ ?_
 rotate_left
 ·rintro w' ⟨s0, s1, s2, s3, s4, s5, s6, s7⟩
  go_simp
  with_reducible rfl
 rotate_left
 ·simp only [Act.put, List.setIfInBounds_toArray, List.set_cons_zero, List.set_cons_succ, i64_w, i32_w]
  rfl
 refine one_ (i := 4) (N := some 9) #[true, true, true, true, true, true, true, true, true, false, true, true, true, true, false, true, true, true, true, false, false, false, false] rfl rfl (one_of HT_.out (by kernel_rfl)) (by decide) (fun K hK => ?_)
 refine goes_ Try.func66 (by kernel_rfl) rfl #[.int .i64 a0_2, .int .i64 a1_2] (by rfl) rfl rfl (by (try simp only [List.map_toArray, List.map_cons, List.map_nil]); first | done | rfl | (simp only [List.length_drop, List.length_take]; rfl)) ?_
 with_reducible refine (cmp_Compare_int.calls a0_2 a1_2 t103 _ A3.out).mono ?_
 rintro e w' ⟨rfl, ⟨nd, rfl⟩⟩
 refine ⟨_, rfl, ?_⟩
 refine hK.out _ _ ⟨(blk_cell BK101.out 0).trans rfl, (blk_cell BK101.out 1).trans rfl, (blk_cell BK101.out 2).trans rfl, (blk_cell BK101.out 3).trans rfl, (blk_cell BK102.out 0).trans rfl, (blk_cell BK102.out 1).trans rfl, (blk_cell BK102.out 2).trans rfl, (blk_cell BK102.out 3).trans rfl⟩ (fun hHeld => ?_)
 clear hK K
 refine norm_ (a' := ?_) ?_ ?_
 rotate_left
 ·show Act.put _ (some 9) _ = _
  simp only [Act.put, List.setIfInBounds_toArray, List.set_cons_zero, List.set_cons_succ, i64_w, i32_w]
  rfl
 refine one_ (i := 9) (N := some 14) #[true, true, true, true, true, true, true, true, true, true, true, true, true, true, false, true, true, true, true, false, false, false, false] rfl rfl (one_of HT_.out (by kernel_rfl)) (by decide) (fun K hK => ?_)
 refine goes_ Try.func66 (by kernel_rfl) rfl #[.int .i64 a0_1, .int .i64 a1_1] (by rfl) rfl rfl (by (try simp only [List.map_toArray, List.map_cons, List.map_nil]); first | done | rfl | (simp only [List.length_drop, List.length_take]; rfl)) ?_
 with_reducible refine (cmp_Compare_int.calls a0_1 a1_1 t104 _ A4.out).mono ?_
 rintro e w' ⟨rfl, ⟨nd, rfl⟩⟩
 refine ⟨_, rfl, ?_⟩
 refine hK.out _ _ ⟨(blk_cell BK101.out 0).trans rfl, (blk_cell BK101.out 1).trans rfl, (blk_cell BK101.out 2).trans rfl, (blk_cell BK101.out 3).trans rfl, (blk_cell BK102.out 0).trans rfl, (blk_cell BK102.out 1).trans rfl, (blk_cell BK102.out 2).trans rfl, (blk_cell BK102.out 3).trans rfl⟩ (fun hHeld => ?_)
 clear hK K
 refine norm_ (a' := ?_) ?_ ?_
 rotate_left
 ·show Act.put _ (some 14) _ = _
  simp only [Act.put, List.setIfInBounds_toArray, List.set_cons_zero, List.set_cons_succ, i64_w, i32_w]
  rfl
 refine one_ (i := 14) (N := some 19) #[true, true, true, true, true, true, true, true, true, true, true, true, true, true, true, true, true, true, true, false, false, false, false] rfl rfl (one_of HT_.out (by kernel_rfl)) (by decide) (fun K hK => ?_)
 refine goes_ Try.func66 (by kernel_rfl) rfl #[.int .i64 a0_0, .int .i64 a1_0] (by rfl) rfl rfl (by (try simp only [List.map_toArray, List.map_cons, List.map_nil]); first | done | rfl | (simp only [List.length_drop, List.length_take]; rfl)) ?_
 with_reducible refine (cmp_Compare_int.calls a0_0 a1_0 t105 _ A5.out).mono ?_
 rintro e w' ⟨rfl, ⟨nd, rfl⟩⟩
 refine ⟨_, rfl, ?_⟩
 refine hK.out _ _ ⟨(blk_cell BK101.out 0).trans rfl, (blk_cell BK101.out 1).trans rfl, (blk_cell BK101.out 2).trans rfl, (blk_cell BK101.out 3).trans rfl, (blk_cell BK102.out 0).trans rfl, (blk_cell BK102.out 1).trans rfl, (blk_cell BK102.out 2).trans rfl, (blk_cell BK102.out 3).trans rfl⟩ (fun hHeld => ?_)
 clear hK K
 refine norm_ (a' := ?_) ?_ ?_
 rotate_left
 ·show Act.put _ (some 19) _ = _
  simp only [Act.put, List.setIfInBounds_toArray, List.set_cons_zero, List.set_cons_succ, i64_w, i32_w]
  rfl
 refine one_ (i := 19) (N := some 24) #[true, true, true, true, true, true, true, true, true, true, true, true, true, true, true, true, true, true, true, true, false, false, false] rfl rfl (one_of HT_.out (by kernel_rfl)) (by decide) (fun K hK => ?_)
 refine goes_ Try.func66 (by kernel_rfl) rfl #[.int .i64 a0_3, .int .i64 a1_3] (by rfl) rfl rfl (by (try simp only [List.map_toArray, List.map_cons, List.map_nil]); first | done | rfl | (simp only [List.length_drop, List.length_take]; rfl)) ?_
 with_reducible refine (cmp_Compare_int.calls a0_3 a1_3 t106 _ A6.out).mono ?_
 rintro e w' ⟨rfl, ⟨nd, rfl⟩⟩
 refine ⟨_, rfl, ?_⟩
 refine hK.out _ _ ⟨(blk_cell BK101.out 0).trans rfl, (blk_cell BK101.out 1).trans rfl, (blk_cell BK101.out 2).trans rfl, (blk_cell BK101.out 3).trans rfl, (blk_cell BK102.out 0).trans rfl, (blk_cell BK102.out 1).trans rfl, (blk_cell BK102.out 2).trans rfl, (blk_cell BK102.out 3).trans rfl⟩ (fun hHeld => ?_)
 clear hK K
 refine norm_ (a' := ?_) ?_ ?_
 rotate_left
 ·show Act.put _ (some 24) _ = _
  simp only [Act.put, List.setIfInBounds_toArray, List.set_cons_zero, List.set_cons_succ, i64_w, i32_w]
  rfl
 refine one_ (i := 20) (N := some 25) #[true, true, true, true, true, true, true, true, true, true, true, true, true, true, true, true, true, true, true, true, true, false, false] rfl rfl (one_of HT_.out (by kernel_rfl)) (by decide) (fun K hK => ?_)
 refine rg_lit_step ?hg t103 t104 t105 t106 ?hr ?_; (case hg => rfl); (case hr => first | (go_simp; done) | (go_simp; rfl))
 intro v108 w11 ho12 hb hdr
 have nd_ : Aside0 (w.drawn ≤ w11.drawn) := Aside0.mk (Nat.le_trans HD.out (Nat.le_trans (by simp only [World.drewN]; omega) hdr))
 clear HD hdr
 have HD := nd_
 clear nd_
 (first | rw [← Ny107.out] at ho12 | (simp only [Int.reduceToNat] at ho12; rw [← Ny107.out] at ho12))
 have n0_ := Aside0.mk (Kd.R_lower ho12 (below_size (by repeat (first | (with_reducible first | exact HB.out | apply below_alloc | apply pw_below_drewN | apply below_drew1 | refine below_set ?_ GE101.out | refine below_set ?_ GE102.out) | exact HB.out))))
 have n1_ := Aside0.mk (blk_below (g := gb101) (o := .cells #[.int .i64 a0_0, .int .i64 a0_1, .int .i64 a0_2, .int .i64 a0_3] 112 (0, 0)) (by (with_reducible repeat (first | refine blk_drewN ?_ _ | refine blk_drew ?_ | refine blk_alloc ?_ _)); exact BK101.out) hb)
 have n2_ := Aside0.mk (blk_below (g := gb102) (o := .cells #[.int .i64 a1_0, .int .i64 a1_1, .int .i64 a1_2, .int .i64 a1_3] 112 (0, 0)) (by (with_reducible repeat (first | refine blk_drewN ?_ _ | refine blk_drew ?_ | refine blk_alloc ?_ _)); exact BK102.out) hb)
 have n3_ := Aside0.mk (below_step (by repeat (first | (with_reducible first | exact HB.out | apply below_alloc | apply pw_below_drewN | apply below_drew1 | refine below_set ?_ GE101.out | refine below_set ?_ GE102.out) | exact HB.out)) hb)
 clear BK101
 clear BK102
 clear HB
 have HO109 := n0_
 have BK101 := n1_
 have BK102 := n2_
 have HB := n3_
 clear n0_ n1_ n2_ n3_
 clear hb ho12
 obtain ⟨Ao13, co13, eo13⟩ := Kd.R_slice HO109.out
 (first | subst eo13 | (injection eo13 with f1_ f2_ f3_; have f4_ := f1_.symm; have f5_ := f3_.symm; clear f1_ f2_ f3_; subst f4_; subst f5_))
 refine hK.out _ _ ⟨(blk_cell BK101.out 0).trans rfl, (blk_cell BK101.out 1).trans rfl, (blk_cell BK101.out 2).trans rfl, (blk_cell BK101.out 3).trans rfl, (blk_cell BK102.out 0).trans rfl, (blk_cell BK102.out 1).trans rfl, (blk_cell BK102.out 2).trans rfl, (blk_cell BK102.out 3).trans rfl⟩ (fun hHeld => ?_)
 clear hK K
 refine norm_ (a' := ?_) ?_ ?_
 rotate_left
 ·show Act.put _ (some 25) _ = _
  simp only [Act.put, List.setIfInBounds_toArray, List.set_cons_zero, List.set_cons_succ, i64_w, i32_w]
  rfl
 refine one_ (i := 21) (N := some 26) #[true, true, true, true, true, true, true, true, true, true, true, true, true, true, true, true, true, true, true, true, true, true, false] rfl rfl (one_of HT_.out (by kernel_rfl)) (by decide) (fun K hK => ?_)
 refine goes_ Try.func65 (by kernel_rfl) rfl #[.slice Ao13 y107.length co13] (by rfl) rfl rfl (by (try simp only [List.map_toArray, List.map_cons, List.map_nil]); first | done | rfl | (simp only [List.length_drop, List.length_take]; rfl)) ?_
 with_reducible refine (cmp_Or_int.calls k _ _ y107 t110 _ ?side1 ?side2 A7.out).mono ?_
 (case side1 => repeat (first | exact (Kd.R_reads' HO109.out).2.2 | (with_reducible refine Kd.C_alloc ?_ _) | (with_reducible refine Kd.C_drewN ?_ _) | (with_reducible refine Kd.C_drew ?_)))
 (case side2 => exact (Kd.R_reads' HO109.out).2.1)
 rintro e w' ⟨rfl, ⟨nd, rfl⟩⟩
 refine ⟨_, rfl, ?_⟩
 refine hK.out _ _ ⟨(blk_cell BK101.out 0).trans rfl, (blk_cell BK101.out 1).trans rfl, (blk_cell BK101.out 2).trans rfl, (blk_cell BK101.out 3).trans rfl, (blk_cell BK102.out 0).trans rfl, (blk_cell BK102.out 1).trans rfl, (blk_cell BK102.out 2).trans rfl, (blk_cell BK102.out 3).trans rfl⟩ (fun hHeld => ?_)
 clear hK K
 refine norm_ (a' := ?_) ?_ ?_
 rotate_left
 ·show Act.put _ (some 26) _ = _
  simp only [Act.put, List.setIfInBounds_toArray, List.set_cons_zero, List.set_cons_succ, i64_w, i32_w]
  rfl
 refine pure_ (i := 22) (N := some 4) (v := ?_) (a' := ?_) #[true, true, true, true, true, true, true, true, true, true, true, true, true, true, true, true, true, true, true, true, true, true, true] rfl rfl (any_of HT_.out (by kernel_rfl)) (fun _ _ _ h => h) (Or.inl ⟨by rfl, ?_⟩) ?_ ?_
 rotate_left
 ·intro w'
  go_simp
  with_reducible rfl
 rotate_left
 ·simp only [Act.put, List.setIfInBounds_toArray, List.set_cons_zero, List.set_cons_succ, i64_w, i32_w]
  rfl
 refine done_ (done_of HT_.out (by kernel_rfl)) ?_
 try go_wp2
 go_ret
 exact ⟨by first | rfl | (simp [errW_none, errW_some] <;> rfl) | (simp [*, errW_none, errW_some] <;> rfl), by repeat (first | (with_reducible first | exact HB.out | apply below_alloc | apply pw_below_drewN | apply below_drew1 | refine below_set ?_ GE101.out | refine below_set ?_ GE102.out) | exact HB.out), Nat.le_trans HD.out (by simp only [World.drewN]; omega)⟩
/-- What compare answers. -/
def rgCmp (x y : S112) : Int := let a := Lib.compareInt x.f2 y.f2; if a ≠ 0 then a else let b := Lib.compareInt x.f1 y.f1; if b ≠ 0 then b else let c := Lib.compareInt x.f0 y.f0; if c ≠ 0 then c else Lib.compareInt x.f3 y.f3
theorem rg_cmpInt (a b : Int) : cmp_Compare_int.f a b = some (Lib.compareInt a b) := by
  unfold cmp_Compare_int.f cmp_isNaN_int.f Lib.compareInt
  simp
  split <;> simp_all
  split <;> simp_all
  all_goals (intros; omega)
theorem rg_or (a b c d : Int) : cmp_Or_int.f 10 [a, b, c, d] = some (if a ≠ 0 then a else if b ≠ 0 then b else if c ≠ 0 then c else d) := by
  unfold cmp_Or_int.f
  by_cases ha : a = 0
  · by_cases hb : b = 0
    · by_cases hc : c = 0
      · by_cases hd : d = 0 <;> simp [cmp_Or_int.l0, rd, ha, hb, hc, hd, wrap64]
      · simp [cmp_Or_int.l0, rd, ha, hb, hc, wrap64]
    · simp [cmp_Or_int.l0, rd, ha, hb, wrap64]
  · simp [cmp_Or_int.l0, rd, ha, wrap64]
theorem rg_cmp (x y : S112) : ring_Arrival_compare.f 10 x.f0 x.f1 x.f2 x.f3 y.f0 y.f1 y.f2 y.f3 = some (rgCmp x y) := by
  unfold ring_Arrival_compare.f rgCmp
  simp only [rg_cmpInt, rg_or, Option.bind_some]
theorem rg_grow_of {w w' : World} (hb : Below w.heap.size w w') (hd : w.drawn ≤ w'.drawn) : ∃ q os, w' = Sort.grow (w.drewN q) os := by
  refine ⟨w'.drawn - w.drawn, w'.heap.extract w.heap.size w'.heap.size, ?_⟩
  obtain ⟨h1, h2, h3, h4, h5⟩ := hb
  cases w with | mk heap tape drawn os output =>
  cases w' with | mk heap' tape' drawn' os' output' =>
  simp only at h1 h2 h3 h4 h5 hd
  subst h1 h2 h3
  simp only [Sort.grow, World.drewN, World.mk.injEq, true_and, and_true]
  refine ⟨?_, by omega⟩
  apply Array.ext_getElem?
  intro i
  rw [Array.getElem?_append]
  split
  · rename_i hi; exact h5 i hi
  · rename_i hi
    rw [Array.getElem?_extract]
    split
    · congr 1; omega
    · rw [Array.getElem?_eq_none]; omega
/-! ### slices.SortFunc, laid at this dump (the shelf's own command, in its plain mode) -/
def Try.sortArr_ren : Go.Shelf.Ren := ⟨fun | 6 => 56 | 15 => 64 | 14 => 63 | 28 => 77 | 29 => 78 | 20 => 69 | 21 => 70 | 22 => 71 | 23 => 72 | 24 => 73 | 25 => 74 | 26 => 75 | 27 => 76 | 46 => 81 | 47 => 82 | 48 => 83 | 49 => 84 | 50 => 85 | 57 => 86 | n => n, fun | 22 => 74 | 24 => 112 | 25 => 118 | 3 => 3 | 39 => 104 | 0 => 0 | 53 => 135 | 55 => 34 | 4 => 4 | 46 => 129 | 45 => 128 | 50 => 84 | 5 => 5 | 9 => 9 | 66 => 138 | 70 => 142 | 76 => 144 | 77 => 82 | n => n, fun | n => n⟩
theorem Try.sortArr : Go.Proofs.SlLaysF0.n6 Try.prog Try.sortArr_ren := {
  mixed := by kernel_rfl
  f6 := ⟨Try.f56.name, by decide, Try.func56.trans (congrArg some (by kernel_rfl))⟩
  f14 := ⟨Try.f63.name, by decide, Try.func63.trans (congrArg some (by kernel_rfl))⟩
  f15 := Try.func64.trans (congrArg some (by kernel_rfl))
  f20 := ⟨Try.f69.name, by decide, Try.func69.trans (congrArg some (by kernel_rfl))⟩
  f21 := ⟨Try.f70.name, by decide, Try.func70.trans (congrArg some (by kernel_rfl))⟩
  f22 := ⟨Try.f71.name, by decide, Try.func71.trans (congrArg some (by kernel_rfl))⟩
  f23 := ⟨Try.f72.name, by decide, Try.func72.trans (congrArg some (by kernel_rfl))⟩
  f24 := ⟨Try.f73.name, by decide, Try.func73.trans (congrArg some (by kernel_rfl))⟩
  f25 := ⟨Try.f74.name, by decide, Try.func74.trans (congrArg some (by kernel_rfl))⟩
  f26 := ⟨Try.f75.name, by decide, Try.func75.trans (congrArg some (by kernel_rfl))⟩
  f27 := ⟨Try.f76.name, by decide, Try.func76.trans (congrArg some (by kernel_rfl))⟩
  f28 := Try.func77.trans (congrArg some (by kernel_rfl))
  f29 := Try.func78.trans (congrArg some (by kernel_rfl))
  f46 := ⟨Try.f81.name, by decide, Try.func81.trans (congrArg some (by kernel_rfl))⟩
  f47 := Try.func82.trans (congrArg some (by kernel_rfl))
  f48 := Try.func83.trans (congrArg some (by kernel_rfl))
  f49 := ⟨Try.f84.name, by decide, Try.func84.trans (congrArg some (by kernel_rfl))⟩
  f50 := ⟨Try.f85.name, by decide, Try.func85.trans (congrArg some (by kernel_rfl))⟩
  f57 := ⟨Try.f86.name, by decide, Try.func86.trans (congrArg some (by kernel_rfl))⟩
  t0 := Try.underlying0
  a0 := Try.isAgg0
  z0 := Try.sizeOf0
  v0 := Try.zeroValue0
  t3 := Try.underlying3
  a3 := Try.isAgg3
  z3 := Try.sizeOf3
  v3 := Try.zeroValue3
  t4 := Try.underlying4
  a4 := Try.isAgg4
  z4 := Try.sizeOf4
  v4 := Try.zeroValue4
  t5 := Try.underlying5
  a5 := Try.isAgg5
  z5 := Try.sizeOf5
  v5 := Try.zeroValue5
  t9 := Try.underlying9
  a9 := Try.isAgg9
  z9 := Try.sizeOf9
  v9 := Try.zeroValue9
  t22 := Try.underlying74
  a22 := Try.isAgg74
  z22 := Try.sizeOf74
  v22 := Try.zeroValue74
  t25 := Try.underlying118
  a25 := Try.isAgg118
  z25 := Try.sizeOf118
  v25 := Try.zeroValue118
  t39 := Try.underlying104
  a39 := Try.isAgg104
  z39 := Try.sizeOf104
  v39 := Try.zeroValue104
  t45 := Try.underlying128
  a45 := Try.isAgg128
  z45 := Try.sizeOf128
  v45 := Try.zeroValue128
  t46 := Try.underlying129
  a46 := Try.isAgg129
  z46 := Try.sizeOf129
  v46 := Try.zeroValue129
  t50 := Try.underlying84
  a50 := Try.isAgg84
  z50 := Try.sizeOf84
  v50 := Try.zeroValue84
  t53 := Try.underlying135
  a53 := Try.isAgg135
  z53 := Try.sizeOf135
  v53 := Try.zeroValue135
  t55 := Try.underlying34
  a55 := Try.isAgg34
  z55 := Try.sizeOf34
  v55 := Try.zeroValue34
  t66 := Try.underlying138
  a66 := Try.isAgg138
  z66 := Try.sizeOf138
  v66 := Try.zeroValue138
  t70 := Try.underlying142
  a70 := Try.isAgg142
  z70 := Try.sizeOf142
  v70 := Try.zeroValue142
  t76 := Try.underlying144
  a76 := Try.isAgg144
  z76 := Try.sizeOf144
  v76 := Try.zeroValue144
  t77 := Try.underlying82
  a77 := Try.isAgg82
  z77 := Try.sizeOf82
  v77 := Try.zeroValue82 }
/-! ### slices.SortFunc at arrivals -/
section
open Go.Sort Go.Shelf Go.Lib
def rgEnc4 (x : S112) : List Value := [.int .i64 x.f0, .int .i64 x.f1, .int .i64 x.f2, .int .i64 x.f3]
def rgFlat (l : List S112) : List Value := l.flatMap rgEnc4
theorem rgFlat_cons (x : S112) (l : List S112) : rgFlat (x :: l) = rgEnc4 x ++ rgFlat l := rfl
theorem rgFlat_len (l : List S112) : (rgFlat l).length = l.length * 4 := by
  induction l with
  | nil => rfl
  | cons x l ih => rw [rgFlat_cons, List.length_append, ih, List.length_cons]; simp [rgEnc4]; omega
theorem rgFlat_app (l m : List S112) : rgFlat (l ++ m) = rgFlat l ++ rgFlat m := List.flatMap_append
instance : Inhabited S112 := ⟨⟨0, 0, 0, 0⟩⟩
theorem rgFlat_get : ∀ (l : List S112) (t : Nat), t < l.length * 4 → (rgFlat l)[t]? = some ((rgEnc4 l.toArray[t / 4]!)[t % 4]!)
  | [], t, h => by simp at h
  | x :: l, t, h => by
    rw [rgFlat_cons]
    by_cases ht : t < 4
    · rw [List.getElem?_append_left (by simpa [rgEnc4] using ht)]
      have : t = 0 ∨ t = 1 ∨ t = 2 ∨ t = 3 := by omega
      rcases this with rfl | rfl | rfl | rfl <;> simp [rgEnc4]
    · rw [List.getElem?_append_right (by simp [rgEnc4]; omega)]
      have h4 : (rgEnc4 x).length = 4 := rfl
      rw [h4, rgFlat_get l (t - 4) (by simp at h; omega)]
      have e1 : (t - 4) % 4 = t % 4 := by omega
      have e2 : t / 4 = (t - 4) / 4 + 1 := by omega
      rw [e1, e2]
      congr 3
      simp
theorem rg_flatK (l : List S112) : (flatK rgEnc4 4 l.toArray).toList = rgFlat l := by
  apply List.ext_getElem?
  intro t
  by_cases ht : t < l.length * 4
  · rw [rgFlat_get l t ht]
    simp [flatK, ht]
  · rw [List.getElem?_eq_none (by simp; omega), List.getElem?_eq_none (by rw [rgFlat_len]; omega)]
theorem rgLt_iff (x y : S112) : ltOf rgCmp x y = true ↔ (x.f2 < y.f2 ∨ (x.f2 = y.f2 ∧ (x.f1 < y.f1 ∨ (x.f1 = y.f1 ∧ (x.f0 < y.f0 ∨ (x.f0 = y.f0 ∧ x.f3 < y.f3)))))) := by
  unfold ltOf rgCmp Lib.compareInt
  simp only [decide_eq_true_eq]
  by_cases h1 : x.f2 < y.f2
  · simp [h1]
  · by_cases h1' : y.f2 < x.f2
    · simp [h1, h1']; omega
    · have e1 : x.f2 = y.f2 := by omega
      by_cases h2 : x.f1 < y.f1
      · simp [h1, h1', h2, e1]
      · by_cases h2' : y.f1 < x.f1
        · simp [h1, h1', h2, h2', e1]; omega
        · have e2 : x.f1 = y.f1 := by omega
          by_cases h3 : x.f0 < y.f0
          · simp [h3, e1, e2]
          · by_cases h3' : y.f0 < x.f0
            · simp [h3, h3', e1, e2]; omega
            · have e3 : x.f0 = y.f0 := by omega
              by_cases h4 : x.f3 < y.f3
              · simp [h4, e1, e2, e3]
              · by_cases h4' : y.f3 < x.f3
                · simp [h4, h4', e1, e2, e3]
                · simp [h4, h4', e1, e2, e3]
theorem rgLt_no (x y : S112) : ltOf rgCmp x y = false ↔ ¬ (x.f2 < y.f2 ∨ (x.f2 = y.f2 ∧ (x.f1 < y.f1 ∨ (x.f1 = y.f1 ∧ (x.f0 < y.f0 ∨ (x.f0 = y.f0 ∧ x.f3 < y.f3)))))) := by
  rw [← rgLt_iff]; simp
theorem rg_swo : SWO (ltOf rgCmp) where
  irrefl x := by rw [rgLt_no]; omega
  trans x y z h1 h2 := by rw [rgLt_iff] at *; omega
  ntrans x y z h1 h2 := by rw [rgLt_no] at *; omega
theorem rg_tot (x y : S112) (h1 : ltOf rgCmp x y = false) (h2 : ltOf rgCmp y x = false) : x = y := by
  rw [rgLt_no] at h1 h2
  cases x; cases y
  simp only [S112.mk.injEq] at *
  omega
def rgLe (x y : S112) : Bool := !(ltOf rgCmp) y x
def rgSort (l : List S112) : List S112 := l.mergeSort rgLe
theorem rgSort_len (l : List S112) : (rgSort l).length = l.length := List.length_mergeSort l
theorem rg_cmpLays (blk size : Nat) (w : World) : CmpLays Try.prog 57 #[] rgEnc4 4 rgCmp blk 0 size w := fun m os dk _ x y => by
  refine (ring_Arrival_compare.calls 10 x.f0 x.f1 x.f2 x.f3 y.f0 y.f1 y.f2 y.f3 (rgCmp x y) _ (rg_cmp x y)).mono ?_
  rintro e w' ⟨rfl, hb, hd⟩
  exact ⟨rfl, rg_grow_of hb hd⟩
theorem rg_sort_at (g cap : Nat) (l : List S112) (w : World) (hH : HoldsK rgEnc4 4 w g 0 l.toArray) (hg : g < w.heap.size) (hl : l.length < 1000000) :
    Calls Try.prog 56 #[.slice (some ⟨g, 0, none⟩) l.length cap, .func (.func 57) #[] #[]] w fun e w' => e = .returned (.tuple #[]) ∧ ∃ n os, w' = sortWorldK rgEnc4 4 w g 0 n (rgSort l).toArray os := by
  have eg : ∀ args w, (callFunc 57 args).run Try.prog w = .ok (.enter 57 args) w := enters_of Try.func57 (by kernel_rfl) rfl
  have hcon := AnyQ.slices_SortFunc_total Try.sortArr 4 Try.isAgg112 Try.sizeOf112 rgEnc4 (fun _ => rfl) (fun x v hv => by simp [rgEnc4] at hv; rcases hv with rfl | rfl | rfl | rfl <;> rfl) rgCmp rg_swo 57 #[] g 0 cap l.toArray w eg (rg_cmpLays g _ w) hH hg (by simp; omega) rg_tot
  have hz : l.toArray.size = l.length := by simp
  rw [hz] at hcon
  exact hcon
theorem rg_sort (w : World) (n₀ : Nat) (v : Value) (l : List S112) (hown : w.ownsRow n₀ 112 4 v l.length (rgFlat l)) (hl : l.length < 1000000) :
    Calls Try.prog 56 #[v, .func (.func 57) #[] #[]] w fun e w' => e = .returned (.tuple #[]) ∧ w'.ownsRow n₀ 112 4 v l.length (rgFlat (rgSort l)) ∧ w.grownBy w' v.ownBlock := by
  rcases hown.2 with ⟨rfl, h0⟩ | ⟨g, cap, cur, rfl, hb, hg, hn, hm, hs, ht⟩
  · obtain rfl : l = [] := List.eq_nil_of_length_eq_zero h0
    refine (AnyF.slices_SortFunc_none Try.sortArr none 0 _ w).mono ?_
    rintro e w' ⟨rfl, rfl⟩
    exact ⟨rfl, by simpa [rgSort] using hown, ⟨rfl, rfl, rfl, Nat.le_refl _, fun _ _ _ => rfl⟩⟩
  · have hlt : g < w.heap.size := (Array.getElem?_eq_some_iff.1 hg).1
    have hsz : (flatK rgEnc4 4 l.toArray).size = l.length * 4 := by simp
    have hH : HoldsK rgEnc4 4 w g 0 l.toArray := fun j hj => by
      rw [hsz] at hj
      refine ⟨?_, by simp [World.frozen?, hg]⟩
      have e1 : (cur.toList.take (l.length * 4))[j]? = (rgFlat l)[j]? := by rw [ht]
      rw [List.getElem?_take, if_pos hj, Array.getElem?_toList, rgFlat_get l j hj] at e1
      simp only [World.cell?, hg, Nat.zero_add, Option.isSome_none, Bool.false_eq_true, if_false]
      rw [e1, get_flatK _ _ _ _ (by simpa using hj)]
      rfl
    refine (rg_sort_at g cap l w hH hlt hl).mono ?_
    rintro e w' ⟨rfl, n, os, rfl⟩
    have hnew : (sortWorldK rgEnc4 4 w g 0 n (rgSort l).toArray os).heap = (w.heap.modify g (onCells (putCells id 0 (flatK rgEnc4 4 (rgSort l).toArray)))) ++ os := rfl
    refine ⟨rfl, ⟨by rw [rgFlat_len, rgSort_len], .inr ⟨g, cap, putCells id 0 (flatK rgEnc4 4 (rgSort l).toArray) cur, rfl, hb, ?_, hn, hm, by simpa [putCells] using hs, ?_⟩⟩, ?_⟩
    · rw [hnew, Array.getElem?_append_left (by simpa using hlt)]
      simp [Array.getElem?_modify, hg, onCells]
    · apply List.ext_getElem?
      intro j
      rw [List.getElem?_take, Array.getElem?_toList]
      by_cases hj : j < l.length * 4
      · have hjc : j < cur.size := by rw [hs]; exact Nat.lt_of_lt_of_le hj (Nat.mul_le_mul_right 4 hn)
        rw [if_pos hj]
        simp only [putCells, Array.getElem?_mapIdx, Array.getElem?_eq_getElem hjc, Option.map_some]
        rw [if_pos (by simp [rgSort_len]; omega), ← rg_flatK, Array.getElem?_toList]
        rw [getElem?_pos _ j (by simp [rgSort_len]; omega)]
        simp [getElem!_pos, show j < (rgSort l).length * 4 by rw [rgSort_len]; exact hj]
      · rw [if_neg hj, List.getElem?_eq_none (by rw [rgFlat_len, rgSort_len]; omega)]
    · refine ⟨rfl, rfl, rfl, by rw [hnew]; simp, fun k hk hne => ?_⟩
      rw [hnew, Array.getElem?_append_left (by simpa using hk), Array.getElem?_modify, if_neg (fun e => hne (by rw [← e]; rfl))]
theorem rg_reps_mk (w : World) (base : Nat) (ok : Nat → Prop) : ∀ (l : List S112), Reps (k112.M w base ok) 4 l (rgFlat l)
  | [] => Reps.none _ _
  | x :: t => by
    refine ⟨by rw [rgFlat_len], fun j p hj => ?_⟩
    cases j with
    | zero =>
      obtain rfl : x = p := by simpa using hj
      simpa [rgFlat_cons, rgEnc4] using k112_mkM w base ok x
    | succ j =>
      have := (rg_reps_mk w base ok t).2 j p (by simpa using hj)
      rw [rgFlat_cons, show (j + 1) * 4 = 4 + j * 4 by omega, ← List.drop_drop]
      simpa [rgEnc4] using this
theorem rg_flat_R {w : World} {base : Nat} {v : Value} {l : List S112} (h : w.ownsRow base 112 4 v l.length (rgFlat l)) : Kd.R k112 112 w base (fun _ => True) v l := by
  exact ⟨fun _ _ => trivial, rgFlat l, h, rg_reps_mk _ _ _ l⟩
end
/-! ### ring.Run -/
def rgArr (i : Nat) (f : S71) (d : Int) (p : Int × Int) : S112 := ⟨i, p.1, f.f1 + p.2, d⟩
def rgDir (cut : List Bool) (i : Nat) (f : S71) (d : Int) : List S112 := (rgWay cut d (cut.length - 1) f.f0 1).map (rgArr i f d)
def rgGood (cut : List Bool) (f : S71) : Bool := rgHas cut f.f0 && decide (0 ≤ f.f1) && decide (f.f1 ≤ 1000000)
def rgDirs (cut : List Bool) (i : Nat) (f : S71) : Nat → List S112
  | 0 => []
  | d + 1 => rgDirs cut i f d ++ rgDir cut i f d
def rgRuns (cut : List Bool) (fs : List S71) : Nat → List S112
  | 0 => []
  | k + 1 => rgRuns cut fs k ++ (if rgGood cut (rd_T71 fs k) = true then rgDirs cut k (rd_T71 fs k) 2 else [])
theorem rgWay_len (cut : List Bool) (d : Int) : ∀ (k : Nat) (v h : Int), (rgWay cut d k v h).length ≤ k
  | 0, _, _ => Nat.le_refl _
  | k + 1, v, h => by
    rw [rgWay]
    split
    · exact Nat.zero_le _
    · rw [List.length_cons]; exact Nat.succ_le_succ (rgWay_len cut d k _ _)
theorem rgDirs_len (cut : List Bool) (i : Nat) (f : S71) (hn : cut.length ≤ 40) : ∀ d, (rgDirs cut i f d).length ≤ 40 * d
  | 0 => Nat.le_refl _
  | d + 1 => by
    rw [rgDirs, List.length_append, rgDir, List.length_map]
    have := rgWay_len cut d (cut.length - 1) f.f0 1
    have := rgDirs_len cut i f hn d
    omega
theorem rgRuns_len (cut : List Bool) (fs : List S71) : ∀ k, (rgRuns cut fs k).length ≤ 80 * k
  | 0 => Nat.le_refl _
  | k + 1 => by
    rw [rgRuns, List.length_append]
    have := rgRuns_len cut fs k
    split
    · rename_i hg
      have hn : cut.length ≤ 40 := by
        unfold rgGood rgHas at hg
        simp only [Bool.and_eq_true, decide_eq_true_eq] at hg
        omega
      have := rgDirs_len cut k (rd_T71 fs k) hn 2
      omega
    · simp; omega
/-- What the caller holds between two rounds. -/
def RnS (w : World) (A : Option Addr) (c : Nat) (cut : List Bool) (l : List S112) (Ds : List Nat) (B : Nat) (W : World) : Prop :=
  Boxed W w.heap.size 67 (.slice A cut.length c) ∧ (∃ v, Boxed W (w.heap.size + 1) 74 v ∧ W.ownsRow w.heap.size 112 4 v l.length (rgFlat l)) ∧ Below w.heap.size w W ∧ RgMarks w.heap.size B Ds W
/-- A block of cells, as it lies. -/
def RnB (W : World) (b : Nat) (cs : Array Value) (t : TypeId) : Prop := W.heap[b]? = some (.cells cs t (0, 0))
theorem RnB.kept {W W' : World} {row : Option Nat} {b : Nat} {cs : Array Value} {t : TypeId} (h : RnB W b cs t) (hg : W.grownBy W' row) (hne : some b ≠ row) : RnB W' b cs t := (hg.block b (Array.getElem?_eq_some_iff.1 (show W.heap[b]? = _ from h)).1 hne).trans h
theorem RnB.own {W W' : World} {row : Option Nat} {b : Nat} {cs : Array Value} {t : TypeId} (h : RnB W b cs t) (hg : W.grownBy W' row) (hr : ∀ r, row = some r → ∃ o : Obj, W.heap[r]? = some o ∧ o.isCells = false) : RnB W' b cs t := h.kept hg (fun e => by
  obtain ⟨o, ho, hc⟩ := hr b e.symm
  rw [show W.heap[b]? = _ from h] at ho; cases ho; cases hc)
theorem RnB.not_row {W : World} {b : Nat} {cs : Array Value} {t : TypeId} (h : RnB W b cs t) (ht : t ≠ 112) {n₀ size n : Nat} {v : Value} {xs : List Value} (hr : W.ownsRow n₀ 112 size v n xs) : some b ≠ v.ownBlock := by
  rcases hr.2 with ⟨rfl, _⟩ | ⟨g, cap, cur, rfl, _, hgb, _⟩
  · simp [Value.ownBlock]
  · intro e'
    obtain rfl : b = g := by simpa [Value.ownBlock] using e'
    have := (show W.heap[b]? = _ from h).symm.trans hgb
    simp at this
    exact ht this.2
theorem rn_row_own {W W' : World} {row : Option Nat} {n₀ e size n : Nat} {v : Value} {xs : List Value} (h : W.ownsRow n₀ e size v n xs) (hg : W.grownBy W' row) (hr : ∀ r, row = some r → ∃ o : Obj, W.heap[r]? = some o ∧ o.isCells = false) : W'.ownsRow n₀ e size v n xs := by
  refine h.kept hg ?_
  rcases h.2 with ⟨rfl, _⟩ | ⟨g, cap, cur, rfl, _, hgb, _⟩
  · exact .inl rfl
  · refine .inr fun e' => ?_
    obtain ⟨o, ho, hc⟩ := hr g (by simpa [Value.ownBlock] using e'.symm)
    rw [hgb] at ho; cases ho; cases hc
theorem RnS.own (w : World) (A : Option Addr) (c : Nat) (cut : List Bool) (Ds : List Nat) (B : Nat) (hB : w.heap.size ≤ B) (l : List S112) {X Y : World} {row : Option Nat} (hs : RnS w A c cut l Ds B X) (hg : X.grownBy Y row) (hr : ∀ r, row = some r → B ≤ r ∧ ∃ o : Obj, X.heap[r]? = some o ∧ o.isCells = false) : RnS w A c cut l Ds B Y := by
  obtain ⟨h1, ⟨v, h2, h3⟩, h4, h5⟩ := hs
  have hr' : ∀ r, row = some r → ∃ o : Obj, X.heap[r]? = some o ∧ o.isCells = false := fun r e => (hr r e).2
  exact ⟨RnB.own h1 hg hr', ⟨v, RnB.own h2 hg hr', rn_row_own h3 hg hr'⟩, ownFrom_below (β := Unit) (Nat.le_refl _) hB () X Y row h4 hg hr, h5.kept hg (fun r e => (hr r e).1)⟩
def RnX (bs : List (Nat × Array Value × TypeId)) (V : World) : Prop := ∀ b, b ∈ bs → RnB V b.1 b.2.1 b.2.2
theorem RnX.nil {V : World} : RnX [] V := fun _ h => by cases h
theorem RnX.cons {V : World} {b : Nat} {cs : Array Value} {t : TypeId} {bs : List (Nat × Array Value × TypeId)} (h : RnB V b cs t) (hs : RnX bs V) : RnX ((b, cs, t) :: bs) V := fun x hx => by
  rcases List.mem_cons.1 hx with rfl | hx
  · exact h
  · exact hs x hx
theorem RnX.head {V : World} {b : Nat} {cs : Array Value} {t : TypeId} {bs : List (Nat × Array Value × TypeId)} (h : RnX ((b, cs, t) :: bs) V) : RnB V b cs t := h _ List.mem_cons_self
theorem RnX.tail {V : World} {x : Nat × Array Value × TypeId} {bs : List (Nat × Array Value × TypeId)} (h : RnX (x :: bs) V) : RnX bs V := fun y hy => h y (List.mem_cons_of_mem _ hy)
theorem rg_info112 : (Try.prog.info? 112).map (fun i => (i.zero, i.size, i.bytes)) = some (some (.agg #[.int .i64 0, .int .i64 0, .int .i64 0, .int .i64 0]), 4, 32) := by kernel_rfl
theorem rn_cells4 (W : World) (x : S112) : ∀ j u, (rgEnc4 x)[j]? = some u → (W.alloc (.cells #[.int .i64 x.f0, .int .i64 x.f1, .int .i64 x.f2, .int .i64 x.f3] 112)).cell? ((⟨W.heap.size, 0, none⟩ : Addr).add j) = some u := by
  intro j u hj
  have hb := blk_new W (.cells #[.int .i64 x.f0, .int .i64 x.f1, .int .i64 x.f2, .int .i64 x.f3] 112)
  match j, hj with
  | 0, hj => simp [rgEnc4] at hj; subst hj; exact (blk_cell hb 0).trans rfl
  | 1, hj => simp [rgEnc4] at hj; subst hj; exact (blk_cell hb 1).trans rfl
  | 2, hj => simp [rgEnc4] at hj; subst hj; exact (blk_cell hb 2).trans rfl
  | 3, hj => simp [rgEnc4] at hj; subst hj; exact (blk_cell hb 3).trans rfl
  | n + 4, hj => simp [rgEnc4] at hj
/-- 'l = append(l, x)' onto the boxed slice: what stands behind it. -/
theorem rn_append {w : World} {A : Option Addr} {c : Nat} {cut : List Bool} {l : List S112} {Ds : List Nat} {B : Nat} {V w1 : World} {v v' : Value} {x : S112} {tmp : Obj} (bs : List (Nat × Array Value × TypeId)) (h67 : Boxed V w.heap.size 67 (.slice A cut.length c)) (hv : Boxed V (w.heap.size + 1) 74 v) (hrow : V.ownsRow w.heap.size 112 4 v l.length (rgFlat l)) (hb : Below w.heap.size w V) (hm : RgMarks w.heap.size B Ds V) (hX : RnX bs V) (hbs : ∀ b, b ∈ bs → b.2.2 ≠ 112 ∧ b.1 ≠ w.heap.size + 1)
    (hown' : w1.ownsRow w.heap.size 112 4 v' (l.length + 1) (rgFlat l ++ rgEnc4 x)) (hgrow : (V.alloc tmp).grownBy w1 v.ownBlock) :
    KeepsOthers V (w1.setCell ⟨w.heap.size + 1, 0, none⟩ v') ∧ RnS w A c cut (l ++ [x]) Ds B (w1.setCell ⟨w.heap.size + 1, 0, none⟩ v') ∧ RnX bs (w1.setCell ⟨w.heap.size + 1, 0, none⟩ v') ∧ ∀ b, b < w.heap.size → (w1.setCell ⟨w.heap.size + 1, 0, none⟩ v').heap[b]? = V.heap[b]? := by
  obtain ⟨hv1, hv2, hr2, hk2, hb2⟩ := hv.appended (by decide) hrow hb.size (by omega) hown' hgrow
  have key : ∀ b cs t, RnB V b cs t → t ≠ 112 → b ≠ w.heap.size + 1 → RnB (w1.setCell ⟨w.heap.size + 1, 0, none⟩ v') b cs t := fun b cs t h ht hne =>
    ((RnB.kept h (World.grownBy_alloc V tmp none) (by simp)).kept hgrow (RnB.not_row h ht hrow)).kept (rg_grow_set _ _ _ _) (by intro e; injection e with e; exact hne e)
  refine ⟨hk2, ⟨key _ _ _ h67 (by decide) (by omega), ⟨v', hv2, ?_⟩, hb.trans hb2, hm.others hk2⟩, fun b hb => key _ _ _ (hX b hb) (hbs b hb).1 (hbs b hb).2, fun b hb => hb2.block b hb⟩
  rw [List.length_append, rgFlat_app]
  simpa [rgFlat] using hr2
/-- New blocks alone: the state stands. -/
theorem RnS.grow {w : World} {A : Option Addr} {c : Nat} {cut : List Bool} {Ds : List Nat} {B : Nat} {l : List S112} {X Y : World} (hs : RnS w A c cut l Ds B X) (hg : X.grownBy Y none) : RnS w A c cut l Ds B Y := by
  obtain ⟨h1, ⟨v, h2, h3⟩, h4, h5⟩ := hs
  exact ⟨RnB.kept h1 hg (by simp), ⟨v, RnB.kept h2 hg (by simp), h3.kept hg (by cases v.ownBlock <;> simp)⟩, h4.trans ⟨hg.os, hg.tape, hg.output, hg.size, fun k hk => hg.block k (by have := h4.size; omega) (by simp)⟩, h5.kept hg (by simp)⟩
theorem RnS.raise {w : World} {A : Option Addr} {c : Nat} {cut : List Bool} {Ds : List Nat} {B B' : Nat} {l : List S112} {X : World} (hs : RnS w A c cut l Ds B X) (hB : B ≤ B') : RnS w A c cut l Ds B' X := by
  obtain ⟨h1, h2, h4, h5⟩ := hs
  exact ⟨h1, h2, h4, fun D hD => by obtain ⟨m1, m2, m3⟩ := h5 D hD; exact ⟨m1, by omega, m3⟩⟩
section
attribute [local go_sem] Oper.semAt_some
set_option maxHeartbeats 4000000 in
set_option maxRecDepth 100000 in
theorem rg_run (A : Option Addr) (c : Nat) (cut : List Bool) (A1 : Option Addr) (c1 : Nat) (fs : List S71) (w : World) (hr : Kd.C Kd.bool w A cut.length cut) (hc : cut.length ≤ c) (hr1 : Kd.C k71 w A1 fs.length fs) (hc1 : fs.length ≤ c1) (hn : fs.length ≤ 100) :
    Calls Try.prog 28 #[.agg #[.slice A cut.length c], .slice A1 fs.length c1] w fun e w' =>
      ∃ v0_ : Value, e = .returned (v0_) ∧ Kd.R k112 112 w' w.heap.size (fun _ => True) v0_ (rgSort (rgRuns cut fs fs.length)) ∧ Below w.heap.size w w' := by
  have HR := Aside0.mk hr
  have HC := Aside0.mk hc
  have HR1 := Aside0.mk hr1
  have HC1 := Aside0.mk hc1
  clear hr hc hr1
  refine (callsIn_wide (n := 4)).1 ?_
  have h1 : 1 ≤ 4 := by omega
  have hro : Fence.wide.round = none := rfl
  refine callsIn_of_wp_marks Try.func28 rfl trivial ?_ hro
  simp only [Try.ntmps28, List.size_toArray, List.length_cons, List.length_nil, Nat.reduceAdd, Nat.reduceSub, Array.replicate_succ, Array.replicate_zero, List.push_toArray, List.append_toArray, List.nil_append, List.cons_append]
  have hmin : min (fs.length : Int) 100 = fs.length := by omega
  have hS0 : RnS w A c cut (rgRuns cut fs 0) [] w.heap.size ((w.alloc (.cells #[.slice A cut.length c] 67)).alloc (.cells #[.slice none 0 0] 74)) :=
    ⟨(Boxed.new _ _ _).alloc _, ⟨_, by have := Boxed.new (w.alloc (.cells #[.slice A cut.length c] 67)) 74 (.slice none 0 0); rwa [World.size_alloc] at this, World.ownsRow_nil _ _ _ _⟩, ((Below.refl _ _).alloc (Nat.le_refl _) _).alloc (by simp) _, fun _ h => by cases h⟩
  have HS0 := Aside0.mk hS0
  clear hS0
  gi_wp2
  clear hc1
  generalize (w.alloc (.cells #[.slice A cut.length c] 67)).alloc (.cells #[.slice none 0 0] 74) = W0 at HS0 ⊢
  refine wpIn_loop (fun a W => ∃ (k : Nat) (Ds : List Nat) (B : Nat) (u6 u7 u8 u9 u10 u18 u19 u20 u21 u22 u23 u24 u25 u26 u27 u28 u29 u30 u31 u32 u33 u34 u35 u36 u37 u38 u39 u40 u41 u42 u43 u44 u45 u46 u47 u48 u49 u50 u51 u52 u53 u54 u55 u56 u57 u58 u59 : Value),
    a = { tmps := #[.agg #[.slice A cut.length c], .slice A1 fs.length c1, .pointer (some ⟨w.heap.size, 0, none⟩), undef, .slice none 0 0, .pointer (some ⟨w.heap.size + 1, 0, none⟩), u6, u7, u8, u9, u10, .slice A1 fs.length c1, .slice A1 fs.length c1, .int .i64 fs.length, .int .i64 fs.length, .slice A1 fs.length c1, .int .i64 fs.length, .int .i64 k, u18, u19, u20, u21, u22, u23, u24, u25, u26, u27, u28, u29, u30, u31, u32, u33, u34, u35, u36, u37, u38, u39, u40, u41, u42, u43, u44, u45, u46, u47, u48, u49, u50, u51, u52, u53, u54, u55, u56, u57, u58, u59, undef, undef, undef], defers := Ds.map rgMk } ∧
    k ≤ fs.length ∧ Ds.Nodup ∧ Aside0 (RnS w A c cut (rgRuns cut fs k) Ds B W ∧ B ≤ W.heap.size)) (fun a _ => fs.length - (intOf (a.tmps.getD 17 undef)).toNat) ⟨0, [], w.heap.size, undef, undef, undef, undef, undef, undef, undef, undef, undef, undef, undef, undef, undef, undef, undef, undef, undef, undef, undef, undef, undef, undef, undef, undef, undef, undef, undef, undef, undef, undef, undef, undef, undef, undef, undef, undef, undef, undef, undef, undef, undef, undef, undef, undef, undef, undef, undef, rfl, by omega, List.nodup_nil, ⟨HS0.out, HS0.out.2.2.1.size⟩⟩ ?_
  clear HS0 W0
  rintro a W ⟨k, Ds, B, u6, u7, u8, u9, u10, u18, u19, u20, u21, u22, u23, u24, u25, u26, u27, u28, u29, u30, u31, u32, u33, u34, u35, u36, u37, u38, u39, u40, u41, u42, u43, u44, u45, u46, u47, u48, u49, u50, u51, u52, u53, u54, u55, u56, u57, u58, u59, rfl, hk, hnd, HS⟩
  have k2 := HS.out.1.1.cell
  by_cases hkn : k < fs.length
  · have hki : (k : Int) < fs.length := by omega
    have hkm : k < 18446744073709551615 := by omega
    obtain ⟨ad, e1, hx0, hx1⟩ := at_T71 (Kd.C_below HR1.out HS.out.1.2.2.1) (k : Int) (by omega) hki
    rw [Int.toNat_natCast] at hx0 hx1
    generalize hfd : rd_T71 fs k = f at hx0 hx1
    have HFD := Aside0.mk hfd
    clear hfd
    subst e1
    have hgr : W.grownBy ((W.alloc (.cells #[.int .i64 k] 3)).alloc (.cells #[.int .i64 f.f0, .int .i64 f.f1] 71)) none := (World.grownBy_alloc _ _ _).trans (World.grownBy_alloc _ _ _)
    have HS2 := Aside0.mk (HS.out.1.grow hgr)
    have K6 : Aside0 (RnB ((W.alloc (.cells #[.int .i64 k] 3)).alloc (.cells #[.int .i64 f.f0, .int .i64 f.f1] 71)) W.heap.size #[.int .i64 k] 3) := ⟨blk_alloc (blk_new _ _) _⟩
    have K7 : Aside0 (RnB ((W.alloc (.cells #[.int .i64 k] 3)).alloc (.cells #[.int .i64 f.f0, .int .i64 f.f1] 71)) (W.heap.size + 1) #[.int .i64 f.f0, .int .i64 f.f1] 71) := ⟨by have := blk_new (W.alloc (.cells #[.int .i64 k] 3)) (.cells #[.int .i64 f.f0, .int .i64 f.f1] 71); rwa [World.size_alloc] at this⟩
    have k2' := HS2.out.1.cell
    have HZ := Aside0.mk HS.out.2
    have HZ2 : Aside0 (W.heap.size + 2 = (((W.alloc (.cells #[.int .i64 k] 3)).alloc (.cells #[.int .i64 f.f0, .int .i64 f.f1] 71))).heap.size) := ⟨by simp⟩
    have HB0 : Aside0 (w.heap.size + 2 ≤ W.heap.size) := ⟨by obtain ⟨v, hv, _⟩ := HS.out.1.2.1; have := hv.lt; omega⟩
    clear HS k2 hgr
    gi_wp2
    generalize ((W.alloc (.cells #[.int .i64 k] 3)).alloc (.cells #[.int .i64 f.f0, .int .i64 f.f1] 71)) = W2 at HS2 K6 K7 k2' HZ2 ⊢
    have k2 := k2'
    clear k2' hx0 hx1
    cases hh : rgHas cut f.f0 with
    | false =>
      have HBAD : Aside0 (rgGood cut f = false) := ⟨by unfold rgGood; rw [hh]; rfl⟩
      have HH := Aside0.mk hh
      clear hh
      refine ⟨trivial, ?_⟩
      refine (callsIn_wide.2 (rg_has A c cut f.f0 W2 (Kd.C_below HR.out HS2.out.2.2.1) HC.out)).mono ?_
      rw [HH.out]
      rintro e w5 ⟨rfl, hb⟩
      have hg5 : W2.grownBy w5 none := ⟨hb.os, hb.tape, hb.output, hb.size, fun k hk _ => hb.block k hk⟩
      have HS5 := Aside0.mk (HS2.out.grow hg5)
      have K6 := Aside0.mk (K6.out.kept hg5 (by simp))
      have K7 := Aside0.mk (K7.out.kept hg5 (by simp))
      have hs5 : W2.heap.size ≤ w5.heap.size := hb.size
      have c70 := (blk_cell (show w5.heap[W.heap.size + 1]? = _ from K7.out) 0).trans rfl
      have c71 := (blk_cell (show w5.heap[W.heap.size + 1]? = _ from K7.out) 1).trans rfl
      have c2 := HS5.out.1.cell
      clear hb hg5 HS2 k2
      gi_wp2
      all_goals
        refine ⟨⟨k + 1, Ds, B, _, _, _, _, _, _, _, _, _, _, _, _, _, _, _, _, _, _, _, _, _, _, _, _, _, _, _, _, _, _, _, _, _, _, _, _, _, _, _, _, _, _, _, _, _, _, _, rfl, by omega, hnd, ⟨by rw [rgRuns, HFD.out, if_neg (by rw [HBAD.out]; decide), List.append_nil]; exact HS5.out, by have := HZ.out; have := HZ2.out; omega⟩⟩, ?_⟩
        simp [intOf]
        omega
    | true =>
      have HH := Aside0.mk hh
      clear hh
      by_cases hlo : f.f1 < 0
      · have HBAD : Aside0 (rgGood cut f = false) := ⟨by unfold rgGood; rw [decide_eq_false (by omega : ¬ 0 ≤ f.f1)]; simp⟩
        refine ⟨trivial, ?_⟩
        refine (callsIn_wide.2 (rg_has A c cut f.f0 W2 (Kd.C_below HR.out HS2.out.2.2.1) HC.out)).mono ?_
        rw [HH.out]
        rintro e w5 ⟨rfl, hb⟩
        have hg5 : W2.grownBy w5 none := ⟨hb.os, hb.tape, hb.output, hb.size, fun k hk _ => hb.block k hk⟩
        have HS5 := Aside0.mk (HS2.out.grow hg5)
        have K6 := Aside0.mk (K6.out.kept hg5 (by simp))
        have K7 := Aside0.mk (K7.out.kept hg5 (by simp))
        have hs5 : W2.heap.size ≤ w5.heap.size := hb.size
        have c70 := (blk_cell (show w5.heap[W.heap.size + 1]? = _ from K7.out) 0).trans rfl
        have c71 := (blk_cell (show w5.heap[W.heap.size + 1]? = _ from K7.out) 1).trans rfl
        have c2 := HS5.out.1.cell
        clear hb hg5 HS2 k2
        gi_wp2
        all_goals
          refine ⟨⟨k + 1, Ds, B, _, _, _, _, _, _, _, _, _, _, _, _, _, _, _, _, _, _, _, _, _, _, _, _, _, _, _, _, _, _, _, _, _, _, _, _, _, _, _, _, _, _, _, _, _, _, _, rfl, by omega, hnd, ⟨by rw [rgRuns, HFD.out, if_neg (by rw [HBAD.out]; decide), List.append_nil]; exact HS5.out, by have := HZ.out; have := HZ2.out; omega⟩⟩, ?_⟩
          simp [intOf]
          omega
      · by_cases hhi : f.f1 > 1000000
        · have HBAD : Aside0 (rgGood cut f = false) := ⟨by unfold rgGood; rw [decide_eq_false (by omega : ¬ f.f1 ≤ 1000000)]; simp⟩
          refine ⟨trivial, ?_⟩
          refine (callsIn_wide.2 (rg_has A c cut f.f0 W2 (Kd.C_below HR.out HS2.out.2.2.1) HC.out)).mono ?_
          rw [HH.out]
          rintro e w5 ⟨rfl, hb⟩
          have hg5 : W2.grownBy w5 none := ⟨hb.os, hb.tape, hb.output, hb.size, fun k hk _ => hb.block k hk⟩
          have HS5 := Aside0.mk (HS2.out.grow hg5)
          have K6 := Aside0.mk (K6.out.kept hg5 (by simp))
          have K7 := Aside0.mk (K7.out.kept hg5 (by simp))
          have hs5 : W2.heap.size ≤ w5.heap.size := hb.size
          have c70 := (blk_cell (show w5.heap[W.heap.size + 1]? = _ from K7.out) 0).trans rfl
          have c71 := (blk_cell (show w5.heap[W.heap.size + 1]? = _ from K7.out) 1).trans rfl
          have c2 := HS5.out.1.cell
          clear hb hg5 HS2 k2
          gi_wp2
          all_goals
            refine ⟨⟨k + 1, Ds, B, _, _, _, _, _, _, _, _, _, _, _, _, _, _, _, _, _, _, _, _, _, _, _, _, _, _, _, _, _, _, _, _, _, _, _, _, _, _, _, _, _, _, _, _, _, _, _, rfl, by omega, hnd, ⟨by rw [rgRuns, HFD.out, if_neg (by rw [HBAD.out]; decide), List.append_nil]; exact HS5.out, by have := HZ.out; have := HZ2.out; omega⟩⟩, ?_⟩
            simp [intOf]
            omega
        · have HGOOD : Aside0 (rgGood cut f = true) := ⟨by unfold rgGood; rw [HH.out, decide_eq_true (by omega : 0 ≤ f.f1), decide_eq_true (by omega : f.f1 ≤ 1000000)]; rfl⟩
          refine ⟨trivial, ?_⟩
          refine (callsIn_wide.2 (rg_has A c cut f.f0 W2 (Kd.C_below HR.out HS2.out.2.2.1) HC.out)).mono ?_
          rw [HH.out]
          rintro e w5 ⟨rfl, hb⟩
          have hg5 : W2.grownBy w5 none := ⟨hb.os, hb.tape, hb.output, hb.size, fun k hk _ => hb.block k hk⟩
          have HS5 := Aside0.mk (HS2.out.grow hg5)
          have K6 := Aside0.mk (K6.out.kept hg5 (by simp))
          have K7 := Aside0.mk (K7.out.kept hg5 (by simp))
          have hs5 : W2.heap.size ≤ w5.heap.size := hb.size
          have c70 := (blk_cell (show w5.heap[W.heap.size + 1]? = _ from K7.out) 0).trans rfl
          have c71 := (blk_cell (show w5.heap[W.heap.size + 1]? = _ from K7.out) 1).trans rfl
          have c2 := HS5.out.1.cell
          clear hb hg5 HS2 k2
          gi_wp2
          have hcn : cut.length ≤ 40 ∧ 3 ≤ cut.length ∧ 0 ≤ f.f0 ∧ f.f0 < cut.length := by
            have h := HH.out
            unfold rgHas at h
            simp only [Bool.and_eq_true, decide_eq_true_eq] at h
            omega
          obtain ⟨hn40, hn3, hf0, hf1⟩ := hcn
          have HL := Aside0.mk (rgRuns_len cut fs k)
          generalize hLk : rgRuns cut fs k = Lk at HS5 HL
          have HLK := Aside0.mk hLk
          clear hLk c70 c71 c2
          have HX5 : Aside0 (RnX [(W.heap.size, #[.int .i64 k], 3), (W.heap.size + 1, #[.int .i64 f.f0, .int .i64 f.f1], 71)] w5) := ⟨RnX.cons K6.out (RnX.cons K7.out RnX.nil)⟩
          have HW : Aside0 (W.heap.size + 2 ≤ w5.heap.size) := ⟨by have := HZ2.out; omega⟩
          clear K6 K7 hs5
          refine wpIn_loop (fun a V => ∃ (dk : Nat) (Ds2 : List Nat) (B2 : Nat) (u8 u9 u10 u38 u39 u40 u41 u42 u43 u44 u45 u46 u47 u48 u49 u50 u51 u52 u53 u54 u55 u56 u57 u58 u30 u31 u32 u35 u36 : Value),
            a = { tmps := #[.agg #[.slice A cut.length c], .slice (some ad) fs.length c1, .pointer (some ⟨w.heap.size, 0, none⟩), undef, .slice none 0 0, .pointer (some ⟨w.heap.size + 1, 0, none⟩), .pointer (some ⟨W.heap.size, 0, none⟩), .pointer (some ⟨W.heap.size + 1, 0, none⟩), u8, u9, u10, .slice (some ad) fs.length c1, .slice (some ad) fs.length c1, .int .i64 fs.length, .int .i64 fs.length, .slice (some ad) fs.length c1, .int .i64 fs.length, .int .i64 k, .bool true, .int .i64 k, .pointer (some (ad.add (k * 2))), .agg #[.int .i64 f.f0, .int .i64 f.f1], .agg #[.slice A cut.length c], .pointer (some ⟨W.heap.size + 1, 0, none⟩), .int .i64 f.f0, .bool true, .bool false, .bool false, .pointer (some ⟨W.heap.size + 1, 1, none⟩), .int .i64 f.f1, u30, u31, u32, .pointer (some ⟨W.heap.size + 1, 1, none⟩), .int .i64 f.f1, u35, u36, .int .i64 dk, u38, u39, u40, u41, u42, u43, u44, u45, u46, u47, u48, u49, u50, u51, u52, u53, u54, u55, u56, u57, u58, u59, undef, undef, undef], defers := Ds2.map rgMk } ∧
            dk ≤ 2 ∧ Ds2.Nodup ∧ Aside0 (RnS w A c cut (Lk ++ rgDirs cut k f dk) Ds2 B2 V ∧ B2 ≤ V.heap.size ∧ RnX [(W.heap.size, #[.int .i64 k], 3), (W.heap.size + 1, #[.int .i64 f.f0, .int .i64 f.f1], 71)] V ∧ W.heap.size + 2 ≤ V.heap.size)) (fun a _ => 2 - (intOf (a.tmps.getD 37 undef)).toNat) ⟨0, Ds, B, _, _, _, _, _, _, _, _, _, _, _, _, _, _, _, _, _, _, _, _, _, _, _, _, _, _, _, _, _, rfl, by omega, hnd, ⟨by rw [rgDirs, List.append_nil]; exact HS5.out, by have := HZ.out; have := HW.out; omega, HX5.out, HW.out⟩⟩ ?_
          clear HS5 HX5 HW
          rintro a V ⟨dk, Ds2, B2, u8, u9, u10, u38, u39, u40, u41, u42, u43, u44, u45, u46, u47, u48, u49, u50, u51, u52, u53, u54, u55, u56, u57, u58, u30, u31, u32, u35, u36, rfl, hdk, hnd2, HV⟩
          by_cases hd2 : dk < 2
          · have hdi : (dk : Int) < 2 := by omega
            have hgr8 : V.grownBy (V.alloc (.cells #[.int .i64 dk] 3)) none := World.grownBy_alloc _ _ _
            have HS8 := Aside0.mk (HV.out.1.grow hgr8)
            have HX8 : Aside0 (RnX [(W.heap.size, #[.int .i64 k], 3), (W.heap.size + 1, #[.int .i64 f.f0, .int .i64 f.f1], 71), (V.heap.size, #[.int .i64 dk], 3)] (V.alloc (.cells #[.int .i64 dk] 3))) := ⟨RnX.cons (RnB.kept HV.out.2.2.1.head hgr8 (by simp)) (RnX.cons (RnB.kept HV.out.2.2.1.tail.head hgr8 (by simp)) (RnX.cons (blk_new _ _) RnX.nil))⟩
            have HV8 : Aside0 ((V.alloc (.cells #[.int .i64 dk] 3)).heap.size = V.heap.size + 1) := ⟨by simp⟩
            have c2 := HS8.out.1.cell
            have c70 := (blk_cell (show (V.alloc (.cells #[.int .i64 dk] 3)).heap[W.heap.size + 1]? = _ from HX8.out.tail.head) 0).trans rfl
            have hBV := Aside0.mk HV.out.2.1
            have hWV := Aside0.mk HV.out.2.2.2
            clear HV hgr8
            gi_wp2
            generalize (V.alloc (.cells #[.int .i64 dk] 3)) = V8 at HS8 HX8 HV8 c2 c70 ⊢
            refine ⟨trivial, ?_⟩
            refine (callsIn_wide.2 (rg_way A cut.length c f.f0 _ V8)).mono ?_
            rintro e w6 ⟨rfl, hw6⟩
            obtain ⟨r1, r2, r3, rs, rb⟩ := rg_box3 _ _ _ _ w6 hw6
            have hg6 : V8.grownBy w6 none := ⟨rb.os, rb.tape, rb.output, rb.size, fun k hk _ => rb.block k hk⟩
            have HS6 := Aside0.mk ((HS8.out.grow hg6).raise (B' := w6.heap.size) (by have := hBV.out; have := HV8.out; omega))
            have HX6 : Aside0 (RnX [(W.heap.size, #[.int .i64 k], 3), (W.heap.size + 1, #[.int .i64 f.f0, .int .i64 f.f1], 71), (V.heap.size, #[.int .i64 dk], 3), (V8.heap.size, #[.slice A cut.length c], 67), (V8.heap.size + 1, #[.int .i64 f.f0], 3), (V8.heap.size + 2, #[.int .i64 dk], 3)] w6) := ⟨RnX.cons (RnB.kept HX8.out.head hg6 (by simp)) (RnX.cons (RnB.kept HX8.out.tail.head hg6 (by simp)) (RnX.cons (RnB.kept HX8.out.tail.tail.head hg6 (by simp)) (RnX.cons r1 (RnX.cons r2 (RnX.cons r3 RnX.nil)))))⟩
            have HA : Aside0 (∀ a, A = some a → a.block < w.heap.size) := ⟨fun a ha => by
              obtain ⟨ad, e, hc⟩ := Kd.at_bool HR.out 0 (by omega) (by omega)
              rw [ha] at e; cases e
              have := World.block_lt_of_cell? w _ hc
              have h3 : (a.add (0 : Int).toNat).block = a.block := by unfold Addr.add; split <;> rfl
              omega⟩
            have RS := Aside0.mk rs
            have R1 := Aside0.mk r1
            have R2 := Aside0.mk r2
            have R3 := Aside0.mk r3
            have HW0 := Aside0.mk (show w.heap.size ≤ w6.heap.size from HS6.out.2.2.1.size)
            clear hw6 r1 r2 r3 rs rb hg6 HS8 HX8 c2 c70
            gi_wp2
            have hSl : ∀ b, (b < w.heap.size ∨ b = V8.heap.size ∨ b = V8.heap.size + 1 ∨ b = V8.heap.size + 2) → b < w6.heap.size := fun b hb => by have := RS.out; have := HW0.out; have := HB0.out; have := hWV.out; have := HV8.out; omega
            refine wpIn_rangeFunc_ownF hro h1 (gf := 62) (lb := #[.pointer (some ⟨V8.heap.size, 0, none⟩), .pointer (some ⟨V8.heap.size + 1, 0, none⟩), .pointer (some ⟨V8.heap.size + 2, 0, none⟩)]) rfl trivial (enters_of Try.func62 (by kernel_rfl) rfl)
              (rg_way_stops Fence.wide 3 trivial rfl (by omega) cut A c f.f0 dk V8.heap.size (V8.heap.size + 1) (V8.heap.size + 2) (fun b => b < w.heap.size ∨ b = V8.heap.size ∨ b = V8.heap.size + 1 ∨ b = V8.heap.size + 2) w6 hn3 (by omega) ⟨hf0, hf1⟩ (by omega) hSl (.inr (.inl rfl)) (.inr (.inr (.inl rfl))) (.inr (.inr (.inr rfl))) (fun a ha => .inl (HA.out a ha)) ((blk_cell R1.out 0).trans rfl) ((blk_cell R2.out 0).trans rfl) ((blk_cell R3.out 0).trans rfl) (Kd.C_below HR.out HS6.out.2.2.1))
              (fun h k => RgK.trans h k) (RgK.putObj hSl) (Below.refl _ _) (fun _ => rfl)
              (fun pre V' => RnS w A c cut (Lk ++ rgDirs cut k f dk ++ pre.map (fun p => rgArr k f dk p.1)) Ds2 w6.heap.size V' ∧ RnX [(W.heap.size, #[.int .i64 k], 3), (W.heap.size + 1, #[.int .i64 f.f0, .int .i64 f.f1], 71), (V.heap.size, #[.int .i64 dk], 3), (V8.heap.size, #[.slice A cut.length c], 67), (V8.heap.size + 1, #[.int .i64 f.f0], 3), (V8.heap.size + 2, #[.int .i64 dk], 3)] V') (fun _ _ _ => False)
              (fun s X Y row hs hg hr => ⟨RnS.own w A c cut Ds2 _ HW0.out _ hs.1 hg hr, fun b hb => RnB.own (hs.2 b hb) hg (fun r e => (hr r e).2)⟩) (fun _ _ _ _ _ h _ _ => h) ⟨by rw [List.map_nil, List.append_nil]; exact HS6.out, HX6.out⟩
              (fun x => { tmps := #[.agg #[.slice A cut.length c], .slice (some ad) fs.length c1, .pointer (some ⟨w.heap.size, 0, none⟩), undef, .slice none 0 0, .pointer (some ⟨w.heap.size + 1, 0, none⟩), .pointer (some ⟨W.heap.size, 0, none⟩), .pointer (some ⟨W.heap.size + 1, 0, none⟩), .pointer (some ⟨V.heap.size, 0, none⟩), .int .i64 x.1.1, .int .i64 x.1.2, .slice (some ad) fs.length c1, .slice (some ad) fs.length c1, .int .i64 fs.length, .int .i64 fs.length, .slice (some ad) fs.length c1, .int .i64 fs.length, .int .i64 k, .bool true, .int .i64 k, .pointer (some (ad.add (k * 2))), .agg #[.int .i64 f.f0, .int .i64 f.f1], .agg #[.slice A cut.length c], .pointer (some ⟨W.heap.size + 1, 0, none⟩), .int .i64 f.f0, .bool true, .bool false, .bool false, .pointer (some ⟨W.heap.size + 1, 1, none⟩), .int .i64 f.f1, u30, u31, u32, .pointer (some ⟨W.heap.size + 1, 1, none⟩), .int .i64 f.f1, u35, u36, .int .i64 dk, .bool true, .int .i64 dk, .agg #[.slice A cut.length c], .pointer (some ⟨W.heap.size + 1, 0, none⟩), .int .i64 f.f0, .int .i64 dk, .func (.func 62) #[] #[.pointer (some ⟨V8.heap.size, 0, none⟩), .pointer (some ⟨V8.heap.size + 1, 0, none⟩), .pointer (some ⟨V8.heap.size + 2, 0, none⟩)], .int .i64 x.1.1, .int .i64 x.1.2, u47, u48, u49, u50, u51, u52, u53, u54, u55, u56, u57, u58, u59, undef, undef, undef], defers := [] }) ?assign ?body ?done ?stop
            case assign =>
              intro l x W K hK
              gi_wp2
              exact hK
            case body =>
              rintro l pre ⟨⟨x1, x2⟩, ⟨hx1, hx2⟩, hx3⟩ V' hI hpre
              obtain ⟨⟨q67, ⟨v, q5, qr⟩, qb, qm⟩, qX⟩ := hI
              have hlen : (Lk ++ rgDirs cut k f dk ++ pre.map (fun p => rgArr k f dk p.1)).length ≤ 8100 := by
                rw [List.length_append, List.length_append, List.length_map]
                have := HL.out
                have := rgDirs_len cut k f hn40 dk
                omega
              generalize hLL : (Lk ++ rgDirs cut k f dk ++ pre.map (fun p => rgArr k f dk p.1)) = LL at qr hlen
              have HLL := Aside0.mk hLL
              clear hLL
              have Q67 := Aside0.mk q67
              have Q5 := Aside0.mk q5
              have QR := Aside0.mk qr
              have QB := Aside0.mk qb
              have QM := Aside0.mk qm
              have QX := Aside0.mk qX
              have HLN := Aside0.mk hlen
              have c5 := q5.cell
              have f5 := q5.frozen
              have c6 := (blk_cell (show V'.heap[W.heap.size]? = _ from qX.head) 0).trans rfl
              have c71 := (blk_cell (show V'.heap[W.heap.size + 1]? = _ from qX.tail.head) 1).trans rfl
              have c8 := (blk_cell (show V'.heap[V.heap.size]? = _ from qX.tail.tail.head) 0).trans rfl
              have hx21 : 0 < x2 := hx3.1
              have hx22 : x2 < cut.length := hx3.2
              obtain ⟨i0, hi, hzz⟩ := Option.map_eq_some_iff.1 rg_info112
              simp only [Prod.mk.injEq] at hzz
              obtain ⟨hz0, hz1, hz2⟩ := hzz
              clear q67 q5 qr qb qm qX hlen
              dsimp only
              gi_wp2_with (gi_at_builtin; refine wpListIn_append_own _ rfl _ _ 74 rfl w.heap.size 112 i0 (.agg #[.int .i64 0, .int .i64 0, .int .i64 0, .int .i64 0]) 4 32 Try.underlying74 hi hz0 hz1 hz2 rfl (by decide) _ _ _ rfl (QR.out.alloc _) ⟨V'.heap.size, 0, none⟩ 1 1 (rgEnc4 (rgArr k f dk (x1, x2))) rfl rfl (rn_cells4 _ _) (by simp [rgEnc4, Value.oneCell']) (by have := HLN.out; unfold maxLen; omega) (by have := HLN.out; omega) (by have := QB.out.size; simp; omega) ?_; intro v' w1 hown' hgrow _; obtain ⟨g', cap', rfl⟩ := ownsRow_succ hown'; obtain ⟨hk2, hs2, hX2, hb2⟩ := rn_append [(W.heap.size, #[.int .i64 k], 3), (W.heap.size + 1, #[.int .i64 f.f0, .int .i64 f.f1], 71), (V.heap.size, #[.int .i64 dk], 3), (V8.heap.size, #[.slice A cut.length c], 67), (V8.heap.size + 1, #[.int .i64 f.f0], 3), (V8.heap.size + 2, #[.int .i64 dk], 3)] Q67.out Q5.out QR.out QB.out QM.out QX.out (by simp only [List.mem_cons, List.not_mem_nil, or_false, forall_eq_or_imp, forall_eq]; have := HB0.out; have := hWV.out; have := HV8.out; refine ⟨⟨by decide, by omega⟩, ⟨by decide, by omega⟩, ⟨by decide, by omega⟩, ⟨by decide, by omega⟩, ⟨by decide, by omega⟩, ⟨by decide, by omega⟩⟩) hown' hgrow; have hc1 := (((Q5.out.alloc _).kept hgrow (RnB.not_row Q5.out (by decide) QR.out)) : Boxed w1 _ _ _).cell; have hf1 := (((Q5.out.alloc _).kept hgrow (RnB.not_row Q5.out (by decide) QR.out)) : Boxed w1 _ _ _).frozen; have HK2 := Aside0.mk hk2; have HS2 := Aside0.mk hs2; have HX2 := Aside0.mk hX2; have HB2 := Aside0.mk hb2; clear hk2 hs2 hX2 hb2 hown' hgrow)
              refine ⟨HK2.out, fun b hb => ?_, ?_, HX2.out⟩
              · rcases hb with hb | rfl | rfl | rfl
                · exact HB2.out b hb
                · exact (show _ = _ from HX2.out.tail.tail.tail.head).trans (show _ = _ from QX.out.tail.tail.tail.head).symm
                · exact (show _ = _ from HX2.out.tail.tail.tail.tail.head).trans (show _ = _ from QX.out.tail.tail.tail.tail.head).symm
                · exact (show _ = _ from HX2.out.tail.tail.tail.tail.tail.head).trans (show _ = _ from QX.out.tail.tail.tail.tail.tail.head).symm
              · rw [List.map_append, ← List.append_assoc, HLL.out]
                exact HS2.out
            case stop =>
              rintro D cd pre W' hD hSp h hK
              exact h.elim
            case done =>
              rintro D xs V' hD hS hI hK
              have HI := Aside0.mk hI
              have HK := Aside0.mk hK
              clear hI hK
              gi_wp2
              have hd : (xs.map fun p => rgArr k f dk p.1) = rgDir cut k f dk := by
                rw [rgDir, ← hS, List.map_map]; rfl
              refine ⟨⟨dk + 1, D :: Ds2, D + 1, _, _, _, _, _, _, _, _, _, _, _, _, _, _, _, _, _, _, _, _, _, _, _, _, _, _, _, _, _, rfl, by omega, List.nodup_cons.2 ⟨HI.out.1.2.2.2.not_mem hD, hnd2⟩, ⟨⟨HI.out.1.1, ?_, HI.out.1.2.2.1, HI.out.1.2.2.2.cons hD (by have := HW0.out; omega) (by omega) HK.out⟩, ?_, ?_, ?_⟩⟩, ?_⟩
              · have h := HI.out.1.2.1
                rw [hd, List.append_assoc] at h
                exact h
              · exact (Array.getElem?_eq_some_iff.1 HK.out).1
              · exact RnX.cons HI.out.2.head (RnX.cons HI.out.2.tail.head RnX.nil)
              · have := (Array.getElem?_eq_some_iff.1 HK.out).1
                have := RS.out; have := hWV.out; have := HV8.out
                omega
              · simp [intOf]
                omega
          · obtain rfl : dk = 2 := by omega
            clear hdk hd2
            gi_wp2
            refine ⟨⟨k + 1, Ds2, B2, _, _, _, _, _, _, _, _, _, _, _, _, _, _, _, _, _, _, _, _, _, _, _, _, _, _, _, _, _, _, _, _, _, _, _, _, _, _, _, _, _, _, _, _, _, _, _, rfl, by omega, hnd2, ⟨by rw [rgRuns, HFD.out, if_pos HGOOD.out, HLK.out]; exact HV.out.1, HV.out.2.1⟩⟩, ?_⟩
            simp [intOf]
            omega
  · obtain rfl : k = fs.length := by omega
    clear hk hkn
    obtain ⟨⟨q2, ⟨v, q5, qr⟩, qb, qm⟩, hBW⟩ := HS.out
    have k5 := q5.cell
    have QR := Aside0.mk qr
    have Q5 := Aside0.mk q5
    have QB := Aside0.mk qb
    have QM := Aside0.mk qm
    clear qr q5 qb qm q2 HS
    gi_wp2
    refine ⟨trivial, ?_⟩
    refine (callsIn_wide.2 (rg_sort W w.heap.size v (rgRuns cut fs fs.length) QR.out (by have := rgRuns_len cut fs fs.length; omega))).mono ?_
    rintro e w5 ⟨rfl, hrow, hgr⟩
    have q5 : Boxed w5 (w.heap.size + 1) 74 v := RnB.kept Q5.out hgr (RnB.not_row Q5.out (by decide) QR.out)
    have k5 := q5.cell
    have HROW := Aside0.mk hrow
    have HGR := Aside0.mk hgr
    clear hrow hgr
    gi_wp2
    have hbw : Below w.heap.size w w5 := QB.out.grown HGR.out QB.out.size (fun j e => by
      rcases QR.out.2 with ⟨rfl, _⟩ | ⟨g, cap, cur, rfl, hb, _⟩
      · simp [Value.ownBlock] at e
      · obtain rfl : g = j := by simpa [Value.ownBlock] using e
        exact hb)
    have hmk : RgMarks w.heap.size B Ds w5 := fun D hD => by
      obtain ⟨m1, m2, m3⟩ := QM.out D hD
      refine ⟨m1, m2, (HGR.out.block D (Array.getElem?_eq_some_iff.1 m3).1 (fun e => ?_)).trans m3⟩
      rcases QR.out.2 with ⟨rfl, _⟩ | ⟨g, cap, cur, rfl, _, hgb, _⟩
      · simp [Value.ownBlock] at e
      · obtain rfl : D = g := by simpa [Value.ownBlock] using e
        rw [hgb] at m3; cases m3
    refine rg_leaves w.heap.size B Ds w5 hnd hmk (fun W' hb hc => ?_)
    have hrow' : W'.ownsRow w.heap.size 112 4 v (rgRuns cut fs fs.length).length (rgFlat (rgSort (rgRuns cut fs fs.length))) := by
      rcases HROW.out.2 with ⟨rfl, h0⟩ | ⟨g, cap, cur, rfl, h1, h2, h3, h4, h5, h6⟩
      · exact ⟨HROW.out.1, .inl ⟨rfl, h0⟩⟩
      · exact ⟨HROW.out.1, .inr ⟨g, cap, cur, rfl, h1, hc _ _ _ h2, h3, h4, h5, h6⟩⟩
    rw [← rgSort_len] at hrow'
    refine ⟨v, ?_, _, rfl, rg_flat_R hrow', hbw.trans hb⟩
    simp [results, Try.f28, go_sem]
end
/-! ### ring_Run: function 28 -/
def ring_Run.f (l0_0 : List Bool) (l1 : List (S71)) : Option (List (S112)) := if l1.length ≤ 100 then some (rgSort (rgRuns l0_0 l1 l1.length)) else none
theorem ring_Run.calls (A0_0 : Option Addr) (c0_0 : Nat) (l0_0 : List Bool) (A1 : Option Addr) (c1 : Nat) (l1 : List (S71)) (r : List (S112)) (w : World) (hr0_0 : Kd.C Kd.bool w A0_0 l0_0.length l0_0) (hc0_0 : l0_0.length ≤ c0_0) (hr1 : Kd.C k71 w A1 l1.length l1) (hc1 : l1.length ≤ c1) (h : ring_Run.f l0_0 l1 = some r) :
    Calls Try.prog 28 #[.agg #[.slice A0_0 l0_0.length c0_0], .slice A1 l1.length c1] w fun e w' => ∃ v0_ : Value, e = .returned (v0_) ∧ Kd.R k112 112 w' w.heap.size (fun _ => True) v0_ r ∧ Below w.heap.size w w' := by
  unfold ring_Run.f at h
  split at h
  · rename_i hn
    obtain rfl := Option.some.inj h
    exact rg_run A0_0 c0_0 l0_0 A1 c1 l1 w hr0_0 hc0_0 hr1 hc1 hn
  · cases h
end Go.Proofs.Ytnjddjpohobelaa.XB
end
section
namespace Go.Proofs.Ytnjddjpohobelaa.XB
open Go.RowKit Go.Proofs.YtnjddjpohobelaaW.PrintWords Go.Proofs.YtnjddjpohobelaaW.PrintLast Go.Proofs.YtnjddjpohobelaaW.PrintMore
attribute [local go_sem] max2_int min2_int max_two min_two max_three min_three max_four min_four   -- for this text's walks alone
set_option linter.unusedVariables false
set_option linter.unusedSimpArgs false
/-! ### ring_Arrivals: function 32 -/
def ring_Arrivals.f (l0_0 : List Bool) (a1 : Int) : Option ((List (S112))) := (ring_Run.f l0_0 (([(⟨a1, 0⟩ : S71)] : List (S71)))).bind fun t105 => (some t105)
set_option maxHeartbeats 8000000 in
set_option maxRecDepth 100000 in
theorem ring_Arrivals.calls (A0_0 : Option Addr) (c0_0 : Nat) (l0_0 : List Bool) (a1 : Int) (r : List (S112)) (w : World) (hr0_0 : Kd.C Kd.bool w A0_0 l0_0.length l0_0) (hc0_0 : l0_0.length ≤ c0_0) (h : ring_Arrivals.f l0_0 a1 = some r) :
  Calls Try.prog 32 #[.agg #[.slice A0_0 l0_0.length c0_0], .int .i64 a1] w fun e w' => ∃ v0_ : Value, e = .returned (v0_) ∧ Kd.R k112 112 w' w.heap.size (fun _ => True) v0_ r ∧ Below w.heap.size w w' := by
 have hu67 := Try.underlying67
 have hu71 := Try.underlying71
 have HR0_0 := Aside0.mk hr0_0
 have HC0_0 := Aside0.mk hc0_0
 clear hr0_0 hc0_0
 have HB := Aside0.mk (Below.refl w.heap.size w)
 have H : ((ring_Run.f l0_0 (([(⟨a1, 0⟩ : S71)] : List (S71)))).bind fun t105 => (some t105)) = some r := h
 clear h
 obtain ⟨y102, hy102⟩ : ∃ y_ : List (S71), y_ = (([(⟨a1, 0⟩ : S71)] : List (S71))) := ⟨_, rfl⟩
 replace H : ((ring_Run.f l0_0 y102).bind fun t105 => (some t105)) = some r := by first | (rw [hy102]; with_reducible exact H) | (have H2_ := (Option.bind_some _ _).symm.trans H; rw [hy102]; with_reducible exact H2_) | (have H2_ := (Option.bind_some _ _).symm.trans H; with_reducible exact H2_) | with_reducible exact H | (rw [hy102]; exact H) | exact H
 have Ny102 := Aside0.mk hy102
 clear hy102
 replace H := Option.bind_eq_some_iff.mp H
 obtain ⟨t105, A30, H⟩ := H
 replace H : (some t105) = some r := H
 have A3 := Aside0.mk A30
 clear A30
 obtain rfl := Option.some.inj H
 go_enter Try.func32, Try.ntmps32
 go_wp2_with (first | ((with_reducible refine gate_dst (N := 2) rfl ?_); refine box_event ?hg (N := 2) ?hd (cs := #[.slice A0_0 l0_0.length c0_0]) (t := 67) ?hr ?_; (case hd => rfl); (case hg => rfl); (case hr => first | (go_simp; done) | (go_simp; rfl)); intro gb101 hg w4 hbox hb; have n0_ := Aside0.mk (below_step (by repeat (first | (with_reducible first | exact HB.out | apply below_alloc | apply pw_below_drewN | apply below_drew1) | exact HB.out)) hb); have n1_ := Aside0.mk (hbox); have n2_ := Aside0.mk ((by rw [hg]; exact (below_size (by repeat (first | (with_reducible first | exact HB.out | apply below_alloc | apply pw_below_drewN | apply below_drew1) | exact HB.out))) : w.heap.size ≤ gb101)); have n3_ := Aside0.mk ((by rw [hg]; exact (below_size (by repeat (first | (with_reducible first | exact HB.out | apply below_alloc | apply pw_below_drewN | apply below_drew1) | exact HB.out))) : w.heap.size ≤ gb101)); clear HB; have HB := n0_; have BK101 := n1_; have GW101 := n2_; have GE101 := n3_; clear n0_ n1_ n2_ n3_; clear hb hbox hg; have hcz5_0 : w4.cell? ⟨gb101, 0, none⟩ = some (.slice A0_0 l0_0.length c0_0) := (blk_cell BK101.out 0).trans rfl; have hfz5_0 := blk_frozen BK101.out 0) | ((with_reducible refine gate_dst (N := 8) rfl ?_); refine Kd.R_lit k71 _ 71 ?hg (N := 8) ?hd (xs := ([(⟨a1, 0⟩ : S71)] : List (S71))) (inner := [.int .i64 a1, .int .i64 0]) (ok := fun _ => True) (okp := fun _ => True) ?hr ?hp (fun _ hk => hk) trivial (Below.refl _ _) (Nat.le_refl _) (by simp) ?_; (case hd => rfl); (case hg => rfl); (case hr => first | (go_simp; done) | (go_simp; rfl)); (case hp => exact (Reps.c2 (show Kd.M k71 _ _ _ (⟨a1, 0⟩ : S71) [.int .i64 a1, .int .i64 0] from (k71_mkM _ _ _ (⟨a1, 0⟩ : S71) )) (Reps.none _ _))); intro v103 w6 ho7 hb hg_ hnew_; clear hg_ hnew_; (first | rw [← Ny102.out] at ho7 | (simp only [Int.reduceToNat] at ho7; rw [← Ny102.out] at ho7)); have n0_ := Aside0.mk (Kd.R_lower ho7 (below_size (by repeat (first | (with_reducible first | exact HB.out | apply below_alloc | apply pw_below_drewN | apply below_drew1 | refine below_set ?_ GE101.out) | exact HB.out)))); have n1_ := Aside0.mk (blk_below (g := gb101) (o := .cells #[.slice A0_0 l0_0.length c0_0] 67 (0, 0)) (by (with_reducible repeat (first | refine blk_drewN ?_ _ | refine blk_drew ?_ | refine blk_alloc ?_ _)); exact BK101.out) hb); have n2_ := Aside0.mk (below_step (by repeat (first | (with_reducible first | exact HB.out | apply below_alloc | apply pw_below_drewN | apply below_drew1 | refine below_set ?_ GE101.out) | exact HB.out)) hb); clear BK101; clear HB; have HO104 := n0_; have BK101 := n1_; have HB := n2_; clear n0_ n1_ n2_; clear hb ho7; obtain ⟨Ao8, co8, eo8⟩ := Kd.R_slice HO104.out; subst eo8) | ((with_reducible refine gate_callee (f := 28) rfl ?_); refine goesL_ (some 9) rfl rfl Try.func28 (by kernel_rfl) rfl #[.agg #[.slice A0_0 l0_0.length c0_0], .slice Ao8 y102.length co8] rfl (by (try simp only [List.map_toArray, List.map_cons, List.map_nil]); first | done | rfl | (simp only [List.length_drop, List.length_take]; rfl)) ?_; (with_reducible refine (ring_Run.calls _ _ l0_0 _ _ y102 t105 _ ?side1 ?side2 ?side3 ?side4 A3.out).mono ?_); (case side1 => repeat (first | exact (Kd.C_below HR0_0.out HB.out) | (with_reducible refine Kd.C_alloc ?_ _) | (with_reducible refine Kd.C_drewN ?_ _) | (with_reducible refine Kd.C_drew ?_))); (case side2 => exact HC0_0.out); (case side3 => repeat (first | exact (Kd.R_reads' HO104.out).2.2 | (with_reducible refine Kd.C_alloc ?_ _) | (with_reducible refine Kd.C_drewN ?_ _) | (with_reducible refine Kd.C_drew ?_))); (case side4 => exact (Kd.R_reads' HO104.out).2.1); rintro e w9 ⟨v106, rfl, ho0, hb⟩; refine ⟨_, rfl, ?_⟩; have n0_ := Aside0.mk (Kd.R_below (by (with_reducible repeat (first | apply Kd.R_alloc | apply Kd.R_drewN | apply Kd.R_drew)); exact HO104.out) hb); have n1_ := Aside0.mk (Kd.R_lower ho0 (below_size (by repeat (first | (with_reducible first | exact HB.out | apply below_alloc | apply pw_below_drewN | apply below_drew1 | refine below_set ?_ GE101.out) | exact HB.out)))); have n2_ := Aside0.mk (blk_below (g := gb101) (o := .cells #[.slice A0_0 l0_0.length c0_0] 67 (0, 0)) (by (with_reducible repeat (first | refine blk_drewN ?_ _ | refine blk_drew ?_ | refine blk_alloc ?_ _)); exact BK101.out) hb); have n3_ := Aside0.mk (below_step (by repeat (first | (with_reducible first | exact HB.out | apply below_alloc | apply pw_below_drewN | apply below_drew1 | refine below_set ?_ GE101.out) | exact HB.out)) hb); clear HO104; clear BK101; clear HB; have HO104 := n0_; have HO107 := n1_; have BK101 := n2_; have HB := n3_; clear n0_ n1_ n2_ n3_; (try clear hb); (try clear hb2); (try clear hk); (try clear hi); (try clear ho0)))
 go_ret
 exact ⟨_, by first | rfl | (simp [errW_none, errW_some] <;> rfl) | (simp [*, errW_none, errW_some] <;> rfl), by (with_reducible repeat (first | apply Kd.R_alloc | apply Kd.R_drewN | apply Kd.R_drew)); exact HO107.out, by repeat (first | (with_reducible first | exact HB.out | apply below_alloc | apply pw_below_drewN | apply below_drew1 | refine below_set ?_ GE101.out) | exact HB.out)⟩
end Go.Proofs.Ytnjddjpohobelaa.XB
end
section
namespace Go.Proofs.Ytnjddjpohobelaa.XB
open Go.RowKit Go.Proofs.YtnjddjpohobelaaW.PrintWords Go.Proofs.YtnjddjpohobelaaW.PrintLast Go.Proofs.YtnjddjpohobelaaW.PrintMore
attribute [local go_sem] max2_int min2_int max_two min_two max_three min_three max_four min_four   -- for this text's walks alone
set_option linter.unusedVariables false
set_option linter.unusedSimpArgs false
attribute [local go_sem high] eqA112
/-! ### substationlaw17_known: function 26 -/
def substationlaw17_known.f  : Option (Bool) := if 3 ≤ 281474976710656 then ((ring_Arrivals.f (List.replicate 3 false) 0).bind fun t104 => (if (t104.length : Int) = 4 then (if 0 < (t104.length : Int) then (if (((rd_T112 t104 0).f0) == 0 && (((rd_T112 t104 0).f1) == 1 && (((rd_T112 t104 0).f2) == 1 && (((rd_T112 t104 0).f3) == 0)))) = true then (if 1 < (t104.length : Int) then (if (((rd_T112 t104 1).f0) == 0 && (((rd_T112 t104 1).f1) == 2 && (((rd_T112 t104 1).f2) == 1 && (((rd_T112 t104 1).f3) == 1)))) = true then (if 3 < (t104.length : Int) then (some (((rd_T112 t104 3).f2) == 2)) else (none)) else (some false)) else (none)) else (some false)) else (none)) else (some false))) else (none)
set_option maxHeartbeats 8000000 in
set_option maxRecDepth 100000 in
theorem substationlaw17_known.calls  (r : Bool) (w : World) (h : substationlaw17_known.f  = some r) :
  Calls Try.prog 26 #[] w fun e w' => e = .returned (.bool r) ∧ Below w.heap.size w w' := by
 have hu67 := Try.underlying67
 have hu112 := Try.underlying112
 have HB := Aside0.mk (Below.refl w.heap.size w)
 have H : (if 3 ≤ 281474976710656 then ((ring_Arrivals.f (List.replicate 3 false) 0).bind fun t104 => (if (t104.length : Int) = 4 then (if 0 < (t104.length : Int) then (if (((rd_T112 t104 0).f0) == 0 && (((rd_T112 t104 0).f1) == 1 && (((rd_T112 t104 0).f2) == 1 && (((rd_T112 t104 0).f3) == 0)))) = true then (if 1 < (t104.length : Int) then (if (((rd_T112 t104 1).f0) == 0 && (((rd_T112 t104 1).f1) == 2 && (((rd_T112 t104 1).f2) == 1 && (((rd_T112 t104 1).f3) == 1)))) = true then (if 3 < (t104.length : Int) then (some (((rd_T112 t104 3).f2) == 2)) else (none)) else (some false)) else (none)) else (some false)) else (none)) else (some false))) else (none)) = some r := h
 clear h
 by_cases c1 : 3 ≤ 281474976710656
 ·rw [if_pos c1] at H
  have c1b0 := eq_true c1
  have c1b1 : decide (3 ≤ 281474976710656) = true := decide_eq_true c1
  clear c1
  obtain ⟨y101, hy101⟩ : ∃ y_ : List Bool, y_ = (List.replicate 3 false) := ⟨_, rfl⟩
  replace H : ((ring_Arrivals.f y101 0).bind fun t104 => (if (t104.length : Int) = 4 then (if 0 < (t104.length : Int) then (if (((rd_T112 t104 0).f0) == 0 && (((rd_T112 t104 0).f1) == 1 && (((rd_T112 t104 0).f2) == 1 && (((rd_T112 t104 0).f3) == 0)))) = true then (if 1 < (t104.length : Int) then (if (((rd_T112 t104 1).f0) == 0 && (((rd_T112 t104 1).f1) == 2 && (((rd_T112 t104 1).f2) == 1 && (((rd_T112 t104 1).f3) == 1)))) = true then (if 3 < (t104.length : Int) then (some (((rd_T112 t104 3).f2) == 2)) else (none)) else (some false)) else (none)) else (some false)) else (none)) else (some false))) = some r := by first | (rw [hy101]; with_reducible exact H) | (have H2_ := (Option.bind_some _ _).symm.trans H; rw [hy101]; with_reducible exact H2_) | (have H2_ := (Option.bind_some _ _).symm.trans H; with_reducible exact H2_) | with_reducible exact H | (rw [hy101]; exact H) | exact H
  have Ny101 := Aside0.mk hy101
  clear hy101
  replace H := Option.bind_eq_some_iff.mp H
  obtain ⟨t104, A20, H⟩ := H
  replace H : (if (t104.length : Int) = 4 then (if 0 < (t104.length : Int) then (if (((rd_T112 t104 0).f0) == 0 && (((rd_T112 t104 0).f1) == 1 && (((rd_T112 t104 0).f2) == 1 && (((rd_T112 t104 0).f3) == 0)))) = true then (if 1 < (t104.length : Int) then (if (((rd_T112 t104 1).f0) == 0 && (((rd_T112 t104 1).f1) == 2 && (((rd_T112 t104 1).f2) == 1 && (((rd_T112 t104 1).f3) == 1)))) = true then (if 3 < (t104.length : Int) then (some (((rd_T112 t104 3).f2) == 2)) else (none)) else (some false)) else (none)) else (some false)) else (none)) else (some false)) = some r := H
  have A2 := Aside0.mk A20
  clear A20
  by_cases c3 : (t104.length : Int) = 4
  ·rw [if_pos c3] at H
   have c3b0 : ((t104.length : Int) == 4) = true := beq_iff_eq.mpr c3
   have c3b1 : ((t104.length : Int) != 4) = false := bne_eq_false_iff_eq.mpr c3
   clear c3
   by_cases c4 : 0 < (t104.length : Int)
   ·rw [if_pos c4] at H
    have c4b0 : decide (0 < (t104.length : Int)) = true := decide_eq_true c4
    have c4b1 : decide (0 < t104.length) = true := decide_eq_true (by omega)
    clear c4
    by_cases c5 : (((rd_T112 t104 0).f0) == 0 && (((rd_T112 t104 0).f1) == 1 && (((rd_T112 t104 0).f2) == 1 && (((rd_T112 t104 0).f3) == 0)))) = true
    ·rw [if_pos c5] at H
     have c5b0 : (((rd_T112 t104 0).f0) == 0 && (((rd_T112 t104 0).f1) == 1 && (((rd_T112 t104 0).f2) == 1 && (((rd_T112 t104 0).f3) == 0)))) = true := c5
     (try (have c5b1 : decide (((rd_T112 t104 0).f0) = 0 && (((rd_T112 t104 0).f1) == 1 && (((rd_T112 t104 0).f2) == 1 && (((rd_T112 t104 0).f3) == 0)))) = true := by simpa using c5))
     (try (have c5b2 : (((rd_T112 t104 0).f0) == 0 && (((rd_T112 t104 0).f1) == 1 && (((rd_T112 t104 0).f2) == 1 && (((rd_T112 t104 0).f3) == 0)))) = true := by simpa using c5))
     clear c5
     by_cases c6 : 1 < (t104.length : Int)
     ·rw [if_pos c6] at H
      have c6b0 : decide (1 < (t104.length : Int)) = true := decide_eq_true c6
      have c6b1 : decide (1 < t104.length) = true := decide_eq_true (by omega)
      clear c6
      by_cases c7 : (((rd_T112 t104 1).f0) == 0 && (((rd_T112 t104 1).f1) == 2 && (((rd_T112 t104 1).f2) == 1 && (((rd_T112 t104 1).f3) == 1)))) = true
      ·rw [if_pos c7] at H
       have c7b0 : (((rd_T112 t104 1).f0) == 0 && (((rd_T112 t104 1).f1) == 2 && (((rd_T112 t104 1).f2) == 1 && (((rd_T112 t104 1).f3) == 1)))) = true := c7
       (try (have c7b1 : decide (((rd_T112 t104 1).f0) = 0 && (((rd_T112 t104 1).f1) == 2 && (((rd_T112 t104 1).f2) == 1 && (((rd_T112 t104 1).f3) == 1)))) = true := by simpa using c7))
       (try (have c7b2 : (((rd_T112 t104 1).f0) == 0 && (((rd_T112 t104 1).f1) == 2 && (((rd_T112 t104 1).f2) == 1 && (((rd_T112 t104 1).f3) == 1)))) = true := by simpa using c7))
       clear c7
       by_cases c8 : 3 < (t104.length : Int)
       ·rw [if_pos c8] at H
        have c8b0 : decide (3 < (t104.length : Int)) = true := decide_eq_true c8
        have c8b1 : decide (3 < t104.length) = true := decide_eq_true (by omega)
        clear c8
        obtain rfl := Option.some.inj H
        go_enter Try.func26, Try.ntmps26
        go_wp2_with (first | ((with_reducible refine gate_dst (N := 2) rfl ?_); refine Kd.R_make Kd.bool _ 4 rfl (N := 2) rfl 65 _ _ rfl 3 rfl rfl Try.underlying65 (.bool false) 1 info4 rfl (by decide) (by omega) false (ok := fun _ => True) (okp := fun _ => True) rfl (fun _ hk => hk) trivial (by omega) (by omega) (Below.refl _ _) (Nat.le_refl _) ?_; intro v102 w9 ho10 hb hg_ hnew_; clear hg_ hnew_; (first | rw [← Ny101.out] at ho10 | (simp only [Int.reduceToNat] at ho10; rw [← Ny101.out] at ho10)); have n0_ := Aside0.mk (Kd.R_lower ho10 (below_size (by repeat (first | (with_reducible first | exact HB.out | apply below_alloc | apply pw_below_drewN | apply below_drew1) | exact HB.out)))); have n1_ := Aside0.mk (below_step (by repeat (first | (with_reducible first | exact HB.out | apply below_alloc | apply pw_below_drewN | apply below_drew1) | exact HB.out)) hb); clear HB; have HO103 := n0_; have HB := n1_; clear n0_ n1_; clear hb ho10; obtain ⟨Ao11, co11, eo11⟩ := Kd.R_slice HO103.out; subst eo11) | ((with_reducible refine gate_callee (f := 32) rfl ?_); refine goesL_ (some 4) rfl rfl Try.func32 (by kernel_rfl) rfl #[.agg #[.slice Ao11 y101.length co11], .int .i64 0] rfl (by (try simp only [List.map_toArray, List.map_cons, List.map_nil]); first | done | rfl | (simp only [List.length_drop, List.length_take]; rfl)) ?_; (with_reducible refine (ring_Arrivals.calls _ _ y101 0 t104 _ ?side1 ?side2 A2.out).mono ?_); (case side1 => repeat (first | exact (Kd.R_reads' HO103.out).2.2 | (with_reducible refine Kd.C_alloc ?_ _) | (with_reducible refine Kd.C_drewN ?_ _) | (with_reducible refine Kd.C_drew ?_))); (case side2 => exact (Kd.R_reads' HO103.out).2.1); rintro e w12 ⟨v105, rfl, ho0, hb⟩; refine ⟨_, rfl, ?_⟩; have n0_ := Aside0.mk (Kd.R_below (by (with_reducible repeat (first | apply Kd.R_alloc | apply Kd.R_drewN | apply Kd.R_drew)); exact HO103.out) hb); have n1_ := Aside0.mk (Kd.R_lower ho0 (below_size (by repeat (first | (with_reducible first | exact HB.out | apply below_alloc | apply pw_below_drewN | apply below_drew1) | exact HB.out)))); have n2_ := Aside0.mk (below_step (by repeat (first | (with_reducible first | exact HB.out | apply below_alloc | apply pw_below_drewN | apply below_drew1) | exact HB.out)) hb); clear HO103; clear HB; have HO103 := n0_; have HO106 := n1_; have HB := n2_; clear n0_ n1_ n2_; (try clear hb); (try clear hb2); (try clear hk); (try clear hi); (try clear ho0); obtain ⟨Ao13, co13, eo13⟩ := Kd.R_slice HO106.out; subst eo13; have p107 : 0 ≤ (0 : Int) := (by omega); have q107 : 0 < (t104.length : Int) := of_decide_eq_true (by first | (with_reducible assumption) | assumption); obtain ⟨ad107, e107, hx107_0, hx107_1, hx107_2, hx107_3⟩ := at_T112 (Kd.R_reads' HO106.out).2.2 0 p107 q107; cases e107; have qi107 : (0 < t104.length) = True := eq_true (by omega); (try rw [show ((0 : Int)).toNat = 0 from rfl] at hx107_0); (try rw [show 0 * 4 = 0 from rfl] at hx107_0); (try rw [Addr.add_zero'] at hx107_0); (try rw [show ((0 : Int)).toNat = 0 from rfl] at hx107_1); (try rw [show 0 * 4 = 0 from rfl] at hx107_1); (try rw [Addr.add_zero'] at hx107_1); (try rw [show ((0 : Int)).toNat = 0 from rfl] at hx107_2); (try rw [show 0 * 4 = 0 from rfl] at hx107_2); (try rw [Addr.add_zero'] at hx107_2); (try rw [show ((0 : Int)).toNat = 0 from rfl] at hx107_3); (try rw [show 0 * 4 = 0 from rfl] at hx107_3); (try rw [Addr.add_zero'] at hx107_3); replace p107 := eq_true p107; replace q107 := eq_true q107; have p108 : 0 ≤ (1 : Int) := (by omega); have q108 : 1 < (t104.length : Int) := of_decide_eq_true (by first | (with_reducible assumption) | assumption); obtain ⟨ad108, e108, hx108_0, hx108_1, hx108_2, hx108_3⟩ := at_T112 (Kd.R_reads' HO106.out).2.2 1 p108 q108; obtain rfl : ad107 = ad108 := (by injection e108); (try simp only [show (1 : Int).toNat = 1 from rfl, Nat.reduceMul, Nat.reduceEqDiff, Go.Addr.add, ↓reduceIte] at hx108_0); (try simp only [show (1 : Int).toNat = 1 from rfl, Nat.reduceMul, Nat.reduceEqDiff, Go.Addr.add, ↓reduceIte] at hx108_1); (try simp only [show (1 : Int).toNat = 1 from rfl, Nat.reduceMul, Nat.reduceEqDiff, Go.Addr.add, ↓reduceIte] at hx108_2); (try simp only [show (1 : Int).toNat = 1 from rfl, Nat.reduceMul, Nat.reduceEqDiff, Go.Addr.add, ↓reduceIte] at hx108_3); have qi108 : (1 < t104.length) = True := eq_true (by omega); (try rw [show ((1 : Int)).toNat = 1 from rfl] at hx108_0); (try rw [show 1 * 4 = 4 from rfl] at hx108_0); (try rw [show ((1 : Int)).toNat = 1 from rfl] at hx108_1); (try rw [show 1 * 4 = 4 from rfl] at hx108_1); (try rw [show ((1 : Int)).toNat = 1 from rfl] at hx108_2); (try rw [show 1 * 4 = 4 from rfl] at hx108_2); (try rw [show ((1 : Int)).toNat = 1 from rfl] at hx108_3); (try rw [show 1 * 4 = 4 from rfl] at hx108_3); replace p108 := eq_true p108; replace q108 := eq_true q108; have p109 : 0 ≤ (3 : Int) := (by omega); have q109 : 3 < (t104.length : Int) := of_decide_eq_true (by first | (with_reducible assumption) | assumption); obtain ⟨ad109, e109, hx109_0, hx109_1, hx109_2, hx109_3⟩ := at_T112 (Kd.R_reads' HO106.out).2.2 3 p109 q109; obtain rfl : ad107 = ad109 := (by injection e109); (try simp only [show (3 : Int).toNat = 3 from rfl, Nat.reduceMul, Nat.reduceEqDiff, Go.Addr.add, ↓reduceIte] at hx109_0); (try simp only [show (3 : Int).toNat = 3 from rfl, Nat.reduceMul, Nat.reduceEqDiff, Go.Addr.add, ↓reduceIte] at hx109_1); (try simp only [show (3 : Int).toNat = 3 from rfl, Nat.reduceMul, Nat.reduceEqDiff, Go.Addr.add, ↓reduceIte] at hx109_2); (try simp only [show (3 : Int).toNat = 3 from rfl, Nat.reduceMul, Nat.reduceEqDiff, Go.Addr.add, ↓reduceIte] at hx109_3); have qi109 : (3 < t104.length) = True := eq_true (by omega); (try rw [show ((3 : Int)).toNat = 3 from rfl] at hx109_0); (try rw [show 3 * 4 = 12 from rfl] at hx109_0); (try rw [show ((3 : Int)).toNat = 3 from rfl] at hx109_1); (try rw [show 3 * 4 = 12 from rfl] at hx109_1); (try rw [show ((3 : Int)).toNat = 3 from rfl] at hx109_2); (try rw [show 3 * 4 = 12 from rfl] at hx109_2); (try rw [show ((3 : Int)).toNat = 3 from rfl] at hx109_3); (try rw [show 3 * 4 = 12 from rfl] at hx109_3); replace p109 := eq_true p109; replace q109 := eq_true q109))
        go_ret
        exact ⟨by first | rfl | (simp [errW_none, errW_some] <;> rfl) | (simp [*, errW_none, errW_some] <;> rfl), by repeat (first | (with_reducible first | exact HB.out | apply below_alloc | apply pw_below_drewN | apply below_drew1) | exact HB.out)⟩
       ·rw [if_neg c8] at H
        exact absurd H (by simp)
      ·rw [if_neg c7] at H
       have c7b0 : (((rd_T112 t104 1).f0) == 0 && (((rd_T112 t104 1).f1) == 2 && (((rd_T112 t104 1).f2) == 1 && (((rd_T112 t104 1).f3) == 1)))) = false := by simpa using c7
       (try (have c7b1 : decide (((rd_T112 t104 1).f0) = 0 && (((rd_T112 t104 1).f1) == 2 && (((rd_T112 t104 1).f2) == 1 && (((rd_T112 t104 1).f3) == 1)))) = false := by simpa using c7))
       (try (have c7b2 : (((rd_T112 t104 1).f0) == 0 && (((rd_T112 t104 1).f1) == 2 && (((rd_T112 t104 1).f2) == 1 && (((rd_T112 t104 1).f3) == 1)))) = false := by simpa using c7))
       (try (have c7b3 : ¬ (((rd_T112 t104 1).f0) = 0 && (((rd_T112 t104 1).f1) == 2 && (((rd_T112 t104 1).f2) == 1 && (((rd_T112 t104 1).f3) == 1)))) := by simpa using c7))
       clear c7
       obtain rfl := Option.some.inj H
       go_enter Try.func26, Try.ntmps26
       go_wp2_with (first | ((with_reducible refine gate_dst (N := 2) rfl ?_); refine Kd.R_make Kd.bool _ 4 rfl (N := 2) rfl 65 _ _ rfl 3 rfl rfl Try.underlying65 (.bool false) 1 info4 rfl (by decide) (by omega) false (ok := fun _ => True) (okp := fun _ => True) rfl (fun _ hk => hk) trivial (by omega) (by omega) (Below.refl _ _) (Nat.le_refl _) ?_; intro v102 w14 ho15 hb hg_ hnew_; clear hg_ hnew_; (first | rw [← Ny101.out] at ho15 | (simp only [Int.reduceToNat] at ho15; rw [← Ny101.out] at ho15)); have n0_ := Aside0.mk (Kd.R_lower ho15 (below_size (by repeat (first | (with_reducible first | exact HB.out | apply below_alloc | apply pw_below_drewN | apply below_drew1) | exact HB.out)))); have n1_ := Aside0.mk (below_step (by repeat (first | (with_reducible first | exact HB.out | apply below_alloc | apply pw_below_drewN | apply below_drew1) | exact HB.out)) hb); clear HB; have HO103 := n0_; have HB := n1_; clear n0_ n1_; clear hb ho15; obtain ⟨Ao16, co16, eo16⟩ := Kd.R_slice HO103.out; subst eo16) | ((with_reducible refine gate_callee (f := 32) rfl ?_); refine goesL_ (some 4) rfl rfl Try.func32 (by kernel_rfl) rfl #[.agg #[.slice Ao16 y101.length co16], .int .i64 0] rfl (by (try simp only [List.map_toArray, List.map_cons, List.map_nil]); first | done | rfl | (simp only [List.length_drop, List.length_take]; rfl)) ?_; (with_reducible refine (ring_Arrivals.calls _ _ y101 0 t104 _ ?side1 ?side2 A2.out).mono ?_); (case side1 => repeat (first | exact (Kd.R_reads' HO103.out).2.2 | (with_reducible refine Kd.C_alloc ?_ _) | (with_reducible refine Kd.C_drewN ?_ _) | (with_reducible refine Kd.C_drew ?_))); (case side2 => exact (Kd.R_reads' HO103.out).2.1); rintro e w17 ⟨v105, rfl, ho0, hb⟩; refine ⟨_, rfl, ?_⟩; have n0_ := Aside0.mk (Kd.R_below (by (with_reducible repeat (first | apply Kd.R_alloc | apply Kd.R_drewN | apply Kd.R_drew)); exact HO103.out) hb); have n1_ := Aside0.mk (Kd.R_lower ho0 (below_size (by repeat (first | (with_reducible first | exact HB.out | apply below_alloc | apply pw_below_drewN | apply below_drew1) | exact HB.out)))); have n2_ := Aside0.mk (below_step (by repeat (first | (with_reducible first | exact HB.out | apply below_alloc | apply pw_below_drewN | apply below_drew1) | exact HB.out)) hb); clear HO103; clear HB; have HO103 := n0_; have HO106 := n1_; have HB := n2_; clear n0_ n1_ n2_; (try clear hb); (try clear hb2); (try clear hk); (try clear hi); (try clear ho0); obtain ⟨Ao18, co18, eo18⟩ := Kd.R_slice HO106.out; subst eo18; have p107 : 0 ≤ (0 : Int) := (by omega); have q107 : 0 < (t104.length : Int) := of_decide_eq_true (by first | (with_reducible assumption) | assumption); obtain ⟨ad107, e107, hx107_0, hx107_1, hx107_2, hx107_3⟩ := at_T112 (Kd.R_reads' HO106.out).2.2 0 p107 q107; cases e107; have qi107 : (0 < t104.length) = True := eq_true (by omega); (try rw [show ((0 : Int)).toNat = 0 from rfl] at hx107_0); (try rw [show 0 * 4 = 0 from rfl] at hx107_0); (try rw [Addr.add_zero'] at hx107_0); (try rw [show ((0 : Int)).toNat = 0 from rfl] at hx107_1); (try rw [show 0 * 4 = 0 from rfl] at hx107_1); (try rw [Addr.add_zero'] at hx107_1); (try rw [show ((0 : Int)).toNat = 0 from rfl] at hx107_2); (try rw [show 0 * 4 = 0 from rfl] at hx107_2); (try rw [Addr.add_zero'] at hx107_2); (try rw [show ((0 : Int)).toNat = 0 from rfl] at hx107_3); (try rw [show 0 * 4 = 0 from rfl] at hx107_3); (try rw [Addr.add_zero'] at hx107_3); replace p107 := eq_true p107; replace q107 := eq_true q107; have p108 : 0 ≤ (1 : Int) := (by omega); have q108 : 1 < (t104.length : Int) := of_decide_eq_true (by first | (with_reducible assumption) | assumption); obtain ⟨ad108, e108, hx108_0, hx108_1, hx108_2, hx108_3⟩ := at_T112 (Kd.R_reads' HO106.out).2.2 1 p108 q108; obtain rfl : ad107 = ad108 := (by injection e108); (try simp only [show (1 : Int).toNat = 1 from rfl, Nat.reduceMul, Nat.reduceEqDiff, Go.Addr.add, ↓reduceIte] at hx108_0); (try simp only [show (1 : Int).toNat = 1 from rfl, Nat.reduceMul, Nat.reduceEqDiff, Go.Addr.add, ↓reduceIte] at hx108_1); (try simp only [show (1 : Int).toNat = 1 from rfl, Nat.reduceMul, Nat.reduceEqDiff, Go.Addr.add, ↓reduceIte] at hx108_2); (try simp only [show (1 : Int).toNat = 1 from rfl, Nat.reduceMul, Nat.reduceEqDiff, Go.Addr.add, ↓reduceIte] at hx108_3); have qi108 : (1 < t104.length) = True := eq_true (by omega); (try rw [show ((1 : Int)).toNat = 1 from rfl] at hx108_0); (try rw [show 1 * 4 = 4 from rfl] at hx108_0); (try rw [show ((1 : Int)).toNat = 1 from rfl] at hx108_1); (try rw [show 1 * 4 = 4 from rfl] at hx108_1); (try rw [show ((1 : Int)).toNat = 1 from rfl] at hx108_2); (try rw [show 1 * 4 = 4 from rfl] at hx108_2); (try rw [show ((1 : Int)).toNat = 1 from rfl] at hx108_3); (try rw [show 1 * 4 = 4 from rfl] at hx108_3); replace p108 := eq_true p108; replace q108 := eq_true q108))
       go_ret
       exact ⟨by first | rfl | (simp [errW_none, errW_some] <;> rfl) | (simp [*, errW_none, errW_some] <;> rfl), by repeat (first | (with_reducible first | exact HB.out | apply below_alloc | apply pw_below_drewN | apply below_drew1) | exact HB.out)⟩
     ·rw [if_neg c6] at H
      exact absurd H (by simp)
    ·rw [if_neg c5] at H
     have c5b0 : (((rd_T112 t104 0).f0) == 0 && (((rd_T112 t104 0).f1) == 1 && (((rd_T112 t104 0).f2) == 1 && (((rd_T112 t104 0).f3) == 0)))) = false := by simpa using c5
     (try (have c5b1 : decide (((rd_T112 t104 0).f0) = 0 && (((rd_T112 t104 0).f1) == 1 && (((rd_T112 t104 0).f2) == 1 && (((rd_T112 t104 0).f3) == 0)))) = false := by simpa using c5))
     (try (have c5b2 : (((rd_T112 t104 0).f0) == 0 && (((rd_T112 t104 0).f1) == 1 && (((rd_T112 t104 0).f2) == 1 && (((rd_T112 t104 0).f3) == 0)))) = false := by simpa using c5))
     (try (have c5b3 : ¬ (((rd_T112 t104 0).f0) = 0 && (((rd_T112 t104 0).f1) == 1 && (((rd_T112 t104 0).f2) == 1 && (((rd_T112 t104 0).f3) == 0)))) := by simpa using c5))
     clear c5
     obtain rfl := Option.some.inj H
     go_enter Try.func26, Try.ntmps26
     go_wp2_with (first | ((with_reducible refine gate_dst (N := 2) rfl ?_); refine Kd.R_make Kd.bool _ 4 rfl (N := 2) rfl 65 _ _ rfl 3 rfl rfl Try.underlying65 (.bool false) 1 info4 rfl (by decide) (by omega) false (ok := fun _ => True) (okp := fun _ => True) rfl (fun _ hk => hk) trivial (by omega) (by omega) (Below.refl _ _) (Nat.le_refl _) ?_; intro v102 w19 ho20 hb hg_ hnew_; clear hg_ hnew_; (first | rw [← Ny101.out] at ho20 | (simp only [Int.reduceToNat] at ho20; rw [← Ny101.out] at ho20)); have n0_ := Aside0.mk (Kd.R_lower ho20 (below_size (by repeat (first | (with_reducible first | exact HB.out | apply below_alloc | apply pw_below_drewN | apply below_drew1) | exact HB.out)))); have n1_ := Aside0.mk (below_step (by repeat (first | (with_reducible first | exact HB.out | apply below_alloc | apply pw_below_drewN | apply below_drew1) | exact HB.out)) hb); clear HB; have HO103 := n0_; have HB := n1_; clear n0_ n1_; clear hb ho20; obtain ⟨Ao21, co21, eo21⟩ := Kd.R_slice HO103.out; subst eo21) | ((with_reducible refine gate_callee (f := 32) rfl ?_); refine goesL_ (some 4) rfl rfl Try.func32 (by kernel_rfl) rfl #[.agg #[.slice Ao21 y101.length co21], .int .i64 0] rfl (by (try simp only [List.map_toArray, List.map_cons, List.map_nil]); first | done | rfl | (simp only [List.length_drop, List.length_take]; rfl)) ?_; (with_reducible refine (ring_Arrivals.calls _ _ y101 0 t104 _ ?side1 ?side2 A2.out).mono ?_); (case side1 => repeat (first | exact (Kd.R_reads' HO103.out).2.2 | (with_reducible refine Kd.C_alloc ?_ _) | (with_reducible refine Kd.C_drewN ?_ _) | (with_reducible refine Kd.C_drew ?_))); (case side2 => exact (Kd.R_reads' HO103.out).2.1); rintro e w22 ⟨v105, rfl, ho0, hb⟩; refine ⟨_, rfl, ?_⟩; have n0_ := Aside0.mk (Kd.R_below (by (with_reducible repeat (first | apply Kd.R_alloc | apply Kd.R_drewN | apply Kd.R_drew)); exact HO103.out) hb); have n1_ := Aside0.mk (Kd.R_lower ho0 (below_size (by repeat (first | (with_reducible first | exact HB.out | apply below_alloc | apply pw_below_drewN | apply below_drew1) | exact HB.out)))); have n2_ := Aside0.mk (below_step (by repeat (first | (with_reducible first | exact HB.out | apply below_alloc | apply pw_below_drewN | apply below_drew1) | exact HB.out)) hb); clear HO103; clear HB; have HO103 := n0_; have HO106 := n1_; have HB := n2_; clear n0_ n1_ n2_; (try clear hb); (try clear hb2); (try clear hk); (try clear hi); (try clear ho0); obtain ⟨Ao23, co23, eo23⟩ := Kd.R_slice HO106.out; subst eo23; have p107 : 0 ≤ (0 : Int) := (by omega); have q107 : 0 < (t104.length : Int) := of_decide_eq_true (by first | (with_reducible assumption) | assumption); obtain ⟨ad107, e107, hx107_0, hx107_1, hx107_2, hx107_3⟩ := at_T112 (Kd.R_reads' HO106.out).2.2 0 p107 q107; cases e107; have qi107 : (0 < t104.length) = True := eq_true (by omega); (try rw [show ((0 : Int)).toNat = 0 from rfl] at hx107_0); (try rw [show 0 * 4 = 0 from rfl] at hx107_0); (try rw [Addr.add_zero'] at hx107_0); (try rw [show ((0 : Int)).toNat = 0 from rfl] at hx107_1); (try rw [show 0 * 4 = 0 from rfl] at hx107_1); (try rw [Addr.add_zero'] at hx107_1); (try rw [show ((0 : Int)).toNat = 0 from rfl] at hx107_2); (try rw [show 0 * 4 = 0 from rfl] at hx107_2); (try rw [Addr.add_zero'] at hx107_2); (try rw [show ((0 : Int)).toNat = 0 from rfl] at hx107_3); (try rw [show 0 * 4 = 0 from rfl] at hx107_3); (try rw [Addr.add_zero'] at hx107_3); replace p107 := eq_true p107; replace q107 := eq_true q107))
     go_ret
     exact ⟨by first | rfl | (simp [errW_none, errW_some] <;> rfl) | (simp [*, errW_none, errW_some] <;> rfl), by repeat (first | (with_reducible first | exact HB.out | apply below_alloc | apply pw_below_drewN | apply below_drew1) | exact HB.out)⟩
   ·rw [if_neg c4] at H
    exact absurd H (by simp)
  ·rw [if_neg c3] at H
   have c3b0 : ((t104.length : Int) == 4) = false := beq_eq_false_iff_ne.mpr c3
   have c3b1 : ((t104.length : Int) != 4) = true := bne_iff_ne.mpr c3
   obtain rfl := Option.some.inj H
   go_enter Try.func26, Try.ntmps26
   go_wp2_with (first | ((with_reducible refine gate_dst (N := 2) rfl ?_); refine Kd.R_make Kd.bool _ 4 rfl (N := 2) rfl 65 _ _ rfl 3 rfl rfl Try.underlying65 (.bool false) 1 info4 rfl (by decide) (by omega) false (ok := fun _ => True) (okp := fun _ => True) rfl (fun _ hk => hk) trivial (by omega) (by omega) (Below.refl _ _) (Nat.le_refl _) ?_; intro v102 w24 ho25 hb hg_ hnew_; clear hg_ hnew_; (first | rw [← Ny101.out] at ho25 | (simp only [Int.reduceToNat] at ho25; rw [← Ny101.out] at ho25)); have n0_ := Aside0.mk (Kd.R_lower ho25 (below_size (by repeat (first | (with_reducible first | exact HB.out | apply below_alloc | apply pw_below_drewN | apply below_drew1) | exact HB.out)))); have n1_ := Aside0.mk (below_step (by repeat (first | (with_reducible first | exact HB.out | apply below_alloc | apply pw_below_drewN | apply below_drew1) | exact HB.out)) hb); clear HB; have HO103 := n0_; have HB := n1_; clear n0_ n1_; clear hb ho25; obtain ⟨Ao26, co26, eo26⟩ := Kd.R_slice HO103.out; subst eo26) | ((with_reducible refine gate_callee (f := 32) rfl ?_); refine goesL_ (some 4) rfl rfl Try.func32 (by kernel_rfl) rfl #[.agg #[.slice Ao26 y101.length co26], .int .i64 0] rfl (by (try simp only [List.map_toArray, List.map_cons, List.map_nil]); first | done | rfl | (simp only [List.length_drop, List.length_take]; rfl)) ?_; (with_reducible refine (ring_Arrivals.calls _ _ y101 0 t104 _ ?side1 ?side2 A2.out).mono ?_); (case side1 => repeat (first | exact (Kd.R_reads' HO103.out).2.2 | (with_reducible refine Kd.C_alloc ?_ _) | (with_reducible refine Kd.C_drewN ?_ _) | (with_reducible refine Kd.C_drew ?_))); (case side2 => exact (Kd.R_reads' HO103.out).2.1); rintro e w27 ⟨v105, rfl, ho0, hb⟩; refine ⟨_, rfl, ?_⟩; have n0_ := Aside0.mk (Kd.R_below (by (with_reducible repeat (first | apply Kd.R_alloc | apply Kd.R_drewN | apply Kd.R_drew)); exact HO103.out) hb); have n1_ := Aside0.mk (Kd.R_lower ho0 (below_size (by repeat (first | (with_reducible first | exact HB.out | apply below_alloc | apply pw_below_drewN | apply below_drew1) | exact HB.out)))); have n2_ := Aside0.mk (below_step (by repeat (first | (with_reducible first | exact HB.out | apply below_alloc | apply pw_below_drewN | apply below_drew1) | exact HB.out)) hb); clear HO103; clear HB; have HO103 := n0_; have HO106 := n1_; have HB := n2_; clear n0_ n1_ n2_; (try clear hb); (try clear hb2); (try clear hk); (try clear hi); (try clear ho0); obtain ⟨Ao28, co28, eo28⟩ := Kd.R_slice HO106.out; subst eo28))
   go_ret
   exact ⟨by first | rfl | (simp [errW_none, errW_some] <;> rfl) | (simp [*, errW_none, errW_some] <;> rfl), by repeat (first | (with_reducible first | exact HB.out | apply below_alloc | apply pw_below_drewN | apply below_drew1) | exact HB.out)⟩
 ·rw [if_neg c1] at H
  exact absurd H (by simp)
end Go.Proofs.Ytnjddjpohobelaa.XB
end
section
namespace Go.Proofs.Ytnjddjpohobelaa.RgA
set_option linter.unusedVariables false
set_option linter.unusedSimpArgs false
open Go.RowKit Go.Proofs.YtnjddjpohobelaaW.PrintWords Go.Proofs.YtnjddjpohobelaaW.PrintMore Go.Proofs.Ytnjddjpohobelaa.XB
theorem w64 {x : Int} (h0 : -9223372036854775808 ≤ x) (h1 : x ≤ 9223372036854775807) : wrap64 x = x := by unfold wrap64; omega
/-! ### sorting -/
theorem le_iff (x y : S112) : rgLe x y = true ↔ ¬ (y.f2 < x.f2 ∨ (y.f2 = x.f2 ∧ (y.f1 < x.f1 ∨ (y.f1 = x.f1 ∧ (y.f0 < x.f0 ∨ (y.f0 = x.f0 ∧ y.f3 < x.f3)))))) := by
  rw [← rgLt_iff]; unfold rgLe; simp
theorem le_trans (x y z : S112) (h1 : rgLe x y = true) (h2 : rgLe y z = true) : rgLe x z = true := by
  rw [le_iff] at *; omega
theorem le_total (x y : S112) : (rgLe x y || rgLe y x) = true := by
  rw [Bool.or_eq_true, le_iff, le_iff]; omega
theorem sort_perm (l : List S112) : (rgSort l).Perm l := List.mergeSort_perm _ _
theorem sort_sorted (l : List S112) : (rgSort l).Pairwise fun x y => rgLe x y = true := List.pairwise_mergeSort le_trans le_total l
theorem sort_eq {l l' : List S112} (hp : l'.Perm l) (hs : l'.Pairwise fun x y => rgLe x y = true) : rgSort l = l' := by
  refine List.Perm.eq_of_pairwise (le := fun x y => rgLe x y = true) (fun a b _ _ h1 h2 => ?_) (sort_sorted l) hs ((sort_perm l).trans hp.symm)
  rw [le_iff] at h1 h2
  cases a; cases b
  simp only [S112.mk.injEq] at *
  omega
/-! ### the law's count -/
def cnt (L : List S112) (t : Int) : Nat := L.countP fun x => decide (x.f1 = t)
def mxs (L : List S112) (t m : Int) : Int := L.foldl (fun m x => if x.f1 = t then mx m x.f2 else m) m
theorem cnt_sort (L : List S112) (t : Int) : cnt (rgSort L) t = cnt L t := (sort_perm L).countP_eq _
theorem mxs_sort (L : List S112) (t m : Int) : mxs (rgSort L) t m = mxs L t m := by
  refine (sort_perm L).foldl_eq' (fun x _ y _ z => ?_) m
  unfold mx
  repeat' split
  all_goals omega
theorem cnt_app (L M : List S112) (t : Int) : cnt (L ++ M) t = cnt L t + cnt M t := List.countP_append
theorem mxs_app (L M : List S112) (t m : Int) : mxs (L ++ M) t m = mxs M t (mxs L t m) := List.foldl_append
/-! ### ways -/
/-- The node after j steps. -/
def pos (n d v j : Int) : Int := if d = 1 then (if j ≤ v then v - j else v - j + n) else (if v + j < n then v + j else v + j - n)
/-- The steps from one node to another. -/
def dist (n d v t : Int) : Int := if d = 1 then (if t ≤ v then v - t else v - t + n) else (if v ≤ t then t - v else t - v + n)
theorem next_if {n d v : Int} (h0 : 0 ≤ v) (h1 : v < n) : rgNext n d v = pos n d v 1 := by
  unfold rgNext pos
  by_cases hd : d = 1
  · rw [if_pos hd, if_pos hd]
    by_cases h : 1 ≤ v
    · rw [if_pos h, show v + n - 1 = (v - 1) + n by omega, Int.add_emod_right, Int.emod_eq_of_lt (by omega) (by omega)]
    · rw [if_neg h, Int.emod_eq_of_lt (by omega) (by omega)]; omega
  · rw [if_neg hd, if_neg hd]
    by_cases h : v + 1 < n
    · rw [if_pos h, Int.emod_eq_of_lt (by omega) (by omega)]
    · rw [if_neg h, show v + 1 = n by omega, Int.emod_self]; omega
theorem pos_in {n d v j : Int} (h0 : 0 ≤ v) (h1 : v < n) (hj0 : 0 ≤ j) (hj1 : j < n) : 0 ≤ pos n d v j ∧ pos n d v j < n := by
  unfold pos; repeat' split
  all_goals omega
theorem pos_zero {n d v : Int} (h0 : 0 ≤ v) (h1 : v < n) : pos n d v 0 = v := by
  unfold pos; repeat' split
  all_goals omega
theorem pos_next {n d v j : Int} (h0 : 0 ≤ v) (h1 : v < n) (hj0 : 0 ≤ j) (hj1 : j + 1 < n) : pos n d (pos n d v 1) j = pos n d v (j + 1) := by
  unfold pos; repeat' split
  all_goals omega
theorem pos_iff {n d v t j : Int} (h0 : 0 ≤ v) (h1 : v < n) (ht0 : 0 ≤ t) (ht1 : t < n) (hj0 : 0 ≤ j) (hj1 : j < n) : pos n d v j = t ↔ j = dist n d v t := by
  unfold pos dist; repeat' split
  all_goals omega
theorem link_if {n d v : Int} (h0 : 0 ≤ v) (h1 : v < n) : rgLink n d v = if d = 1 then pos n d v 1 else v := by
  have := next_if (d := d) h0 h1
  unfold rgNext at this
  unfold rgLink
  by_cases hd : d = 1
  · rw [if_pos hd] at this ⊢; rw [if_pos hd]; exact this
  · rw [if_neg hd, if_neg hd]
/-- The link of the step j. -/
def lnk (n d v j : Int) : Int := if d = 1 then pos n d v (j + 1) else pos n d v j
theorem lnk_next {n d v : Int} {j : Nat} (h0 : 0 ≤ v) (h1 : v < n) (hj : (j : Int) + 2 < n) : lnk n d (pos n d v 1) j = lnk n d v ((j + 1 : Nat) : Int) := by
  unfold lnk
  split
  · rw [pos_next h0 h1 (by omega) (by omega)]; rfl
  · rw [pos_next h0 h1 (by omega) (by omega)]; rfl
def wayL (n d v h : Int) (m : Nat) : List (Int × Int) := (List.range m).map fun j : Nat => (pos n d v ((j : Int) + 1), h + (j : Int))
theorem way_free (cut : List Bool) (d : Int) : ∀ (k : Nat) (v h : Int), 0 ≤ v → v < cut.length → (k : Int) < cut.length → (∀ j : Nat, j < k → rdOf false cut (lnk cut.length d v j) = false) → rgWay cut d k v h = wayL cut.length d v h k
  | 0, v, h, _, _, _, _ => rfl
  | k + 1, v, h, h0, h1, hk, hf => by
    have hl : rgLink cut.length d v = lnk cut.length d v (0 : Nat) := by
      rw [link_if h0 h1]; unfold lnk; split
      · simp
      · simp [pos_zero h0 h1]
    have hp := pos_in (d := d) (j := 1) h0 h1 (by omega) (by omega)
    rw [rgWay, hl, hf 0 (by omega), if_neg (by decide), next_if h0 h1, way_free cut d k _ (h + 1) hp.1 hp.2 (by omega) ?_]
    · unfold wayL
      rw [List.range_succ_eq_map, List.map_cons, List.map_map]
      congr 1
      · simp
      · apply List.map_congr_left
        intro j hj
        rw [List.mem_range] at hj
        simp only [Function.comp, Nat.succ_eq_add_one, Prod.mk.injEq]
        exact ⟨by rw [pos_next h0 h1 (by omega) (by omega)]; simp, by omega⟩
    · intro j hj
      have e : lnk cut.length d (pos cut.length d v 1) j = lnk cut.length d v ((j + 1 : Nat) : Int) := lnk_next h0 h1 (by omega)
      rw [e]
      exact hf (j + 1) (by omega)
/-- A cut link ends the way. -/
theorem way_stop (cut : List Bool) (d : Int) : ∀ (m k : Nat) (v h : Int), m ≤ k → 0 ≤ v → v < cut.length → (m : Int) + 1 < cut.length → rdOf false cut (lnk cut.length d v m) = true → rgWay cut d k v h = rgWay cut d m v h
  | 0, 0, v, h, _, _, _, _, _ => rfl
  | 0, k + 1, v, h, _, h0, h1, _, hc => by
    have hl : rgLink cut.length d v = lnk cut.length d v (0 : Nat) := by
      rw [link_if h0 h1]; unfold lnk; split
      · simp
      · simp [pos_zero h0 h1]
    unfold rgWay
    rw [hl, hc, if_pos rfl]
  | m + 1, 0, v, h, hm, _, _, _, _ => by omega
  | m + 1, k + 1, v, h, hm, h0, h1, hk, hc => by
    have hp := pos_in (d := d) (j := 1) h0 h1 (by omega) (by omega)
    rw [rgWay, rgWay]
    split
    · rfl
    · rw [next_if h0 h1, way_stop cut d m k _ (h + 1) (by omega) hp.1 hp.2 (by omega) ?_]
      have e : lnk cut.length d (pos cut.length d v 1) m = lnk cut.length d v ((m + 1 : Nat) : Int) := lnk_next h0 h1 (by omega)
      rw [e]
      exact hc
/-! ### one node in a way -/
theorem range_count (P : Nat → Bool) (j0 : Int) : ∀ m : Nat, (∀ j : Nat, j < m → (P j = true ↔ (j : Int) = j0)) → (List.range m).countP P = if 0 ≤ j0 ∧ j0 < m then 1 else 0
  | 0, _ => by rw [if_neg (by omega)]; rfl
  | m + 1, h => by
    rw [List.range_succ, List.countP_append, range_count P j0 m (fun j hj => h j (by omega))]
    by_cases hm : P m = true
    · have := (h m (by omega)).1 hm
      rw [if_neg (by omega), if_pos (by omega)]; simp [hm]
    · have : ¬ (m : Int) = j0 := fun e => hm ((h m (by omega)).2 e)
      by_cases hj : 0 ≤ j0 ∧ j0 < (m : Int)
      · rw [if_pos hj, if_pos (by omega)]; simp [hm]
      · rw [if_neg hj, if_neg (by omega)]; simp [hm]
theorem cnt_way {n d v t : Int} (i : Nat) (f : S71) (m : Nat) (h0 : 0 ≤ v) (h1 : v < n) (ht0 : 0 ≤ t) (ht1 : t < n) (hm : (m : Int) < n) :
    cnt ((wayL n d v 1 m).map (rgArr i f d)) t = if 1 ≤ dist n d v t ∧ dist n d v t ≤ m then 1 else 0 := by
  unfold cnt wayL
  rw [List.map_map, List.countP_map]
  rw [range_count _ (dist n d v t - 1) m ?_]
  · by_cases h : 1 ≤ dist n d v t ∧ dist n d v t ≤ (m : Int)
    · rw [if_pos h, if_pos (by omega)]
    · rw [if_neg h, if_neg (by omega)]
  · intro j hj
    refine decide_eq_true_iff.trans ?_
    show pos n d v ((j : Int) + 1) = t ↔ _
    rw [pos_iff h0 h1 ht0 ht1 (by omega) (by omega)]
    omega
theorem mxs_way {n d v t : Int} (i : Nat) (f : S71) (h0 : 0 ≤ v) (h1 : v < n) (ht0 : 0 ≤ t) (ht1 : t < n) (a : Int) : ∀ m : Nat, (m : Int) < n →
    mxs ((wayL n d v 1 m).map (rgArr i f d)) t a = if 1 ≤ dist n d v t ∧ dist n d v t ≤ m then mx a (f.f1 + dist n d v t) else a
  | 0, _ => by rw [if_neg (by omega)]; rfl
  | m + 1, hm => by
    have hs : (wayL n d v 1 (m + 1)).map (rgArr i f d) = (wayL n d v 1 m).map (rgArr i f d) ++ [rgArr i f d (pos n d v ((m : Int) + 1), 1 + m)] := by
      unfold wayL; rw [List.range_succ]; simp
    rw [hs, mxs_app, mxs_way i f h0 h1 ht0 ht1 a m (by omega)]
    simp only [mxs, rgArr, List.foldl_cons, List.foldl_nil]
    by_cases h : dist n d v t = (m : Int) + 1
    · rw [if_pos ((pos_iff h0 h1 ht0 ht1 (by omega) (by omega)).2 h.symm), if_neg (by omega), if_pos (by omega), h]
      congr 1; omega
    · rw [if_neg (fun e => h ((pos_iff h0 h1 ht0 ht1 (by omega) (by omega)).1 e).symm)]
      by_cases hj : 1 ≤ dist n d v t ∧ dist n d v t ≤ (m : Int)
      · rw [if_pos hj, if_pos (by omega)]
      · rw [if_neg hj, if_neg (by omega)]
theorem find_way {n d v t : Int} (h0 : 0 ≤ v) (h1 : v < n) (ht0 : 0 ≤ t) (ht1 : t < n) : ∀ m : Nat, (m : Int) < n →
    rgFind (wayL n d v 1 m) t = if 1 ≤ dist n d v t ∧ dist n d v t ≤ m then some (t, dist n d v t) else none
  | 0, _ => by rw [if_neg (by omega)]; rfl
  | m + 1, hm => by
    have hs : wayL n d v 1 (m + 1) = wayL n d v 1 m ++ [(pos n d v ((m : Int) + 1), 1 + (m : Int))] := by
      unfold wayL; rw [List.range_succ]; simp
    have ih := find_way (d := d) h0 h1 ht0 ht1 m (by omega)
    rw [hs]
    by_cases hj : 1 ≤ dist n d v t ∧ dist n d v t ≤ (m : Int)
    · rw [if_pos hj] at ih
      rw [if_pos (by omega)]
      exact rg_find_prefix ih ⟨_, rfl⟩
    · rw [if_neg hj] at ih
      by_cases h : dist n d v t = (m : Int) + 1
      · have hp := (pos_iff (d := d) h0 h1 ht0 ht1 (show (0 : Int) ≤ (m : Int) + 1 by omega) (by omega)).2 h.symm
        rw [if_pos (by omega), rg_find_hit ih hp, hp]
        congr 2; omega
      · rw [if_neg (by omega)]
        exact rg_find_miss ih (fun e => h ((pos_iff h0 h1 ht0 ht1 (by omega) (by omega)).1 e).symm)
/-! ### one frame -/
theorem runs_one (cut : List Bool) (v : Int) (hh : rgHas cut v = true) : rgRuns cut [(⟨v, 0⟩ : S71)] 1 = rgDir cut 0 ⟨v, 0⟩ 0 ++ rgDir cut 0 ⟨v, 0⟩ 1 := by
  have hg : rgGood cut (rd_T71 [(⟨v, 0⟩ : S71)] (0 : Nat)) = true := by
    have : rd_T71 [(⟨v, 0⟩ : S71)] (0 : Nat) = ⟨v, 0⟩ := rfl
    rw [this]; unfold rgGood; rw [hh]; rfl
  rw [rgRuns, if_pos hg]
  rfl
theorem arrivals (cut : List Bool) (v : Int) (hh : rgHas cut v = true) : ring_Arrivals.f cut v = some (rgSort (rgDir cut 0 ⟨v, 0⟩ 0 ++ rgDir cut 0 ⟨v, 0⟩ 1)) := by
  unfold ring_Arrivals.f ring_Run.f
  rw [if_pos (by simp)]
  simp only [List.length_cons, List.length_nil, Nat.zero_add, Option.bind_some]
  rw [runs_one cut v hh]
theorem known : substationlaw17_known.f = some true := by
  have h : rgSort (rgDir [false, false, false] 0 ⟨0, 0⟩ 0 ++ rgDir [false, false, false] 0 ⟨0, 0⟩ 1) = [⟨0, 1, 1, 0⟩, ⟨0, 2, 1, 1⟩, ⟨0, 1, 2, 1⟩, ⟨0, 2, 2, 0⟩] := by
    refine sort_eq ?_ ?_
    · have e : rgDir [false, false, false] 0 ⟨0, 0⟩ 0 ++ rgDir [false, false, false] 0 ⟨0, 0⟩ 1 = [⟨0, 1, 1, 0⟩, ⟨0, 2, 2, 0⟩, ⟨0, 2, 1, 1⟩, ⟨0, 1, 2, 1⟩] := by rfl
      rw [e]
      refine List.Perm.cons _ ?_
      exact (List.Perm.cons _ (List.Perm.swap _ _ _)).trans (List.Perm.trans (List.Perm.swap _ _ _) (List.Perm.cons _ (List.Perm.refl _)))
    · simp [le_iff]
  unfold substationlaw17_known.f
  rw [if_pos (by omega), show List.replicate 3 false = [false, false, false] from rfl, arrivals _ _ rfl, h]
  rfl
end Go.Proofs.Ytnjddjpohobelaa.RgA
end
section
namespace Go.Proofs.Ytnjddjpohobelaa.RgB
set_option linter.unusedVariables false
set_option linter.unusedSimpArgs false
open Go.RowKit Go.Proofs.YtnjddjpohobelaaW.PrintWords Go.Proofs.YtnjddjpohobelaaW.PrintMore Go.Proofs.Ytnjddjpohobelaa.XB Go.Proofs.Ytnjddjpohobelaa.RgA
theorem rd_set (l : List Bool) (i t : Int) (hi0 : 0 ≤ i) (ht0 : 0 ≤ t) (ht1 : t < l.length) : rdOf false (l.set i.toNat true) t = (decide (i = t) || rdOf false l t) := by
  unfold rdOf
  simp only [List.getD_eq_getElem?_getD]
  by_cases h : i = t
  · subst h
    rw [List.getElem?_set_self (by omega)]
    simp
  · rw [List.getElem?_set_ne (by omega)]
    simp [h]
theorem mark_rd : ∀ (ps : List (Int × Int)) (out : List Bool) (t : Int), (∀ p, p ∈ ps → 0 ≤ p.1) → 0 ≤ t → t < out.length → rdOf false (rgMark ps out) t = (rdOf false out t || (rgFind ps t).isSome)
  | [], out, t, _, _, _ => by simp [rgMark, rgFind]
  | p :: ps, out, t, hp, h0, h1 => by
    have ih := mark_rd ps (out.set p.1.toNat true) t (fun q hq => hp q (List.mem_cons_of_mem _ hq)) h0 (by simpa using h1)
    have e : rgMark (p :: ps) out = rgMark ps (out.set p.1.toNat true) := rfl
    rw [e, ih, rd_set out p.1 t (hp p List.mem_cons_self) h0 h1]
    unfold rgFind
    rw [List.find?_cons]
    by_cases h : p.1 = t
    · simp [h]
    · simp [h]
theorem way_nodes (cut : List Bool) (d : Int) : ∀ (k : Nat) (v h : Int), 0 < cut.length → ∀ p, p ∈ rgWay cut d k v h → 0 ≤ p.1
  | 0, v, h, _, p, hp => by simp [rgWay] at hp
  | k + 1, v, h, hn, p, hp => by
    rw [rgWay] at hp
    split at hp
    · simp at hp
    · rcases List.mem_cons.1 hp with rfl | hp
      · show 0 ≤ rgNext cut.length d v
        unfold rgNext
        split
        · exact Int.emod_nonneg _ (by omega)
        · exact Int.emod_nonneg _ (by omega)
      · exact way_nodes cut d k _ _ hn p hp
theorem rd_rep (n : Nat) (i : Int) : rdOf false (List.replicate n false) i = false := by
  unfold rdOf
  simp only [List.getD_eq_getElem?_getD, List.getElem?_replicate]
  split <;> rfl
theorem has_iff {cut : List Bool} {v : Int} : rgHas cut v = true ↔ ((3 ≤ cut.length ∧ cut.length ≤ 40) ∧ 0 ≤ v) ∧ v < cut.length := by
  unfold rgHas
  simp [Bool.and_eq_true, decide_eq_true_eq]
/-- A node is reached where it is the sender, or on either way. -/
theorem reached_rd {cut : List Bool} {v t : Int} (hh : rgHas cut v = true) (h0 : 0 ≤ t) (h1 : t < cut.length) :
    rdOf false (rgReached cut v) t = (decide (v = t) || (rgFind (rgWay cut 0 (cut.length - 1) v 1) t).isSome || (rgFind (rgWay cut 1 (cut.length - 1) v 1) t).isSome) := by
  obtain ⟨⟨⟨a1, a2⟩, a3⟩, a4⟩ := has_iff.1 hh
  unfold rgReached
  rw [if_pos hh, rgReachK, rgReachK, mark_rd _ _ _ (way_nodes cut _ _ _ _ (by omega)) h0 (by rw [rgMark_len, rgReachK_len]; exact h1), mark_rd _ _ _ (way_nodes cut _ _ _ _ (by omega)) h0 (by rw [rgReachK_len]; exact h1), rgReachK, rd_set _ _ _ a3 h0 (by simpa using h1), rd_rep, Bool.or_false]
  rfl
theorem reached_len {cut : List Bool} {v : Int} (hh : rgHas cut v = true) : (rgReached cut v).length = cut.length := by
  unfold rgReached
  rw [if_pos hh, rgReachK_len]
end Go.Proofs.Ytnjddjpohobelaa.RgB
end
section
namespace Go.Proofs.Ytnjddjpohobelaa.RgC
set_option linter.unusedVariables false
set_option linter.unusedSimpArgs false
open Go.RowKit Go.Proofs.YtnjddjpohobelaaW.PrintWords Go.Proofs.YtnjddjpohobelaaW.PrintMore Go.Proofs.Ytnjddjpohobelaa.XB Go.Proofs.Ytnjddjpohobelaa.RgA Go.Proofs.Ytnjddjpohobelaa.RgB
theorem first_stop (p : Nat → Prop) : ∀ k : Nat, ∃ m, m ≤ k ∧ (∀ j, j < m → ¬ p j) ∧ (m < k → p m)
  | 0 => ⟨0, Nat.le_refl _, fun j hj => by omega, fun h => by omega⟩
  | k + 1 => by
    obtain ⟨m, h1, h2, h3⟩ := first_stop p k
    by_cases hm : m < k
    · exact ⟨m, by omega, h2, fun _ => h3 hm⟩
    · by_cases hp : p m
      · exact ⟨m, by omega, h2, fun _ => hp⟩
      · exact ⟨m + 1, by omega, fun j hj => by
          by_cases hj' : j < m
          · exact h2 j hj'
          · have : j = m := by omega
            subst this; exact hp, fun h => by omega⟩
/-- Nothing is cut between. -/
def Open (cut : List Bool) (d v t : Int) : Prop := ∀ j : Nat, (j : Int) < dist cut.length d v t → rdOf false cut (lnk cut.length d v j) = false
theorem dist_in {n d v t : Int} (h0 : 0 ≤ v) (h1 : v < n) (ht0 : 0 ≤ t) (ht1 : t < n) : 0 ≤ dist n d v t ∧ dist n d v t < n := by
  unfold dist; repeat' split
  all_goals omega
open Classical in
theorem find_open {cut : List Bool} {d v t : Int} (h0 : 0 ≤ v) (h1 : v < cut.length) (ht0 : 0 ≤ t) (ht1 : t < cut.length) :
    rgFind (rgWay cut d (cut.length - 1) v 1) t = if 1 ≤ dist cut.length d v t ∧ Open cut d v t then some (t, dist cut.length d v t) else none := by
  have hd := dist_in (d := d) h0 h1 ht0 ht1
  obtain ⟨m, hm, hfree, hcut⟩ := first_stop (fun j => rdOf false cut (lnk cut.length d v j) = true) (cut.length - 1)
  have hw : rgWay cut d (cut.length - 1) v 1 = wayL cut.length d v 1 m := by
    have hf := way_free cut d m v 1 h0 h1 (by omega) (fun j hj => by
      have := hfree j hj
      simpa using this)
    by_cases he : m < cut.length - 1
    · rw [way_stop cut d m (cut.length - 1) v 1 hm h0 h1 (by omega) (hcut he)]; exact hf
    · have : m = cut.length - 1 := by omega
      rw [← this]; exact hf
  rw [hw, find_way h0 h1 ht0 ht1 m (by omega)]
  have hiff : (1 ≤ dist cut.length d v t ∧ dist cut.length d v t ≤ m) ↔ (1 ≤ dist cut.length d v t ∧ Open cut d v t) := by
    constructor
    · rintro ⟨a, b⟩
      refine ⟨a, fun j hj => ?_⟩
      have := hfree j (by omega)
      simpa using this
    · rintro ⟨a, b⟩
      refine ⟨a, ?_⟩
      by_cases hle : dist cut.length d v t ≤ m
      · exact hle
      · have h := b m (by omega)
        rw [hcut (by omega)] at h
        cases h
  by_cases h : 1 ≤ dist cut.length d v t ∧ dist cut.length d v t ≤ m
  · rw [if_pos h, if_pos (hiff.1 h)]
  · rw [if_neg h, if_neg (fun h' => h (hiff.2 h'))]
theorem dist_sym {n i k : Int} : dist n 0 i k = dist n 1 k i := by
  unfold dist; rw [if_neg (by omega), if_pos rfl]
theorem open_sym {cut : List Bool} {i k : Int} (h0 : 0 ≤ i) (h1 : i < cut.length) (hk0 : 0 ≤ k) (hk1 : k < cut.length) : Open cut 0 i k ↔ Open cut 1 k i := by
  have hd := dist_in (d := 0) h0 h1 hk0 hk1
  have hlnk : ∀ j : Int, 0 ≤ j → j < dist cut.length 0 i k → lnk cut.length 1 k j = lnk cut.length 0 i (dist cut.length 0 i k - 1 - j) := by
    intro j hj0 hj1
    have hD : dist cut.length 0 i k = if i ≤ k then k - i else k - i + cut.length := by unfold dist; rw [if_neg (by omega)]
    generalize dist cut.length 0 i k = D at hD hj1 hd
    have e1 : lnk cut.length 1 k j = if j + 1 ≤ k then k - (j + 1) else k - (j + 1) + cut.length := by unfold lnk pos; rw [if_pos rfl, if_pos rfl]
    have e0 : lnk cut.length 0 i (D - 1 - j) = if i + (D - 1 - j) < cut.length then i + (D - 1 - j) else i + (D - 1 - j) - cut.length := by unfold lnk pos; rw [if_neg (by omega), if_neg (by omega)]
    rw [e1, e0]
    split at hD <;> (repeat' split) <;> omega
  unfold Open
  rw [← dist_sym]
  constructor
  · intro h j hj
    rw [hlnk j (by omega) hj]
    have := h (dist cut.length 0 i k - 1 - j).toNat (by omega)
    rwa [Int.toNat_of_nonneg (by omega)] at this
  · intro h j hj
    have := h (dist cut.length 0 i k - 1 - j).toNat (by omega)
    rw [Int.toNat_of_nonneg (by omega), hlnk _ (by omega) (by omega)] at this
    rwa [show dist cut.length 0 i k - 1 - (dist cut.length 0 i k - 1 - (j : Int)) = j by omega] at this
theorem hops_sym {cut : List Bool} {i k : Int} (h3 : 3 ≤ cut.length) (h40 : cut.length ≤ 40) (h0 : 0 ≤ i) (h1 : i < cut.length) (hk0 : 0 ≤ k) (hk1 : k < cut.length) : rgHops cut i k 0 = rgHops cut k i 1 := by
  unfold rgHops
  rw [if_pos ⟨has_iff.2 ⟨⟨⟨h3, h40⟩, h0⟩, h1⟩, .inl rfl⟩, if_pos ⟨has_iff.2 ⟨⟨⟨h3, h40⟩, hk0⟩, hk1⟩, .inr rfl⟩, find_open h0 h1 hk0 hk1, find_open hk0 hk1 h0 h1]
  by_cases h : 1 ≤ dist cut.length 0 i k ∧ Open cut 0 i k
  · rw [if_pos h, if_pos ⟨by rw [← dist_sym]; exact h.1, (open_sym h0 h1 hk0 hk1).1 h.2⟩, dist_sym]
  · rw [if_neg h, if_neg (fun h' => h ⟨by rw [dist_sym]; exact h'.1, (open_sym h0 h1 hk0 hk1).2 h'.2⟩)]
/-- Reached: the node itself, or nothing cut on one of the ways. -/
def Re (cut : List Bool) (v t : Int) : Prop := v = t ∨ (1 ≤ dist cut.length 0 v t ∧ Open cut 0 v t) ∨ (1 ≤ dist cut.length 1 v t ∧ Open cut 1 v t)
theorem reached_iff {cut : List Bool} {v t : Int} (h3 : 3 ≤ cut.length) (h40 : cut.length ≤ 40) (h0 : 0 ≤ v) (h1 : v < cut.length) (ht0 : 0 ≤ t) (ht1 : t < cut.length) : rdOf false (rgReached cut v) t = true ↔ Re cut v t := by
  rw [reached_rd (has_iff.2 ⟨⟨⟨h3, h40⟩, h0⟩, h1⟩) ht0 ht1, find_open h0 h1 ht0 ht1, find_open h0 h1 ht0 ht1]
  unfold Re
  by_cases a : v = t
  · simp [a]
  · by_cases b : 1 ≤ dist cut.length 0 v t ∧ Open cut 0 v t
    · simp [b]
    · by_cases c : 1 ≤ dist cut.length 1 v t ∧ Open cut 1 v t
      · simp [c]
      · simp [a, b, c]
theorem re_sym {cut : List Bool} {i k : Int} (h0 : 0 ≤ i) (h1 : i < cut.length) (hk0 : 0 ≤ k) (hk1 : k < cut.length) : Re cut i k ↔ Re cut k i := by
  unfold Re
  rw [open_sym h0 h1 hk0 hk1, ← open_sym hk0 hk1 h0 h1, dist_sym, ← dist_sym (i := k)]
  constructor
  · rintro (a | a | a)
    · exact .inl a.symm
    · exact .inr (.inr a)
    · exact .inr (.inl a)
  · rintro (a | a | a)
    · exact .inl a.symm
    · exact .inr (.inr a)
    · exact .inr (.inl a)
theorem reached_sym {cut : List Bool} {i k : Int} (h3 : 3 ≤ cut.length) (h40 : cut.length ≤ 40) (h0 : 0 ≤ i) (h1 : i < cut.length) (hk0 : 0 ≤ k) (hk1 : k < cut.length) : rdOf false (rgReached cut i) k = rdOf false (rgReached cut k) i := by
  rw [Bool.eq_iff_iff, reached_iff h3 h40 h0 h1 hk0 hk1, reached_iff h3 h40 hk0 hk1 h0 h1]
  exact re_sym h0 h1 hk0 hk1
/-! ### the first of each part -/
def cutA (cut : List Bool) (j : Nat) : Bool := rdOf false cut j
def Later (cut : List Bool) (i : Nat) : Prop := ∃ c, i ≤ c ∧ c < cut.length ∧ cutA cut c = true
theorem none_before {cut : List Bool} {i : Nat} (hi1 : 1 ≤ i) (hi : i < cut.length) : (∀ k : Nat, k < i → ¬ Re cut i k) ↔ (cutA cut (i - 1) = true ∧ Later cut i) := by
  constructor
  · intro h
    constructor
    · by_cases hc : cutA cut (i - 1) = true
      · exact hc
      · exfalso
        refine h (i - 1) (by omega) (.inr (.inr ⟨?_, ?_⟩))
        · unfold dist; rw [if_pos rfl, if_pos (by omega)]; omega
        · intro j hj
          have hd : dist cut.length 1 i ((i - 1 : Nat) : Int) = 1 := by unfold dist; rw [if_pos rfl, if_pos (by omega)]; omega
          have : j = 0 := by omega
          subst this
          have hl : lnk cut.length 1 (i : Int) ((0 : Nat) : Int) = ((i - 1 : Nat) : Int) := by
            unfold lnk pos; rw [if_pos rfl, if_pos rfl, if_pos (by omega)]; omega
          rw [hl]
          simpa [cutA] using hc
    · apply Classical.byContradiction
      intro hn
      refine h 0 (by omega) (.inr (.inl ⟨?_, ?_⟩))
      · unfold dist; rw [if_neg (by omega), if_neg (by omega)]; omega
      · intro j hj
        have hd : dist cut.length 0 i ((0 : Nat) : Int) = (cut.length : Int) - i := by unfold dist; rw [if_neg (by omega), if_neg (by omega)]; omega
        have hl : lnk cut.length 0 (i : Int) (j : Int) = ((i + j : Nat) : Int) := by
          unfold lnk pos; rw [if_neg (by omega), if_neg (by omega), if_pos (by omega)]; omega
        rw [hl]
        cases hc : rdOf false cut ((i + j : Nat) : Int) with
        | false => rfl
        | true => exact absurd ⟨i + j, by omega, by omega, hc⟩ hn
  · rintro ⟨hc, c, hc1, hc2, hc3⟩ k hk hre
    rcases hre with e | ⟨_, ho⟩ | ⟨_, ho⟩
    · omega
    · have hd : dist cut.length 0 i (k : Int) = (k : Int) - i + cut.length := by unfold dist; rw [if_neg (by omega), if_neg (by omega)]
      have := ho (c - i) (by omega)
      have hl : lnk cut.length 0 (i : Int) ((c - i : Nat) : Int) = (c : Int) := by
        unfold lnk pos; rw [if_neg (by omega), if_neg (by omega), if_pos (by omega)]; omega
      rw [hl] at this
      unfold cutA at hc3
      rw [this] at hc3; cases hc3
    · have hd : dist cut.length 1 i (k : Int) = (i : Int) - k := by unfold dist; rw [if_pos rfl, if_pos (by omega)]
      have := ho 0 (by omega)
      have hl : lnk cut.length 1 (i : Int) ((0 : Nat) : Int) = ((i - 1 : Nat) : Int) := by
        unfold lnk pos; rw [if_pos rfl, if_pos rfl, if_pos (by omega)]; omega
      rw [hl] at this
      unfold cutA at hc
      rw [this] at hc; cases hc
def Cn (cut : List Bool) (i : Nat) : Nat := (List.range i).countP (cutA cut)
def fst (cut : List Bool) (i : Nat) : Bool := (List.range i).all fun k => !(rdOf false (rgReached cut i) (k : Int))
def Pn (cut : List Bool) (i : Nat) : Nat := (List.range i).countP (fst cut)
theorem Cn_succ (cut : List Bool) (i : Nat) : Cn cut (i + 1) = Cn cut i + (if cutA cut i = true then 1 else 0) := by
  unfold Cn; rw [List.range_succ, List.countP_append, List.countP_singleton]
theorem Pn_succ (cut : List Bool) (i : Nat) : Pn cut (i + 1) = Pn cut i + (if fst cut i = true then 1 else 0) := by
  unfold Pn; rw [List.range_succ, List.countP_append, List.countP_singleton]
theorem fst_iff {cut : List Bool} {i : Nat} (h3 : 3 ≤ cut.length) (h40 : cut.length ≤ 40) (hi1 : 1 ≤ i) (hi : i < cut.length) : fst cut i = true ↔ (cutA cut (i - 1) = true ∧ Later cut i) := by
  rw [← none_before hi1 hi]
  unfold fst
  rw [List.all_eq_true]
  constructor
  · intro h k hk hre
    have := h k (List.mem_range.2 hk)
    rw [(reached_iff h3 h40 (by omega) (by omega) (by omega) (by omega)).2 hre] at this
    cases this
  · intro h k hk
    have hk' := List.mem_range.1 hk
    cases hr : rdOf false (rgReached cut i) (k : Int) with
    | false => rfl
    | true => exact absurd ((reached_iff h3 h40 (by omega) (by omega) (by omega) (by omega)).1 hr) (h k hk')
theorem parts {cut : List Bool} (h3 : 3 ≤ cut.length) (h40 : cut.length ≤ 40) : ∀ i : Nat, i + 1 ≤ cut.length → (Later cut i → Pn cut (i + 1) = 1 + Cn cut i) ∧ (¬ Later cut i → (Pn cut (i + 1) : Int) = mx (Cn cut i) 1)
  | 0, _ => by
    have h : Pn cut 1 = 1 := by rw [Pn_succ]; rfl
    have hc : Cn cut 0 = 0 := rfl
    rw [h, hc]
    exact ⟨fun _ => rfl, fun _ => by unfold mx; rw [if_pos (by omega)]; rfl⟩
  | i + 1, hi => by
    obtain ⟨ihA, ihB⟩ := parts h3 h40 i (by omega)
    have hf := fst_iff h3 h40 (i := i + 1) (by omega) (by omega)
    rw [Nat.add_sub_cancel] at hf
    rw [Pn_succ cut (i + 1), Cn_succ cut i]
    have hl : Later cut i ↔ (cutA cut i = true ∨ Later cut (i + 1)) := by
      constructor
      · rintro ⟨c, h1, h2, h4⟩
        by_cases e : c = i
        · subst e; exact .inl h4
        · exact .inr ⟨c, by omega, h2, h4⟩
      · rintro (h | ⟨c, h1, h2, h4⟩)
        · exact ⟨i, by omega, by omega, h⟩
        · exact ⟨c, by omega, h2, h4⟩
    constructor
    · intro hL
      have hA := ihA (hl.2 (.inr hL))
      by_cases hc : cutA cut i = true
      · rw [if_pos (hf.2 ⟨hc, hL⟩), if_pos hc]; omega
      · rw [if_neg (fun h => hc (hf.1 h).1), if_neg hc]; omega
    · intro hL
      rw [if_neg (fun h => hL (hf.1 h).2)]
      by_cases hc : cutA cut i = true
      · have hA := ihA (hl.2 (.inl hc))
        rw [if_pos hc]
        unfold mx
        split <;> omega
      · have hB := ihB (fun h => (hl.1 h).elim hc hL)
        rw [if_neg hc]
        simpa using hB
theorem parts_all {cut : List Bool} (h3 : 3 ≤ cut.length) (h40 : cut.length ≤ 40) : (Pn cut cut.length : Int) = mx (Cn cut cut.length) 1 := by
  obtain ⟨n, hn⟩ : ∃ n, cut.length = n + 1 := ⟨cut.length - 1, by omega⟩
  obtain ⟨hA, hB⟩ := parts h3 h40 n (by omega)
  rw [hn, Cn_succ]
  by_cases hc : cutA cut n = true
  · have := hA ⟨n, Nat.le_refl _, by omega, hc⟩
    rw [if_pos hc]
    unfold mx
    split <;> omega
  · have := hB (by
      rintro ⟨c, h1, h2, h4⟩
      have : c = n := by omega
      subst this
      exact hc h4)
    rw [if_neg hc]
    simpa using this
end Go.Proofs.Ytnjddjpohobelaa.RgC
end
section
namespace Go.Proofs.Ytnjddjpohobelaa.RgR
set_option linter.unusedVariables false
set_option linter.unusedSimpArgs false
open Go.RowKit Go.Proofs.YtnjddjpohobelaaW.PrintWords Go.Proofs.YtnjddjpohobelaaW.PrintMore Go.Proofs.Ytnjddjpohobelaa.XB Go.Proofs.Ytnjddjpohobelaa.RgA Go.Proofs.Ytnjddjpohobelaa.RgB Go.Proofs.Ytnjddjpohobelaa.RgC
/-- From some number of rounds on. -/
def Evr (P : Nat → Prop) : Prop := ∃ K0, ∀ K, K0 ≤ K → P K
theorem Evr.step {P Q : Nat → Prop} (h : Evr P) (hs : ∀ K, P K → Q (K + 1)) : Evr Q := by
  obtain ⟨K0, h0⟩ := h
  refine ⟨K0 + 1, fun K hK => ?_⟩
  obtain ⟨K, rfl⟩ : ∃ K', K = K' + 1 := ⟨K - 1, by omega⟩
  exact hs K (h0 K (by omega))
theorem Evr.both {P Q : Nat → Prop} (h : Evr P) (k : Evr Q) : Evr fun K => P K ∧ Q K := by
  obtain ⟨K0, h0⟩ := h
  obtain ⟨K1, h1⟩ := k
  exact ⟨max K0 K1, fun K hK => ⟨h0 K (by omega), h1 K (by omega)⟩⟩
/-! ### insertion -/
def cv (x : S112) : S113 := ⟨x.f0, x.f1, x.f2, x.f3⟩
theorem rd_cv {pre post : List S112} {x : S112} {i : Int} (hi : i = pre.length) : rd_T113 ((pre ++ x :: post).map cv) i = cv x := by
  subst hi
  unfold rd_T113
  rw [Int.toNat_natCast, List.getD_eq_getElem?_getD, List.getElem?_map, List.getElem?_append_right (Nat.le_refl _)]
  simp
theorem before_eq (x y : S112) : substationref17_before.f x.f0 x.f1 x.f2 x.f3 y.f0 y.f1 y.f2 y.f3 = some (Go.Proofs.ltOf rgCmp x y) := by
  have h := rgLt_iff x y
  unfold substationref17_before.f
  by_cases h2 : x.f2 = y.f2
  · by_cases h1 : x.f1 = y.f1
    · by_cases h0 : x.f0 = y.f0
      · rw [if_pos h2, if_pos h1, if_pos h0]
        congr 1
        rw [Bool.eq_iff_iff, h, decide_eq_true_iff]
        omega
      · rw [if_pos h2, if_pos h1, if_neg h0]
        congr 1
        rw [Bool.eq_iff_iff, h, decide_eq_true_iff]
        omega
    · rw [if_pos h2, if_neg h1]
      congr 1
      rw [Bool.eq_iff_iff, h, decide_eq_true_iff]
      omega
  · rw [if_neg h2]
    congr 1
    rw [Bool.eq_iff_iff, h, decide_eq_true_iff]
    omega
def Srt (l : List S112) : Prop := l.Pairwise fun x y => rgLe x y = true
theorem le_of_not_lt {x y : S112} (h : ¬ Go.Proofs.ltOf rgCmp x y = true) : rgLe y x = true := by
  rw [le_iff]
  rw [rgLt_iff] at h
  omega
theorem le_of_lt {x y : S112} (h : Go.Proofs.ltOf rgCmp x y = true) : rgLe x y = true := by
  rw [le_iff]
  rw [rgLt_iff] at h
  omega
theorem insert_l0 (x : S112) : ∀ (n : Nat) (pre post : List S112), pre.length = n → (pre ++ post).length < 1000000 → Srt (pre ++ post) → (∀ p, p ∈ post → rgLe x p = true) →
    ∃ out : List S112, (Evr fun K => substationref17_insert.l0 K ((pre ++ x :: post).map cv) (n : Int) = some (out.map cv)) ∧ Srt out ∧ out.Perm (pre ++ x :: post)
  | 0, pre, post, hn, hlen, hs, hp => by
    obtain rfl := List.eq_nil_of_length_eq_zero hn
    refine ⟨x :: post, ⟨1, fun K hK => ?_⟩, List.pairwise_cons.2 ⟨hp, by unfold Srt at hs; simpa using hs⟩, List.Perm.refl _⟩
    obtain ⟨K, rfl⟩ : ∃ K', K = K' + 1 := ⟨K - 1, by omega⟩
    rw [substationref17_insert.l0, if_neg (by omega)]
    rfl
  | n + 1, pre, post, hn, hlen, hs, hp => by
    obtain ⟨p0, y, rfl⟩ : ∃ p0 y, pre = p0 ++ [y] := by
      refine ⟨pre.dropLast, pre.getLast (by intro e; subst e; simp at hn), ?_⟩
      exact (List.dropLast_concat_getLast _).symm
    have hp0 : p0.length = n := by simpa using hn
    have hlt : n < 1000000 := by simp at hlen; omega
    have hw : wrap64 (((n + 1 : Nat) : Int) - 1) = (n : Int) := by rw [w64 (by omega) (by omega)]; omega
    have hlenx : ((p0 ++ [y] ++ x :: post).map cv).length = n + 2 + post.length := by simp; omega
    have hrx : rd_T113 ((p0 ++ [y] ++ x :: post).map cv) ((n + 1 : Nat) : Int) = cv x := rd_cv (by simp; omega)
    have hry : rd_T113 ((p0 ++ [y] ++ x :: post).map cv) (n : Int) = cv y := by
      rw [List.append_assoc]
      exact rd_cv (pre := p0) (post := x :: post) (by omega)
    by_cases hb : Go.Proofs.ltOf rgCmp x y = true
    · have hs' : Srt (p0 ++ y :: post) := by simpa using hs
      obtain ⟨out, hev, h1, h2⟩ := insert_l0 x n p0 (y :: post) hp0 (by simpa using hlen) hs' (fun p hpp => by
        rcases List.mem_cons.1 hpp with rfl | hpp
        · exact le_of_lt hb
        · exact hp p hpp)
      refine ⟨out, hev.step fun K hK => ?_, h1, h2.trans ?_⟩
      · rw [substationref17_insert.l0, if_pos (by omega), if_pos (by omega), if_pos (by rw [hlenx]; omega), hw, if_pos (by omega), if_pos (by rw [hlenx]; omega), hrx, hry]
        have hbe := before_eq x y
        unfold cv at *
        simp only at *
        rw [hbe, Option.bind_some, if_pos hb]
        have hset : (((List.map (fun x : S112 => (⟨x.f0, x.f1, x.f2, x.f3⟩ : S113)) (p0 ++ [y] ++ x :: post)).set (((n + 1 : Nat) : Int)).toNat (⟨y.f0, y.f1, y.f2, y.f3⟩ : S113)).set ((n : Int)).toNat (⟨x.f0, x.f1, x.f2, x.f3⟩ : S113)) = List.map (fun x : S112 => (⟨x.f0, x.f1, x.f2, x.f3⟩ : S113)) (p0 ++ x :: y :: post) := by
          rw [Int.toNat_natCast, Int.toNat_natCast]
          simp only [List.map_append, List.map_cons, List.map_nil, List.append_assoc, List.cons_append, List.nil_append]
          rw [List.set_append_right _ _ (by simp; omega), List.set_append_right _ _ (by simp; omega)]
          simp [hp0]
        rw [hset]
        exact hK
      · rw [List.append_assoc]
        exact List.Perm.append_left _ (List.Perm.swap _ _ _)
    · refine ⟨p0 ++ [y] ++ x :: post, ⟨1, fun K hK => ?_⟩, ?_, List.Perm.refl _⟩
      · obtain ⟨K, rfl⟩ : ∃ K', K = K' + 1 := ⟨K - 1, by omega⟩
        rw [substationref17_insert.l0, if_pos (by omega), if_pos (by omega), if_pos (by rw [hlenx]; omega), hw, if_pos (by omega), if_pos (by rw [hlenx]; omega), hrx, hry]
        have hbe := before_eq x y
        unfold cv at *
        simp only at *
        rw [hbe, Option.bind_some, if_neg hb]
      · have hyx := le_of_not_lt hb
        unfold Srt at hs ⊢
        rw [List.pairwise_append] at hs ⊢
        obtain ⟨a1, a2, a3⟩ := hs
        refine ⟨a1, List.pairwise_cons.2 ⟨hp, a2⟩, fun a ha b hbm => ?_⟩
        rcases List.mem_cons.1 hbm with rfl | hbm
        · rcases List.mem_append.1 ha with ha | ha
          · have := (List.pairwise_append.1 a1).2.2 a ha y (by simp)
            exact le_trans _ _ _ this hyx
          · obtain rfl := List.mem_singleton.1 ha
            exact hyx
        · exact a3 a ha b hbm
theorem insert_f (x : S112) (l : List S112) (hlen : l.length < 100000) (hs : Srt l) : ∃ out : List S112, (Evr fun K => substationref17_insert.f K (l.map cv) x.f0 x.f1 x.f2 x.f3 = some (out.map cv)) ∧ Srt out ∧ out.Perm (l ++ [x]) := by
  obtain ⟨out, hev, h1, h2⟩ := insert_l0 x l.length l [] rfl (by simpa using (by omega : l.length < 1000000)) (by simpa using hs) (fun p hp => by cases hp)
  refine ⟨out, ?_, h1, h2⟩
  obtain ⟨K0, h0⟩ := hev
  refine ⟨K0, fun K hK => ?_⟩
  show substationref17_insert.f K (l.map cv) x.f0 x.f1 x.f2 x.f3 = some (out.map cv)
  unfold substationref17_insert.f
  rw [if_pos (by simp; omega), Option.bind_some]
  have e : l.map cv ++ [(⟨x.f0, x.f1, x.f2, x.f3⟩ : S113)] = (l ++ [x]).map cv := by simp [cv]
  have hw : wrap64 ((((l ++ [x]).map cv).length : Int) - 1) = (l.length : Int) := by
    have hl : (((l ++ [x]).map cv).length : Int) = (l.length : Int) + 1 := by simp
    rw [hl, w64 (by omega) (by omega)]; omega
  rw [e, hw]
  exact h0 K hK
/-! ### hops -/
theorem next_eq {n x : Int} (h3 : 3 ≤ n) (h40 : n ≤ 100) (h0 : 0 ≤ x) (h1 : x < n) : Int.tmod (wrap64 (x + 1)) n = rgNext n 0 x ∧ Int.tmod (wrap64 ((wrap64 (x + n)) - 1)) n = rgNext n 1 x := by
  constructor
  · rw [w64 (by omega) (by omega), Int.tmod_eq_emod_of_nonneg (by omega)]
    unfold rgNext; rw [if_neg (by omega)]
  · rw [w64 (x := x + n) (by omega) (by omega), w64 (by omega) (by omega), Int.tmod_eq_emod_of_nonneg (by omega)]
    unfold rgNext; rw [if_pos rfl]
def OpenFrom (cut : List Bool) (d v t : Int) (s : Nat) : Prop := ∀ j : Nat, s ≤ j → (j : Int) < dist cut.length d v t → rdOf false cut (lnk cut.length d v j) = false
theorem pos_succ {n d v j : Int} (h0 : 0 ≤ v) (h1 : v < n) (hj0 : 0 ≤ j) (hj1 : j + 1 < n) : pos n d (pos n d v j) 1 = pos n d v (j + 1) := by
  unfold pos; repeat' split
  all_goals omega
open Classical in
theorem hops_l0 (cut : List Bool) (d v t : Int) (h3 : 3 ≤ cut.length) (h40 : cut.length ≤ 40) (hd : d = 0 ∨ d = 1) (h0 : 0 ≤ v) (h1 : v < cut.length) (ht0 : 0 ≤ t) (ht1 : t < cut.length) :
    ∀ (r s : Nat), (s : Int) + r = dist cut.length d v t → Evr fun K => substationref17_Hops.l0 K t d cut.length s (pos cut.length d v s) cut = some (if OpenFrom cut d v t s then (dist cut.length d v t, true) else (0, false))
  | 0, s, hs => by
    refine ⟨1, fun K hK => ?_⟩
    obtain ⟨K, rfl⟩ : ∃ K', K = K' + 1 := ⟨K - 1, by omega⟩
    have hdi := dist_in (d := d) h0 h1 ht0 ht1
    rw [substationref17_Hops.l0, if_pos ((pos_iff h0 h1 ht0 ht1 (by omega) (by omega)).2 (by omega)), if_pos (show OpenFrom cut d v t s from fun j hj1 hj2 => by omega)]
    congr 2
  | r + 1, s, hs => by
    have hdi := dist_in (d := d) h0 h1 ht0 ht1
    have hp := pos_in (d := d) (j := (s : Int)) h0 h1 (by omega) (by omega)
    have hp1 := pos_in (d := d) (j := (s : Int) + 1) h0 h1 (by omega) (by omega)
    have hne : ¬ pos cut.length d v s = t := fun e => by
      have := (pos_iff h0 h1 ht0 ht1 (by omega) (by omega)).1 e
      omega
    have ih := hops_l0 cut d v t h3 h40 hd h0 h1 ht0 ht1 r (s + 1) (by omega)
    have hnx := next_eq (n := cut.length) (by omega) (by omega) hp.1 hp.2
    have hps : rgNext cut.length d (pos cut.length d v s) = pos cut.length d v ((s : Int) + 1) := by
      rw [next_if hp.1 hp.2, pos_succ h0 h1 (by omega) (by omega)]
    have hw : wrap64 ((s : Int) + 1) = ((s + 1 : Nat) : Int) := by rw [w64 (by omega) (by omega)]; omega
    refine ih.step fun K hK => ?_
    rw [substationref17_Hops.l0, if_neg hne, if_neg (by omega), hnx.1, hnx.2, hw]
    have hc1 : ((s + 1 : Nat) : Int) = (s : Int) + 1 := by omega
    rcases hd with hd | hd
    · subst hd
      have hl : lnk cut.length 0 v s = pos cut.length 0 v s := by unfold lnk; rw [if_neg (by omega)]
      rw [if_neg (by omega), if_pos hp.1, if_pos hp.2, hps]
      by_cases hcut : rdOf false cut (pos cut.length 0 v s) = true
      · rw [if_pos hcut, if_neg (fun ho => by
          have := ho s (Nat.le_refl _) (by omega)
          rw [hl, hcut] at this; cases this)]
      · rw [if_neg hcut]
        rw [hc1] at hK ⊢
        rw [hK]
        congr 1
        by_cases ho : OpenFrom cut 0 v t (s + 1)
        · rw [if_pos ho, if_pos (show OpenFrom cut 0 v t s from fun j hj1 hj2 => by
            by_cases e : j = s
            · subst e; rw [hl]; simpa using hcut
            · exact ho j (by omega) hj2)]
        · rw [if_neg ho, if_neg (fun h => ho (fun j hj1 hj2 => h j (by omega) hj2))]
    · subst hd
      have hl : lnk cut.length 1 v s = pos cut.length 1 v ((s : Int) + 1) := by unfold lnk; rw [if_pos rfl]
      rw [if_pos rfl, hps, if_pos hp1.1, if_pos hp1.2]
      by_cases hcut : rdOf false cut (pos cut.length 1 v ((s : Int) + 1)) = true
      · rw [if_pos hcut, if_neg (fun ho => by
          have := ho s (Nat.le_refl _) (by omega)
          rw [hl, hcut] at this; cases this)]
      · rw [if_neg hcut]
        rw [hc1] at hK ⊢
        rw [hK]
        congr 1
        by_cases ho : OpenFrom cut 1 v t (s + 1)
        · rw [if_pos ho, if_pos (show OpenFrom cut 1 v t s from fun j hj1 hj2 => by
            by_cases e : j = s
            · subst e; rw [hl]; simpa using hcut
            · exact ho j (by omega) hj2)]
        · rw [if_neg ho, if_neg (fun h => ho (fun j hj1 hj2 => h j (by omega) hj2))]
theorem check_f {cut : List Bool} (h3 : 3 ≤ cut.length) (h40 : cut.length ≤ 40) : substationref17_Check.f cut = some 0 := by
  unfold substationref17_Check.f
  rw [if_neg (by omega), if_neg (by omega)]
theorem node_f {cut : List Bool} {v : Int} (h0 : 0 ≤ v) : substationref17_node.f cut v = some (decide (v < cut.length)) := by
  unfold substationref17_node.f
  rw [if_pos h0]
open Classical in
/-- The specification's hops are the program's, at a node. -/
theorem hops_f (cut : List Bool) (d v t : Int) (h3 : 3 ≤ cut.length) (h40 : cut.length ≤ 40) (hd : d = 0 ∨ d = 1) (h0 : 0 ≤ v) (h1 : v < cut.length) (ht0 : 0 ≤ t) (ht1 : t < cut.length) :
    Evr fun K => substationref17_Hops.f K cut v t d = some (rgHops cut v t d) := by
  have hr : rgHops cut v t d = (match rgFind (rgWay cut d (cut.length - 1) v 1) t with | some p => (p.2, true) | none => ((0 : Int), false)) := by
    unfold rgHops
    rw [if_pos ⟨has_iff.2 ⟨⟨⟨h3, h40⟩, h0⟩, h1⟩, hd⟩]
    rfl
  rw [find_open h0 h1 ht0 ht1] at hr
  by_cases hvt : v = t
  · have hd0 : dist cut.length d v t = 0 := by unfold dist; repeat' split
                                               all_goals omega
    rw [if_neg (fun h => by omega)] at hr
    refine ⟨1, fun K hK => ?_⟩
    obtain ⟨K, rfl⟩ : ∃ K', K = K' + 1 := ⟨K - 1, by omega⟩
    show substationref17_Hops.f (K + 1) cut v t d = some (rgHops cut v t d)
    unfold substationref17_Hops.f
    rw [check_f h3 h40, Option.bind_some, if_pos rfl, node_f h0, Option.bind_some, if_pos (decide_eq_true h1), node_f ht0, Option.bind_some, if_pos (decide_eq_true ht1), if_pos hvt, substationref17_Hops.j0, if_pos rfl, hr]
  · have hdi := dist_in (d := d) h0 h1 ht0 ht1
    have hd1 : 1 ≤ dist cut.length d v t := by unfold dist; repeat' split
                                               all_goals omega
    have h := hops_l0 cut d v t h3 h40 hd h0 h1 ht0 ht1 (dist cut.length d v t).toNat 0 (by omega)
    refine h.step fun K hK => ?_
    have hcast : ((0 : Nat) : Int) = 0 := rfl
    rw [hcast, pos_zero h0 h1] at hK
    have hres : (if OpenFrom cut d v t 0 then (dist cut.length d v t, true) else ((0 : Int), false)) = rgHops cut v t d := by
      rw [hr]
      by_cases ho : RgC.Open cut d v t
      · rw [if_pos (show OpenFrom cut d v t 0 from fun j _ hj => ho j hj), if_pos ⟨hd1, ho⟩]
      · rw [if_neg (fun h => ho (fun j hj => h j (Nat.zero_le _) hj)), if_neg (fun h => ho h.2)]
    rw [hres] at hK
    show substationref17_Hops.f (K + 1) cut v t d = some (rgHops cut v t d)
    unfold substationref17_Hops.f
    rw [check_f h3 h40, Option.bind_some, if_pos rfl, node_f h0, Option.bind_some, if_pos (decide_eq_true h1), node_f ht0, Option.bind_some, if_pos (decide_eq_true ht1), if_neg hvt]
    rcases hd with hd | hd
    · subst hd
      rw [if_pos rfl, substationref17_Hops.j0, if_neg (by decide)]
      exact hK
    · subst hd
      rw [if_neg (by omega), substationref17_Hops.j0, if_neg (by decide)]
      exact hK
end Go.Proofs.Ytnjddjpohobelaa.RgR
end
section
namespace Go.Proofs.Ytnjddjpohobelaa.RgS
set_option linter.unusedVariables false
set_option linter.unusedSimpArgs false
set_option linter.unusedSectionVars false
open Go.RowKit Go.Proofs.YtnjddjpohobelaaW.PrintWords Go.Proofs.YtnjddjpohobelaaW.PrintMore Go.Proofs.Ytnjddjpohobelaa.XB Go.Proofs.Ytnjddjpohobelaa.RgA Go.Proofs.Ytnjddjpohobelaa.RgB Go.Proofs.Ytnjddjpohobelaa.RgC Go.Proofs.Ytnjddjpohobelaa.RgR
theorem way_form {cut : List Bool} {d v : Int} (h0 : 0 ≤ v) (h1 : v < cut.length) : ∃ m : Nat, (m : Int) < cut.length ∧ rgWay cut d (cut.length - 1) v 1 = wayL cut.length d v 1 m := by
  obtain ⟨m, hm, hfree, hcut⟩ := first_stop (fun j => rdOf false cut (lnk cut.length d v j) = true) (cut.length - 1)
  have hf := way_free cut d m v 1 h0 h1 (by omega) (fun j hj => by
    have := hfree j hj
    simpa using this)
  refine ⟨m, by omega, ?_⟩
  by_cases he : m < cut.length - 1
  · rw [way_stop cut d m (cut.length - 1) v 1 hm h0 h1 (by omega) (hcut he)]; exact hf
  · have : m = cut.length - 1 := by omega
    rw [← this]; exact hf
/-- What arrives at one node in one direction. -/
def part (cut : List Bool) (i : Nat) (f : S71) (d t : Int) : List S112 := if (rgHops cut f.f0 t d).2 = true then [⟨i, t, f.f1 + (rgHops cut f.f0 t d).1, d⟩] else []
theorem filt_way {n d v t : Int} (i : Nat) (f : S71) (h0 : 0 ≤ v) (h1 : v < n) (ht0 : 0 ≤ t) (ht1 : t < n) : ∀ m : Nat, (m : Int) < n →
    ((wayL n d v 1 m).map (rgArr i f d)).filter (fun x => decide (x.f1 = t)) = if 1 ≤ dist n d v t ∧ dist n d v t ≤ m then [rgArr i f d (t, dist n d v t)] else []
  | 0, _ => by rw [if_neg (by omega)]; rfl
  | m + 1, hm => by
    have hs : (wayL n d v 1 (m + 1)).map (rgArr i f d) = (wayL n d v 1 m).map (rgArr i f d) ++ [rgArr i f d (pos n d v ((m : Int) + 1), 1 + m)] := by
      unfold wayL; rw [List.range_succ]; simp
    rw [hs, List.filter_append, filt_way i f h0 h1 ht0 ht1 m (by omega)]
    by_cases h : dist n d v t = (m : Int) + 1
    · have hp := (pos_iff (d := d) h0 h1 ht0 ht1 (show (0 : Int) ≤ (m : Int) + 1 by omega) (by omega)).2 h.symm
      rw [if_neg (by omega), if_pos (by omega), hp, h]
      simp [rgArr]
      omega
    · have hp : ¬ pos n d v ((m : Int) + 1) = t := fun e => h ((pos_iff h0 h1 ht0 ht1 (by omega) (by omega)).1 e).symm
      have hf : List.filter (fun x : S112 => decide (x.f1 = t)) [rgArr i f d (pos n d v ((m : Int) + 1), 1 + (m : Int))] = [] := by
        simp [rgArr, hp]
      rw [hf, List.append_nil]
      by_cases hj : 1 ≤ dist n d v t ∧ dist n d v t ≤ (m : Int)
      · rw [if_pos hj, if_pos (by omega)]
      · rw [if_neg hj, if_neg (by omega)]
theorem filt_dir {cut : List Bool} (i : Nat) (f : S71) {d t : Int} (h3 : 3 ≤ cut.length) (h40 : cut.length ≤ 40) (hd : d = 0 ∨ d = 1) (h0 : 0 ≤ f.f0) (h1 : f.f0 < cut.length) (ht0 : 0 ≤ t) (ht1 : t < cut.length) :
    (rgDir cut i f d).filter (fun x => decide (x.f1 = t)) = part cut i f d t := by
  obtain ⟨m, hm, hw⟩ := way_form (d := d) h0 h1
  have hh : rgHops cut f.f0 t d = (match rgFind (rgWay cut d (cut.length - 1) f.f0 1) t with | some p => (p.2, true) | none => ((0 : Int), false)) := by
    unfold rgHops
    rw [if_pos ⟨has_iff.2 ⟨⟨⟨h3, h40⟩, h0⟩, h1⟩, hd⟩]
    rfl
  rw [hw, find_way h0 h1 ht0 ht1 m hm] at hh
  unfold rgDir part
  rw [hw, filt_way i f h0 h1 ht0 ht1 m hm]
  by_cases h : 1 ≤ dist cut.length d f.f0 t ∧ dist cut.length d f.f0 t ≤ m
  · rw [if_pos h] at hh ⊢
    rw [hh]
    rfl
  · rw [if_neg h] at hh ⊢
    rw [hh]
    rfl
theorem filt_step (M : Int) : ∀ L : List S112, (L.filter fun x => decide (x.f1 < M + 1)).Perm ((L.filter fun x => decide (x.f1 < M)) ++ (L.filter fun x => decide (x.f1 = M)))
  | [] => List.Perm.refl _
  | x :: L => by
    have ih := filt_step M L
    by_cases h : x.f1 < M
    · rw [List.filter_cons_of_pos (by simp; omega), List.filter_cons_of_pos (by simpa using h), List.filter_cons_of_neg (by simp; omega)]
      exact List.Perm.cons _ ih
    · by_cases e : x.f1 = M
      · rw [List.filter_cons_of_pos (by simp; omega), List.filter_cons_of_neg (by simpa using h), List.filter_cons_of_pos (by simpa using e)]
        exact (List.Perm.cons _ ih).trans List.perm_middle.symm
      · rw [List.filter_cons_of_neg (by simp; omega), List.filter_cons_of_neg (by simpa using h), List.filter_cons_of_neg (by simpa using e)]
        exact ih
def acc (cut : List Bool) (i : Nat) (f : S71) (M : Int) : List S112 := (rgDirs cut i f 2).filter fun x => decide (x.f1 < M)
theorem dirs_two (cut : List Bool) (i : Nat) (f : S71) : rgDirs cut i f 2 = rgDir cut i f 0 ++ rgDir cut i f 1 := rfl
theorem dir_nodes {cut : List Bool} {i : Nat} {f : S71} {d : Int} (h0 : 0 ≤ f.f0) (h1 : f.f0 < cut.length) : ∀ x, x ∈ rgDir cut i f d → 0 ≤ x.f1 ∧ x.f1 < cut.length := by
  obtain ⟨m, hm, hw⟩ := way_form (d := d) h0 h1
  intro x hx
  unfold rgDir at hx
  rw [hw] at hx
  obtain ⟨p, hp, rfl⟩ := List.mem_map.1 hx
  unfold wayL at hp
  obtain ⟨j, hj, rfl⟩ := List.mem_map.1 hp
  rw [List.mem_range] at hj
  exact pos_in (d := d) (j := (j : Int) + 1) h0 h1 (by omega) (by omega)
theorem dirs_nodes {cut : List Bool} {i : Nat} {f : S71} (h0 : 0 ≤ f.f0) (h1 : f.f0 < cut.length) : ∀ x, x ∈ rgDirs cut i f 2 → 0 ≤ x.f1 ∧ x.f1 < cut.length := by
  intro x hx
  rw [dirs_two] at hx
  rcases List.mem_append.1 hx with hx | hx
  · exact dir_nodes h0 h1 x hx
  · exact dir_nodes h0 h1 x hx
theorem acc_zero {cut : List Bool} {i : Nat} {f : S71} (h0 : 0 ≤ f.f0) (h1 : f.f0 < cut.length) : acc cut i f 0 = [] := by
  unfold acc
  rw [List.filter_eq_nil_iff]
  intro x hx
  have := dirs_nodes h0 h1 x hx
  simp; omega
theorem acc_all {cut : List Bool} {i : Nat} {f : S71} (h0 : 0 ≤ f.f0) (h1 : f.f0 < cut.length) : acc cut i f cut.length = rgDirs cut i f 2 := by
  unfold acc
  rw [List.filter_eq_self]
  intro x hx
  have := dirs_nodes h0 h1 x hx
  simp; omega
theorem acc_step {cut : List Bool} (i : Nat) (f : S71) {M : Int} (h3 : 3 ≤ cut.length) (h40 : cut.length ≤ 40) (h0 : 0 ≤ f.f0) (h1 : f.f0 < cut.length) (hM0 : 0 ≤ M) (hM1 : M < cut.length) :
    (acc cut i f (M + 1)).Perm (acc cut i f M ++ part cut i f 0 M ++ part cut i f 1 M) := by
  unfold acc
  refine (filt_step M _).trans ?_
  rw [List.append_assoc]
  refine List.Perm.append_left _ ?_
  rw [dirs_two, List.filter_append, filt_dir i f h3 h40 (.inl rfl) h0 h1 hM0 hM1, filt_dir i f h3 h40 (.inr rfl) h0 h1 hM0 hM1]
/-! ### the run -/
def fr (f : S71) : S72 := ⟨f.f0, f.f1⟩
theorem rd_fr (fs : List S71) (i : Nat) (hi : i < fs.length) : rd_T72 (fs.map fr) (i : Int) = fr (rd_T71 fs i) := by
  unfold rd_T72 rd_T71
  simp only [Int.toNat_natCast, List.getD_eq_getElem?_getD, List.getElem?_map, List.getElem?_eq_getElem hi, Option.map_some, Option.getD_some]
theorem acc_len (cut : List Bool) (i : Nat) (f : S71) (M : Int) (h40 : cut.length ≤ 40) : (acc cut i f M).length ≤ 80 := by
  unfold acc
  have := rgDirs_len cut i f h40 2
  exact Nat.le_trans (List.length_filter_le _ _) this
theorem part_len (cut : List Bool) (i : Nat) (f : S71) (d t : Int) : (part cut i f d t).length ≤ 1 := by
  unfold part; split <;> simp
section
variable {cut : List Bool} {fs : List S71} (h3 : 3 ≤ cut.length) (h40 : cut.length ≤ 40) (hfs : fs.length ≤ 12)
include h3 h40 hfs
/-- One node in one direction. -/
theorem l2_one {R : List S113} {i : Nat} {f : S71} (hf0 : 0 ≤ f.f0) (hf1 : f.f0 < cut.length) (hg0 : 0 ≤ f.f1) (hg1 : f.f1 ≤ 1000000) {M : Nat} (hM : M < cut.length) {d : Int} (hd : d = 0 ∨ d = 1) {X : List S112} (hX : X.length < 10000)
    (hnext : ∀ out : List S112, Srt out → out.Perm (X ++ part cut i f d M) → Evr fun K => substationref17_Run.l2 K (fs.map fr) (out.map cv) i M (d + 1) cut f.f0 f.f1 = some R) :
    ∀ out : List S112, Srt out → out.Perm X → Evr fun K => substationref17_Run.l2 K (fs.map fr) (out.map cv) i M d cut f.f0 f.f1 = some R := by
  intro out hs hp
  have hh := hops_f cut d f.f0 M h3 h40 hd hf0 hf1 (by omega) (by omega)
  have HW : Aside0 (wrap64 (d + 1) = d + 1) := ⟨w64 (by omega) (by omega)⟩
  have hd2 : d < 2 := by omega
  by_cases hb : (rgHops cut f.f0 M d).2 = true
  · have hk : 0 ≤ (rgHops cut f.f0 M d).1 ∧ (rgHops cut f.f0 M d).1 < 100 := by
      have hr : rgHops cut f.f0 M d = (match rgFind (rgWay cut d (cut.length - 1) f.f0 1) M with | some p => (p.2, true) | none => ((0 : Int), false)) := by
        unfold rgHops
        rw [if_pos ⟨has_iff.2 ⟨⟨⟨h3, h40⟩, hf0⟩, hf1⟩, hd⟩]
        rfl
      have hdi := dist_in (d := d) (t := (M : Int)) hf0 hf1 (by omega) (by omega)
      obtain ⟨m, hm, hwf⟩ := way_form (d := d) hf0 hf1
      rw [hwf, find_way hf0 hf1 (by omega) (by omega) m hm] at hr
      rw [hr]
      split
      · rename_i p hp'
        split at hp'
        · cases hp'; simp only; omega
        · cases hp'
      · simp
    obtain ⟨out', hev, h1, h2⟩ := insert_f ⟨i, M, f.f1 + (rgHops cut f.f0 M d).1, d⟩ out (by have := hp.length_eq; omega) hs
    have hpart : part cut i f d M = [⟨i, M, f.f1 + (rgHops cut f.f0 M d).1, d⟩] := by unfold part; rw [if_pos hb]
    have hn := hnext out' h1 (by rw [hpart]; exact h2.trans (List.Perm.append_right _ hp))
    refine ((hh.both hev).both hn).step fun K hK => ?_
    obtain ⟨⟨k1, k2⟩, k3⟩ := hK
    rw [substationref17_Run.l2, if_pos hd2, k1, Option.bind_some, if_pos hb, w64 (x := f.f1 + _) (by omega) (by omega), k2, Option.bind_some, HW.out]
    exact k3
  · have hpart : part cut i f d M = [] := by unfold part; rw [if_neg hb]
    have hn := hnext out hs (by rw [hpart, List.append_nil]; exact hp)
    refine (hh.both hn).step fun K hK => ?_
    obtain ⟨k1, k3⟩ := hK
    rw [substationref17_Run.l2, if_pos hd2, k1, Option.bind_some, if_neg hb, HW.out]
    exact k3
theorem l1_evr {R : List S113} {i : Nat} (hi : i < fs.length) {f : S71} (hf0 : 0 ≤ f.f0) (hf1 : f.f0 < cut.length) (hg0 : 0 ≤ f.f1) (hg1 : f.f1 ≤ 1000000) {B : List S112} (hB : B.length < 5000)
    (hnext : ∀ out : List S112, Srt out → out.Perm (B ++ rgDirs cut i f 2) → Evr fun K => substationref17_Run.l0 K (fs.map fr) (out.map cv) ((i + 1 : Nat) : Int) cut = some R) :
    ∀ (r M : Nat), M + r = cut.length → ∀ out : List S112, Srt out → out.Perm (B ++ acc cut i f M) → Evr fun K => substationref17_Run.l1 K (fs.map fr) (out.map cv) i M cut f.f0 f.f1 = some R
  | 0, M, hM, out, hs, hp => by
    have : M = cut.length := by omega
    subst this
    rw [acc_all hf0 hf1] at hp
    refine (hnext out hs hp).step fun K hK => ?_
    have HW : Aside0 (wrap64 ((i : Int) + 1) = ((i + 1 : Nat) : Int)) := ⟨by rw [w64 (by omega) (by omega)]; omega⟩
    rw [substationref17_Run.l1, if_neg (by omega), HW.out]
    exact hK
  | r + 1, M, hM, out, hs, hp => by
    have ih := l1_evr hi hf0 hf1 hg0 hg1 hB hnext r (M + 1) (by omega)
    have hal := acc_len cut i f M h40
    have hpl := part_len cut i f 0 M
    have HW : Aside0 (wrap64 ((M : Int) + 1) = ((M + 1 : Nat) : Int)) := ⟨by rw [w64 (by omega) (by omega)]; omega⟩
    have hend : ∀ out : List S112, Srt out → out.Perm (B ++ acc cut i f M ++ part cut i f 0 M ++ part cut i f 1 M) → Evr fun K => substationref17_Run.l2 K (fs.map fr) (out.map cv) i M (1 + 1) cut f.f0 f.f1 = some R := by
      intro out hs hp
      have hst := acc_step i f (M := (M : Int)) h3 h40 hf0 hf1 (by omega) (by omega)
      have hcast : ((M + 1 : Nat) : Int) = (M : Int) + 1 := by omega
      refine (ih out hs ?_).step fun K hK => ?_
      · rw [hcast]
        refine hp.trans ?_
        rw [List.append_assoc, List.append_assoc]
        refine List.Perm.append_left _ ?_
        rw [← List.append_assoc]
        exact hst.symm
      · rw [substationref17_Run.l2, if_neg (by omega), HW.out]
        exact hK
    have h1 := l2_one h3 h40 hfs (R := R) (i := i) hf0 hf1 hg0 hg1 (M := M) (by omega) (d := 1) (.inr rfl) (X := B ++ acc cut i f M ++ part cut i f 0 M) (by simp only [List.length_append]; omega) hend
    have h0 := l2_one h3 h40 hfs (R := R) (i := i) hf0 hf1 hg0 hg1 (M := M) (by omega) (d := 0) (.inl rfl) (X := B ++ acc cut i f M) (by simp only [List.length_append]; omega) h1
    refine (h0 out hs hp).step fun K hK => ?_
    rw [substationref17_Run.l1, if_pos (by omega)]
    exact hK
theorem l0_evr : ∀ (r i : Nat), i + r = fs.length → ∀ out : List S112, Srt out → out.Perm (rgRuns cut fs i) → Evr fun K => substationref17_Run.l0 K (fs.map fr) (out.map cv) i cut = some ((rgSort (rgRuns cut fs fs.length)).map cv)
  | 0, i, hi, out, hs, hp => by
    have : i = fs.length := by omega
    subst this
    have he := sort_eq hp hs
    refine ⟨2, fun K hK => ?_⟩
    obtain ⟨K, rfl⟩ : ∃ K', K = K' + 2 := ⟨K - 2, by omega⟩
    rw [substationref17_Run.l0, if_neg (by simp), substationref17_Run.j1, if_neg (by decide), he]
  | r + 1, i, hi, out, hs, hp => by
    have ih := l0_evr r (i + 1) (by omega)
    have HW : Aside0 (wrap64 ((i : Int) + 1) = ((i + 1 : Nat) : Int)) := ⟨by rw [w64 (by omega) (by omega)]; omega⟩
    have hrd := rd_fr fs i (by omega)
    have hcast : ((i : Nat) : Int) = (i : Int) := rfl
    have hrl := rgRuns_len cut fs i
    generalize hf : rd_T71 fs (i : Int) = f at hrd
    have hj2 : ∀ b : Bool, (b = true → rgGood cut f = false) → (b = false → rgGood cut f = true) → Evr fun K => substationref17_Run.j2 K (fs.map fr) (out.map cv) i b cut f.f0 f.f1 = some ((rgSort (rgRuns cut fs fs.length)).map cv) := by
      intro b hb1 hb2
      cases b with
      | true =>
        refine (ih out hs (by rw [rgRuns, hf, hb1 rfl, if_neg (by decide), List.append_nil]; exact hp)).step fun K hK => ?_
        rw [substationref17_Run.j2, if_pos rfl, HW.out]
        exact hK
      | false =>
        have hg := hb2 rfl
        have hg' := hg
        unfold rgGood rgHas at hg'
        simp only [Bool.and_eq_true, decide_eq_true_eq] at hg'
        obtain ⟨⟨⟨⟨_, hf0⟩, hf1⟩, hg0⟩, hg1⟩ := hg'
        have h := l1_evr h3 h40 hfs (R := (rgSort (rgRuns cut fs fs.length)).map cv) (i := i) (by omega) hf0 hf1 hg0 hg1 (B := rgRuns cut fs i) (by omega) (fun out' hs' hp' => ih out' hs' (by rw [rgRuns, hf, if_pos hg]; exact hp')) cut.length 0 (by omega) out hs (by
          have : ((0 : Nat) : Int) = 0 := rfl
          rw [this, acc_zero hf0 hf1, List.append_nil]; exact hp)
        refine h.step fun K hK => ?_
        rw [substationref17_Run.j2, if_neg (by decide)]
        exact hK
    have hj1 : Evr fun K => substationref17_Run.j1 K (fs.map fr) (out.map cv) i true cut = some ((rgSort (rgRuns cut fs fs.length)).map cv) := by
      have hgood : rgGood cut f = (rgHas cut f.f0 && decide (0 ≤ f.f1) && decide (f.f1 ≤ 1000000)) := rfl
      have hhas : rgHas cut f.f0 = (decide (0 ≤ f.f0) && decide (f.f0 < cut.length)) := by
        unfold rgHas
        rw [decide_eq_true h3, decide_eq_true h40]; simp
      by_cases a0 : 0 ≤ f.f0
      · by_cases a1 : f.f0 < cut.length
        · by_cases a2 : f.f1 < 0
          · refine (hj2 true (fun _ => by rw [hgood, decide_eq_false (by omega : ¬ 0 ≤ f.f1)]; simp) (fun h => by cases h)).step fun K hK => ?_
            rw [substationref17_Run.j1, if_pos rfl, if_pos (by omega), if_pos (by simp; omega), hrd]
            rw [(node_f a0 : substationref17_node.f cut (fr f).f0 = _), Option.bind_some, (decide_eq_true a1 : decide ((fr f).f0 < (cut.length : Int)) = true), if_pos rfl, if_pos (show (fr f).f1 < 0 from a2)]
            exact hK
          · by_cases a3 : f.f1 > 1000000
            · refine (hj2 true (fun _ => by rw [hgood, decide_eq_false (by omega : ¬ f.f1 ≤ 1000000)]; simp) (fun h => by cases h)).step fun K hK => ?_
              rw [substationref17_Run.j1, if_pos rfl, if_pos (by omega), if_pos (by simp; omega), hrd]
              rw [(node_f a0 : substationref17_node.f cut (fr f).f0 = _), Option.bind_some, (decide_eq_true a1 : decide ((fr f).f0 < (cut.length : Int)) = true), if_pos rfl, if_neg (show ¬ (fr f).f1 < 0 from a2), (decide_eq_true a3 : decide ((fr f).f1 > 1000000) = true)]
              exact hK
            · refine (hj2 false (fun h => by cases h) (fun _ => by rw [hgood, hhas, decide_eq_true a0, decide_eq_true a1, decide_eq_true (by omega : 0 ≤ f.f1), decide_eq_true (by omega : f.f1 ≤ 1000000)]; rfl)).step fun K hK => ?_
              rw [substationref17_Run.j1, if_pos rfl, if_pos (by omega), if_pos (by simp; omega), hrd]
              rw [(node_f a0 : substationref17_node.f cut (fr f).f0 = _), Option.bind_some, (decide_eq_true a1 : decide ((fr f).f0 < (cut.length : Int)) = true), if_pos rfl, if_neg (show ¬ (fr f).f1 < 0 from a2), (decide_eq_false a3 : decide ((fr f).f1 > 1000000) = false)]
              exact hK
        · refine (hj2 true (fun _ => by rw [hgood, hhas, decide_eq_false a1]; simp) (fun h => by cases h)).step fun K hK => ?_
          rw [substationref17_Run.j1, if_pos rfl, if_pos (by omega), if_pos (by simp; omega), hrd]
          rw [(node_f a0 : substationref17_node.f cut (fr f).f0 = _), Option.bind_some, (decide_eq_false a1 : decide ((fr f).f0 < (cut.length : Int)) = false), if_neg (by decide)]
          exact hK
      · refine (hj2 true (fun _ => by rw [hgood, hhas, decide_eq_false a0]; simp) (fun h => by cases h)).step fun K hK => ?_
        rw [substationref17_Run.j1, if_pos rfl, if_pos (by omega), if_pos (by simp; omega), hrd]
        have hn : substationref17_node.f cut (fr f).f0 = some false := by unfold substationref17_node.f; rw [if_neg (show ¬ (fr f).f0 ≥ 0 from a0)]
        rw [hn, Option.bind_some, if_neg (by decide)]
        exact hK
    refine hj1.step fun K hK => ?_
    rw [substationref17_Run.l0, if_pos (by simp; omega), decide_eq_true (by omega : (i : Int) < 100)]
    exact hK
end
theorem runs_bad {cut : List Bool} (fs : List S71) (h : ¬ (3 ≤ cut.length ∧ cut.length ≤ 40)) : ∀ i, rgRuns cut fs i = []
  | 0 => rfl
  | i + 1 => by
    have hg : ¬ rgGood cut (rd_T71 fs i) = true := fun hg => by
      unfold rgGood rgHas at hg
      simp only [Bool.and_eq_true, decide_eq_true_eq] at hg
      omega
    rw [rgRuns, runs_bad fs h i, if_neg hg]
    rfl
theorem run_evr {cut : List Bool} {fs : List S71} (hfs : fs.length ≤ 12) : Evr fun K => substationref17_Run.f K cut (fs.map fr) = some ((rgSort (rgRuns cut fs fs.length)).map cv) := by
  by_cases h : 3 ≤ cut.length ∧ cut.length ≤ 40
  · obtain ⟨K0, h0⟩ := l0_evr h.1 h.2 hfs fs.length 0 (by omega) [] List.Pairwise.nil (List.Perm.refl _)
    refine ⟨K0, fun K hK => ?_⟩
    show substationref17_Run.f K cut (fs.map fr) = _
    unfold substationref17_Run.f
    rw [check_f h.1 h.2, Option.bind_some, if_pos rfl]
    exact h0 K hK
  · refine ⟨0, fun K hK => ?_⟩
    show substationref17_Run.f K cut (fs.map fr) = _
    obtain ⟨r, hcr, hr0⟩ : ∃ r, substationref17_Check.f cut = some r ∧ ¬ r = 0 := by
      unfold substationref17_Check.f
      split
      · exact ⟨_, rfl, by omega⟩
      · split
        · exact ⟨_, rfl, by omega⟩
        · omega
    unfold substationref17_Run.f
    have hs0 : rgSort [] = [] := List.eq_nil_of_length_eq_zero (rgSort_len [])
    rw [hcr, Option.bind_some, if_neg hr0, runs_bad fs h, hs0]
    rfl
end Go.Proofs.Ytnjddjpohobelaa.RgS
end
