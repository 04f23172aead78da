/- A part of the proof of the law integerSmall_holds: general lemmas, functions of the program as plain functions with proofs that the calls compute them, and what they compute; merged from this session's texts. -/
import Derived.Test.YtmjceijbbodbfaaDoorMSmall7
import Derived.ChangeArms
import Derived.DataReads
import Derived.Deep.Slices
import Derived.ProofKit
import Derived.OpenShut
section
namespace Go.Proofs.YtmjceijbbodbfaaDoor.XOpen
open Go.RowKit Go.Proofs.YtmjceijbbodbfaaDoorW.PrintWords Go.Proofs.YtmjceijbbodbfaaDoorW.PrintMore
set_option linter.unusedVariables false
/-- Whatever reads as a datum of type t is a value of kind d, and it is 'ok'. -/
def Opens {α : Type} (P : Program) (d : Kd α) (t : TypeId) (ok : α → Prop) : Prop :=
  ∀ (H : Type) (enc : TypeId × Value → H) (w : World) (base : Nat) (spare : Nat → Bool) (held : Bool) (fuel : Nat) (cs : List Value) (x : DataW H × List MemPlace),
    DataW.trod enc P w base spare held fuel t cs = some x → ∃ y, d.K w y cs ∧ ok y
theorem Opens.imp {α : Type} {P : Program} {d : Kd α} {t : TypeId} {ok ok' : α → Prop} (h : Opens P d t ok) (hi : ∀ y, ok y → ok' y) : Opens P d t ok' :=
  fun H enc w base spare held fuel cs x hx => by
    obtain ⟨y, hk, ho⟩ := h H enc w base spare held fuel cs x hx
    exact ⟨y, hk, hi y ho⟩
theorem opens_int {P : Program} {t : TypeId} {k : IntKind} (ht : P.underlying t = some (.int k)) : Opens P (Kd.int k) t (fun n => (Lit.int k n).wf = true) :=
  fun H enc w base spare held fuel cs x hx => by
    obtain ⟨n, rfl, _, hw⟩ := DataW.trod_int ht hx
    exact ⟨n, rfl, hw⟩
theorem opens_bool {P : Program} {t : TypeId} (ht : P.underlying t = some .bool) : Opens P Kd.bool t (fun _ => True) :=
  fun H enc w base spare held fuel cs x hx => by
    obtain ⟨b, rfl, _⟩ := DataW.trod_bool ht hx
    exact ⟨b, rfl, trivial⟩
theorem opens_string {P : Program} {t : TypeId} (ht : P.underlying t = some .string) : Opens P Kd.string t (fun s => s.size ≤ 9223372036854775807) :=
  fun H enc w base spare held fuel cs x hx => by
    obtain ⟨s, rfl, _, hs⟩ := DataW.trod_string ht hx
    exact ⟨s, rfl, hs⟩
theorem cells_cell {w : World} {base : Nat} {a : Addr} {n : Nat} {cs : List Value} (h : w.cells? base a n = some cs) : cs.length = n ∧ ∀ i u, cs[i]? = some u → w.cell? (a.add i) = some u := by
  obtain ⟨_, hl, hc⟩ := World.cells?_some h
  exact ⟨hl, fun i u hu => (hc i (by have := (List.getElem?_eq_some_iff.1 hu).1; omega)).trans hu⟩
theorem len_cons {α : Type} {l : List α} {n : Nat} (h : l.length = n + 1) : ∃ a t, l = a :: t ∧ t.length = n := by
  cases l with
  | nil => simp at h
  | cons a t => exact ⟨a, t, rfl, by simpa using h⟩
theorem opens_slice {α : Type} {P : Program} {d : Kd α} {t e : TypeId} {ok : α → Prop} (ht : P.underlying t = some (.slice e)) (hc : P.cellsOf e = d.sz) (he : Opens P d e ok) :
    Opens P (Kd.slice e d) t (fun xs => xs.length ≤ 9223372036854775807 ∧ ∀ x ∈ xs, ok x) :=
  fun H enc w base spare held fuel cs x hx => by
    rcases Go.Deep.open_slice ht hx with ⟨rfl, _⟩ | ⟨a, len, cap, m, n, D, Pl, rfl, _, hl, hm, hmm, _, hel⟩
    · exact ⟨[], ⟨none, 0, rfl, Nat.le_refl _, Kd.C_nil _ _⟩, by simp, fun x hx => by cases hx⟩
    · have hlm : len ≤ m := by rw [hmm]; split <;> omega
      have hlen : len ≤ 9223372036854775807 := by unfold maxLen at hm; omega
      have key : ∀ k, k ≤ len → ∃ xs : List α, xs.length = k ∧ (∀ x ∈ xs, ok x) ∧ ∀ j p, xs[j]? = some p → ∃ c, c.length = d.sz ∧ d.K w p c ∧ ∀ i u, c[i]? = some u → w.cell? (a.add (j * d.sz + i)) = some u := by
        intro k
        induction k with
        | zero => exact fun _ => ⟨[], rfl, fun x hx => (by cases hx), fun j p hj => by simp at hj⟩
        | succ k ih =>
          intro hk
          obtain ⟨xs, hxl, hok, hxs⟩ := ih (by omega)
          obtain ⟨cs', hcs, htr⟩ := hel k (by omega)
          obtain ⟨y, hy, hoky⟩ := he H enc w base spare held n cs' _ htr
          obtain ⟨hl2, hc2⟩ := cells_cell hcs
          refine ⟨xs ++ [y], by simp [hxl], fun x hx => ?_, fun j p hj => ?_⟩
          · rcases List.mem_append.1 hx with h1 | h1
            · exact hok x h1
            · rw [List.mem_singleton.1 h1]; exact hoky
          · rcases Nat.lt_or_ge j xs.length with hj2 | hj2
            · rw [List.getElem?_append_left hj2] at hj
              exact hxs j p hj
            · have hj3 : j = xs.length := by
                have := (List.getElem?_eq_some_iff.1 hj).1
                simp at this
                omega
              subst hj3
              have hp : y = p := by simpa using hj
              subst hp
              refine ⟨cs', by rw [hl2, hc], hy, fun i u hu => ?_⟩
              have h3 := hc2 i u hu
              rw [hc, ← hxl] at h3
              have h4 : (a.add (xs.length * d.sz)).add i = a.add (xs.length * d.sz + i) := Addr.add_add _ _ _
              rw [h4] at h3
              exact h3
      obtain ⟨xs, hxl, hok, hxs⟩ := key len (Nat.le_refl _)
      subst hxl
      exact ⟨xs, ⟨some a, cap, rfl, hl, rfl, hlen, fun _ => ⟨a, rfl, hxs⟩⟩, hlen, hok⟩
end Go.Proofs.YtmjceijbbodbfaaDoor.XOpen
end
section
namespace Go.Proofs.YtmjceijbbodbfaaDoor.RIntegerSmall
open Go.RowKit Go.Proofs.YtmjceijbbodbfaaDoorW.PrintWords Go.Proofs.YtmjceijbbodbfaaDoorW.PrintLast Go.Proofs.YtmjceijbbodbfaaDoorW.PrintMore Go.Proofs.YtmjceijbbodbfaaDoor.XA Go.Proofs.YtmjceijbbodbfaaDoor.XOpen
set_option linter.unusedVariables false
/-- The pure statement of the law. -/
def Pure : Prop := ∀ (x0 : Int) (x1 : Int), (Lit.int .i64 x0).wf = true → (Lit.int .i64 x1).wf = true → ∃ k, substationlaw01_IntegerSmall.f k x0 x1 = some true
end Go.Proofs.YtmjceijbbodbfaaDoor.RIntegerSmall
end
section
namespace Go.Proofs.YtmjceijbbodbfaaDoor.Pure
open Go.RowKit Go.Proofs.YtmjceijbbodbfaaDoorW.PrintWords Go.Proofs.YtmjceijbbodbfaaDoorW.PrintMore Go.Proofs.YtmjceijbbodbfaaDoor.XA Go.Proofs.YtmjceijbbodbfaaDoor.Dig Go.Proofs.YtmjceijbbodbfaaDoor.IntA Go.Proofs.YtmjceijbbodbfaaDoor.IntB Go.Proofs.YtmjceijbbodbfaaDoor.IntC Go.Proofs.YtmjceijbbodbfaaDoor.IntD
theorem small_i64 {x : Int} (h : (Lit.int .i64 x).wf = true) : -9223372036854775808 ≤ x ∧ x ≤ 9223372036854775807 := by
  simp [Lit.wf, IntKind.min, IntKind.max, IntKind.bits, IntKind.signed] at h
  omega
theorem len3 {z : Int} (h0 : -79228162514264337593543950336 < z) (h1 : z < 79228162514264337593543950336) : (dl z).length ≤ 3 := by
  refine len_le (dl_norm z) ?_
  rw [dl_val]
  have : pw 3 = 79228162514264337593543950336 := by decide
  rw [this]
  omega
theorem small_wrap {x y : Int} (hx : -9223372036854775808 ≤ x ∧ x ≤ 9223372036854775807) (hy : -9223372036854775808 ≤ y ∧ y ≤ 9223372036854775807) :
    (-9223372036854775808 ≤ x + y ∧ x + y ≤ 9223372036854775807 → wrap64 (x + y) = x + y) ∧
    ((x < 0 ↔ y < 0) → ((-9223372036854775808 ≤ x + y ∧ x + y ≤ 9223372036854775807) ↔ (wrap64 (x + y) < 0 ↔ x < 0))) ∧ (¬ (x < 0 ↔ y < 0) → -9223372036854775808 ≤ x + y ∧ x + y ≤ 9223372036854775807) := by
  unfold wrap64
  refine ⟨fun h => by omega, fun h => ?_, fun h => by omega⟩
  by_cases h1 : x < 0
  · have h2 : y < 0 := h.1 h1
    by_cases h3 : (x + y + 9223372036854775808) % 18446744073709551616 - 9223372036854775808 < 0 <;> simp [h3, h1] <;> omega
  · have h2 : ¬ y < 0 := fun q => h1 (h.2 q)
    by_cases h3 : (x + y + 9223372036854775808) % 18446744073709551616 - 9223372036854775808 < 0 <;> simp [h3, h1] <;> omega
/-- The rest of the law, once the numbers are known. -/
theorem small_rest (x y : Int) (hx : -9223372036854775808 ≤ x ∧ x ≤ 9223372036854775807) (hy : -9223372036854775808 ≤ y ∧ y ≤ 9223372036854775807) (c : Int) (hc : c = sg (x - y)) :
    Ev (fun k => substationlaw01_IntegerSmall.j1 k x y x true c (sn x) (dl x) (sn y) (dl y)) true := by
  have lx := len2 (z := x) (by omega) (by omega)
  have ly := len2 (z := y) (by omega) (by omega)
  have lxy := len3 (z := x + y) (by omega) (by omega)
  have hw := small_wrap hx hy
  have hC := Compare x y (by omega) (by omega)
  rw [← hc] at hC
  refine Ev.step (fun k => rfl) (Ev.bind (lsum x y (by omega) (by omega) (by omega)) (Ev.bind (Small (x + y) (by omega)) ?_))
  have hv : substationref01_Valid.f (sn x) (dl x) = some true := by
    rw [rvalid _ _ (by omega), vld_rep, decide_eq_true (by omega)]
  rw [hv]
  simp only [Option.bind_some, if_true]
  by_cases hr : -9223372036854775808 ≤ x + y ∧ x + y ≤ 9223372036854775807
  · rw [if_pos hr]
    simp only [hw.1 hr, beq_self_eq_true, if_true]
    by_cases hs : (decide (x < 0) != decide (y < 0)) = true
    · simp only [hs, if_true]
      exact Ev.bind hC (by simp only [if_true]; exact Ev.now _)
    · have hb : (decide (x + y < 0) == decide (x < 0)) = true := by
        have : (x < 0 ↔ y < 0) := by
          by_cases h1 : x < 0 <;> by_cases h2 : y < 0 <;> simp [h1, h2] at hs ⊢
        by_cases h1 : x < 0 <;> by_cases h2 : x + y < 0 <;> simp [h1, h2] <;> omega
      have hs' : (decide (x < 0) != decide (y < 0)) = false := by simpa using hs
      simp only [hs', hb]
      exact Ev.bind hC (by simp; exact Ev.now _)
  · rw [if_neg hr]
    have hsg : (x < 0 ↔ y < 0) := Decidable.byContradiction fun h => hr (hw.2.2 h)
    have hs' : (decide (x < 0) != decide (y < 0)) = false := by
      by_cases h1 : x < 0 <;> simp [h1, ← hsg]
    have hb : (decide (wrap64 (x + y) < 0) == decide (x < 0)) = false := by
      have h2 := hw.2.1 hsg
      have h3 : ¬ (wrap64 (x + y) < 0 ↔ x < 0) := fun h => hr (h2.2 h)
      by_cases h4 : wrap64 (x + y) < 0 <;> by_cases h5 : x < 0 <;> simp [h4, h5] at h3 ⊢
    simp only [hs', hb]
    exact Ev.bind hC (by simp; exact Ev.now _)
theorem IntegerSmall : RIntegerSmall.Pure := by
  intro x y hx hy
  replace hx := small_i64 hx
  replace hy := small_i64 hy
  have lx := len2 (z := x) (by omega) (by omega)
  refine Ev.rounds (g := fun k => substationlaw01_IntegerSmall.f k x y) (r := true) ?_
  unfold substationlaw01_IntegerSmall.f
  refine Ev.bind known ?_
  simp only [if_true]
  refine Ev.bind (Of x hx.1 hx.2) (Ev.bind (Of y hy.1 hy.2) (Ev.bind (Small x (by omega)) ?_))
  rw [if_pos hx]
  by_cases h : x < y
  · simp only [h, if_true]
    refine Ev.step (f := fun k => substationlaw01_IntegerSmall.j1 k x y x true (-1) (sn x) (dl x) (sn y) (dl y)) (fun k => ?_) (small_rest x y hx hy _ (by unfold sg; rw [if_pos (by omega)]))
    simp only [substationlaw01_IntegerSmall.j0]
    rw [if_neg (by omega)]
  · simp only [h, if_false]
    by_cases h2 : x > y
    · refine Ev.step (f := fun k => substationlaw01_IntegerSmall.j1 k x y x true 1 (sn x) (dl x) (sn y) (dl y)) (fun k => ?_) (small_rest x y hx hy _ (by unfold sg; rw [if_neg (by omega), if_neg (by omega)]))
      simp only [substationlaw01_IntegerSmall.j0]
      rw [if_pos h2]
    · refine Ev.step (f := fun k => substationlaw01_IntegerSmall.j1 k x y x true 0 (sn x) (dl x) (sn y) (dl y)) (fun k => ?_) (small_rest x y hx hy _ (by unfold sg; rw [if_neg (by omega), if_pos (by omega)]))
      simp only [substationlaw01_IntegerSmall.j0]
      rw [if_neg h2]
end Go.Proofs.YtmjceijbbodbfaaDoor.Pure
end
