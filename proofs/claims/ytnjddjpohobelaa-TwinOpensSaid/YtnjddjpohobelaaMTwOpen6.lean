/- A part of the proof of the law twinOpens_holds: general lemmas, functions of the program as plain functions with proofs that the calls compute them, and what they compute; merged from this session's texts. -/
import Derived.Test.YtnjddjpohobelaaMTwOpen5
import Derived.ChangeArms
import Derived.DataReads
import Derived.Deep.Slices
import Derived.ProofKit
import Derived.OpenShut
section
namespace Go.Proofs.Ytnjddjpohobelaa.XOpen
open Go.RowKit Go.Proofs.YtnjddjpohobelaaW.PrintWords Go.Proofs.YtnjddjpohobelaaW.PrintMore
set_option linter.unusedVariables false
/-- Whatever reads as a datum of type t is a value of kind d, and it is 'ok'. -/
def Opens {α : Type} (P : Program) (d : Kd α) (t : TypeId) (ok : α → Prop) : Prop :=
  ∀ (H : Type) (enc : TypeId × Value → H) (w : World) (base : Nat) (spare : Nat → Bool) (held : Bool) (fuel : Nat) (cs : List Value) (x : DataW H × List MemPlace),
    DataW.trod enc P w base spare held fuel t cs = some x → ∃ y, d.K w y cs ∧ ok y
theorem Opens.imp {α : Type} {P : Program} {d : Kd α} {t : TypeId} {ok ok' : α → Prop} (h : Opens P d t ok) (hi : ∀ y, ok y → ok' y) : Opens P d t ok' :=
  fun H enc w base spare held fuel cs x hx => by
    obtain ⟨y, hk, ho⟩ := h H enc w base spare held fuel cs x hx
    exact ⟨y, hk, hi y ho⟩
theorem opens_int {P : Program} {t : TypeId} {k : IntKind} (ht : P.underlying t = some (.int k)) : Opens P (Kd.int k) t (fun n => (Lit.int k n).wf = true) :=
  fun H enc w base spare held fuel cs x hx => by
    obtain ⟨n, rfl, _, hw⟩ := DataW.trod_int ht hx
    exact ⟨n, rfl, hw⟩
theorem opens_bool {P : Program} {t : TypeId} (ht : P.underlying t = some .bool) : Opens P Kd.bool t (fun _ => True) :=
  fun H enc w base spare held fuel cs x hx => by
    obtain ⟨b, rfl, _⟩ := DataW.trod_bool ht hx
    exact ⟨b, rfl, trivial⟩
theorem opens_string {P : Program} {t : TypeId} (ht : P.underlying t = some .string) : Opens P Kd.string t (fun s => s.size ≤ 9223372036854775807) :=
  fun H enc w base spare held fuel cs x hx => by
    obtain ⟨s, rfl, _, hs⟩ := DataW.trod_string ht hx
    exact ⟨s, rfl, hs⟩
theorem cells_cell {w : World} {base : Nat} {a : Addr} {n : Nat} {cs : List Value} (h : w.cells? base a n = some cs) : cs.length = n ∧ ∀ i u, cs[i]? = some u → w.cell? (a.add i) = some u := by
  obtain ⟨_, hl, hc⟩ := World.cells?_some h
  exact ⟨hl, fun i u hu => (hc i (by have := (List.getElem?_eq_some_iff.1 hu).1; omega)).trans hu⟩
theorem len_cons {α : Type} {l : List α} {n : Nat} (h : l.length = n + 1) : ∃ a t, l = a :: t ∧ t.length = n := by
  cases l with
  | nil => simp at h
  | cons a t => exact ⟨a, t, rfl, by simpa using h⟩
theorem opens_slice {α : Type} {P : Program} {d : Kd α} {t e : TypeId} {ok : α → Prop} (ht : P.underlying t = some (.slice e)) (hc : P.cellsOf e = d.sz) (he : Opens P d e ok) :
    Opens P (Kd.slice e d) t (fun xs => xs.length ≤ 9223372036854775807 ∧ ∀ x ∈ xs, ok x) :=
  fun H enc w base spare held fuel cs x hx => by
    rcases Go.Deep.open_slice ht hx with ⟨rfl, _⟩ | ⟨a, len, cap, m, n, D, Pl, rfl, _, hl, hm, hmm, _, hel⟩
    · exact ⟨[], ⟨none, 0, rfl, Nat.le_refl _, Kd.C_nil _ _⟩, by simp, fun x hx => by cases hx⟩
    · have hlm : len ≤ m := by rw [hmm]; split <;> omega
      have hlen : len ≤ 9223372036854775807 := by unfold maxLen at hm; omega
      have key : ∀ k, k ≤ len → ∃ xs : List α, xs.length = k ∧ (∀ x ∈ xs, ok x) ∧ ∀ j p, xs[j]? = some p → ∃ c, c.length = d.sz ∧ d.K w p c ∧ ∀ i u, c[i]? = some u → w.cell? (a.add (j * d.sz + i)) = some u := by
        intro k
        induction k with
        | zero => exact fun _ => ⟨[], rfl, fun x hx => (by cases hx), fun j p hj => by simp at hj⟩
        | succ k ih =>
          intro hk
          obtain ⟨xs, hxl, hok, hxs⟩ := ih (by omega)
          obtain ⟨cs', hcs, htr⟩ := hel k (by omega)
          obtain ⟨y, hy, hoky⟩ := he H enc w base spare held n cs' _ htr
          obtain ⟨hl2, hc2⟩ := cells_cell hcs
          refine ⟨xs ++ [y], by simp [hxl], fun x hx => ?_, fun j p hj => ?_⟩
          · rcases List.mem_append.1 hx with h1 | h1
            · exact hok x h1
            · rw [List.mem_singleton.1 h1]; exact hoky
          · rcases Nat.lt_or_ge j xs.length with hj2 | hj2
            · rw [List.getElem?_append_left hj2] at hj
              exact hxs j p hj
            · have hj3 : j = xs.length := by
                have := (List.getElem?_eq_some_iff.1 hj).1
                simp at this
                omega
              subst hj3
              have hp : y = p := by simpa using hj
              subst hp
              refine ⟨cs', by rw [hl2, hc], hy, fun i u hu => ?_⟩
              have h3 := hc2 i u hu
              rw [hc, ← hxl] at h3
              have h4 : (a.add (xs.length * d.sz)).add i = a.add (xs.length * d.sz + i) := Addr.add_add _ _ _
              rw [h4] at h3
              exact h3
      obtain ⟨xs, hxl, hok, hxs⟩ := key len (Nat.le_refl _)
      subst hxl
      exact ⟨xs, ⟨some a, cap, rfl, hl, rfl, hlen, fun _ => ⟨a, rfl, hxs⟩⟩, hlen, hok⟩
end Go.Proofs.Ytnjddjpohobelaa.XOpen
end
