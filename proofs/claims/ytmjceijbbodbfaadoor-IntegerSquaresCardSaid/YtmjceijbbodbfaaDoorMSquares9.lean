/- A part of the proof of the law integerSquares_holds: general lemmas, functions of the program as plain functions with proofs that the calls compute them, and what they compute; merged from this session's texts. -/
import Derived.Test.YtmjceijbbodbfaaDoorMSquares8
import Derived.ChangeArms
import Derived.DataReads
import Derived.Deep.Slices
import Derived.ProofKit
import Derived.OpenShut
section
namespace Go.Proofs.YtmjceijbbodbfaaDoor.XOpen
open Go.RowKit Go.Proofs.YtmjceijbbodbfaaDoorW.PrintWords Go.Proofs.YtmjceijbbodbfaaDoorW.PrintMore
set_option linter.unusedVariables false
/-- Whatever reads as a datum of type t is a value of kind d, and it is 'ok'. -/
def Opens {α : Type} (P : Program) (d : Kd α) (t : TypeId) (ok : α → Prop) : Prop :=
  ∀ (H : Type) (enc : TypeId × Value → H) (w : World) (base : Nat) (spare : Nat → Bool) (held : Bool) (fuel : Nat) (cs : List Value) (x : DataW H × List MemPlace),
    DataW.trod enc P w base spare held fuel t cs = some x → ∃ y, d.K w y cs ∧ ok y
theorem Opens.imp {α : Type} {P : Program} {d : Kd α} {t : TypeId} {ok ok' : α → Prop} (h : Opens P d t ok) (hi : ∀ y, ok y → ok' y) : Opens P d t ok' :=
  fun H enc w base spare held fuel cs x hx => by
    obtain ⟨y, hk, ho⟩ := h H enc w base spare held fuel cs x hx
    exact ⟨y, hk, hi y ho⟩
theorem opens_int {P : Program} {t : TypeId} {k : IntKind} (ht : P.underlying t = some (.int k)) : Opens P (Kd.int k) t (fun n => (Lit.int k n).wf = true) :=
  fun H enc w base spare held fuel cs x hx => by
    obtain ⟨n, rfl, _, hw⟩ := DataW.trod_int ht hx
    exact ⟨n, rfl, hw⟩
theorem opens_bool {P : Program} {t : TypeId} (ht : P.underlying t = some .bool) : Opens P Kd.bool t (fun _ => True) :=
  fun H enc w base spare held fuel cs x hx => by
    obtain ⟨b, rfl, _⟩ := DataW.trod_bool ht hx
    exact ⟨b, rfl, trivial⟩
theorem opens_string {P : Program} {t : TypeId} (ht : P.underlying t = some .string) : Opens P Kd.string t (fun s => s.size ≤ 9223372036854775807) :=
  fun H enc w base spare held fuel cs x hx => by
    obtain ⟨s, rfl, _, hs⟩ := DataW.trod_string ht hx
    exact ⟨s, rfl, hs⟩
theorem cells_cell {w : World} {base : Nat} {a : Addr} {n : Nat} {cs : List Value} (h : w.cells? base a n = some cs) : cs.length = n ∧ ∀ i u, cs[i]? = some u → w.cell? (a.add i) = some u := by
  obtain ⟨_, hl, hc⟩ := World.cells?_some h
  exact ⟨hl, fun i u hu => (hc i (by have := (List.getElem?_eq_some_iff.1 hu).1; omega)).trans hu⟩
theorem len_cons {α : Type} {l : List α} {n : Nat} (h : l.length = n + 1) : ∃ a t, l = a :: t ∧ t.length = n := by
  cases l with
  | nil => simp at h
  | cons a t => exact ⟨a, t, rfl, by simpa using h⟩
theorem opens_slice {α : Type} {P : Program} {d : Kd α} {t e : TypeId} {ok : α → Prop} (ht : P.underlying t = some (.slice e)) (hc : P.cellsOf e = d.sz) (he : Opens P d e ok) :
    Opens P (Kd.slice e d) t (fun xs => xs.length ≤ 9223372036854775807 ∧ ∀ x ∈ xs, ok x) :=
  fun H enc w base spare held fuel cs x hx => by
    rcases Go.Deep.open_slice ht hx with ⟨rfl, _⟩ | ⟨a, len, cap, m, n, D, Pl, rfl, _, hl, hm, hmm, _, hel⟩
    · exact ⟨[], ⟨none, 0, rfl, Nat.le_refl _, Kd.C_nil _ _⟩, by simp, fun x hx => by cases hx⟩
    · have hlm : len ≤ m := by rw [hmm]; split <;> omega
      have hlen : len ≤ 9223372036854775807 := by unfold maxLen at hm; omega
      have key : ∀ k, k ≤ len → ∃ xs : List α, xs.length = k ∧ (∀ x ∈ xs, ok x) ∧ ∀ j p, xs[j]? = some p → ∃ c, c.length = d.sz ∧ d.K w p c ∧ ∀ i u, c[i]? = some u → w.cell? (a.add (j * d.sz + i)) = some u := by
        intro k
        induction k with
        | zero => exact fun _ => ⟨[], rfl, fun x hx => (by cases hx), fun j p hj => by simp at hj⟩
        | succ k ih =>
          intro hk
          obtain ⟨xs, hxl, hok, hxs⟩ := ih (by omega)
          obtain ⟨cs', hcs, htr⟩ := hel k (by omega)
          obtain ⟨y, hy, hoky⟩ := he H enc w base spare held n cs' _ htr
          obtain ⟨hl2, hc2⟩ := cells_cell hcs
          refine ⟨xs ++ [y], by simp [hxl], fun x hx => ?_, fun j p hj => ?_⟩
          · rcases List.mem_append.1 hx with h1 | h1
            · exact hok x h1
            · rw [List.mem_singleton.1 h1]; exact hoky
          · rcases Nat.lt_or_ge j xs.length with hj2 | hj2
            · rw [List.getElem?_append_left hj2] at hj
              exact hxs j p hj
            · have hj3 : j = xs.length := by
                have := (List.getElem?_eq_some_iff.1 hj).1
                simp at this
                omega
              subst hj3
              have hp : y = p := by simpa using hj
              subst hp
              refine ⟨cs', by rw [hl2, hc], hy, fun i u hu => ?_⟩
              have h3 := hc2 i u hu
              rw [hc, ← hxl] at h3
              have h4 : (a.add (xs.length * d.sz)).add i = a.add (xs.length * d.sz + i) := Addr.add_add _ _ _
              rw [h4] at h3
              exact h3
      obtain ⟨xs, hxl, hok, hxs⟩ := key len (Nat.le_refl _)
      subst hxl
      exact ⟨xs, ⟨some a, cap, rfl, hl, rfl, hlen, fun _ => ⟨a, rfl, hxs⟩⟩, hlen, hok⟩
end Go.Proofs.YtmjceijbbodbfaaDoor.XOpen
end
section
namespace Go.Proofs.YtmjceijbbodbfaaDoor.RIntegerSquares
open Go.RowKit Go.Proofs.YtmjceijbbodbfaaDoorW.PrintWords Go.Proofs.YtmjceijbbodbfaaDoorW.PrintLast Go.Proofs.YtmjceijbbodbfaaDoorW.PrintMore Go.Proofs.YtmjceijbbodbfaaDoor.XA Go.Proofs.YtmjceijbbodbfaaDoor.XOpen
set_option linter.unusedVariables false
def ok27 (x : S27) : Prop := True ∧ (x.f1.length ≤ 9223372036854775807 ∧ ∀ y_ ∈ x.f1, (Lit.int .u32 y_).wf = true)
theorem opens27 : Opens Tryd.prog k27 27 ok27 := fun H enc w base spare held fuel cs x hx => by
  obtain ⟨xs, n, _, _, hl, hlen, hf⟩ := DataW.trod_struct Tryd.underlying27 hx
  have hcells : Tryd.prog.cellsOf 27 = 2 := by kernel_rfl
  rw [hcells] at hl
  have hx0 : ∃ z, xs[0]? = some z := by rw [List.getElem?_eq_getElem (show 0 < xs.length by rw [hlen]; decide)]; exact ⟨_, rfl⟩
  obtain ⟨z0, hz0⟩ := hx0
  have hg0 : Tryd.prog.cellsOf 4 = 1 := by kernel_rfl
  obtain ⟨y0, hk0, ho0⟩ := (opens_bool Tryd.underlying4) H enc w base spare held n _ z0 ((hf 0 _ rfl).trans hz0)
  change Kd.bool.K w y0 (List.take (Tryd.prog.cellsOf 4) (List.drop 0 cs)) at hk0
  rw [hg0] at hk0
  have hx1 : ∃ z, xs[1]? = some z := by rw [List.getElem?_eq_getElem (show 1 < xs.length by rw [hlen]; decide)]; exact ⟨_, rfl⟩
  obtain ⟨z1, hz1⟩ := hx1
  have hg1 : Tryd.prog.cellsOf 25 = 1 := by kernel_rfl
  obtain ⟨y1, hk1, ho1⟩ := (opens_slice Tryd.underlying25 (by kernel_rfl) (opens_int Tryd.underlying22)) H enc w base spare held n _ z1 ((hf 1 _ rfl).trans hz1)
  change (Kd.slice 22 (Kd.int .u32)).K w y1 (List.take (Tryd.prog.cellsOf 25) (List.drop 1 cs)) at hk1
  rw [hg1] at hk1
  obtain ⟨c0, t0, rfl, hl0⟩ := len_cons (n := 1) hl
  obtain ⟨c1, t1, rfl, hl1⟩ := len_cons (n := 0) hl0
  obtain rfl := List.eq_nil_of_length_eq_zero hl1
  exact ⟨⟨y0, y1⟩, ⟨[c0], [c1], rfl, hk0, hk1⟩, ⟨ho0, ho1⟩⟩
/-- The pure statement of the law. -/
def Pure : Prop := ∀ (x0 : S27) (x1 : S27), ok27 x0 → ok27 x1 → ∃ k, substationlaw01_IntegerSquares.f k x0.f0 x0.f1 x1.f0 x1.f1 = some true
end Go.Proofs.YtmjceijbbodbfaaDoor.RIntegerSquares
end
section
namespace Go.Proofs.YtmjceijbbodbfaaDoor.Pure
open Go.RowKit Go.Proofs.YtmjceijbbodbfaaDoorW.PrintWords Go.Proofs.YtmjceijbbodbfaaDoorW.PrintMore Go.Proofs.YtmjceijbbodbfaaDoor.XA Go.Proofs.YtmjceijbbodbfaaDoor.Dig Go.Proofs.YtmjceijbbodbfaaDoor.IntA Go.Proofs.YtmjceijbbodbfaaDoor.IntB Go.Proofs.YtmjceijbbodbfaaDoor.IntC Go.Proofs.YtmjceijbbodbfaaDoor.IntD Go.Proofs.YtmjceijbbodbfaaDoor.IntE Go.Proofs.YtmjceijbbodbfaaDoor.IntF
theorem ok_u32 {l : List Int} (h : ∀ y ∈ l, (Lit.int .u32 y).wf = true) : Ok l := fun x hx => by
  have := h x hx
  simp [Lit.wf, IntKind.min, IntKind.max, IntKind.bits, IntKind.signed] at this
  omega
theorem large2 (x y : S27) (hx : x.f1.length ≤ 9223372036854775807) (hy : y.f1.length ≤ 9223372036854775807) :
    Ev (fun k => substationlaw01_Large.f k [x, y]) (decide (x.f1.length > 40 ∨ y.f1.length > 40)) := by
  unfold substationlaw01_Large.f
  by_cases h1 : x.f1.length > 40
  · refine Ev.step (f := fun _ => some (decide (x.f1.length > 40 ∨ y.f1.length > 40))) (fun k => ?_) (Ev.now _)
    simp only [substationlaw01_Large.l0]
    rw [if_pos (by simp), if_pos (by omega), if_pos (show ((rd_T27 [x, y] 0).f1.length : Int) > 40 from by have : rd_T27 [x, y] 0 = x := rfl; rw [this]; omega)]
    simp [h1]
  · refine Ev.step (f := fun k => substationlaw01_Large.l0 k [x, y] 1) (fun k => ?_) ?_
    · simp only [substationlaw01_Large.l0]
      rw [if_pos (by simp), if_pos (by omega), if_neg (show ¬ ((rd_T27 [x, y] 0).f1.length : Int) > 40 from by have : rd_T27 [x, y] 0 = x := rfl; rw [this]; omega), n1]
    · by_cases h2 : y.f1.length > 40
      · refine Ev.step (f := fun _ => some (decide (x.f1.length > 40 ∨ y.f1.length > 40))) (fun k => ?_) (Ev.now _)
        simp only [substationlaw01_Large.l0]
        rw [if_pos (by simp), if_pos (by omega), if_pos (show ((rd_T27 [x, y] 1).f1.length : Int) > 40 from by have : rd_T27 [x, y] 1 = y := rfl; rw [this]; omega)]
        simp [h2]
      · refine Ev.step (f := fun k => substationlaw01_Large.l0 k [x, y] 2) (fun k => ?_) (Ev.step (f := fun _ => some (decide (x.f1.length > 40 ∨ y.f1.length > 40))) (fun k => ?_) (Ev.now _))
        · simp only [substationlaw01_Large.l0]
          rw [if_pos (by simp), if_pos (by omega), if_neg (show ¬ ((rd_T27 [x, y] 1).f1.length : Int) > 40 from by have : rd_T27 [x, y] 1 = y := rfl; rw [this]; omega), n2]
        · simp only [substationlaw01_Large.l0]
          rw [if_neg (by simp)]
          simp [h1, h2]
/-- A bound of an integer's digits from its size. -/
theorem len_of {z : Int} {n : Nat} (h : (z.natAbs : Int) < pw n) : (dl z).length ≤ n := len_le (dl_norm z) (by rw [dl_val]; exact h)
theorem abs_lt {z : Int} {n : Nat} (h : (dl z).length ≤ n) : (z.natAbs : Int) < pw n := by
  have h1 := val_lt (dl_ok z)
  rw [dl_val] at h1
  exact Int.lt_of_lt_of_le h1 (pow_le h)
theorem len_add {x y : Int} {n : Nat} (hx : (dl x).length ≤ n) (hy : (dl y).length ≤ n) : (dl (x + y)).length ≤ n + 1 := by
  have h1 := abs_lt hx
  have h2 := abs_lt hy
  refine len_of ?_
  rw [pw_succ]
  omega
theorem len_sub {x y : Int} {n : Nat} (hx : (dl x).length ≤ n) (hy : (dl y).length ≤ n) : (dl (x - y)).length ≤ n + 1 := by
  have := len_add hx (y := -y) (by rw [dl_neg]; exact hy)
  rwa [show x + -y = x - y from by omega] at this
theorem len_mul {x y : Int} {m n : Nat} (hx : (dl x).length ≤ m) (hy : (dl y).length ≤ n) : (dl (x * y)).length ≤ m + n := by
  have h1 := abs_lt hx
  have h2 := abs_lt hy
  refine len_of ?_
  rw [pw_add, Int.natAbs_mul, Int.natCast_mul]
  exact Int.lt_of_le_of_lt (Int.mul_le_mul_of_nonneg_left (Int.le_of_lt h2) (by omega)) (Int.mul_lt_mul_of_pos_right h1 (pow_pos n))
theorem lim_in {z : Int} (h : (dl z).length ≤ 400) : lim z = (sn z, dl z, 0) := by
  unfold lim
  rw [if_neg (by omega)]
theorem sg_sq (x y : Int) : sg (x * x - y * y) = sg ((x.natAbs : Int) - (y.natAbs : Int)) := by
  have e : x * x - y * y = ((x.natAbs : Int) - (y.natAbs : Int)) * ((x.natAbs : Int) + (y.natAbs : Int)) := by
    have h1 : x * x = (x.natAbs : Int) * (x.natAbs : Int) := by rw [← Int.natCast_mul, Int.natAbs_mul_self]
    have h2 : y * y = (y.natAbs : Int) * (y.natAbs : Int) := by rw [← Int.natCast_mul, Int.natAbs_mul_self]
    rw [h1, h2]
    grind
  rw [e]
  generalize hp : (x.natAbs : Int) = p
  generalize hq : (y.natAbs : Int) = q
  have hp0 : 0 ≤ p := by omega
  have hq0 : 0 ≤ q := by omega
  clear hp hq e
  unfold sg
  by_cases h1 : p - q < 0
  · have : (p - q) * (p + q) < 0 := Int.mul_neg_of_neg_of_pos h1 (by omega)
    rw [if_pos this, if_pos h1]
  · by_cases h2 : p - q = 0
    · rw [h2]; simp
    · have : 0 < (p - q) * (p + q) := Int.mul_pos (by omega) (by omega)
      rw [if_neg (by omega), if_neg (by omega), if_neg h1, if_neg h2]
theorem squares_j0 (x y : Int) (hx : (dl x).length ≤ 40) (hy : (dl y).length ≤ 40) : Ev (fun k => substationlaw01_IntegerSquares.j0 k false (sn x) (dl x) (sn y) (dl y)) true := by
  have l1 := len_sub hx hy
  have l2 := len_mul hx hx
  have l3 := len_mul hy hy
  have l4 := len_sub l2 l3
  have l5 := len_add hx hy
  have l6 := len_mul l5 l1
  have e7 : (x + y) * (x - y) = x * x - y * y := by grind
  have s1 := Sub x y (by omega) (by omega)
  rw [lim_in (by omega)] at s1
  have s2 := Sub (x * x) (y * y) (by omega) (by omega)
  rw [lim_in (by omega)] at s2
  have px := product x x (by omega) (by omega) (by omega)
  have py := product y y (by omega) (by omega) (by omega)
  have ax : (dl (x.natAbs : Int)).length ≤ 40 := by unfold dl; rw [Int.natAbs_natCast]; exact hx
  have ay : (dl (y.natAbs : Int)).length ≤ 40 := by unfold dl; rw [Int.natAbs_natCast]; exact hy
  have c1 := Compare (x * x) (y * y) (by omega) (by omega)
  have c2 := Compare (x.natAbs : Int) (y.natAbs : Int) (by omega) (by omega)
  have sm := Same ((x + y) * (x - y)) (x * x - y * y) (by omega)
  rw [decide_eq_true e7] at sm
  refine Ev.step (f := _) (fun k => by simp only [substationlaw01_IntegerSquares.j0]; rw [if_neg (by simp)]) (Ev.bind s1 (Ev.bind px (Ev.bind py (Ev.bind s2 ?_))))
  simp only [if_true]
  refine Ev.bind (lsum x y (by omega) (by omega) (by omega)) (Ev.bind (product (x + y) (x - y) (by omega) (by omega) (by omega)) (Ev.bind sm ?_))
  simp only [if_true]
  refine Ev.bind px (Ev.bind py (Ev.bind c1 (Ev.bind (Size x (by omega)) (Ev.bind (Size y (by omega)) (Ev.bind c2 ?_)))))
  rw [sg_sq]
  simp only [beq_self_eq_true]
  exact Ev.now _
theorem IntegerSquares : RIntegerSquares.Pure := by
  intro a b ha hb
  have oa := ok_u32 ha.2.2
  have ob := ok_u32 hb.2.2
  refine Ev.rounds (g := fun k => substationlaw01_IntegerSquares.f k a.f0 a.f1 b.f0 b.f1) (r := true) ?_
  unfold substationlaw01_IntegerSquares.f
  refine Ev.bind known ?_
  simp only [if_true]
  refine Ev.bind (large2 ⟨a.f0, a.f1⟩ ⟨b.f0, b.f1⟩ ha.2.1 hb.2.1) ?_
  have out : Ev (fun k => substationlaw01_IntegerSquares.j0 k true a.f0 a.f1 b.f0 b.f1) true := by
    refine Ev.step (f := fun _ => some true) (fun k => ?_) (Ev.now _)
    simp only [substationlaw01_IntegerSquares.j0]
    rw [if_pos trivial]
  by_cases hl : a.f1.length > 40 ∨ b.f1.length > 40
  · simp only [hl, decide_true, if_true]
    exact out
  · simp only [hl, decide_false]
    rw [rvalid _ _ ha.2.1, rvalid _ _ hb.2.1]
    simp only [Option.bind_some]
    by_cases va : vld a.f0 a.f1 = true
    · by_cases vb : vld b.f0 b.f1 = true
      · have ra := of_vld oa ((vld_iff _ _).1 va)
        have rb := of_vld ob ((vld_iff _ _).1 vb)
        have la : a.f1.length ≤ 40 := by omega
        have lb : b.f1.length ≤ 40 := by omega
        have hj := squares_j0 (sval a.f0 a.f1) (sval b.f0 b.f1) (by rw [← ra.2]; exact la) (by rw [← rb.2]; exact lb)
        rw [← ra.1, ← ra.2, ← rb.1, ← rb.2] at hj
        simpa [va, vb] using hj
      · simpa [va, vb] using out
    · simpa [va] using out
end Go.Proofs.YtmjceijbbodbfaaDoor.Pure
end
