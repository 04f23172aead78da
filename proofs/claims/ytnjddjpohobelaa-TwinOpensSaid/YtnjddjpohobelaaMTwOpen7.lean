/- A part of the proof of the law twinOpens_holds: general lemmas, functions of the program as plain functions with proofs that the calls compute them, and what they compute; merged from this session's texts. -/
import Derived.Test.YtnjddjpohobelaaMTwOpen6
import Derived.BigRegion
import Derived.ChangeAlike
import Derived.Deep.RegionLaw
import Derived.IntWalk
import Derived.Laws.CopyOwn
import Derived.Laws.CopyRow
import Derived.Laws.Externs
import Derived.Laws.IdiomCopy
import Derived.Lib.AppendZerosOnto
import Derived.Lib.Overlaps
import Derived.Lib.SliceRun
import Derived.RegionTactic
import Derived.Shelf.Spec.SlicesInsert
import Derived.WalkSpells
section
namespace Go.Proofs.Ytnjddjpohobelaa.XB
open Go.RowKit Go.Proofs.YtnjddjpohobelaaW.PrintWords Go.Proofs.YtnjddjpohobelaaW.PrintLast Go.Proofs.YtnjddjpohobelaaW.PrintMore
attribute [local go_sem] max2_int min2_int max_two min_two max_three min_three max_four min_four   -- for this text's walks alone
set_option linter.unusedVariables false
set_option linter.unusedSimpArgs false
theorem tw_info36 : (Try.prog.info? 36).map (fun i => (i.zero, i.size, i.bytes)) = some (some (.agg #[(.int .i64 0), (.int .i64 0), (.int .u64 0)]), 3, 24) := by kernel_rfl
theorem tw_nil {w : World} {A0 : Option Addr} {l0 : List S36} (h : Kd.C k36 w A0 l0.length l0) (e : A0 = none) : l0 = [] := by
  cases l0 with
  | nil => rfl
  | cons x t => obtain ⟨a, ha, _⟩ := h.2.2 (by simp); rw [e] at ha; cases ha
set_option maxHeartbeats 1000000 in
set_option maxRecDepth 100000 in
theorem tw_clone (A0 : Option Addr) (c0 : Nat) (l0 : List (S36)) (w : World) (hr0 : Kd.C k36 w A0 l0.length l0) (hc0 : l0.length ≤ c0) (hl : l0.length < 1000000) :
    Calls Try.prog 41 #[.slice A0 l0.length c0] w fun e w' => ∃ v0_ : Value, e = .returned (v0_) ∧ Kd.R k36 36 w' w.heap.size (fun _ => True) v0_ l0 ∧ Below w.heap.size w w' := by
  have HR0 := Aside0.mk hr0
  have HL := Aside0.mk hl
  have HB := Aside0.mk (Below.refl w.heap.size w)
  cases A0 with
  | none =>
    obtain rfl := tw_nil hr0 rfl
    clear hr0 hc0 hl
    have heq := fun w => Lib.run_eql_slice_nil (P := Try.prog) w 26 36 none 0 c0 0 0 Try.underlying26
    go_enter Try.func41, Try.ntmps41
    go_wp2
    go_ret
    exact ⟨_, rfl, Kd.R_nil _ _ _ _ _, Below.refl _ _⟩
  | some a =>
    clear hr0 hl
    have heq := fun w => Lib.run_eql_slice_nil (P := Try.prog) w 26 36 (some a) l0.length c0 0 0 Try.underlying26
    go_enter Try.func41, Try.ntmps41
    go_wp2_with (first
      | ((with_reducible refine gate_dst (N := 5) rfl ?_); refine Kd.R_lit k36 w.heap.size 36 rfl (N := 5) rfl (xs := ([] : List (S36))) (inner := []) (ok := fun _ => True) (okp := fun _ => True) (w0 := w) ?hr (Reps.none _ _) (fun _ hk => hk) trivial (Below.refl _ _) (Nat.le_refl _) (by simp) ?_; (case hr => first | (go_simp; done) | (go_simp; rfl)); intro v1 w1 ho hb hg_ hnew_; clear hg_ hnew_; have HO := Aside0.mk ho; have HB1 := Aside0.mk hb; clear ho hb)
      | ((with_reducible refine gate_builtin (b := .append) (xs := #[.tmp 5, .tmp 6]) rfl ?_); at_builtin; refine Kd.R_append_rows k36 (w0 := w) w.heap.size rfl (.tmp 5) (.tmp 6) 26 36 (.agg #[(.int .i64 0), (.int .i64 0), (.int .u64 0)]) 24 rfl Try.underlying26 tw_info36 rfl (by decide) (by omega) v1 [] l0 _ _ _ (fun _ => True) (fun _ => False) rfl rfl HO.out (Kd.C_below HR0.out HB1.out) (fun _ _ h => h) (fun _ h => h.elim) (fun _ _ => trivial) HB1.out HB1.out.size ?aL ?_; (case aL => have := HL.out; simp only [List.length_nil]; omega); intro v2 w2 ho hb hg hat; have HO2 := Aside0.mk ho; have HB2 := Aside0.mk hb; clear ho hb hg hat)
      )
    go_ret
    exact ⟨_, rfl, HO2.out, HB2.out⟩
/-- How many sources stand ahead of a. -/
def twAt (l : List S36) (a : Int) : Nat := l.countP (fun x => decide (x.f0 < a))
/-- Sorted, and the numbers in bounds. -/
structure TwOk (l : List S36) : Prop where
  len : l.length < 1000000
  sorted : l.Pairwise (fun x y => x.f0 < y.f0)
  of : ∀ x ∈ l, 0 ≤ x.f0 ∧ x.f0 < 65536
  top : ∀ x ∈ l, (0 ≤ x.f1 ∧ x.f1 < 65536) ∧ 0 ≤ x.f2 ∧ x.f2 < 18446744073709551616
theorem tw_rd (l : List S36) (i : Nat) (h : i < l.length) : rd_T36 l (i : Int) = l[i] := by simp [rd_T36, h]
theorem tw_at_le (l : List S36) (a : Int) : twAt l a ≤ l.length := List.countP_le_length
theorem tw_at_eq : ∀ (l : List S36) (a : Int) (i : Nat), i ≤ l.length → (∀ t (h : t < l.length), t < i → l[t].f0 < a) → (∀ t (h : t < l.length), i ≤ t → ¬ l[t].f0 < a) → twAt l a = i
  | [], a, i, hi, _, _ => by simp at hi; simp [twAt, hi]
  | x :: r, a, 0, _, _, h2 => by
    unfold twAt
    rw [List.countP_eq_zero]
    intro y hy
    obtain ⟨t, ht, rfl⟩ := List.getElem_of_mem hy
    simpa using h2 t ht (Nat.zero_le _)
  | x :: r, a, i + 1, hi, h1, h2 => by
    have hx : x.f0 < a := h1 0 (by simp) (by omega)
    have ih := tw_at_eq r a i (by simpa using hi) (fun t h ht => h1 (t + 1) (by simpa using h) (by omega)) (fun t h ht => h2 (t + 1) (by simpa using h) (by omega))
    unfold twAt at ih ⊢
    rw [List.countP_cons_of_pos (by simpa using hx), ih]
theorem tw_mono {l : List S36} (h : TwOk l) (i j : Nat) (hj : j < l.length) (hij : i ≤ j) : (l[i]'(by omega)).f0 ≤ l[j].f0 := by
  rcases Nat.lt_or_ge i j with h1 | h1
  · have := List.pairwise_iff_getElem.1 h.sorted i j (by omega) hj h1
    omega
  · have : i = j := by omega
    subst this
    exact Int.le_refl _
def twHas (l : List S36) (a : Int) : Bool := decide (twAt l a < l.length) && decide ((rd_T36 l (twAt l a : Int)).f0 = a)
set_option maxHeartbeats 1000000 in
theorem tw_cmp (y0 y1 y2 a : Int) (h0 : 0 ≤ y0) (h1 : y0 < 65536) (h2 : 0 ≤ a) (h3 : a < 65536) (w : World) :
    Calls Try.prog 44 #[.agg #[.int .i64 y0, .int .i64 y1, .int .u64 y2], .int .i64 a] w fun e w' => e = .returned (.int .i64 (y0 - a)) ∧ Below w.heap.size w w' := by
  go_enter Try.func44, Try.ntmps44
  go_wp2
  go_ret
  exact ⟨rfl, (Below.refl _ _).alloc (Nat.le_refl _) _⟩
set_option maxHeartbeats 4000000 in
set_option maxRecDepth 100000 in
theorem tw_bsf (A0 : Option Addr) (c0 : Nat) (l : List S36) (a : Int) (w : World) (hr0 : Kd.C k36 w A0 l.length l) (hc0 : l.length ≤ c0) (hok : TwOk l) (h2 : 0 ≤ a) (h3 : a < 65536) :
    Calls Try.prog 43 #[.slice A0 l.length c0, .int .i64 a, .func (.func 44) #[] #[]] w fun e w' => e = .returned (.tuple #[.int .i64 (twAt l a : Nat), .bool (twHas l a)]) ∧ Below w.heap.size w w' := by
  have HR0 := Aside0.mk hr0
  have OK := Aside0.mk hok
  have hl := hok.len
  clear hr0 hok
  have HB := Aside0.mk (Below.refl w.heap.size w)
  generalize hcnt : twAt l a = cnt
  have CN := Aside0.mk hcnt
  generalize hfin : twHas l a = fin
  have FIN := Aside0.mk hfin
  clear hcnt hfin
  go_enter Try.func43, Try.ntmps43
  go_wp2
  go_loopg [9, 10] l.length (fun kx s9 s10 wr => ∃ lo hi : Nat, s9 = .int .i64 lo ∧ s10 = .int .i64 hi ∧ lo ≤ hi ∧ hi ≤ l.length ∧ hi - lo ≤ kx ∧ Aside0 (Below w.heap.size w wr) ∧
    Aside0 ((∀ t (h : t < l.length), t < lo → l[t].f0 < a) ∧ (∀ t (h : t < l.length), hi ≤ t → a ≤ l[t].f0)))
  case atStart => exact ⟨0, l.length, rfl, rfl, Nat.zero_le _, Nat.le_refl _, by omega, HB, ⟨fun t h ht => by omega, fun t h1 h2 => by omega⟩⟩
  case round =>
    clear HB
    obtain ⟨lo, hi, rfl, rfl, hlh, hin, hg, HB, I⟩ := hrel
    by_cases hlt : lo < hi
    · have hm : (lo + hi) / 2 < l.length := by omega
      obtain ⟨ad, e1, hx0, hx1, hx2⟩ := at_T36 HR0.out (((lo + hi) / 2 : Nat) : Int) (by omega) (by omega)
      cases e1
      replace hx0 := (HB.out.cell (World.block_lt_of_cell? w _ hx0)).trans hx0
      replace hx1 := (HB.out.cell (World.block_lt_of_cell? w _ hx1)).trans hx1
      replace hx2 := (HB.out.cell (World.block_lt_of_cell? w _ hx2)).trans hx2
      rw [tw_rd l _ hm] at hx0 hx1 hx2
      have hb := OK.out.of l[(lo + hi) / 2] (List.getElem_mem _)
      generalize hy : l[(lo + hi) / 2] = y at hx0 hx1 hx2 hb
      have Y := Aside0.mk hy
      clear hy
      obtain ⟨y0, y1, y2⟩ := y
      simp only at hx0 hx1 hx2 hb
      simp only [Int.toNat_natCast] at hx0 hx1 hx2
      obtain ⟨hb0, hb1⟩ := hb
      by_cases hyx : y0 < a
      · go_wp2_with (go_at_call 44; refine (tw_cmp y0 y1 y2 a (by omega) (by omega) (by omega) (by omega) _).mono ?_; rintro e w' ⟨rfl, hb⟩; have HB2 := Aside0.mk (below_step HB.out hb); clear hb)
        go_roundg (hi - ((lo + hi) / 2 + 1))
        case measure => omega
        case rel => exact ⟨(lo + hi) / 2 + 1, hi, by rw [show ((lo : Int) + (hi : Int)) / 2 + 1 = (((lo + hi) / 2 + 1 : Nat) : Int) by omega], rfl, by omega, hin, by omega, HB2, ⟨fun t ht h1 => by have h9 := tw_mono OK.out t ((lo + hi) / 2) hm (by omega); rw [Y.out] at h9; exact Int.lt_of_le_of_lt h9 hyx, I.out.2⟩⟩
      · have HY := Aside0.mk (Int.not_lt.1 hyx)
        go_wp2_with (go_at_call 44; refine (tw_cmp y0 y1 y2 a (by omega) (by omega) (by omega) (by omega) _).mono ?_; rintro e w' ⟨rfl, hb⟩; have HB2 := Aside0.mk (below_step HB.out hb); clear hb)
        go_roundg ((lo + hi) / 2 - lo)
        case measure => omega
        case rel => exact ⟨lo, (lo + hi) / 2, rfl, by rw [show ((lo : Int) + (hi : Int)) / 2 = (((lo + hi) / 2 : Nat) : Int) by omega], by omega, by omega, by omega, HB2, ⟨I.out.1, fun t ht h1 => by have h9 := tw_mono OK.out ((lo + hi) / 2) t ht h1; rw [Y.out] at h9; exact Int.le_trans HY.out h9⟩⟩
    · obtain rfl : hi = lo := by omega
      obtain rfl : hi = cnt := by rw [← CN.out]; exact (tw_at_eq l a hi hin I.out.1 (fun t h h1 => Int.not_lt.2 (I.out.2 t h h1))).symm
      by_cases hlt : hi < l.length
      · obtain ⟨ad, e1, hx0, hx1, hx2⟩ := at_T36 HR0.out (hi : Int) (by omega) (by omega)
        cases e1
        replace hx0 := (HB.out.cell (World.block_lt_of_cell? w _ hx0)).trans hx0
        replace hx1 := (HB.out.cell (World.block_lt_of_cell? w _ hx1)).trans hx1
        replace hx2 := (HB.out.cell (World.block_lt_of_cell? w _ hx2)).trans hx2
        have hfin : fin = decide ((rd_T36 l (hi : Int)).f0 = a) := by rw [← FIN.out]; unfold twHas; rw [CN.out]; simp [hlt]
        rw [tw_rd l _ hlt] at hx0 hx1 hx2 hfin
        have hb := OK.out.of l[hi] (List.getElem_mem _)
        generalize hy : l[hi] = y at hx0 hx1 hx2 hb hfin
        obtain ⟨y0, y1, y2⟩ := y
        simp only at hx0 hx1 hx2 hb hfin
        simp only [Int.toNat_natCast] at hx0 hx1 hx2
        obtain ⟨hb0, hb1⟩ := hb
        have hfb : fin = (y0 - a == 0) := by rw [hfin, Bool.eq_iff_iff]; simp; omega
        have HF := Aside0.mk hfb
        clear hfb hfin hy
        go_wp2_with (go_at_call 44; refine (tw_cmp y0 y1 y2 a (by omega) (by omega) (by omega) (by omega) _).mono ?_; rintro e w' ⟨rfl, hb⟩; have HB2 := Aside0.mk (below_step HB.out hb); clear hb)
        go_ret2
        exact ⟨by rw [HF.out]; rfl, HB2.out⟩
      · have hfb : fin = false := by rw [← FIN.out]; unfold twHas; rw [CN.out]; simp [hlt]
        subst hfb
        go_wp2
        go_ret2
        exact ⟨rfl, HB.out⟩
/-- A source's cells, and a row's. -/
def twEnc (x : S36) : List Value := [.int .i64 x.f0, .int .i64 x.f1, .int .u64 x.f2]
def twFlat : List S36 → List Value
  | [] => []
  | x :: t => twEnc x ++ twFlat t
theorem tw_flat_len (l : List S36) : (twFlat l).length = l.length * 3 := by
  induction l with
  | nil => rfl
  | cons x t ih => simp only [twFlat, List.length_append, ih, List.length_cons]; show 3 + _ = _; omega
theorem tw_flat_append (a b : List S36) : twFlat (a ++ b) = twFlat a ++ twFlat b := by
  induction a with
  | nil => rfl
  | cons x t ih => simp only [List.cons_append, twFlat, ih, List.append_assoc]
theorem tw_flat_one (l : List S36) : ∀ v ∈ twFlat l, v.oneCell' = true := by
  induction l with
  | nil => intro v hv; cases hv
  | cons x t ih =>
    intro v hv
    rcases List.mem_append.1 hv with h | h
    · simp only [twEnc, List.mem_cons, List.not_mem_nil, or_false] at h
      rcases h with rfl | rfl | rfl <;> rfl
    · exact ih v h
theorem tw_reps {w : World} {base : Nat} {ok : Nat → Prop} : ∀ {l : List S36} {inner : List Value}, Reps (k36.M w base ok) 3 l inner → inner = twFlat l
  | [], inner, h => by
    have := h.1
    simpa [twFlat] using this
  | x :: t, inner, h => by
    have h0 := k36_openM (h.2 0 x rfl)
    have hl := h.1
    have ht : Reps (k36.M w base ok) 3 t (inner.drop 3) := ⟨by rw [List.length_drop, hl, List.length_cons]; omega, fun j p hj => by
      have := h.2 (j + 1) p (by simpa using hj)
      rw [List.drop_drop]
      rwa [show (j + 1) * 3 = 3 + j * 3 by omega] at this⟩
    rw [twFlat, ← tw_reps ht]
    have h3 : inner.take 3 = twEnc x := by simpa [twEnc] using h0
    rw [← h3, List.take_append_drop]
theorem tw_reps_mk (w : World) (base : Nat) (ok : Nat → Prop) : ∀ (l : List S36), Reps (k36.M w base ok) 3 l (twFlat l)
  | [] => Reps.none _ _
  | x :: t => by
    refine ⟨by rw [tw_flat_len], fun j p hj => ?_⟩
    cases j with
    | zero =>
      obtain rfl : x = p := by simpa using hj
      simpa [twFlat, twEnc] using k36_mkM w base ok x
    | succ j =>
      have := (tw_reps_mk w base ok t).2 j p (by simpa using hj)
      rw [twFlat, show (j + 1) * 3 = 3 + j * 3 by omega, ← List.drop_drop]
      simpa [twEnc] using this
theorem tw_R_flat {w : World} {base : Nat} {ok : Nat → Prop} {v : Value} {l : List S36} (h : Kd.R k36 36 w base ok v l) : w.ownsRow base 36 3 v l.length (twFlat l) := by
  obtain ⟨_, inner, ho, hr⟩ := h
  have := tw_reps hr
  subst this
  exact ho
theorem tw_flat_R {w : World} {base : Nat} {v : Value} {l : List S36} (h : w.ownsRow base 36 3 v l.length (twFlat l)) : Kd.R k36 36 w base (fun _ => True) v l :=
  ⟨fun _ _ => trivial, twFlat l, h, tw_reps_mk _ _ _ l⟩
/-- Every block but the row's own is as it was. -/
def TwKept (w w' : World) (v : Value) : Prop := ∀ k, k < w.heap.size → some k ≠ v.ownBlock → w'.heap[k]? = w.heap[k]?
theorem tw_kept_grown {w w' : World} {v : Value} (h : w.grownBy w' v.ownBlock) : TwKept w w' v := fun k hk hne => h.block k hk hne
/-- copy at rows of sources. -/
theorem tw_copy (w : World) (ty : TypeId) (g o dLen dCap : Nat) (a : Addr) (sLen sCap : Nat) (cur : Array Value) (t : TypeId) (cs : List Value)
    (hg : w.heap[g]? = some (.cells cur t (0, 0))) (hn : cs.length = Nat.min sLen dLen * 3)
    (hsrc : ∀ j v, cs[j]? = some v → w.cell? (a.add j) = some v) (hfit : o + cs.length ≤ cur.size) (h1 : ∀ v ∈ cs, v.oneCell' = true) :
    (Builtin.copy_ #[26, 26] ty #[.slice (some ⟨g, o, none⟩) dLen dCap, .slice (some a) sLen sCap]).run Try.prog w =
      .ok (goInt (Nat.min sLen dLen)) (w.setRow g (cur.toList.take o ++ cs ++ cur.toList.drop (o + cs.length)).toArray) := by
  have hl := run_loadCells_list (P := Try.prog) w a cs hsrc
  have hst := run_storeCells_at Try.prog g o t cs 0 cur w hg (by simpa using hfit) h1
  obtain ⟨i0, hi, _, hz1, _⟩ := info_parts tw_info36
  simp [Builtin.copy_, run_underlying Try.underlying26, Builtin.lenOf, Builtin.firstCells, sizeOf, typeInfo, hi, hz1, ← hn, hl, hst]
set_option maxHeartbeats 1000000 in
set_option maxRecDepth 100000 in
/-- At the end: append. -/
theorem tw_insert_end (v : Value) (l : List S36) (x : S36) (gx base : Nat) (w0 w : World) (HB0 : Below base w0 w) (hbase : base ≤ w.heap.size) (ho : Kd.R k36 36 w base (fun _ => True) v l) (hx : w.heap[gx]? = some (.cells (twEnc x).toArray 36 (0, 0))) (hl : l.length < 1000000) :
    Calls Try.prog 45 #[v, .int .i64 (l.length : Nat), .slice (some ⟨gx, 0, none⟩) 1 1] w fun e w' => ∃ v0 : Value, e = .returned v0 ∧ Kd.R k36 36 w' base (fun _ => True) v0 (l ++ [x]) ∧ Below base w0 w' ∧ TwKept w w' v := by
  obtain ⟨A, c, rfl⟩ := Kd.R_slice ho
  have hc := (Kd.R_reads' ho).2.1
  have HO := Aside0.mk ho
  have HB := Aside0.mk HB0
  have HL := Aside0.mk hl
  have HS := Aside0.mk hbase
  have HX : Aside0 (ReadsRow (k36.M w base (fun _ => False)) 3 w (some ⟨gx, 0, none⟩) 1 [x]) := ⟨rfl, by omega, fun _ => ⟨_, rfl, fun j p hj => by
    obtain ⟨rfl, rfl⟩ : j = 0 ∧ p = x := by cases j with | zero => simpa [eq_comm] using hj | succ j => simp at hj
    exact ⟨twEnc p, rfl, k36_mkM _ _ _ _, fun i u hu => by
      have := blk_cell hx i
      rw [show (⟨gx, 0, none⟩ : Addr).add (0 * 3 + i) = ⟨gx, i, none⟩ by unfold Addr.add; split <;> simp_all]
      rw [this]; simpa using hu⟩⟩⟩
  clear ho HB0 hbase hx hl
  have hlen := HL.out
  go_enter Try.func45, Try.ntmps45
  go_wp2_with (first
    | ((with_reducible refine gate_builtin (b := .append) (xs := #[.tmp 23, .tmp 24]) rfl ?_); at_builtin; refine Kd.R_append_rows k36 (w0 := w0) base rfl (.tmp 23) (.tmp 24) 26 36 (.agg #[(.int .i64 0), (.int .i64 0), (.int .u64 0)]) 24 rfl Try.underlying26 tw_info36 rfl (by decide) (by omega) (.slice A l.length c) l [x] _ _ _ (fun _ => True) (fun _ => False) rfl rfl HO.out HX.out (fun _ _ h => h) (fun _ h => h.elim) (fun _ _ => trivial) HB.out HS.out ?aL ?_; (case aL => have := HL.out; omega); intro v2 w2 ho hb hg hat; have HO2 := Aside0.mk ho; have HB2 := Aside0.mk hb; have HK2 := Aside0.mk (tw_kept_grown hg); clear ho hb hg hat)
    )
  all_goals (go_ret; exact ⟨_, rfl, HO2.out, HB2.out, fun k hk hne => HK2.out k hk (by cases A <;> exact hne)⟩)
theorem tw_splice_room (A D X T : List Value) (i n c : Nat) (hA : A.length = i * 3) (hD : D.length = (n - i) * 3) (hX : X.length = 3) (hi : i < n) (hT : T.length = c * 3 - n * 3) (hc : n + 1 ≤ c) :
    ((((A ++ D ++ T).take ((i + 1) * 3) ++ D ++ (A ++ D ++ T).drop ((i + 1) * 3 + D.length)).take (i * 3) ++ X ++ ((A ++ D ++ T).take ((i + 1) * 3) ++ D ++ (A ++ D ++ T).drop ((i + 1) * 3 + D.length)).drop (i * 3 + X.length))).take ((n + 1) * 3) = A ++ X ++ D := by
  have h1 : (A ++ D ++ T).take ((i + 1) * 3) = A ++ (D ++ T).take 3 := by
    rw [List.append_assoc, List.take_append, hA, List.take_of_length_le (by omega), show (i + 1) * 3 - i * 3 = 3 by omega]
  have h2 : ((D ++ T).take 3).length = 3 := by rw [List.length_take, List.length_append, hD, hT]; omega
  rw [h1]
  generalize (D ++ T).take 3 = E at h2
  generalize (A ++ D ++ T).drop ((i + 1) * 3 + D.length) = F
  have h3 : (A ++ E ++ D ++ F).take (i * 3) = A := by
    rw [List.append_assoc, List.append_assoc, List.take_append, hA, List.take_of_length_le (by omega), show i * 3 - i * 3 = 0 by omega]; simp
  have h4 : (A ++ E ++ D ++ F).drop (i * 3 + X.length) = D ++ F := by
    rw [List.append_assoc, List.drop_append, List.drop_of_length_le (by rw [List.length_append]; omega), List.length_append, hA, h2, hX, show i * 3 + 3 - (i * 3 + 3) = 0 by omega]; simp
  rw [h3, h4, ← List.append_assoc, List.take_append, List.take_of_length_le (by simp only [List.length_append]; omega)]
  simp only [List.length_append, hA, hX, hD]
  rw [show (n + 1) * 3 - (i * 3 + 3 + (n - i) * 3) = 0 by omega]
  simp
set_option maxHeartbeats 4000000 in
set_option maxRecDepth 100000 in
/-- There is room: in place. -/
theorem tw_insert_room (g n c i gx : Nat) (A D T X : List Value) (base : Nat) (w0 w : World) (HB0 : Below base w0 w) (hbase : base ≤ g)
    (hg : w.heap[g]? = some (.cells (A ++ D ++ T).toArray 36 (0, 0))) (hA : A.length = i * 3) (hD : D.length = (n - i) * 3) (hX : X.length = 3) (hT : T.length = c * 3 - n * 3) (hi : i < n) (hroom : n + 1 ≤ c) (hc63 : c ≤ 9223372036854775807)
    (hx : w.heap[gx]? = some (.cells X.toArray 36 (0, 0))) (hne : gx ≠ g) (h1D : ∀ v ∈ D, v.oneCell' = true) (h1X : ∀ v ∈ X, v.oneCell' = true) :
    Calls Try.prog 45 #[.slice (some ⟨g, 0, none⟩) n c, .int .i64 i, .slice (some ⟨gx, 0, none⟩) 1 1] w fun e w' => e = .returned (.slice (some ⟨g, 0, none⟩) (n + 1) c) ∧ Below base w0 w' ∧ (∀ k, k ≠ g → w'.heap[k]? = w.heap[k]?) ∧
      ∃ F : List Value, F.length = c * 3 ∧ F.take ((n + 1) * 3) = A ++ X ++ D ∧ w'.heap[g]? = some (.cells F.toArray 36 (0, 0)) := by
  have hcur : (A ++ D ++ T).length = c * 3 := by simp only [List.length_append, hA, hD, hT]; omega
  have hsa : w.shape? gx = some (36, 3) := by simp [World.shape?, hx, hX]
  have hsb : w.shape? g = some (36, c * 3) := by simp only [World.shape?, hg]; simp only [List.size_toArray, hcur]
  have hov : ∀ lb cb, (callFunc 60 #[.slice (some ⟨gx, 0, none⟩) 1 1, .slice (some ⟨g, (i + 1) * 3, none⟩) lb cb]).run Try.prog w = .ok (.value (.bool false)) w := fun lb cb => by
    rw [run_callFunc_extern Try.func60 (by kernel_rfl) (by kernel_rfl) (by kernel_rfl) (e := Extern.SlicesOverlaps.overlaps #[26, 26] #[4]) (by kernel_rfl),
      Lib.run_overlaps_apart w 26 4 36 Try.underlying26 3 (fun _ => by kernel_rfl) ⟨gx, 0, none⟩ ⟨g, (i + 1) * 3, none⟩ 1 1 lb cb hne 36 36 3 (c * 3) hsa hsb (by omega) (by simp [World.frozen?, hx]) (by simp [World.frozen?, hx])]
    rfl
  have hz2 : ¬ ((i : Int) = (n : Int)) := by omega
  have hw1 : IntKind.i64.wrap ((i : Int) + 1) = (i : Int) + 1 := by rw [IntKind.wrap_i64]; omega
  have hb1 : (0 : Int) ≤ (i : Int) + 1 := by omega
  have hin : i ≤ n := by omega
  have htn : ((i : Int) + 1).toNat = i + 1 := by omega
  have hb2 : ¬ (c = i + 1) := by omega
  have hb3 : (i : Int) ≤ (n : Int) + 1 := by omega
  have hb4 : ¬ (c = i) := by omega
  obtain ⟨X1, hX1⟩ : ∃ X1 : List Value, X1 = (A ++ D ++ T).take ((i + 1) * 3) ++ D ++ (A ++ D ++ T).drop ((i + 1) * 3 + D.length) := ⟨_, rfl⟩
  have hl1 : X1.length = c * 3 := by rw [hX1]; simp only [List.length_append, List.length_take, List.length_drop, hA, hD, hT]; omega
  have hcp1 : ∀ ty dc sc, (Builtin.copy_ #[26, 26] ty #[.slice (some ⟨g, (i + 1) * 3, none⟩) (n - i) dc, .slice (some ⟨g, i * 3, none⟩) (n + 1 - i) sc]).run Try.prog w.drew = .ok (goInt ((n - i : Nat) : Int)) (w.drew.setRow g X1.toArray) := fun ty dc sc => by
    have h := tw_copy w.drew ty g ((i + 1) * 3) (n - i) dc ⟨g, i * 3, none⟩ (n + 1 - i) sc (A ++ D ++ T).toArray 36 D hg (by rw [hD]; simp only [Nat.min_def]; split <;> omega)
      (fun j v hj => by
        rw [Addr.add_lit, blk_cell (show w.drew.heap[g]? = _ from hg)]
        have hjl : j < D.length := (List.getElem?_eq_some_iff.1 hj).1
        rw [List.getElem?_toArray, List.append_assoc, List.getElem?_append_right (by omega), List.getElem?_append_left (by omega), show i * 3 + j - A.length = j by omega]
        exact hj)
      (by simp only [List.size_toArray]; rw [hcur, hD]; omega) h1D
    rw [hX1, h]
    simp only [Nat.min_def]
    have : (if n + 1 - i ≤ n - i then n + 1 - i else n - i) = n - i := by split <;> omega
    rw [this]
  obtain ⟨X2, hX2⟩ : ∃ X2 : List Value, X2 = X1.take (i * 3) ++ X ++ X1.drop (i * 3 + X.length) := ⟨_, rfl⟩
  have hl2 : X2.length = c * 3 := by rw [hX2]; simp only [List.length_append, List.length_take, List.length_drop, hl1, hX]; omega
  have hg1 : (w.drew.setRow g X1.toArray).heap[g]? = some (.cells X1.toArray 36 (0, 0)) := setRow_heap w.drew g _ _ 36 _ hg
  have hx1 : (w.drew.setRow g X1.toArray).heap[gx]? = some (.cells X.toArray 36 (0, 0)) := (setRow_other w.drew g gx _ hne).trans hx
  obtain ⟨W1, hW1⟩ : ∃ W1 : World, W1 = w.drew.setRow g X1.toArray := ⟨_, rfl⟩
  rw [← hW1] at hg1 hx1 hcp1
  have hcp2 : ∀ ty dc, (Builtin.copy_ #[26, 26] ty #[.slice (some ⟨g, i * 3, none⟩) (n + 1 - i) dc, .slice (some ⟨gx, 0, none⟩) 1 1]).run Try.prog W1 = .ok (goInt ((1 : Nat) : Int)) (W1.setRow g X2.toArray) := fun ty dc => by
    have h := tw_copy W1 ty g (i * 3) (n + 1 - i) dc ⟨gx, 0, none⟩ 1 1 X1.toArray 36 X hg1 (by rw [hX]; simp only [Nat.min_def]; split <;> omega)
      (fun j v hj => by rw [Addr.add_lit, Nat.zero_add, blk_cell hx1, List.getElem?_toArray]; exact hj)
      (by simp only [List.size_toArray]; rw [hl1, hX]; omega) h1X
    rw [hX2, h]
    simp only [Nat.min_def]
    have : (if 1 ≤ n + 1 - i then 1 else n + 1 - i) = 1 := by split <;> omega
    rw [this]
  have hfin : (X2.take ((n + 1) * 3)) = A ++ X ++ D := by
    have := tw_splice_room A D X T i n c hA hD hX hi hT hroom
    rw [← hX1, ← hX2] at this
    exact this
  have hg2 : (W1.setRow g X2.toArray).heap[g]? = some (.cells X2.toArray 36 (0, 0)) := setRow_heap W1 g _ _ 36 _ hg1
  have hb2' : Below base w0 (W1.setRow g X2.toArray) := below_setRow (by rw [hW1]; exact below_setRow (Below.drew HB0) hbase _) hbase _
  have hkp : ∀ k, k ≠ g → (W1.setRow g X2.toArray).heap[k]? = w.heap[k]? := fun k hk => by rw [setRow_other W1 g k _ hk, hW1, setRow_other w.drew g k _ hk]; rfl
  have FIN : Aside0 ((∀ k, k ≠ g → (W1.setRow g X2.toArray).heap[k]? = w.heap[k]?) ∧ ∃ F : List Value, F.length = c * 3 ∧ F.take ((n + 1) * 3) = A ++ X ++ D ∧ (W1.setRow g X2.toArray).heap[g]? = some (.cells F.toArray 36 (0, 0))) := ⟨⟨hkp, X2, hl2, hfin, hg2⟩⟩
  have HB2 := Aside0.mk hb2'
  clear hX1 hl1 hX2 hl2 hg1 hx1 hW1 hfin hg2 hb2' hkp
  have HCUR := Aside0.mk hcur
  have HG := Aside0.mk hg
  have HXB := Aside0.mk hx
  have HLA := Aside0.mk hA
  have HLD := Aside0.mk hD
  have HLX := Aside0.mk hX
  have HLT := Aside0.mk hT
  have HB := Aside0.mk HB0
  clear hcur hg hx hA hD hX hT HB0 hsa hsb
  go_enter Try.func45, Try.ntmps45
  go_wp2_with (simp only [hov])
  go_region_law (refine step_copy_runI rfl _ _ 26 26 rfl _ _ (by simp [Act.eval, Act.put]) (by simp [Act.eval, Act.put]) (hcp1 _ _ _) ?_)
  go_wp2_with (at_builtin; refine wpList_copy_runI _ rfl _ _ 26 26 rfl _ _ rfl rfl (hcp2 _ _) ?_)
  go_ret
  exact ⟨rfl, HB2.out, FIN.out⟩
theorem tw_splice_new (A D X Z : List Value) (i n : Nat) (hA : A.length = i * 3) (hD : D.length = (n - i) * 3) (hX : X.length = 3) (hi : i < n) (hZ : 3 ≤ Z.length) :
    ((((A ++ Z).take (i * 3) ++ X ++ (A ++ Z).drop (i * 3 + X.length)).take ((i + 1) * 3) ++ D ++ ((A ++ Z).take (i * 3) ++ X ++ (A ++ Z).drop (i * 3 + X.length)).drop ((i + 1) * 3 + D.length))).take ((n + 1) * 3) = A ++ X ++ D := by
  have h1 : (A ++ Z).take (i * 3) = A := by rw [List.take_append, hA, List.take_of_length_le (by omega)]; simp
  rw [h1]
  generalize (A ++ Z).drop (i * 3 + X.length) = E
  have h2 : (A ++ X ++ E).take ((i + 1) * 3) = A ++ X := by
    rw [List.take_append, List.take_of_length_le (by simp only [List.length_append]; omega)]
    simp only [List.length_append, hA, hX]
    rw [show (i + 1) * 3 - (i * 3 + 3) = 0 by omega]
    simp
  rw [h2]
  rw [List.take_append, List.take_of_length_le (by simp only [List.length_append]; omega)]
  simp only [List.length_append, hA, hX, hD]
  rw [show (n + 1) * 3 - (i * 3 + 3 + (n - i) * 3) = 0 by omega]
  simp
set_option maxHeartbeats 4000000 in
set_option maxRecDepth 100000 in
/-- There is no room: a new row. -/
theorem tw_insert_grow (g n c i gx : Nat) (A D T X : List Value) (base : Nat) (w0 w : World) (HB0 : Below base w0 w) (hbase : base ≤ w.heap.size)
    (hg : w.heap[g]? = some (.cells (A ++ D ++ T).toArray 36 (0, 0))) (hA : A.length = i * 3) (hD : D.length = (n - i) * 3) (hX : X.length = 3) (hi : i < n) (hnc : n ≤ c) (hroom : c < n + 1) (hn : n < 1000000)
    (hx : w.heap[gx]? = some (.cells X.toArray 36 (0, 0))) (h1D : ∀ v ∈ D, v.oneCell' = true) (h1X : ∀ v ∈ X, v.oneCell' = true) :
    Calls Try.prog 45 #[.slice (some ⟨g, 0, none⟩) n c, .int .i64 i, .slice (some ⟨gx, 0, none⟩) 1 1] w fun e w' => ∃ g' G, e = .returned (.slice (some ⟨g', 0, none⟩) (n + 1) G) ∧ Below base w0 w' ∧ (∀ k, k < w.heap.size → w'.heap[k]? = w.heap[k]?) ∧ base ≤ g' ∧ n + 1 ≤ G ∧ G ≤ 9223372036854775807 ∧
      ∃ F : List Value, F.length = G * 3 ∧ F.take ((n + 1) * 3) = A ++ X ++ D ∧ w'.heap[g']? = some (.cells F.toArray 36 (0, 0)) := by
  obtain ⟨i0, hi0, hz0, hzs, hzb⟩ := info_parts tw_info36
  have hgw : g < w.heap.size := blk_lt hg
  have hxw : gx < w.heap.size := blk_lt hx
  have hkk : (n : Int) + 1 - (i : Int) = ((n + 1 - i : Nat) : Int) := by omega
  have hik : i + (n + 1 - i) = n + 1 := by omega
  have hold : (Builtin.firstCells i0.size i (.slice (some ⟨g, 0, none⟩) i c)).run Try.prog w.drew = .ok A.toArray w.drew := by
    rw [hzs]
    exact run_firstCells_some w.drew 3 i ⟨g, 0, none⟩ i c A hA (fun j v hj => by
      have hjl : j < A.length := (List.getElem?_eq_some_iff.1 hj).1
      rw [Addr.add_lit, Nat.zero_add, blk_cell (show w.drew.heap[g]? = _ from hg), List.getElem?_toArray, List.append_assoc, List.getElem?_append_left hjl]
      exact hj)
  obtain ⟨G, hG⟩ : ∃ G, G = grownCap w (n + 1) c 36 := ⟨_, rfl⟩
  have hGn : n + 1 ≤ G := by rw [hG]; exact grownCap_ge w _ _ _
  have hG63 : G ≤ 9223372036854775807 := by
    have := grownCap_le_maxLen w (n + 1) c 36 (by unfold maxLen; omega)
    rw [← hG] at this
    unfold maxLen at this
    omega
  have hrz0 := fun ty => Lib.run_append_grow_zeros (P := Try.prog) w 26 3 ty 36 i0 (.agg #[(.int .i64 0), (.int .i64 0), (.int .u64 0)]) .i64 .i64 Try.underlying26 Try.underlying3 hi0 hz0 (some ⟨g, 0, none⟩) i c A hold (n + 1 - i) (by omega) (by omega) (by omega) (by omega) (by rw [hzb]; omega) (by rw [hzb, hik]; exact growslice_fits hroom (by omega))
  rw [hik, ← hkk, ← hG] at hrz0
  obtain ⟨Z, hZ, hZr⟩ : ∃ Z : List Value, Z.length = (G - i) * 3 ∧ A.toArray ++ Builtin.zeroCells (Value.agg #[(.int .i64 0), (.int .i64 0), (.int .u64 0)]).cells (n + 1 - i) ++ Builtin.zeroCells (Value.agg #[(.int .i64 0), (.int .i64 0), (.int .u64 0)]).cells (G - (n + 1)) = (A ++ Z).toArray := by
    refine ⟨(Builtin.zeroCells (Value.agg #[(.int .i64 0), (.int .i64 0), (.int .u64 0)]).cells (n + 1 - i) ++ Builtin.zeroCells (Value.agg #[(.int .i64 0), (.int .i64 0), (.int .u64 0)]).cells (G - (n + 1))).toList, ?_, ?_⟩
    · have hsz : ∀ k, (Builtin.zeroCells (Value.agg #[(.int .i64 0), (.int .i64 0), (.int .u64 0)]).cells k).size = k * 3 := fun k => by
        simp [Builtin.zeroCells, Value.cells]
      simp only [Array.length_toList, Array.size_append, hsz]
      omega
    · apply Array.ext'
      simp
  rw [hZr] at hrz0
  clear hZr hold hkk hik
  obtain ⟨h, hh⟩ : ∃ h, h = w.heap.size := ⟨_, rfl⟩
  obtain ⟨W1, hW1⟩ : ∃ W1 : World, W1 = w.drew.alloc (.cells (A ++ Z).toArray 36) := ⟨_, rfl⟩
  have hg1 : W1.heap[h]? = some (.cells (A ++ Z).toArray 36 (0, 0)) := by rw [hW1, hh]; exact blk_new w.drew _
  have hgo : W1.heap[g]? = some (.cells (A ++ D ++ T).toArray 36 (0, 0)) := by rw [hW1]; exact blk_alloc (blk_drew hg) _
  have hxo : W1.heap[gx]? = some (.cells X.toArray 36 (0, 0)) := by rw [hW1]; exact blk_alloc (blk_drew hx) _
  have hB1 : Below base w0 W1 := by rw [hW1]; exact Below.alloc (Below.drew HB0) hbase _
  rw [← hW1, ← hh] at hrz0
  have hcur : (A ++ Z).length = G * 3 := by rw [List.length_append, hA, hZ]; omega
  obtain ⟨X1, hX1⟩ : ∃ X1 : List Value, X1 = (A ++ Z).take (i * 3) ++ X ++ (A ++ Z).drop (i * 3 + X.length) := ⟨_, rfl⟩
  have hl1 : X1.length = G * 3 := by rw [hX1]; simp only [List.length_append, List.length_take, List.length_drop, hA, hZ, hX]; omega
  have hcp1 : ∀ ty dc, (Builtin.copy_ #[26, 26] ty #[.slice (some ⟨h, i * 3, none⟩) (n + 1 - i) dc, .slice (some ⟨gx, 0, none⟩) 1 1]).run Try.prog W1 = .ok (goInt ((1 : Nat) : Int)) (W1.setRow h X1.toArray) := fun ty dc => by
    have h := tw_copy W1 ty h (i * 3) (n + 1 - i) dc ⟨gx, 0, none⟩ 1 1 (A ++ Z).toArray 36 X hg1 (by rw [hX]; simp only [Nat.min_def]; split <;> omega)
      (fun j v hj => by rw [Addr.add_lit, Nat.zero_add, blk_cell hxo, List.getElem?_toArray]; exact hj)
      (by simp only [List.size_toArray]; rw [hcur, hX]; omega) h1X
    rw [hX1, h]
    simp only [Nat.min_def]
    have : (if 1 ≤ n + 1 - i then 1 else n + 1 - i) = 1 := by split <;> omega
    rw [this]
  have hgh : g ≠ h := by omega
  obtain ⟨W2, hW2⟩ : ∃ W2 : World, W2 = W1.setRow h X1.toArray := ⟨_, rfl⟩
  have hg2 : W2.heap[h]? = some (.cells X1.toArray 36 (0, 0)) := by rw [hW2]; exact setRow_heap W1 h _ _ 36 _ hg1
  have hgo2 : W2.heap[g]? = some (.cells (A ++ D ++ T).toArray 36 (0, 0)) := by rw [hW2]; exact (setRow_other W1 h g _ hgh).trans hgo
  have hB2 : Below base w0 W2 := by rw [hW2]; exact below_setRow hB1 (by omega) _
  rw [← hW2] at hcp1
  obtain ⟨X2, hX2⟩ : ∃ X2 : List Value, X2 = X1.take ((i + 1) * 3) ++ D ++ X1.drop ((i + 1) * 3 + D.length) := ⟨_, rfl⟩
  have hl2 : X2.length = G * 3 := by rw [hX2]; simp only [List.length_append, List.length_take, List.length_drop, hl1, hD]; omega
  have hcp2 : ∀ ty dc sc, (Builtin.copy_ #[26, 26] ty #[.slice (some ⟨h, (i + 1) * 3, none⟩) (n - i) dc, .slice (some ⟨g, i * 3, none⟩) (n - i) sc]).run Try.prog W2.drew = .ok (goInt ((n - i : Nat) : Int)) (W2.drew.setRow h X2.toArray) := fun ty dc sc => by
    have h := tw_copy W2.drew ty h ((i + 1) * 3) (n - i) dc ⟨g, i * 3, none⟩ (n - i) sc X1.toArray 36 D hg2 (by rw [hD]; simp only [Nat.min_def]; split <;> omega)
      (fun j v hj => by
        rw [Addr.add_lit, blk_cell (show W2.drew.heap[g]? = _ from hgo2)]
        have hjl : j < D.length := (List.getElem?_eq_some_iff.1 hj).1
        rw [List.getElem?_toArray, List.append_assoc, List.getElem?_append_right (by omega), List.getElem?_append_left (by omega), show i * 3 + j - A.length = j by omega]
        exact hj)
      (by simp only [List.size_toArray]; rw [hl1, hD]; omega) h1D
    rw [hX2, h]
    simp only [Nat.min_def]
    have : (if n - i ≤ n - i then n - i else n - i) = n - i := by split <;> omega
    rw [this]
  have hkp : ∀ k, k < w.heap.size → (W2.drew.setRow h X2.toArray).heap[k]? = w.heap[k]? := fun k hk => by rw [setRow_other W2.drew h k _ (by omega)]; show W2.heap[k]? = _; rw [hW2, setRow_other W1 h k _ (by omega), hW1]; exact Below.heap_alloc w.drew _ k hk
  have FIN : Aside0 (Below base w0 (W2.drew.setRow h X2.toArray) ∧ (∀ k, k < w.heap.size → (W2.drew.setRow h X2.toArray).heap[k]? = w.heap[k]?) ∧ base ≤ h ∧ n + 1 ≤ G ∧ G ≤ 9223372036854775807 ∧ ∃ F : List Value, F.length = G * 3 ∧ F.take ((n + 1) * 3) = A ++ X ++ D ∧ (W2.drew.setRow h X2.toArray).heap[h]? = some (.cells F.toArray 36 (0, 0))) :=
    ⟨⟨below_setRow (Below.drew hB2) (by omega) _, hkp, by omega, hGn, hG63, X2, hl2, by
      have := tw_splice_new A D X Z i n hA hD hX hi (by rw [hZ]; omega)
      rw [← hX1, ← hX2] at this
      exact this, setRow_heap W2.drew h _ _ 36 _ hg2⟩⟩
  have hz2 : ¬ ((i : Int) = (n : Int)) := by omega
  have hz3 : (c : Int) < (n : Int) + 1 := by omega
  have hw1 : IntKind.i64.wrap ((i : Int) + 1) = (i : Int) + 1 := by rw [IntKind.wrap_i64]; omega
  have hb1 : (0 : Int) ≤ (i : Int) + 1 := by omega
  have hin : i ≤ n := by omega
  have htn : ((i : Int) + 1).toNat = i + 1 := by omega
  have hb3 : (i : Int) ≤ (n : Int) := by omega
  have hGi : ¬ (G = i) := by omega
  have hGim : ¬ (G = i + 1) := by omega
  have hci : ¬ (c = i) := by omega
  clear hg hx hA hD hX HB0 hG hZ hW1 hg1 hgo hxo hB1 hcur hX1 hl1 hW2 hg2 hgo2 hB2 hX2 hl2 hgw hxw hi0 hz0 hzs hzb h1D h1X hh hkp
  go_enter Try.func45, Try.ntmps45
  go_wp2_with (first
    | (at_builtin; refine Lib.wpList_append_run _ rfl _ _ _ _ rfl _ _ rfl rfl _ _ (hrz0 _) ?_)
    | (at_builtin; refine wpList_copy_runI _ rfl _ _ 26 26 rfl _ _ rfl rfl (hcp1 _ _) ?_))
  go_region_law (refine step_copy_runI rfl _ _ 26 26 rfl _ _ (by simp [Act.eval, Act.put]) (by simp [Act.eval, Act.put]) (hcp2 _ _ _) ?_)
  go_wp2
  go_ret
  exact ⟨h, G, rfl, FIN.out⟩
set_option maxHeartbeats 1000000 in
theorem tw_insert (v : Value) (l : List S36) (x : S36) (i gx base : Nat) (w0 w : World) (HB0 : Below base w0 w) (hbase : base ≤ w.heap.size) (ho : Kd.R k36 36 w base (fun _ => True) v l) (hx : w.heap[gx]? = some (.cells (twEnc x).toArray 36 (0, 0)))
    (hne : ∀ k, v.ownBlock = some k → gx ≠ k) (hi : i ≤ l.length) (hl : l.length < 1000000) :
    Calls Try.prog 45 #[v, .int .i64 (i : Nat), .slice (some ⟨gx, 0, none⟩) 1 1] w fun e w' => ∃ v0 : Value, e = .returned v0 ∧ Kd.R k36 36 w' base (fun _ => True) v0 (l.take i ++ x :: l.drop i) ∧ Below base w0 w' ∧ TwKept w w' v := by
  by_cases hin : i = l.length
  · subst hin
    have := tw_insert_end v l x gx base w0 w HB0 hbase ho hx hl
    rw [List.take_of_length_le (Nat.le_refl _), List.drop_of_length_le (Nat.le_refl _)]
    exact this
  · have hilt : i < l.length := by omega
    obtain ⟨h1, h2⟩ := tw_R_flat ho
    rcases h2 with ⟨rfl, h0⟩ | ⟨g, cap, cur, rfl, hg, hh, hc1, hc2, hcs, hct⟩
    · omega
    · have hfl : twFlat l = twFlat (l.take i) ++ twFlat (l.drop i) := by rw [← tw_flat_append, List.take_append_drop]
      have hA : (twFlat (l.take i)).length = i * 3 := by rw [tw_flat_len, List.length_take]; congr 1; omega
      have hD : (twFlat (l.drop i)).length = (l.length - i) * 3 := by rw [tw_flat_len, List.length_drop]
      have hT : (cur.toList.drop (l.length * 3)).length = cap * 3 - l.length * 3 := by rw [List.length_drop, Array.length_toList, hcs]
      have hcur : cur = (twFlat (l.take i) ++ twFlat (l.drop i) ++ cur.toList.drop (l.length * 3)).toArray := by
        rw [← hfl, ← hct, List.take_append_drop]
      have hF : twFlat (l.take i ++ x :: l.drop i) = twFlat (l.take i) ++ twEnc x ++ twFlat (l.drop i) := by rw [tw_flat_append, twFlat, List.append_assoc]
      have hlen : (l.take i ++ x :: l.drop i).length = l.length + 1 := by simp only [List.length_append, List.length_take, List.length_cons, List.length_drop]; omega
      rw [hcur] at hh
      have h1D : ∀ v ∈ twFlat (l.drop i), v.oneCell' = true := tw_flat_one _
      have h1X : ∀ v ∈ twEnc x, v.oneCell' = true := by have := tw_flat_one [x]; simpa [twFlat] using this
      by_cases hroom : l.length + 1 ≤ cap
      · refine (tw_insert_room g l.length cap i gx _ _ _ (twEnc x) base w0 w HB0 hg hh hA hD rfl hT hilt hroom (by unfold maxLen at hc2; omega) hx (hne g (by simp [Value.ownBlock])) h1D h1X).mono ?_
        rintro e w' ⟨rfl, hb, hkp, F, hFl, hFt, hFh⟩
        refine ⟨_, rfl, tw_flat_R ⟨by rw [tw_flat_len], .inr ⟨g, cap, F.toArray, by rw [hlen], hg, hFh, by omega, hc2, by simpa using hFl, ?_⟩⟩, hb, fun k hk hne' => hkp k (fun e => hne' (by rw [e]; rfl))⟩
        rw [hF, hlen]
        exact hFt
      · refine (tw_insert_grow g l.length cap i gx _ _ _ (twEnc x) base w0 w HB0 hbase hh hA hD rfl hilt hc1 (by omega) hl hx h1D h1X).mono ?_
        rintro e w' ⟨g', G, rfl, hb, hkp, hg', hG1, hG2, F, hFl, hFt, hFh⟩
        refine ⟨_, rfl, tw_flat_R ⟨by rw [tw_flat_len], .inr ⟨g', G, F.toArray, by rw [hlen], hg', hFh, by omega, by unfold maxLen; omega, by simpa using hFl, ?_⟩⟩, hb, fun k hk _ => hkp k hk⟩
        rw [hF, hlen]
        exact hFt
theorem tw_flat_get : ∀ (l : List S36) (i : Nat) (h : i < l.length) (j : Nat), j < 3 → (twFlat l)[i * 3 + j]? = (twEnc l[i])[j]?
  | x :: t, 0, _, j, hj => by
    simp only [twFlat, Nat.zero_mul, Nat.zero_add, List.getElem_cons_zero]
    exact List.getElem?_append_left (by simpa [twEnc] using hj)
  | x :: t, i + 1, h, j, hj => by
    have := tw_flat_get t i (by simpa using h) j hj
    simp only [twFlat, List.getElem_cons_succ]
    rw [List.getElem?_append_right (by simp [twEnc]; omega), ← this]
    congr 1
    simp [twEnc]
    omega
theorem tw_flat_set : ∀ (l : List S36) (i : Nat) (h : i < l.length) (y : S36), twFlat (l.set i y) = (twFlat l).take (i * 3) ++ twEnc y ++ (twFlat l).drop (i * 3 + 3)
  | x :: t, 0, _, y => by simp [twFlat, twEnc]
  | x :: t, i + 1, h, y => by
    have := tw_flat_set t i (by simpa using h) y
    simp only [List.set_cons_succ, twFlat, this]
    rw [show (i + 1) * 3 = 3 + i * 3 by omega, show 3 + i * 3 + 3 = 3 + (i * 3 + 3) by omega]
    simp [twEnc, List.take_append, List.drop_append, List.append_assoc, List.take_add]
    conv => rhs; rw [← List.drop_drop]
    rfl
/-- A number of two bytes. -/
def twIn (n : Int) : Bool := decide (0 ≤ n) && decide (n < 65536)
theorem tw_in (a0 : Int) (w : World) : Calls Try.prog 42 #[.int .i64 a0] w fun e w' => e = .returned (.bool (twIn a0)) ∧ Drawn0 w w' := by
  refine twin_in.calls a0 (twIn a0) w ?_
  unfold twin_in.f twIn
  by_cases h : a0 ≥ 0 <;> simp [h]
set_option maxHeartbeats 4000000 in
set_option maxRecDepth 100000 in
theorem tw_accept_bad1 (A0 : Option Addr) (c0 : Nat) (l : List S36) (a1 a2 : Int) (w : World) (hr0 : Kd.C k36 w A0 l.length l) (hc0 : l.length ≤ c0) (hl : l.length < 1000000) (hbad : twIn a1 = false) :
    Calls Try.prog 17 #[.agg #[.slice A0 l.length c0], .int .i64 a1, .int .i64 a2] w fun e w' => ∃ v0_ : Value, e = .returned (.tuple #[.agg #[v0_], .bool false]) ∧ Kd.R k36 36 w' w.heap.size (fun _ => True) v0_ l ∧ Below w.heap.size w w' := by
  have HR0 := Aside0.mk hr0
  have HC0 := Aside0.mk hc0
  have HL := Aside0.mk hl
  clear hr0 hc0 hl
  have HB := Aside0.mk (Below.refl w.heap.size w)
  have hu28 := Try.underlying28
  go_enter Try.func17, Try.ntmps17
  go_wp2_with (first
    | ((with_reducible refine gate_dst (N := 3) rfl ?_); refine box_event rfl (N := 3) rfl (cs := #[.slice A0 l.length c0]) (t := 28) ?hr ?_; (case hr => first | (go_simp; done) | (go_simp; rfl)); intro g3 hg w3 hbox hb; have BK3 := Aside0.mk hbox; have GE3 := Aside0.mk (show w.heap.size ≤ g3 by rw [hg]; exact Nat.le_refl _); have HB3 := Aside0.mk (below_step HB.out hb); clear hbox hb hg)
    | ((with_reducible refine gate_dst (N := 6) rfl ?_); refine box_event rfl (N := 6) rfl (cs := #[.slice none 0 0]) (t := 28) ?hr ?_; (case hr => first | (go_simp; done) | (go_simp; rfl)); intro g6 hg w6 hbox hb; have BK6 := Aside0.mk hbox; have BK3' := Aside0.mk (blk_below BK3.out hb); have GE6 := Aside0.mk (show w.heap.size ≤ g6 by rw [hg]; exact HB3.out.size); have N36 := Aside0.mk (show g3 ≠ g6 by rw [hg]; exact Nat.ne_of_lt (blk_lt BK3.out)); have HB6 := Aside0.mk (below_step HB3.out hb); clear hbox hb hg; have hc3 : w6.cell? ⟨g3, 0, none⟩ = some (.slice A0 l.length c0) := (blk_cell BK3'.out 0).trans rfl; have hf3 := blk_frozen BK3'.out 0)
    | (go_at_call 41; refine (tw_clone A0 c0 l _ (Kd.C_below HR0.out HB6.out) HC0.out HL.out).mono ?_; rintro e w7 ⟨v1, rfl, ho, hb⟩; have HO := Aside0.mk (Kd.R_types (Kd.R_types (Kd.R_lower ho HB6.out.size) (blk_below BK3'.out hb) (by decide)) (blk_below BK6.out hb) (by decide)); have BK37 := Aside0.mk (blk_below BK3'.out hb); have BK67 := Aside0.mk (blk_below BK6.out hb); have HB7 := Aside0.mk (below_step HB6.out hb); obtain ⟨A1, c1, e1⟩ := Kd.R_slice ho; subst e1; clear ho hb hc3 hf3; have hc3 : w7.cell? ⟨g3, 0, none⟩ = some (.slice A0 l.length c0) := (blk_cell BK37.out 0).trans rfl; have hf3 := blk_frozen BK37.out 0; have hc6 : w7.cell? ⟨g6, 0, none⟩ = some (.slice none 0 0) := (blk_cell BK67.out 0).trans rfl; have hf6 := blk_frozen BK67.out 0; have n36 : ¬ g3 = g6 := N36.out; have n63 : ¬ g6 = g3 := fun h => N36.out h.symm; have HO8 := Aside0.mk (Kd.R_far (p := ⟨g3, 0, none⟩) HO.out (fun _ hk => hk.1.2) (.slice A1 l.length c1)); have BK38 := Aside0.mk (blk_put (cs' := #[.slice A1 l.length c1]) BK37.out 0 (.slice A1 l.length c1) rfl); have BK68 := Aside0.mk (blk_far (p := ⟨g3, 0, none⟩) BK67.out n63 (.slice A1 l.length c1)); have HB8 := Aside0.mk (below_set (j := 0) (v := .slice A1 l.length c1) HB7.out GE3.out))
    | (go_at_call 42; refine (tw_in _ _).mono ?_; rintro e w8 ⟨rfl, m, rfl⟩)
    )
  refine bodyPost_ret (results_ct rfl _ _ g6 28 #[.slice A1 l.length c1] (0, 0) _ rfl (by refine blk_put (cs := #[.slice none 0 0]) ?_ 0 _ rfl; (with_reducible repeat (first | refine blk_drewN ?_ _ | refine blk_drew ?_ | refine blk_alloc ?_ _)); exact BK68.out) Try.underlying28 rfl (by kernel_rfl)) rfl ?_
  exact ⟨_, rfl, Kd.R_mono (Kd.R_far (p := ⟨g6, 0, none⟩) (show Kd.R k36 36 _ _ (fun k_ => (True ∧ k_ ≠ g3) ∧ k_ ≠ g6) _ _ from by (with_reducible repeat (first | apply Kd.R_alloc | apply Kd.R_drewN | apply Kd.R_drew)); exact HO8.out) (fun _ hk => hk.2) _) (fun _ _ => trivial), by repeat (first | (with_reducible first | exact HB8.out | apply below_alloc | apply pw_below_drewN | apply below_drew1 | refine below_set ?_ GE6.out) | exact HB8.out)⟩
set_option maxHeartbeats 4000000 in
set_option maxRecDepth 100000 in
theorem tw_accept_bad2 (A0 : Option Addr) (c0 : Nat) (l : List S36) (a1 a2 : Int) (w : World) (hr0 : Kd.C k36 w A0 l.length l) (hc0 : l.length ≤ c0) (hl : l.length < 1000000) (h1 : twIn a1 = true) (h2 : twIn a2 = false) :
    Calls Try.prog 17 #[.agg #[.slice A0 l.length c0], .int .i64 a1, .int .i64 a2] w fun e w' => ∃ v0_ : Value, e = .returned (.tuple #[.agg #[v0_], .bool false]) ∧ Kd.R k36 36 w' w.heap.size (fun _ => True) v0_ l ∧ Below w.heap.size w w' := by
  have HR0 := Aside0.mk hr0
  have HC0 := Aside0.mk hc0
  have HL := Aside0.mk hl
  clear hr0 hc0 hl
  have HB := Aside0.mk (Below.refl w.heap.size w)
  have hu28 := Try.underlying28
  go_enter Try.func17, Try.ntmps17
  go_wp2_with (first
    | ((with_reducible refine gate_dst (N := 3) rfl ?_); refine box_event rfl (N := 3) rfl (cs := #[.slice A0 l.length c0]) (t := 28) ?hr ?_; (case hr => first | (go_simp; done) | (go_simp; rfl)); intro g3 hg w3 hbox hb; have BK3 := Aside0.mk hbox; have GE3 := Aside0.mk (show w.heap.size ≤ g3 by rw [hg]; exact Nat.le_refl _); have HB3 := Aside0.mk (below_step HB.out hb); clear hbox hb hg)
    | ((with_reducible refine gate_dst (N := 6) rfl ?_); refine box_event rfl (N := 6) rfl (cs := #[.slice none 0 0]) (t := 28) ?hr ?_; (case hr => first | (go_simp; done) | (go_simp; rfl)); intro g6 hg w6 hbox hb; have BK6 := Aside0.mk hbox; have BK3' := Aside0.mk (blk_below BK3.out hb); have GE6 := Aside0.mk (show w.heap.size ≤ g6 by rw [hg]; exact HB3.out.size); have N36 := Aside0.mk (show g3 ≠ g6 by rw [hg]; exact Nat.ne_of_lt (blk_lt BK3.out)); have HB6 := Aside0.mk (below_step HB3.out hb); clear hbox hb hg; have hc3 : w6.cell? ⟨g3, 0, none⟩ = some (.slice A0 l.length c0) := (blk_cell BK3'.out 0).trans rfl; have hf3 := blk_frozen BK3'.out 0)
    | (go_at_call 41; refine (tw_clone A0 c0 l _ (Kd.C_below HR0.out HB6.out) HC0.out HL.out).mono ?_; rintro e w7 ⟨v1, rfl, ho, hb⟩; have HO := Aside0.mk (Kd.R_types (Kd.R_types (Kd.R_lower ho HB6.out.size) (blk_below BK3'.out hb) (by decide)) (blk_below BK6.out hb) (by decide)); have BK37 := Aside0.mk (blk_below BK3'.out hb); have BK67 := Aside0.mk (blk_below BK6.out hb); have HB7 := Aside0.mk (below_step HB6.out hb); obtain ⟨A1, c1, e1⟩ := Kd.R_slice ho; subst e1; clear ho hb hc3 hf3; have hc3 : w7.cell? ⟨g3, 0, none⟩ = some (.slice A0 l.length c0) := (blk_cell BK37.out 0).trans rfl; have hf3 := blk_frozen BK37.out 0; have hc6 : w7.cell? ⟨g6, 0, none⟩ = some (.slice none 0 0) := (blk_cell BK67.out 0).trans rfl; have hf6 := blk_frozen BK67.out 0; have n36 : ¬ g3 = g6 := N36.out; have n63 : ¬ g6 = g3 := fun h => N36.out h.symm; have HO8 := Aside0.mk (Kd.R_far (p := ⟨g3, 0, none⟩) HO.out (fun _ hk => hk.1.2) (.slice A1 l.length c1)); have BK38 := Aside0.mk (blk_put (cs' := #[.slice A1 l.length c1]) BK37.out 0 (.slice A1 l.length c1) rfl); have BK68 := Aside0.mk (blk_far (p := ⟨g3, 0, none⟩) BK67.out n63 (.slice A1 l.length c1)); have HB8 := Aside0.mk (below_set (j := 0) (v := .slice A1 l.length c1) HB7.out GE3.out))
    | (go_at_call 42; refine (tw_in _ _).mono ?_; rintro e w8 ⟨rfl, m, rfl⟩)
    )
  refine bodyPost_ret (results_ct rfl _ _ g6 28 #[.slice A1 l.length c1] (0, 0) _ rfl (by refine blk_put (cs := #[.slice none 0 0]) ?_ 0 _ rfl; (with_reducible repeat (first | refine blk_drewN ?_ _ | refine blk_drew ?_ | refine blk_alloc ?_ _)); exact BK68.out) Try.underlying28 rfl (by kernel_rfl)) rfl ?_
  exact ⟨_, rfl, Kd.R_mono (Kd.R_far (p := ⟨g6, 0, none⟩) (show Kd.R k36 36 _ _ (fun k_ => (True ∧ k_ ≠ g3) ∧ k_ ≠ g6) _ _ from by (with_reducible repeat (first | apply Kd.R_alloc | apply Kd.R_drewN | apply Kd.R_drew)); exact HO8.out) (fun _ hk => hk.2) _) (fun _ _ => trivial), by repeat (first | (with_reducible first | exact HB8.out | apply below_alloc | apply pw_below_drewN | apply below_drew1 | refine below_set ?_ GE6.out) | exact HB8.out)⟩
set_option maxHeartbeats 4000000 in
set_option maxRecDepth 100000 in
theorem tw_accept_new (A0 : Option Addr) (c0 : Nat) (l : List S36) (a1 a2 : Int) (w : World) (hr0 : Kd.C k36 w A0 l.length l) (hc0 : l.length ≤ c0) (hok : TwOk l) (h1 : twIn a1 = true) (h2 : twIn a2 = true) (hn : twHas l a1 = false) :
    Calls Try.prog 17 #[.agg #[.slice A0 l.length c0], .int .i64 a1, .int .i64 a2] w fun e w' => ∃ v0_ : Value, e = .returned (.tuple #[.agg #[v0_], .bool true]) ∧ Kd.R k36 36 w' w.heap.size (fun _ => True) v0_ (l.take (twAt l a1) ++ ⟨a1, a2, 1⟩ :: l.drop (twAt l a1)) ∧ Below w.heap.size w w' := by
  have hl := hok.len
  have OK := Aside0.mk hok
  have B1 : Aside0 (0 ≤ a1 ∧ a1 < 65536) := ⟨by unfold twIn at h1; simpa using h1⟩
  have B2 : Aside0 (0 ≤ a2 ∧ a2 < 65536) := ⟨by unfold twIn at h2; simpa using h2⟩
  clear hok
  have HR0 := Aside0.mk hr0
  have HC0 := Aside0.mk hc0
  have HL := Aside0.mk hl
  clear hr0 hc0 hl
  have HB := Aside0.mk (Below.refl w.heap.size w)
  have hu28 := Try.underlying28
  generalize hat : twAt l a1 = at_
  have AT := Aside0.mk hat
  have ATL : Aside0 (at_ ≤ l.length) := ⟨by rw [← hat]; exact tw_at_le _ _⟩
  go_enter Try.func17, Try.ntmps17
  go_wp2_with (first
    | ((with_reducible refine gate_dst (N := 3) rfl ?_); refine box_event rfl (N := 3) rfl (cs := #[.slice A0 l.length c0]) (t := 28) ?hr ?_; (case hr => first | (go_simp; done) | (go_simp; rfl)); intro g3 hg w3 hbox hb; have BK3 := Aside0.mk hbox; have GE3 := Aside0.mk (show w.heap.size ≤ g3 by rw [hg]; exact Nat.le_refl _); have HB3 := Aside0.mk (below_step HB.out hb); clear hbox hb hg)
    | ((with_reducible refine gate_dst (N := 6) rfl ?_); refine box_event rfl (N := 6) rfl (cs := #[.slice none 0 0]) (t := 28) ?hr ?_; (case hr => first | (go_simp; done) | (go_simp; rfl)); intro g6 hg w6 hbox hb; have BK6 := Aside0.mk hbox; have BK3' := Aside0.mk (blk_below BK3.out hb); have GE6 := Aside0.mk (show w.heap.size ≤ g6 by rw [hg]; exact HB3.out.size); have N36 := Aside0.mk (show g3 ≠ g6 by rw [hg]; exact Nat.ne_of_lt (blk_lt BK3.out)); have HB6 := Aside0.mk (below_step HB3.out hb); clear hbox hb hg; have hc3 : w6.cell? ⟨g3, 0, none⟩ = some (.slice A0 l.length c0) := (blk_cell BK3'.out 0).trans rfl; have hf3 := blk_frozen BK3'.out 0)
    | (go_at_call 41; refine (tw_clone A0 c0 l _ (Kd.C_below HR0.out HB6.out) HC0.out HL.out).mono ?_; rintro e w7 ⟨v1, rfl, ho, hb⟩; have HO := Aside0.mk (Kd.R_types (Kd.R_types (Kd.R_lower ho HB6.out.size) (blk_below BK3'.out hb) (by decide)) (blk_below BK6.out hb) (by decide)); have BK37 := Aside0.mk (blk_below BK3'.out hb); have BK67 := Aside0.mk (blk_below BK6.out hb); have HB7 := Aside0.mk (below_step HB6.out hb); obtain ⟨A1, c1, e1⟩ := Kd.R_slice ho; subst e1; clear ho hb hc3 hf3; have hc3 : w7.cell? ⟨g3, 0, none⟩ = some (.slice A0 l.length c0) := (blk_cell BK37.out 0).trans rfl; have hf3 := blk_frozen BK37.out 0; have hc6 : w7.cell? ⟨g6, 0, none⟩ = some (.slice none 0 0) := (blk_cell BK67.out 0).trans rfl; have hf6 := blk_frozen BK67.out 0; have n36 : ¬ g3 = g6 := N36.out; have n63 : ¬ g6 = g3 := fun h => N36.out h.symm; have HO8 := Aside0.mk (Kd.R_far (p := ⟨g3, 0, none⟩) HO.out (fun _ hk => hk.1.2) (.slice A1 l.length c1)); have BK38 := Aside0.mk (blk_put (cs' := #[.slice A1 l.length c1]) BK37.out 0 (.slice A1 l.length c1) rfl); have BK68 := Aside0.mk (blk_far (p := ⟨g3, 0, none⟩) BK67.out n63 (.slice A1 l.length c1)); have HB8 := Aside0.mk (below_set (j := 0) (v := .slice A1 l.length c1) HB7.out GE3.out))
    | (go_at_call 42; refine (tw_in _ _).mono ?_; rintro e w8 ⟨rfl, m, rfl⟩)
    | (go_at_call 43; refine (tw_bsf _ _ l a1 _ (Kd.C_drewN (Kd.R_reads' HO8.out).2.2 _) (Kd.R_reads' HO8.out).2.1 OK.out B1.out.1 B1.out.2).mono ?_; rintro e w9 ⟨rfl, hb⟩; have HO9 := Aside0.mk (Kd.R_below (Kd.R_drewN HO8.out _) hb); have BK39 := Aside0.mk (blk_below (blk_drewN BK38.out _) hb); have BK69 := Aside0.mk (blk_below (blk_drewN BK68.out _) hb); have HB9 := Aside0.mk (below_step (pw_below_drewN HB8.out _) hb); clear hb hc3 hf3 hc6 hf6; have hc3 : w9.cell? ⟨g3, 0, none⟩ = some (.slice A1 l.length c1) := (blk_cell BK39.out 0).trans rfl; have hf3 := blk_frozen BK39.out 0; have hc6 : w9.cell? ⟨g6, 0, none⟩ = some (.slice none 0 0) := (blk_cell BK69.out 0).trans rfl; have hf6 := blk_frozen BK69.out 0)
    | (go_at_call 45; refine (tw_insert _ l ⟨a1, a2, 1⟩ at_ w9.heap.size w.heap.size w (w9.alloc (.cells (twEnc ⟨a1, a2, 1⟩).toArray 36)) (below_alloc HB9.out _) (Nat.le_trans HB9.out.size (by simp)) (Kd.R_alloc (Kd.R_mono HO9.out (fun _ _ => trivial)) _) (blk_new _ _) (fun k hk => by have := Kd.R_lt HO9.out k hk; omega) ATL.out HL.out).mono ?_; rintro e w10 ⟨v2, rfl, ho, hb, hkp⟩; have nb3 : some g3 ≠ Value.ownBlock (.slice A1 l.length c1) := fun e => ((Kd.R_mono HO9.out (fun _ hk => hk)).1 g3 e.symm).1.2 rfl; have nb6 : some g6 ≠ Value.ownBlock (.slice A1 l.length c1) := fun e => (HO9.out.1 g6 e.symm).2 rfl; have BK3A := Aside0.mk ((hkp g3 (blk_lt (blk_alloc BK39.out _)) nb3).trans (blk_alloc BK39.out _)); have BK6A := Aside0.mk ((hkp g6 (blk_lt (blk_alloc BK69.out _)) nb6).trans (blk_alloc BK69.out _)); have HOA := Aside0.mk (Kd.R_types (Kd.R_types ho BK3A.out (by decide)) BK6A.out (by decide)); obtain ⟨A2, n2, c2, e2⟩ : ∃ A n c, v2 = .slice A n c := (by obtain ⟨A, c, e⟩ := Kd.R_slice ho; exact ⟨A, _, c, e⟩); subst e2; have HBA := Aside0.mk hb; clear nb3 nb6 ho hb hkp hc3 hf3 hc6 hf6; have hc3 : w10.cell? ⟨g3, 0, none⟩ = some (.slice A1 l.length c1) := (blk_cell BK3A.out 0).trans rfl; have hf3 := blk_frozen BK3A.out 0; have hc6 : w10.cell? ⟨g6, 0, none⟩ = some (.slice none 0 0) := (blk_cell BK6A.out 0).trans rfl; have hf6 := blk_frozen BK6A.out 0)
    )
  refine bodyPost_ret (results_ct rfl _ _ g6 28 #[.slice A2 n2 c2] (0, 0) _ rfl (by refine blk_put (cs := #[.slice none 0 0]) ?_ 0 _ rfl; exact blk_far (p := ⟨g3, 0, none⟩) BK6A.out n63 _) Try.underlying28 rfl (by kernel_rfl)) rfl ?_
  exact ⟨_, rfl, Kd.R_mono (Kd.R_far (p := ⟨g6, 0, none⟩) (Kd.R_far (p := ⟨g3, 0, none⟩) HOA.out (fun _ hk => hk.1.2) _) (fun _ hk => hk.2) _) (fun _ _ => trivial), below_set (below_set HBA.out GE3.out) GE6.out⟩
theorem tw_flat_set1 : ∀ (l : List S36) (i : Nat) (h : i < l.length) (v : Int), twFlat (l.set i ⟨l[i].f0, v, l[i].f2⟩) = (twFlat l).set (i * 3 + 1) (.int .i64 v)
  | x :: t, 0, _, v => by simp [twFlat, twEnc]
  | x :: t, i + 1, h, v => by
    have := tw_flat_set1 t i (by simpa using h) v
    simp only [List.set_cons_succ, twFlat, List.getElem_cons_succ, this]
    rw [show (i + 1) * 3 + 1 = (i * 3 + 1) + 3 by omega]
    simp [twEnc]
theorem tw_flat_set2 : ∀ (l : List S36) (i : Nat) (h : i < l.length) (v : Int), twFlat (l.set i ⟨l[i].f0, l[i].f1, v⟩) = (twFlat l).set (i * 3 + 2) (.int .u64 v)
  | x :: t, 0, _, v => by simp [twFlat, twEnc]
  | x :: t, i + 1, h, v => by
    have := tw_flat_set2 t i (by simpa using h) v
    simp only [List.set_cons_succ, twFlat, List.getElem_cons_succ, this]
    rw [show (i + 1) * 3 + 2 = (i * 3 + 2) + 3 by omega]
    simp [twEnc]
theorem tw_take_set (cur : Array Value) (l : List S36) (hct : cur.toList.take (l.length * 3) = twFlat l) (k : Nat) (v : Value) : (cur.setIfInBounds k v).toList.take (l.length * 3) = (twFlat l).set k v := by
  rw [Array.toList_setIfInBounds, ← hct, List.take_set]
/-- The row behind the stores into a source's fields. -/
theorem tw_row_set {w : World} {g c base i : Nat} {l : List S36} {cur : Array Value} (y : S36) (hg : w.heap[g]? = some (.cells cur 36 (0, 0))) (hcs : cur.size = c * 3) (hct : cur.toList.take (l.length * 3) = twFlat (l.set i y)) (hb : base ≤ g) (hlc : l.length ≤ c) (hc : c ≤ maxLen) :
    Kd.R k36 36 w base (fun _ => True) (.slice (some ⟨g, 0, none⟩) l.length c) (l.set i y) := by
  have h := @tw_flat_R w base (.slice (some ⟨g, 0, none⟩) l.length c) (l.set i y) ⟨by rw [tw_flat_len], .inr ⟨g, c, cur, by simp, hb, hg, by simpa using hlc, hc, hcs, by simpa using hct⟩⟩
  exact h
/-- The source behind a copy that is known. -/
def twNew (x : S36) (a2 : Int) : S36 :=
  if 1 ≤ (a2 - x.f1 + 65536) % 65536 ∧ (a2 - x.f1 + 65536) % 65536 < 32768 then ⟨x.f0, a2, Go.bits .or .u64 (IntKind.u64.wrap (x.f2 * 2 ^ min ((a2 - x.f1 + 65536) % 65536).toNat 64)) 1⟩
  else if (a2 - x.f1 + 65536) % 65536 = 0 then ⟨x.f0, x.f1, Go.bits .or .u64 x.f2 1⟩
  else if (a2 - x.f1 + 65536) % 65536 > 65472 then ⟨x.f0, x.f1, Go.bits .or .u64 x.f2 (IntKind.u64.wrap (2 ^ (-((a2 - x.f1 + 65536) % 65536) % 65536).toNat))⟩
  else x
theorem tw_own_block {w : World} {base g c g3 g6 : Nat} {l : List S36} (h : Kd.R k36 36 w base (fun k => (True ∧ k ≠ g3) ∧ k ≠ g6) (.slice (some ⟨g, 0, none⟩) l.length c) l) :
    ∃ cur : Array Value, w.heap[g]? = some (.cells cur 36 (0, 0)) ∧ cur.size = c * 3 ∧ cur.toList.take (l.length * 3) = twFlat l ∧ g ≠ g3 ∧ g ≠ g6 ∧ base ≤ g ∧ l.length ≤ c ∧ c ≤ maxLen := by
  have ho := h.1 g (by simp [Value.ownBlock])
  obtain ⟨_, h2⟩ := tw_R_flat h
  rcases h2 with ⟨h3, _⟩ | ⟨g', cap, cur, he, hb, hh, h5, h6, hcs, hct⟩
  · cases h3
  · simp only [Value.slice.injEq, Option.some.injEq, Addr.mk.injEq] at he
    obtain ⟨⟨rfl, _⟩, _, rfl⟩ := he
    exact ⟨cur, hh, hcs, hct, ho.1.2, ho.2, hb, h5, h6⟩
theorem tw_at_cell {w : World} {g : Nat} {l : List S36} {cur : Array Value} (hg : w.heap[g]? = some (.cells cur 36 (0, 0))) (hct : cur.toList.take (l.length * 3) = twFlat l) (i : Nat) (h : i < l.length) (j : Nat) (hj : j < 3) :
    w.cell? ⟨g, i * 3 + j, none⟩ = (twEnc l[i])[j]? := by
  rw [blk_cell hg, ← tw_flat_get l i h j hj, ← hct, List.getElem?_take_of_lt (by omega), Array.getElem?_toList]
set_option maxHeartbeats 8000000 in
set_option maxRecDepth 100000 in
theorem tw_accept_a (A0 : Option Addr) (c0 : Nat) (l : List S36) (a1 a2 : Int) (w : World) (hr0 : Kd.C k36 w A0 l.length l) (hc0 : l.length ≤ c0) (hok : TwOk l) (h1 : twIn a1 = true) (h2 : twIn a2 = true) (hh : twHas l a1 = true)
    (at_ : Nat) (x0 x1 x2 d : Int) (hat : twAt l a1 = at_) (hal : at_ < l.length) (hx : l[at_] = ⟨x0, x1, x2⟩) (hd : (a2 - x1 + 65536) % 65536 = d) (hd1 : 1 ≤ d) (hd2 : d < 32768) :
    Calls Try.prog 17 #[.agg #[.slice A0 l.length c0], .int .i64 a1, .int .i64 a2] w fun e w' => ∃ v0_ : Value, e = .returned (.tuple #[.agg #[v0_], .bool (true)]) ∧ Kd.R k36 36 w' w.heap.size (fun _ => True) v0_ (l.set at_ ⟨x0, a2, Go.bits .or .u64 (IntKind.u64.wrap (x2 * 2 ^ min d.toNat 64)) 1⟩) ∧ Below w.heap.size w w' := by
  have hl := hok.len
  have OK := Aside0.mk hok
  have hb2 : 0 ≤ a2 ∧ a2 < 65536 := by unfold twIn at h2; simpa using h2
  have B1 : Aside0 (0 ≤ a1 ∧ a1 < 65536) := ⟨by unfold twIn at h1; simpa using h1⟩
  have hbx := hok.top l[at_] (List.getElem_mem _)
  rw [hx] at hbx
  simp only at hbx
  obtain ⟨⟨hb3, hb4⟩, hb5, hb6⟩ := hbx
  obtain ⟨hb7, hb8⟩ := hb2
  have NE : Aside0 (0 < l.length) := ⟨by omega⟩
  have X := Aside0.mk hx
  have AL := Aside0.mk hal
  have HR0 := Aside0.mk hr0
  have HC0 := Aside0.mk hc0
  have HL := Aside0.mk hl
  clear hr0 hc0 hl hok hx
  have HB := Aside0.mk (Below.refl w.heap.size w)
  have hu28 := Try.underlying28
  have hu36 := Try.underlying36
  have hne1 : (a2 == x1) = false := by rw [beq_eq_false_iff_ne]; omega
  have hal1 : (at_ : Int) < (l.length : Int) := by omega
  have hdb : 0 ≤ d ∧ d < 65536 := by omega
  obtain ⟨hdb1, hdb2⟩ := hdb
  go_enter Try.func17, Try.ntmps17
  go_wp2_with (first
    | ((with_reducible refine gate_dst (N := 3) rfl ?_); refine box_event rfl (N := 3) rfl (cs := #[.slice A0 l.length c0]) (t := 28) ?hr ?_; (case hr => first | (go_simp; done) | (go_simp; rfl)); intro g3 hg w3 hbox hb; have BK3 := Aside0.mk hbox; have GE3 := Aside0.mk (show w.heap.size ≤ g3 by rw [hg]; exact Nat.le_refl _); have HB3 := Aside0.mk (below_step HB.out hb); clear hbox hb hg)
    | ((with_reducible refine gate_dst (N := 6) rfl ?_); refine box_event rfl (N := 6) rfl (cs := #[.slice none 0 0]) (t := 28) ?hr ?_; (case hr => first | (go_simp; done) | (go_simp; rfl)); intro g6 hg w6 hbox hb; have BK6 := Aside0.mk hbox; have BK3' := Aside0.mk (blk_below BK3.out hb); have GE6 := Aside0.mk (show w.heap.size ≤ g6 by rw [hg]; exact HB3.out.size); have N36 := Aside0.mk (show g3 ≠ g6 by rw [hg]; exact Nat.ne_of_lt (blk_lt BK3.out)); have HB6 := Aside0.mk (below_step HB3.out hb); clear hbox hb hg; have hc3 : w6.cell? ⟨g3, 0, none⟩ = some (.slice A0 l.length c0) := (blk_cell BK3'.out 0).trans rfl; have hf3 := blk_frozen BK3'.out 0)
    | (go_at_call 41; refine (tw_clone A0 c0 l _ (Kd.C_below HR0.out HB6.out) HC0.out HL.out).mono ?_; rintro e w7 ⟨v1, rfl, ho, hb⟩; have HO := Aside0.mk (Kd.R_types (Kd.R_types (Kd.R_lower ho HB6.out.size) (blk_below BK3'.out hb) (by decide)) (blk_below BK6.out hb) (by decide)); have BK37 := Aside0.mk (blk_below BK3'.out hb); have BK67 := Aside0.mk (blk_below BK6.out hb); have HB7 := Aside0.mk (below_step HB6.out hb); obtain ⟨g, c1, e1, hgb, hgl, _, _⟩ := Kd.R_form ho NE.out; subst e1; clear ho hb hc3 hf3; have hc3 : w7.cell? ⟨g3, 0, none⟩ = some (.slice A0 l.length c0) := (blk_cell BK37.out 0).trans rfl; have hf3 := blk_frozen BK37.out 0; have hc6 : w7.cell? ⟨g6, 0, none⟩ = some (.slice none 0 0) := (blk_cell BK67.out 0).trans rfl; have hf6 := blk_frozen BK67.out 0; have n36 : ¬ g3 = g6 := N36.out; have n63 : ¬ g6 = g3 := fun h => N36.out h.symm; have HO8 := Aside0.mk (Kd.R_far (p := ⟨g3, 0, none⟩) HO.out (fun _ hk => hk.1.2) (.slice (some ⟨g, 0, none⟩) l.length c1)); have BK38 := Aside0.mk (blk_put (cs' := #[.slice (some ⟨g, 0, none⟩) l.length c1]) BK37.out 0 (.slice (some ⟨g, 0, none⟩) l.length c1) rfl); have BK68 := Aside0.mk (blk_far (p := ⟨g3, 0, none⟩) BK67.out n63 (.slice (some ⟨g, 0, none⟩) l.length c1)); have HB8 := Aside0.mk (below_set (j := 0) (v := .slice (some ⟨g, 0, none⟩) l.length c1) HB7.out GE3.out))
    | (go_at_call 42; refine (tw_in _ _).mono ?_; rintro e w8 ⟨rfl, m, rfl⟩)
    | (go_at_call 43; refine (tw_bsf _ _ l a1 _ (Kd.C_drewN (Kd.R_reads' HO8.out).2.2 _) (Kd.R_reads' HO8.out).2.1 OK.out B1.out.1 B1.out.2).mono ?_; rintro e w9 ⟨rfl, hb⟩; have HO9 := Aside0.mk (Kd.R_below (Kd.R_drewN HO8.out _) hb); have BK39 := Aside0.mk (blk_below (blk_drewN BK38.out _) hb); have BK69 := Aside0.mk (blk_below (blk_drewN BK68.out _) hb); have HB9 := Aside0.mk (below_step (pw_below_drewN HB8.out _) hb); clear hb hc3 hf3 hc6 hf6; have hc3 : w9.cell? ⟨g3, 0, none⟩ = some (.slice (some ⟨g, 0, none⟩) l.length c1) := (blk_cell BK39.out 0).trans rfl; have hf3 := blk_frozen BK39.out 0; have hc6 : w9.cell? ⟨g6, 0, none⟩ = some (.slice none 0 0) := (blk_cell BK69.out 0).trans rfl; have hf6 := blk_frozen BK69.out 0; obtain ⟨cur, hg9, hcs, hct, hg3, hg6, hgb0, hlc0, hmx0⟩ := tw_own_block HO9.out; have GEG := Aside0.mk hgb0; have LC := Aside0.mk hlc0; have MX := Aside0.mk hmx0; clear hgb0 hlc0 hmx0; have BKG := Aside0.mk hg9; have CS := Aside0.mk hcs; have CT := Aside0.mk hct; have hx0 := tw_at_cell hg9 hct at_ AL.out 0 (by omega); have hx1 := tw_at_cell hg9 hct at_ AL.out 1 (by omega); have hx2 := tw_at_cell hg9 hct at_ AL.out 2 (by omega); have hf := blk_frozen hg9; rw [X.out] at hx0 hx1 hx2; simp only [twEnc, List.getElem?_cons_zero, List.getElem?_cons_succ, Nat.add_zero] at hx0 hx1 hx2; clear hg9 hcs hct)
    | ((with_reducible refine gate_dst (N := 11) rfl ?_); refine box_event rfl (N := 11) rfl (cs := #[.int .i64 0, .int .i64 0, .int .u64 0]) (t := 36) ?hr ?_; (case hr => first | (go_simp; done) | (go_simp; rfl)); intro g11 hg w11 hbox hb; have BK11 := Aside0.mk hbox; have n113 : ¬ g11 = g3 := (by have := blk_lt BK39.out; omega); have n116 : ¬ g11 = g6 := (by have := blk_lt BK69.out; omega); have n11g : ¬ g11 = g := (by have := blk_lt BKG.out; omega); have n311 : ¬ g3 = g11 := fun h => n113 h.symm; have n611 : ¬ g6 = g11 := fun h => n116 h.symm; have ng11 : ¬ g = g11 := fun h => n11g h.symm; have ng3 : ¬ g = g3 := hg3; have ng6 : ¬ g = g6 := hg6; have n3g : ¬ g3 = g := fun h => hg3 h.symm; have n6g : ¬ g6 = g := fun h => hg6 h.symm; have GE11 := Aside0.mk (show w.heap.size ≤ g11 by rw [hg]; exact HB9.out.size); have BK3B := Aside0.mk (blk_below BK39.out hb); have BK6B := Aside0.mk (blk_below BK69.out hb); have BKGB := Aside0.mk (blk_below BKG.out hb); have HBB := Aside0.mk (below_step HB9.out hb); have lt0 := hb.cell (World.block_lt_of_cell? w9 _ hx0); rw [hx0] at lt0; have lt1 := hb.cell (World.block_lt_of_cell? w9 _ hx1); rw [hx1] at lt1; have lt2 := hb.cell (World.block_lt_of_cell? w9 _ hx2); rw [hx2] at lt2; clear hbox hb hg hx0 hx1 hx2 hc3 hc6 hf3 hf6 hf; have hx0 := lt0; have hx1 := lt1; have hx2 := lt2; clear lt0 lt1 lt2; have hf := blk_frozen BKGB.out; have hc3 : w11.cell? ⟨g3, 0, none⟩ = some (.slice (some ⟨g, 0, none⟩) l.length c1) := (blk_cell BK3B.out 0).trans rfl; have hf3 := blk_frozen BK3B.out; have hc6 : w11.cell? ⟨g6, 0, none⟩ = some (.slice none 0 0) := (blk_cell BK6B.out 0).trans rfl; have hf6 := blk_frozen BK6B.out; have hc110 : w11.cell? ⟨g11, 0, none⟩ = some (.int .i64 0) := (blk_cell BK11.out 0).trans rfl; have hc111 : w11.cell? ⟨g11, 1, none⟩ = some (.int .i64 0) := (blk_cell BK11.out 1).trans rfl; have hc112 : w11.cell? ⟨g11, 2, none⟩ = some (.int .u64 0) := (blk_cell BK11.out 2).trans rfl; have hf11 := blk_frozen BK11.out)
    )
  go_region
  go_wp2
  go_region
  go_wp2
  have hset1 := tw_take_set cur l CT.out (at_ * 3 + 1) (.int .i64 a2)
  rw [← tw_flat_set1 l at_ AL.out a2, X.out] at hset1
  have hset2 := tw_take_set _ (l.set at_ ⟨x0, a2, x2⟩) (by rw [List.length_set]; exact hset1) (at_ * 3 + 2) (.int .u64 (Go.bits .or .u64 (IntKind.u64.wrap (x2 * 2 ^ min d.toNat 64)) 1))
  rw [← tw_flat_set2 (l.set at_ ⟨x0, a2, x2⟩) at_ (by rw [List.length_set]; exact AL.out)] at hset2
  simp only [List.getElem_set_self, List.set_set, List.length_set] at hset2
  refine bodyPost_ret (results_ct rfl _ _ g6 28 #[.slice (some ⟨g, 0, none⟩) l.length c1] (0, 0) _ rfl (by (with_reducible repeat (first | refine blk_drewN ?_ _ | refine blk_drew ?_)); refine blk_put (cs := #[.slice none 0 0]) ?_ 0 _ rfl; refine blk_far (p := ⟨g, at_ * 3 + 2, none⟩) ?_ n6g _; refine blk_far (p := ⟨g, at_ * 3 + 1, none⟩) ?_ n6g _; refine blk_far (p := ⟨g11, 2, none⟩) ?_ n611 _; refine blk_far (p := ⟨g11, 1, none⟩) ?_ n611 _; exact blk_far (p := ⟨g11, 0, none⟩) BK6B.out n611 _) Try.underlying28 rfl (by kernel_rfl)) rfl ?_
  refine ⟨_, rfl, tw_row_set _ ?_ ?_ hset2 GEG.out LC.out MX.out, ?_⟩
  · (with_reducible repeat (first | refine blk_drewN ?_ _ | refine blk_drew ?_))
    refine blk_far (p := ⟨g6, 0, none⟩) ?_ ng6 _
    refine blk_set ?_ (at_ * 3 + 2) _
    refine blk_set ?_ (at_ * 3 + 1) _
    refine blk_far (p := ⟨g11, 2, none⟩) ?_ ng11 _
    refine blk_far (p := ⟨g11, 1, none⟩) ?_ ng11 _
    exact blk_far (p := ⟨g11, 0, none⟩) BKGB.out ng11 _
  · simp [CS.out]
  · exact below_drew1 (below_drew1 (below_set (below_set (below_set (below_set (below_set (below_set HBB.out GE11.out) GE11.out) GE11.out) GEG.out) GEG.out) GE6.out))
attribute [local go_sem high] eqA36
set_option maxHeartbeats 8000000 in
set_option maxRecDepth 100000 in
theorem tw_accept_b (A0 : Option Addr) (c0 : Nat) (l : List S36) (a1 a2 : Int) (w : World) (hr0 : Kd.C k36 w A0 l.length l) (hc0 : l.length ≤ c0) (hok : TwOk l) (h1 : twIn a1 = true) (h2 : twIn a2 = true) (hh : twHas l a1 = true)
    (at_ : Nat) (x0 x1 x2 d : Int) (hat : twAt l a1 = at_) (hal : at_ < l.length) (hx : l[at_] = ⟨x0, x1, x2⟩) (hd : (a2 - x1 + 65536) % 65536 = d) (hd1 : d > 65472) :
    Calls Try.prog 17 #[.agg #[.slice A0 l.length c0], .int .i64 a1, .int .i64 a2] w fun e w' => ∃ v0_ : Value, e = .returned (.tuple #[.agg #[v0_], .bool (!(Go.bits .or .u64 x2 (IntKind.u64.wrap (2 ^ (-d % 65536).toNat)) == x2))]) ∧ Kd.R k36 36 w' w.heap.size (fun _ => True) v0_ (l.set at_ ⟨x0, x1, Go.bits .or .u64 x2 (IntKind.u64.wrap (2 ^ (-d % 65536).toNat))⟩) ∧ Below w.heap.size w w' := by
  have hl := hok.len
  have OK := Aside0.mk hok
  have hb2 : 0 ≤ a2 ∧ a2 < 65536 := by unfold twIn at h2; simpa using h2
  have B1 : Aside0 (0 ≤ a1 ∧ a1 < 65536) := ⟨by unfold twIn at h1; simpa using h1⟩
  have hbx := hok.top l[at_] (List.getElem_mem _)
  rw [hx] at hbx
  simp only at hbx
  obtain ⟨⟨hb3, hb4⟩, hb5, hb6⟩ := hbx
  obtain ⟨hb7, hb8⟩ := hb2
  have NE : Aside0 (0 < l.length) := ⟨by omega⟩
  have X := Aside0.mk hx
  have AL := Aside0.mk hal
  have HR0 := Aside0.mk hr0
  have HC0 := Aside0.mk hc0
  have HL := Aside0.mk hl
  clear hr0 hc0 hl hok hx
  have HB := Aside0.mk (Below.refl w.heap.size w)
  have hu28 := Try.underlying28
  have hu36 := Try.underlying36
  have hal1 : (at_ : Int) < (l.length : Int) := by omega
  have hdb : 0 ≤ d ∧ d < 65536 := by omega
  obtain ⟨hdb1, hdb2⟩ := hdb
  go_enter Try.func17, Try.ntmps17
  go_wp2_with (first
    | ((with_reducible refine gate_dst (N := 3) rfl ?_); refine box_event rfl (N := 3) rfl (cs := #[.slice A0 l.length c0]) (t := 28) ?hr ?_; (case hr => first | (go_simp; done) | (go_simp; rfl)); intro g3 hg w3 hbox hb; have BK3 := Aside0.mk hbox; have GE3 := Aside0.mk (show w.heap.size ≤ g3 by rw [hg]; exact Nat.le_refl _); have HB3 := Aside0.mk (below_step HB.out hb); clear hbox hb hg)
    | ((with_reducible refine gate_dst (N := 6) rfl ?_); refine box_event rfl (N := 6) rfl (cs := #[.slice none 0 0]) (t := 28) ?hr ?_; (case hr => first | (go_simp; done) | (go_simp; rfl)); intro g6 hg w6 hbox hb; have BK6 := Aside0.mk hbox; have BK3' := Aside0.mk (blk_below BK3.out hb); have GE6 := Aside0.mk (show w.heap.size ≤ g6 by rw [hg]; exact HB3.out.size); have N36 := Aside0.mk (show g3 ≠ g6 by rw [hg]; exact Nat.ne_of_lt (blk_lt BK3.out)); have HB6 := Aside0.mk (below_step HB3.out hb); clear hbox hb hg; have hc3 : w6.cell? ⟨g3, 0, none⟩ = some (.slice A0 l.length c0) := (blk_cell BK3'.out 0).trans rfl; have hf3 := blk_frozen BK3'.out 0)
    | (go_at_call 41; refine (tw_clone A0 c0 l _ (Kd.C_below HR0.out HB6.out) HC0.out HL.out).mono ?_; rintro e w7 ⟨v1, rfl, ho, hb⟩; have HO := Aside0.mk (Kd.R_types (Kd.R_types (Kd.R_lower ho HB6.out.size) (blk_below BK3'.out hb) (by decide)) (blk_below BK6.out hb) (by decide)); have BK37 := Aside0.mk (blk_below BK3'.out hb); have BK67 := Aside0.mk (blk_below BK6.out hb); have HB7 := Aside0.mk (below_step HB6.out hb); obtain ⟨g, c1, e1, hgb, hgl, _, _⟩ := Kd.R_form ho NE.out; subst e1; clear ho hb hc3 hf3; have hc3 : w7.cell? ⟨g3, 0, none⟩ = some (.slice A0 l.length c0) := (blk_cell BK37.out 0).trans rfl; have hf3 := blk_frozen BK37.out 0; have hc6 : w7.cell? ⟨g6, 0, none⟩ = some (.slice none 0 0) := (blk_cell BK67.out 0).trans rfl; have hf6 := blk_frozen BK67.out 0; have n36 : ¬ g3 = g6 := N36.out; have n63 : ¬ g6 = g3 := fun h => N36.out h.symm; have HO8 := Aside0.mk (Kd.R_far (p := ⟨g3, 0, none⟩) HO.out (fun _ hk => hk.1.2) (.slice (some ⟨g, 0, none⟩) l.length c1)); have BK38 := Aside0.mk (blk_put (cs' := #[.slice (some ⟨g, 0, none⟩) l.length c1]) BK37.out 0 (.slice (some ⟨g, 0, none⟩) l.length c1) rfl); have BK68 := Aside0.mk (blk_far (p := ⟨g3, 0, none⟩) BK67.out n63 (.slice (some ⟨g, 0, none⟩) l.length c1)); have HB8 := Aside0.mk (below_set (j := 0) (v := .slice (some ⟨g, 0, none⟩) l.length c1) HB7.out GE3.out))
    | (go_at_call 42; refine (tw_in _ _).mono ?_; rintro e w8 ⟨rfl, m, rfl⟩)
    | (go_at_call 43; refine (tw_bsf _ _ l a1 _ (Kd.C_drewN (Kd.R_reads' HO8.out).2.2 _) (Kd.R_reads' HO8.out).2.1 OK.out B1.out.1 B1.out.2).mono ?_; rintro e w9 ⟨rfl, hb⟩; have HO9 := Aside0.mk (Kd.R_below (Kd.R_drewN HO8.out _) hb); have BK39 := Aside0.mk (blk_below (blk_drewN BK38.out _) hb); have BK69 := Aside0.mk (blk_below (blk_drewN BK68.out _) hb); have HB9 := Aside0.mk (below_step (pw_below_drewN HB8.out _) hb); clear hb hc3 hf3 hc6 hf6; have hc3 : w9.cell? ⟨g3, 0, none⟩ = some (.slice (some ⟨g, 0, none⟩) l.length c1) := (blk_cell BK39.out 0).trans rfl; have hf3 := blk_frozen BK39.out 0; have hc6 : w9.cell? ⟨g6, 0, none⟩ = some (.slice none 0 0) := (blk_cell BK69.out 0).trans rfl; have hf6 := blk_frozen BK69.out 0; obtain ⟨cur, hg9, hcs, hct, hg3, hg6, hgb0, hlc0, hmx0⟩ := tw_own_block HO9.out; have GEG := Aside0.mk hgb0; have LC := Aside0.mk hlc0; have MX := Aside0.mk hmx0; clear hgb0 hlc0 hmx0; have BKG := Aside0.mk hg9; have CS := Aside0.mk hcs; have CT := Aside0.mk hct; have hx0 := tw_at_cell hg9 hct at_ AL.out 0 (by omega); have hx1 := tw_at_cell hg9 hct at_ AL.out 1 (by omega); have hx2 := tw_at_cell hg9 hct at_ AL.out 2 (by omega); have hf := blk_frozen hg9; rw [X.out] at hx0 hx1 hx2; simp only [twEnc, List.getElem?_cons_zero, List.getElem?_cons_succ, Nat.add_zero] at hx0 hx1 hx2; clear hg9 hcs hct)
    | ((with_reducible refine gate_dst (N := 11) rfl ?_); refine box_event rfl (N := 11) rfl (cs := #[.int .i64 0, .int .i64 0, .int .u64 0]) (t := 36) ?hr ?_; (case hr => first | (go_simp; done) | (go_simp; rfl)); intro g11 hg w11 hbox hb; have BK11 := Aside0.mk hbox; have n113 : ¬ g11 = g3 := (by have := blk_lt BK39.out; omega); have n116 : ¬ g11 = g6 := (by have := blk_lt BK69.out; omega); have n11g : ¬ g11 = g := (by have := blk_lt BKG.out; omega); have n311 : ¬ g3 = g11 := fun h => n113 h.symm; have n611 : ¬ g6 = g11 := fun h => n116 h.symm; have ng11 : ¬ g = g11 := fun h => n11g h.symm; have ng3 : ¬ g = g3 := hg3; have ng6 : ¬ g = g6 := hg6; have n3g : ¬ g3 = g := fun h => hg3 h.symm; have n6g : ¬ g6 = g := fun h => hg6 h.symm; have GE11 := Aside0.mk (show w.heap.size ≤ g11 by rw [hg]; exact HB9.out.size); have BK3B := Aside0.mk (blk_below BK39.out hb); have BK6B := Aside0.mk (blk_below BK69.out hb); have BKGB := Aside0.mk (blk_below BKG.out hb); have HBB := Aside0.mk (below_step HB9.out hb); have lt0 := hb.cell (World.block_lt_of_cell? w9 _ hx0); rw [hx0] at lt0; have lt1 := hb.cell (World.block_lt_of_cell? w9 _ hx1); rw [hx1] at lt1; have lt2 := hb.cell (World.block_lt_of_cell? w9 _ hx2); rw [hx2] at lt2; clear hbox hb hg hx0 hx1 hx2 hc3 hc6 hf3 hf6 hf; have hx0 := lt0; have hx1 := lt1; have hx2 := lt2; clear lt0 lt1 lt2; have hf := blk_frozen BKGB.out; have hc3 : w11.cell? ⟨g3, 0, none⟩ = some (.slice (some ⟨g, 0, none⟩) l.length c1) := (blk_cell BK3B.out 0).trans rfl; have hf3 := blk_frozen BK3B.out; have hc6 : w11.cell? ⟨g6, 0, none⟩ = some (.slice none 0 0) := (blk_cell BK6B.out 0).trans rfl; have hf6 := blk_frozen BK6B.out; have hc110 : w11.cell? ⟨g11, 0, none⟩ = some (.int .i64 0) := (blk_cell BK11.out 0).trans rfl; have hc111 : w11.cell? ⟨g11, 1, none⟩ = some (.int .i64 0) := (blk_cell BK11.out 1).trans rfl; have hc112 : w11.cell? ⟨g11, 2, none⟩ = some (.int .u64 0) := (blk_cell BK11.out 2).trans rfl; have hf11 := blk_frozen BK11.out)
    )
  go_region
  go_wp2
  go_region
  go_wp2
  have hset2 := tw_take_set cur l CT.out (at_ * 3 + 2) (.int .u64 (Go.bits .or .u64 x2 (IntKind.u64.wrap (2 ^ (-d % 65536).toNat))))
  rw [← tw_flat_set2 l at_ AL.out, X.out] at hset2
  refine bodyPost_ret (results_ct rfl _ _ g6 28 #[.slice (some ⟨g, 0, none⟩) l.length c1] (0, 0) _ rfl (by (with_reducible repeat (first | refine blk_drewN ?_ _ | refine blk_drew ?_)); refine blk_put (cs := #[.slice none 0 0]) ?_ 0 _ rfl; refine blk_far (p := ⟨g, at_ * 3 + 2, none⟩) ?_ n6g _; refine blk_far (p := ⟨g11, 2, none⟩) ?_ n611 _; refine blk_far (p := ⟨g11, 1, none⟩) ?_ n611 _; exact blk_far (p := ⟨g11, 0, none⟩) BK6B.out n611 _) Try.underlying28 rfl (by kernel_rfl)) rfl ?_
  refine ⟨_, rfl, tw_row_set _ ?_ ?_ hset2 GEG.out LC.out MX.out, ?_⟩
  · (with_reducible repeat (first | refine blk_drewN ?_ _ | refine blk_drew ?_))
    refine blk_far (p := ⟨g6, 0, none⟩) ?_ ng6 _
    refine blk_set ?_ (at_ * 3 + 2) _
    refine blk_far (p := ⟨g11, 2, none⟩) ?_ ng11 _
    refine blk_far (p := ⟨g11, 1, none⟩) ?_ ng11 _
    exact blk_far (p := ⟨g11, 0, none⟩) BKGB.out ng11 _
  · simp [CS.out]
  · exact below_drew1 (below_drew1 (below_set (below_set (below_set (below_set (below_set HBB.out GE11.out) GE11.out) GE11.out) GEG.out) GE6.out))
set_option maxHeartbeats 8000000 in
set_option maxRecDepth 100000 in
theorem tw_accept_b0 (A0 : Option Addr) (c0 : Nat) (l : List S36) (a1 a2 : Int) (w : World) (hr0 : Kd.C k36 w A0 l.length l) (hc0 : l.length ≤ c0) (hok : TwOk l) (h1 : twIn a1 = true) (h2 : twIn a2 = true) (hh : twHas l a1 = true)
    (at_ : Nat) (x0 x1 x2 : Int) (hat : twAt l a1 = at_) (hal : at_ < l.length) (hx : l[at_] = ⟨x0, x1, x2⟩) (hd : (a2 - x1 + 65536) % 65536 = 0)  :
    Calls Try.prog 17 #[.agg #[.slice A0 l.length c0], .int .i64 a1, .int .i64 a2] w fun e w' => ∃ v0_ : Value, e = .returned (.tuple #[.agg #[v0_], .bool (!(Go.bits .or .u64 x2 1 == x2))]) ∧ Kd.R k36 36 w' w.heap.size (fun _ => True) v0_ (l.set at_ ⟨x0, x1, Go.bits .or .u64 x2 1⟩) ∧ Below w.heap.size w w' := by
  have hl := hok.len
  have OK := Aside0.mk hok
  have hb2 : 0 ≤ a2 ∧ a2 < 65536 := by unfold twIn at h2; simpa using h2
  have B1 : Aside0 (0 ≤ a1 ∧ a1 < 65536) := ⟨by unfold twIn at h1; simpa using h1⟩
  have hbx := hok.top l[at_] (List.getElem_mem _)
  rw [hx] at hbx
  simp only at hbx
  obtain ⟨⟨hb3, hb4⟩, hb5, hb6⟩ := hbx
  obtain ⟨hb7, hb8⟩ := hb2
  have NE : Aside0 (0 < l.length) := ⟨by omega⟩
  have X := Aside0.mk hx
  have AL := Aside0.mk hal
  have HR0 := Aside0.mk hr0
  have HC0 := Aside0.mk hc0
  have HL := Aside0.mk hl
  clear hr0 hc0 hl hok hx
  have HB := Aside0.mk (Below.refl w.heap.size w)
  have hu28 := Try.underlying28
  have hu36 := Try.underlying36
  have hal1 : (at_ : Int) < (l.length : Int) := by omega
  go_enter Try.func17, Try.ntmps17
  go_wp2_with (first
    | ((with_reducible refine gate_dst (N := 3) rfl ?_); refine box_event rfl (N := 3) rfl (cs := #[.slice A0 l.length c0]) (t := 28) ?hr ?_; (case hr => first | (go_simp; done) | (go_simp; rfl)); intro g3 hg w3 hbox hb; have BK3 := Aside0.mk hbox; have GE3 := Aside0.mk (show w.heap.size ≤ g3 by rw [hg]; exact Nat.le_refl _); have HB3 := Aside0.mk (below_step HB.out hb); clear hbox hb hg)
    | ((with_reducible refine gate_dst (N := 6) rfl ?_); refine box_event rfl (N := 6) rfl (cs := #[.slice none 0 0]) (t := 28) ?hr ?_; (case hr => first | (go_simp; done) | (go_simp; rfl)); intro g6 hg w6 hbox hb; have BK6 := Aside0.mk hbox; have BK3' := Aside0.mk (blk_below BK3.out hb); have GE6 := Aside0.mk (show w.heap.size ≤ g6 by rw [hg]; exact HB3.out.size); have N36 := Aside0.mk (show g3 ≠ g6 by rw [hg]; exact Nat.ne_of_lt (blk_lt BK3.out)); have HB6 := Aside0.mk (below_step HB3.out hb); clear hbox hb hg; have hc3 : w6.cell? ⟨g3, 0, none⟩ = some (.slice A0 l.length c0) := (blk_cell BK3'.out 0).trans rfl; have hf3 := blk_frozen BK3'.out 0)
    | (go_at_call 41; refine (tw_clone A0 c0 l _ (Kd.C_below HR0.out HB6.out) HC0.out HL.out).mono ?_; rintro e w7 ⟨v1, rfl, ho, hb⟩; have HO := Aside0.mk (Kd.R_types (Kd.R_types (Kd.R_lower ho HB6.out.size) (blk_below BK3'.out hb) (by decide)) (blk_below BK6.out hb) (by decide)); have BK37 := Aside0.mk (blk_below BK3'.out hb); have BK67 := Aside0.mk (blk_below BK6.out hb); have HB7 := Aside0.mk (below_step HB6.out hb); obtain ⟨g, c1, e1, hgb, hgl, _, _⟩ := Kd.R_form ho NE.out; subst e1; clear ho hb hc3 hf3; have hc3 : w7.cell? ⟨g3, 0, none⟩ = some (.slice A0 l.length c0) := (blk_cell BK37.out 0).trans rfl; have hf3 := blk_frozen BK37.out 0; have hc6 : w7.cell? ⟨g6, 0, none⟩ = some (.slice none 0 0) := (blk_cell BK67.out 0).trans rfl; have hf6 := blk_frozen BK67.out 0; have n36 : ¬ g3 = g6 := N36.out; have n63 : ¬ g6 = g3 := fun h => N36.out h.symm; have HO8 := Aside0.mk (Kd.R_far (p := ⟨g3, 0, none⟩) HO.out (fun _ hk => hk.1.2) (.slice (some ⟨g, 0, none⟩) l.length c1)); have BK38 := Aside0.mk (blk_put (cs' := #[.slice (some ⟨g, 0, none⟩) l.length c1]) BK37.out 0 (.slice (some ⟨g, 0, none⟩) l.length c1) rfl); have BK68 := Aside0.mk (blk_far (p := ⟨g3, 0, none⟩) BK67.out n63 (.slice (some ⟨g, 0, none⟩) l.length c1)); have HB8 := Aside0.mk (below_set (j := 0) (v := .slice (some ⟨g, 0, none⟩) l.length c1) HB7.out GE3.out))
    | (go_at_call 42; refine (tw_in _ _).mono ?_; rintro e w8 ⟨rfl, m, rfl⟩)
    | (go_at_call 43; refine (tw_bsf _ _ l a1 _ (Kd.C_drewN (Kd.R_reads' HO8.out).2.2 _) (Kd.R_reads' HO8.out).2.1 OK.out B1.out.1 B1.out.2).mono ?_; rintro e w9 ⟨rfl, hb⟩; have HO9 := Aside0.mk (Kd.R_below (Kd.R_drewN HO8.out _) hb); have BK39 := Aside0.mk (blk_below (blk_drewN BK38.out _) hb); have BK69 := Aside0.mk (blk_below (blk_drewN BK68.out _) hb); have HB9 := Aside0.mk (below_step (pw_below_drewN HB8.out _) hb); clear hb hc3 hf3 hc6 hf6; have hc3 : w9.cell? ⟨g3, 0, none⟩ = some (.slice (some ⟨g, 0, none⟩) l.length c1) := (blk_cell BK39.out 0).trans rfl; have hf3 := blk_frozen BK39.out 0; have hc6 : w9.cell? ⟨g6, 0, none⟩ = some (.slice none 0 0) := (blk_cell BK69.out 0).trans rfl; have hf6 := blk_frozen BK69.out 0; obtain ⟨cur, hg9, hcs, hct, hg3, hg6, hgb0, hlc0, hmx0⟩ := tw_own_block HO9.out; have GEG := Aside0.mk hgb0; have LC := Aside0.mk hlc0; have MX := Aside0.mk hmx0; clear hgb0 hlc0 hmx0; have BKG := Aside0.mk hg9; have CS := Aside0.mk hcs; have CT := Aside0.mk hct; have hx0 := tw_at_cell hg9 hct at_ AL.out 0 (by omega); have hx1 := tw_at_cell hg9 hct at_ AL.out 1 (by omega); have hx2 := tw_at_cell hg9 hct at_ AL.out 2 (by omega); have hf := blk_frozen hg9; rw [X.out] at hx0 hx1 hx2; simp only [twEnc, List.getElem?_cons_zero, List.getElem?_cons_succ, Nat.add_zero] at hx0 hx1 hx2; clear hg9 hcs hct)
    | ((with_reducible refine gate_dst (N := 11) rfl ?_); refine box_event rfl (N := 11) rfl (cs := #[.int .i64 0, .int .i64 0, .int .u64 0]) (t := 36) ?hr ?_; (case hr => first | (go_simp; done) | (go_simp; rfl)); intro g11 hg w11 hbox hb; have BK11 := Aside0.mk hbox; have n113 : ¬ g11 = g3 := (by have := blk_lt BK39.out; omega); have n116 : ¬ g11 = g6 := (by have := blk_lt BK69.out; omega); have n11g : ¬ g11 = g := (by have := blk_lt BKG.out; omega); have n311 : ¬ g3 = g11 := fun h => n113 h.symm; have n611 : ¬ g6 = g11 := fun h => n116 h.symm; have ng11 : ¬ g = g11 := fun h => n11g h.symm; have ng3 : ¬ g = g3 := hg3; have ng6 : ¬ g = g6 := hg6; have n3g : ¬ g3 = g := fun h => hg3 h.symm; have n6g : ¬ g6 = g := fun h => hg6 h.symm; have GE11 := Aside0.mk (show w.heap.size ≤ g11 by rw [hg]; exact HB9.out.size); have BK3B := Aside0.mk (blk_below BK39.out hb); have BK6B := Aside0.mk (blk_below BK69.out hb); have BKGB := Aside0.mk (blk_below BKG.out hb); have HBB := Aside0.mk (below_step HB9.out hb); have lt0 := hb.cell (World.block_lt_of_cell? w9 _ hx0); rw [hx0] at lt0; have lt1 := hb.cell (World.block_lt_of_cell? w9 _ hx1); rw [hx1] at lt1; have lt2 := hb.cell (World.block_lt_of_cell? w9 _ hx2); rw [hx2] at lt2; clear hbox hb hg hx0 hx1 hx2 hc3 hc6 hf3 hf6 hf; have hx0 := lt0; have hx1 := lt1; have hx2 := lt2; clear lt0 lt1 lt2; have hf := blk_frozen BKGB.out; have hc3 : w11.cell? ⟨g3, 0, none⟩ = some (.slice (some ⟨g, 0, none⟩) l.length c1) := (blk_cell BK3B.out 0).trans rfl; have hf3 := blk_frozen BK3B.out; have hc6 : w11.cell? ⟨g6, 0, none⟩ = some (.slice none 0 0) := (blk_cell BK6B.out 0).trans rfl; have hf6 := blk_frozen BK6B.out; have hc110 : w11.cell? ⟨g11, 0, none⟩ = some (.int .i64 0) := (blk_cell BK11.out 0).trans rfl; have hc111 : w11.cell? ⟨g11, 1, none⟩ = some (.int .i64 0) := (blk_cell BK11.out 1).trans rfl; have hc112 : w11.cell? ⟨g11, 2, none⟩ = some (.int .u64 0) := (blk_cell BK11.out 2).trans rfl; have hf11 := blk_frozen BK11.out)
    )
  go_region
  go_wp2
  go_region
  go_wp2
  have hset2 := tw_take_set cur l CT.out (at_ * 3 + 2) (.int .u64 (Go.bits .or .u64 x2 1))
  rw [← tw_flat_set2 l at_ AL.out, X.out] at hset2
  refine bodyPost_ret (results_ct rfl _ _ g6 28 #[.slice (some ⟨g, 0, none⟩) l.length c1] (0, 0) _ rfl (by (with_reducible repeat (first | refine blk_drewN ?_ _ | refine blk_drew ?_)); refine blk_put (cs := #[.slice none 0 0]) ?_ 0 _ rfl; refine blk_far (p := ⟨g, at_ * 3 + 2, none⟩) ?_ n6g _; refine blk_far (p := ⟨g11, 2, none⟩) ?_ n611 _; refine blk_far (p := ⟨g11, 1, none⟩) ?_ n611 _; exact blk_far (p := ⟨g11, 0, none⟩) BK6B.out n611 _) Try.underlying28 rfl (by kernel_rfl)) rfl ?_
  refine ⟨_, rfl, tw_row_set _ ?_ ?_ hset2 GEG.out LC.out MX.out, ?_⟩
  · (with_reducible repeat (first | refine blk_drewN ?_ _ | refine blk_drew ?_))
    refine blk_far (p := ⟨g6, 0, none⟩) ?_ ng6 _
    refine blk_set ?_ (at_ * 3 + 2) _
    refine blk_far (p := ⟨g11, 2, none⟩) ?_ ng11 _
    refine blk_far (p := ⟨g11, 1, none⟩) ?_ ng11 _
    exact blk_far (p := ⟨g11, 0, none⟩) BKGB.out ng11 _
  · simp [CS.out]
  · exact below_drew1 (below_drew1 (below_set (below_set (below_set (below_set (below_set HBB.out GE11.out) GE11.out) GE11.out) GEG.out) GE6.out))
set_option maxHeartbeats 8000000 in
set_option maxRecDepth 100000 in
theorem tw_accept_c (A0 : Option Addr) (c0 : Nat) (l : List S36) (a1 a2 : Int) (w : World) (hr0 : Kd.C k36 w A0 l.length l) (hc0 : l.length ≤ c0) (hok : TwOk l) (h1 : twIn a1 = true) (h2 : twIn a2 = true) (hh : twHas l a1 = true)
    (at_ : Nat) (x0 x1 x2 d : Int) (hat : twAt l a1 = at_) (hal : at_ < l.length) (hx : l[at_] = ⟨x0, x1, x2⟩) (hd : (a2 - x1 + 65536) % 65536 = d) (hd1 : 32768 ≤ d) (hd2 : d ≤ 65472) :
    Calls Try.prog 17 #[.agg #[.slice A0 l.length c0], .int .i64 a1, .int .i64 a2] w fun e w' => ∃ v0_ : Value, e = .returned (.tuple #[.agg #[v0_], .bool (false)]) ∧ Kd.R k36 36 w' w.heap.size (fun _ => True) v0_ (l) ∧ Below w.heap.size w w' := by
  have hl := hok.len
  have OK := Aside0.mk hok
  have hb2 : 0 ≤ a2 ∧ a2 < 65536 := by unfold twIn at h2; simpa using h2
  have B1 : Aside0 (0 ≤ a1 ∧ a1 < 65536) := ⟨by unfold twIn at h1; simpa using h1⟩
  have hbx := hok.top l[at_] (List.getElem_mem _)
  rw [hx] at hbx
  simp only at hbx
  obtain ⟨⟨hb3, hb4⟩, hb5, hb6⟩ := hbx
  obtain ⟨hb7, hb8⟩ := hb2
  have NE : Aside0 (0 < l.length) := ⟨by omega⟩
  have X := Aside0.mk hx
  have AL := Aside0.mk hal
  have HR0 := Aside0.mk hr0
  have HC0 := Aside0.mk hc0
  have HL := Aside0.mk hl
  clear hr0 hc0 hl hok hx
  have HB := Aside0.mk (Below.refl w.heap.size w)
  have hu28 := Try.underlying28
  have hu36 := Try.underlying36
  have hnd : (d == 0) = false := by rw [beq_eq_false_iff_ne]; omega
  have hng : decide (65472 < d) = false := by rw [decide_eq_false_iff_not]; omega
  have hnl : decide (d < 32768) = false := by rw [decide_eq_false_iff_not]; omega
  have hal1 : (at_ : Int) < (l.length : Int) := by omega
  have hdb : 0 ≤ d ∧ d < 65536 := by omega
  obtain ⟨hdb1, hdb2⟩ := hdb
  go_enter Try.func17, Try.ntmps17
  go_wp2_with (first
    | ((with_reducible refine gate_dst (N := 3) rfl ?_); refine box_event rfl (N := 3) rfl (cs := #[.slice A0 l.length c0]) (t := 28) ?hr ?_; (case hr => first | (go_simp; done) | (go_simp; rfl)); intro g3 hg w3 hbox hb; have BK3 := Aside0.mk hbox; have GE3 := Aside0.mk (show w.heap.size ≤ g3 by rw [hg]; exact Nat.le_refl _); have HB3 := Aside0.mk (below_step HB.out hb); clear hbox hb hg)
    | ((with_reducible refine gate_dst (N := 6) rfl ?_); refine box_event rfl (N := 6) rfl (cs := #[.slice none 0 0]) (t := 28) ?hr ?_; (case hr => first | (go_simp; done) | (go_simp; rfl)); intro g6 hg w6 hbox hb; have BK6 := Aside0.mk hbox; have BK3' := Aside0.mk (blk_below BK3.out hb); have GE6 := Aside0.mk (show w.heap.size ≤ g6 by rw [hg]; exact HB3.out.size); have N36 := Aside0.mk (show g3 ≠ g6 by rw [hg]; exact Nat.ne_of_lt (blk_lt BK3.out)); have HB6 := Aside0.mk (below_step HB3.out hb); clear hbox hb hg; have hc3 : w6.cell? ⟨g3, 0, none⟩ = some (.slice A0 l.length c0) := (blk_cell BK3'.out 0).trans rfl; have hf3 := blk_frozen BK3'.out 0)
    | (go_at_call 41; refine (tw_clone A0 c0 l _ (Kd.C_below HR0.out HB6.out) HC0.out HL.out).mono ?_; rintro e w7 ⟨v1, rfl, ho, hb⟩; have HO := Aside0.mk (Kd.R_types (Kd.R_types (Kd.R_lower ho HB6.out.size) (blk_below BK3'.out hb) (by decide)) (blk_below BK6.out hb) (by decide)); have BK37 := Aside0.mk (blk_below BK3'.out hb); have BK67 := Aside0.mk (blk_below BK6.out hb); have HB7 := Aside0.mk (below_step HB6.out hb); obtain ⟨g, c1, e1, hgb, hgl, _, _⟩ := Kd.R_form ho NE.out; subst e1; clear ho hb hc3 hf3; have hc3 : w7.cell? ⟨g3, 0, none⟩ = some (.slice A0 l.length c0) := (blk_cell BK37.out 0).trans rfl; have hf3 := blk_frozen BK37.out 0; have hc6 : w7.cell? ⟨g6, 0, none⟩ = some (.slice none 0 0) := (blk_cell BK67.out 0).trans rfl; have hf6 := blk_frozen BK67.out 0; have n36 : ¬ g3 = g6 := N36.out; have n63 : ¬ g6 = g3 := fun h => N36.out h.symm; have HO8 := Aside0.mk (Kd.R_far (p := ⟨g3, 0, none⟩) HO.out (fun _ hk => hk.1.2) (.slice (some ⟨g, 0, none⟩) l.length c1)); have BK38 := Aside0.mk (blk_put (cs' := #[.slice (some ⟨g, 0, none⟩) l.length c1]) BK37.out 0 (.slice (some ⟨g, 0, none⟩) l.length c1) rfl); have BK68 := Aside0.mk (blk_far (p := ⟨g3, 0, none⟩) BK67.out n63 (.slice (some ⟨g, 0, none⟩) l.length c1)); have HB8 := Aside0.mk (below_set (j := 0) (v := .slice (some ⟨g, 0, none⟩) l.length c1) HB7.out GE3.out))
    | (go_at_call 42; refine (tw_in _ _).mono ?_; rintro e w8 ⟨rfl, m, rfl⟩)
    | (go_at_call 43; refine (tw_bsf _ _ l a1 _ (Kd.C_drewN (Kd.R_reads' HO8.out).2.2 _) (Kd.R_reads' HO8.out).2.1 OK.out B1.out.1 B1.out.2).mono ?_; rintro e w9 ⟨rfl, hb⟩; have HO9 := Aside0.mk (Kd.R_below (Kd.R_drewN HO8.out _) hb); have BK39 := Aside0.mk (blk_below (blk_drewN BK38.out _) hb); have BK69 := Aside0.mk (blk_below (blk_drewN BK68.out _) hb); have HB9 := Aside0.mk (below_step (pw_below_drewN HB8.out _) hb); clear hb hc3 hf3 hc6 hf6; have hc3 : w9.cell? ⟨g3, 0, none⟩ = some (.slice (some ⟨g, 0, none⟩) l.length c1) := (blk_cell BK39.out 0).trans rfl; have hf3 := blk_frozen BK39.out 0; have hc6 : w9.cell? ⟨g6, 0, none⟩ = some (.slice none 0 0) := (blk_cell BK69.out 0).trans rfl; have hf6 := blk_frozen BK69.out 0; obtain ⟨cur, hg9, hcs, hct, hg3, hg6, hgb0, hlc0, hmx0⟩ := tw_own_block HO9.out; have GEG := Aside0.mk hgb0; have LC := Aside0.mk hlc0; have MX := Aside0.mk hmx0; clear hgb0 hlc0 hmx0; have BKG := Aside0.mk hg9; have CS := Aside0.mk hcs; have CT := Aside0.mk hct; have hx0 := tw_at_cell hg9 hct at_ AL.out 0 (by omega); have hx1 := tw_at_cell hg9 hct at_ AL.out 1 (by omega); have hx2 := tw_at_cell hg9 hct at_ AL.out 2 (by omega); have hf := blk_frozen hg9; rw [X.out] at hx0 hx1 hx2; simp only [twEnc, List.getElem?_cons_zero, List.getElem?_cons_succ, Nat.add_zero] at hx0 hx1 hx2; clear hg9 hcs hct)
    | ((with_reducible refine gate_dst (N := 11) rfl ?_); refine box_event rfl (N := 11) rfl (cs := #[.int .i64 0, .int .i64 0, .int .u64 0]) (t := 36) ?hr ?_; (case hr => first | (go_simp; done) | (go_simp; rfl)); intro g11 hg w11 hbox hb; have BK11 := Aside0.mk hbox; have n113 : ¬ g11 = g3 := (by have := blk_lt BK39.out; omega); have n116 : ¬ g11 = g6 := (by have := blk_lt BK69.out; omega); have n11g : ¬ g11 = g := (by have := blk_lt BKG.out; omega); have n311 : ¬ g3 = g11 := fun h => n113 h.symm; have n611 : ¬ g6 = g11 := fun h => n116 h.symm; have ng11 : ¬ g = g11 := fun h => n11g h.symm; have ng3 : ¬ g = g3 := hg3; have ng6 : ¬ g = g6 := hg6; have n3g : ¬ g3 = g := fun h => hg3 h.symm; have n6g : ¬ g6 = g := fun h => hg6 h.symm; have GE11 := Aside0.mk (show w.heap.size ≤ g11 by rw [hg]; exact HB9.out.size); have BK3B := Aside0.mk (blk_below BK39.out hb); have BK6B := Aside0.mk (blk_below BK69.out hb); have BKGB := Aside0.mk (blk_below BKG.out hb); have HBB := Aside0.mk (below_step HB9.out hb); have lt0 := hb.cell (World.block_lt_of_cell? w9 _ hx0); rw [hx0] at lt0; have lt1 := hb.cell (World.block_lt_of_cell? w9 _ hx1); rw [hx1] at lt1; have lt2 := hb.cell (World.block_lt_of_cell? w9 _ hx2); rw [hx2] at lt2; clear hbox hb hg hx0 hx1 hx2 hc3 hc6 hf3 hf6 hf; have hx0 := lt0; have hx1 := lt1; have hx2 := lt2; clear lt0 lt1 lt2; have hf := blk_frozen BKGB.out; have hc3 : w11.cell? ⟨g3, 0, none⟩ = some (.slice (some ⟨g, 0, none⟩) l.length c1) := (blk_cell BK3B.out 0).trans rfl; have hf3 := blk_frozen BK3B.out; have hc6 : w11.cell? ⟨g6, 0, none⟩ = some (.slice none 0 0) := (blk_cell BK6B.out 0).trans rfl; have hf6 := blk_frozen BK6B.out; have hc110 : w11.cell? ⟨g11, 0, none⟩ = some (.int .i64 0) := (blk_cell BK11.out 0).trans rfl; have hc111 : w11.cell? ⟨g11, 1, none⟩ = some (.int .i64 0) := (blk_cell BK11.out 1).trans rfl; have hc112 : w11.cell? ⟨g11, 2, none⟩ = some (.int .u64 0) := (blk_cell BK11.out 2).trans rfl; have hf11 := blk_frozen BK11.out)
    )
  go_region
  go_wp2
  have hs : l.set at_ ⟨x0, x1, x2⟩ = l := by rw [← X.out]; simp
  refine bodyPost_ret (results_ct rfl _ _ g6 28 #[.slice (some ⟨g, 0, none⟩) l.length c1] (0, 0) _ rfl (by (with_reducible repeat (first | refine blk_drewN ?_ _ | refine blk_drew ?_)); refine blk_put (cs := #[.slice none 0 0]) ?_ 0 _ rfl; refine blk_far (p := ⟨g11, 2, none⟩) ?_ n611 _; refine blk_far (p := ⟨g11, 1, none⟩) ?_ n611 _; exact blk_far (p := ⟨g11, 0, none⟩) BK6B.out n611 _) Try.underlying28 rfl (by kernel_rfl)) rfl ?_
  refine ⟨_, rfl, ?_, ?_⟩
  · have hr := fun (W : World) (hg : W.heap[g]? = some (.cells cur 36 (0, 0))) => tw_row_set (w := W) (c := c1) (base := w.heap.size) (l := l) (i := at_) ⟨x0, x1, x2⟩ hg CS.out (by rw [hs]; exact CT.out) GEG.out LC.out MX.out
    rw [hs] at hr
    refine hr _ ?_
    (with_reducible repeat (first | refine blk_drewN ?_ _ | refine blk_drew ?_))
    refine blk_far (p := ⟨g6, 0, none⟩) ?_ ng6 _
    refine blk_far (p := ⟨g11, 2, none⟩) ?_ ng11 _
    refine blk_far (p := ⟨g11, 1, none⟩) ?_ ng11 _
    exact blk_far (p := ⟨g11, 0, none⟩) BKGB.out ng11 _
  · exact below_drew1 (below_set (below_set (below_set (below_set HBB.out GE11.out) GE11.out) GE11.out) GE6.out)
theorem tw_new_a {x : S36} {a2 : Int} (h1 : 1 ≤ (a2 - x.f1 + 65536) % 65536) (h2 : (a2 - x.f1 + 65536) % 65536 < 32768) : twNew x a2 = ⟨x.f0, a2, Go.bits .or .u64 (IntKind.u64.wrap (x.f2 * 2 ^ min ((a2 - x.f1 + 65536) % 65536).toNat 64)) 1⟩ := by
  unfold twNew; rw [if_pos ⟨h1, h2⟩]
/-- Whether a source was changed. -/
def twNe (x y : S36) : Bool := !(x.f1 == y.f1 && x.f2 == y.f2)
/-- The list is fit for the contract. -/
def twOkB (l : List S36) : Bool := decide (l.length < 1000000) && decide (l.Pairwise (fun x y => x.f0 < y.f0)) && l.all (fun x => decide (0 ≤ x.f0) && decide (x.f0 < 65536) && decide (0 ≤ x.f1) && decide (x.f1 < 65536) && decide (0 ≤ x.f2) && decide (x.f2 < 18446744073709551616))
theorem tw_ok_iff (l : List S36) : twOkB l = true ↔ TwOk l := by
  unfold twOkB
  simp only [Bool.and_eq_true, decide_eq_true_eq, List.all_eq_true]
  constructor
  · rintro ⟨⟨h1, h2⟩, h3⟩
    exact ⟨h1, h2, fun x hx => ⟨(h3 x hx).1.1.1.1.1, (h3 x hx).1.1.1.1.2⟩, fun x hx => ⟨⟨(h3 x hx).1.1.1.2, (h3 x hx).1.1.2⟩, (h3 x hx).1.2, (h3 x hx).2⟩⟩
  · rintro ⟨h1, h2, h3, h4⟩
    exact ⟨⟨h1, h2⟩, fun x hx => ⟨⟨⟨⟨⟨(h3 x hx).1, (h3 x hx).2⟩, (h4 x hx).1.1⟩, (h4 x hx).1.2⟩, (h4 x hx).2.1⟩, (h4 x hx).2.2⟩⟩
/-! ### twin_Accept: function 17 -/
def twin_Accept.f (l0_0 : List (S36)) (a1 : Int) (a2 : Int) : Option ((List (S36)) × Bool) :=
  if twOkB l0_0 = true then (if (twIn a1 && twIn a2) = true then (if twHas l0_0 a1 = true then some (l0_0.set (twAt l0_0 a1) (twNew (rd_T36 l0_0 (twAt l0_0 a1 : Int)) a2), twNe (rd_T36 l0_0 (twAt l0_0 a1 : Int)) (twNew (rd_T36 l0_0 (twAt l0_0 a1 : Int)) a2))
    else some (l0_0.take (twAt l0_0 a1) ++ ⟨a1, a2, 1⟩ :: l0_0.drop (twAt l0_0 a1), true)) else some (l0_0, false)) else none
theorem twin_Accept.calls (A0_0 : Option Addr) (c0_0 : Nat) (l0_0 : List (S36)) (a1 : Int) (a2 : Int) (r1 : List (S36)) (r2 : Bool) (w : World) (hr0_0 : Kd.C k36 w A0_0 l0_0.length l0_0) (hc0_0 : l0_0.length ≤ c0_0) (h : twin_Accept.f l0_0 a1 a2 = some (r1, r2)) :
    Calls Try.prog 17 #[.agg #[.slice A0_0 l0_0.length c0_0], .int .i64 a1, .int .i64 a2] w fun e w' => ∃ v0_ : Value, e = .returned (.tuple #[.agg #[v0_], .bool r2]) ∧ Kd.R k36 36 w' w.heap.size (fun _ => True) v0_ r1 ∧ Below w.heap.size w w' := by
  unfold twin_Accept.f at h
  by_cases hk : twOkB l0_0 = true
  case neg => rw [if_neg hk] at h; exact absurd h (by simp)
  rw [if_pos hk] at h
  have hok := (tw_ok_iff _).1 hk
  by_cases hi : (twIn a1 && twIn a2) = true
  case neg =>
    rw [if_neg hi] at h
    simp only [Option.some.injEq, Prod.mk.injEq] at h
    obtain ⟨rfl, rfl⟩ := h
    cases h1 : twIn a1 with
    | false => exact tw_accept_bad1 A0_0 c0_0 l0_0 a1 a2 w hr0_0 hc0_0 hok.len h1
    | true => exact tw_accept_bad2 A0_0 c0_0 l0_0 a1 a2 w hr0_0 hc0_0 hok.len h1 (by rw [h1] at hi; simpa using hi)
  rw [if_pos hi] at h
  simp only [Bool.and_eq_true] at hi
  by_cases hh : twHas l0_0 a1 = true
  case neg =>
    rw [if_neg hh] at h
    simp only [Option.some.injEq, Prod.mk.injEq] at h
    obtain ⟨rfl, rfl⟩ := h
    exact tw_accept_new A0_0 c0_0 l0_0 a1 a2 w hr0_0 hc0_0 hok hi.1 hi.2 (by simpa using hh)
  rw [if_pos hh] at h
  simp only [Option.some.injEq, Prod.mk.injEq] at h
  have hh' := hh
  unfold twHas at hh'
  simp only [Bool.and_eq_true, decide_eq_true_eq] at hh'
  obtain ⟨hlt, _⟩ := hh'
  rw [tw_rd _ _ hlt] at h
  obtain ⟨x, hx⟩ : ∃ x, l0_0[twAt l0_0 a1] = x := ⟨_, rfl⟩
  have hb := hok.top _ (List.getElem_mem hlt)
  rw [hx] at h hb
  obtain ⟨x0, x1, x2⟩ := x
  simp only at hb
  obtain ⟨rfl, rfl⟩ := h
  have hb2 : 0 ≤ a2 ∧ a2 < 65536 := by have := hi.2; unfold twIn at this; simpa using this
  obtain ⟨d, hd⟩ : ∃ d, (a2 - x1 + 65536) % 65536 = d := ⟨_, rfl⟩
  unfold twNew
  simp only [hd]
  by_cases ha : 1 ≤ d ∧ d < 32768
  · rw [if_pos ha]
    have hne : twNe ⟨x0, x1, x2⟩ ⟨x0, a2, Go.bits .or .u64 (IntKind.u64.wrap (x2 * 2 ^ min d.toNat 64)) 1⟩ = true := by
      have : (x1 == a2) = false := by rw [beq_eq_false_iff_ne]; omega
      unfold twNe
      simp [this]
    rw [hne]
    exact tw_accept_a A0_0 c0_0 l0_0 a1 a2 w hr0_0 hc0_0 hok hi.1 hi.2 hh _ x0 x1 x2 d rfl hlt hx hd ha.1 ha.2
  · rw [if_neg ha]
    have ns : ∀ p q : Int, (!(p == q)) = (!(q == p)) := fun p q => by rw [Bool.beq_comm]
    by_cases h0 : d = 0
    · subst h0
      rw [if_pos rfl]
      have hne : twNe ⟨x0, x1, x2⟩ ⟨x0, x1, Go.bits .or .u64 x2 1⟩ = !(Go.bits .or .u64 x2 1 == x2) := by unfold twNe; simp [Bool.beq_comm]
      rw [hne]
      exact tw_accept_b0 A0_0 c0_0 l0_0 a1 a2 w hr0_0 hc0_0 hok hi.1 hi.2 hh _ x0 x1 x2 rfl hlt hx hd
    · rw [if_neg h0]
      by_cases hg : d > 65472
      · rw [if_pos hg]
        have hne : twNe ⟨x0, x1, x2⟩ ⟨x0, x1, Go.bits .or .u64 x2 (IntKind.u64.wrap (2 ^ (-d % 65536).toNat))⟩ = !(Go.bits .or .u64 x2 (IntKind.u64.wrap (2 ^ (-d % 65536).toNat)) == x2) := by unfold twNe; simp [Bool.beq_comm]
        rw [hne]
        exact tw_accept_b A0_0 c0_0 l0_0 a1 a2 w hr0_0 hc0_0 hok hi.1 hi.2 hh _ x0 x1 x2 d rfl hlt hx hd hg
      · rw [if_neg hg]
        have hne : twNe ⟨x0, x1, x2⟩ ⟨x0, x1, x2⟩ = false := by unfold twNe; simp
        have hs : l0_0.set (twAt l0_0 a1) ⟨x0, x1, x2⟩ = l0_0 := by rw [← hx]; simp
        rw [hne, hs]
        exact tw_accept_c A0_0 c0_0 l0_0 a1 a2 w hr0_0 hc0_0 hok hi.1 hi.2 hh _ x0 x1 x2 d rfl hlt hx hd (by omega) (by omega)
end Go.Proofs.Ytnjddjpohobelaa.XB
end
section
namespace Go.Proofs.Ytnjddjpohobelaa.XB
open Go.RowKit Go.Proofs.YtnjddjpohobelaaW.PrintWords Go.Proofs.YtnjddjpohobelaaW.PrintLast Go.Proofs.YtnjddjpohobelaaW.PrintMore
attribute [local go_sem] max2_int min2_int max_two min_two max_three min_three max_four min_four   -- for this text's walks alone
set_option linter.unusedVariables false
set_option linter.unusedSimpArgs false
/-! ### substationlaw16_known: function 15 -/
def substationlaw16_known.f  : Option (Bool) := (twin_Accept.f ([] : List (S36)) 1 5).bind fun bt101 => ((twin_Accept.f bt101.1 1 5).bind fun bt106 => ((twin_Accept.f bt106.1 1 7).bind fun bt110 => ((twin_Accept.f bt110.1 1 6).bind fun bt114 => ((twin_Accept.f bt114.1 1 6).bind fun bt118 => (if bt101.2 = true then (if bt106.2 = true then (some false) else (if bt110.2 = true then (if bt114.2 = true then (some (!bt118.2)) else (some false)) else (some false))) else (some false))))))
set_option maxHeartbeats 8000000 in
set_option maxRecDepth 100000 in
theorem substationlaw16_known.calls  (r : Bool) (w : World) (h : substationlaw16_known.f  = some r) :
  Calls Try.prog 15 #[] w fun e w' => e = .returned (.bool r) ∧ Below w.heap.size w w' := by
 have hu28 := Try.underlying28
 have HB := Aside0.mk (Below.refl w.heap.size w)
 have H : ((twin_Accept.f ([] : List (S36)) 1 5).bind fun bt101 => ((twin_Accept.f bt101.1 1 5).bind fun bt106 => ((twin_Accept.f bt106.1 1 7).bind fun bt110 => ((twin_Accept.f bt110.1 1 6).bind fun bt114 => ((twin_Accept.f bt114.1 1 6).bind fun bt118 => (if bt101.2 = true then (if bt106.2 = true then (some false) else (if bt110.2 = true then (if bt114.2 = true then (some (!bt118.2)) else (some false)) else (some false))) else (some false))))))) = some r := h
 clear h
 replace H := Option.bind_eq_some_iff.mp H
 obtain ⟨⟨t101, t104⟩, A10, H⟩ := H
 replace H : ((twin_Accept.f t101 1 5).bind fun bt106 => ((twin_Accept.f bt106.1 1 7).bind fun bt110 => ((twin_Accept.f bt110.1 1 6).bind fun bt114 => ((twin_Accept.f bt114.1 1 6).bind fun bt118 => (if t104 = true then (if bt106.2 = true then (some false) else (if bt110.2 = true then (if bt114.2 = true then (some (!bt118.2)) else (some false)) else (some false))) else (some false)))))) = some r := H
 have A1 := Aside0.mk A10
 clear A10
 replace H := Option.bind_eq_some_iff.mp H
 obtain ⟨⟨t106, t109⟩, A20, H⟩ := H
 replace H : ((twin_Accept.f t106 1 7).bind fun bt110 => ((twin_Accept.f bt110.1 1 6).bind fun bt114 => ((twin_Accept.f bt114.1 1 6).bind fun bt118 => (if t104 = true then (if t109 = true then (some false) else (if bt110.2 = true then (if bt114.2 = true then (some (!bt118.2)) else (some false)) else (some false))) else (some false))))) = some r := H
 have A2 := Aside0.mk A20
 clear A20
 replace H := Option.bind_eq_some_iff.mp H
 obtain ⟨⟨t110, t113⟩, A30, H⟩ := H
 replace H : ((twin_Accept.f t110 1 6).bind fun bt114 => ((twin_Accept.f bt114.1 1 6).bind fun bt118 => (if t104 = true then (if t109 = true then (some false) else (if t113 = true then (if bt114.2 = true then (some (!bt118.2)) else (some false)) else (some false))) else (some false)))) = some r := H
 have A3 := Aside0.mk A30
 clear A30
 replace H := Option.bind_eq_some_iff.mp H
 obtain ⟨⟨t114, t117⟩, A40, H⟩ := H
 replace H : ((twin_Accept.f t114 1 6).bind fun bt118 => (if t104 = true then (if t109 = true then (some false) else (if t113 = true then (if t117 = true then (some (!bt118.2)) else (some false)) else (some false))) else (some false))) = some r := H
 have A4 := Aside0.mk A40
 clear A40
 replace H := Option.bind_eq_some_iff.mp H
 obtain ⟨⟨t118, t121⟩, A50, H⟩ := H
 replace H : (if t104 = true then (if t109 = true then (some false) else (if t113 = true then (if t117 = true then (some (!t121)) else (some false)) else (some false))) else (some false)) = some r := H
 have A5 := Aside0.mk A50
 clear A50
 by_cases c6 : t104 = true
 ·subst c6
  have H1 : (if t109 = true then (some false) else (if t113 = true then (if t117 = true then (some (!t121)) else (some false)) else (some false))) = some r := by rw [if_pos rfl] at H; exact H
  clear H
  have H := H1
  clear H1
  by_cases c7 : t109 = true
  ·subst c7
   have H1 : (some false) = some r := by rw [if_pos rfl] at H; exact H
   clear H
   have H := H1
   clear H1
   obtain rfl := Option.some.inj H
   go_enter Try.func15, Try.ntmps15
   go_wp2_with (first | ((with_reducible refine gate_callee (f := 17) rfl ?_); refine goesL_ (some 10) rfl rfl Try.func17 (by kernel_rfl) rfl #[.agg #[.slice none 0 0], .int .i64 1, .int .i64 5] rfl (by (try simp only [List.map_toArray, List.map_cons, List.map_nil]); first | done | rfl | (simp only [List.length_drop, List.length_take]; rfl)) ?_; (refine (twin_Accept.calls _ _ ([] : List (S36)) 1 5 t101 true _ ?side1 ?side2 A1.out).mono ?_); (case side1 => exact Kd.C_nil _ _); (case side2 => exact Nat.le_refl _); rintro e w8 ⟨v102, rfl, ho0, hb⟩; refine ⟨_, rfl, ?_⟩; have n0_ := Aside0.mk (Kd.R_lower ho0 (below_size (by repeat (first | (with_reducible first | exact HB.out | apply below_alloc | apply pw_below_drewN | apply below_drew1) | exact HB.out)))); have n1_ := Aside0.mk (below_step (by repeat (first | (with_reducible first | exact HB.out | apply below_alloc | apply pw_below_drewN | apply below_drew1) | exact HB.out)) hb); clear HB; have HO103 := n0_; have HB := n1_; clear n0_ n1_; (try clear hb); (try clear hb2); (try clear hk); (try clear hi); (try clear ho0)) | ((with_reducible refine gate_dst (N := 1) rfl ?_); refine box_event ?hg (N := 1) ?hd (cs := #[.slice none 0 0]) (t := 28) ?hr ?_; (case hd => rfl); (case hg => rfl); (case hr => first | (go_simp; done) | (go_simp; rfl)); intro gb105 hg w9 hbox hb; have n0_ := Aside0.mk (Kd.R_below (by (with_reducible repeat (first | apply Kd.R_alloc | apply Kd.R_drewN | apply Kd.R_drew)); exact HO103.out) hb); have n1_ := Aside0.mk (below_step (by repeat (first | (with_reducible first | exact HB.out | apply below_alloc | apply pw_below_drewN | apply below_drew1) | exact HB.out)) hb); have n2_ := Aside0.mk (hbox); have n3_ := Aside0.mk ((by rw [hg]; exact (below_size (by repeat (first | (with_reducible first | exact HB.out | apply below_alloc | apply pw_below_drewN | apply below_drew1) | exact HB.out))) : w.heap.size ≤ gb105)); have n4_ := Aside0.mk ((by rw [hg]; exact (below_size (by repeat (first | (with_reducible first | exact HB.out | apply below_alloc | apply pw_below_drewN | apply below_drew1) | exact HB.out))) : w.heap.size ≤ gb105)); clear HO103; clear HB; have HO103 := n0_; have HB := n1_; have BK105 := n2_; have GW105 := n3_; have GE105 := n4_; clear n0_ n1_ n2_ n3_ n4_; clear hb hbox hg; obtain ⟨Ao10, co10, eo10⟩ := Kd.R_slice HO103.out; subst eo10; have hcz11_0 : w9.cell? ⟨gb105, 0, none⟩ = some (.slice none 0 0) := (blk_cell BK105.out 0).trans rfl; have hfz11_0 := blk_frozen BK105.out 0) | ((with_reducible refine gate_callee (f := 17) rfl ?_); refine goesL_ (some 15) rfl rfl Try.func17 (by kernel_rfl) rfl #[.agg #[.slice Ao10 t101.length co10], .int .i64 1, .int .i64 5] rfl (by (try simp only [List.map_toArray, List.map_cons, List.map_nil]); first | done | rfl | (simp only [List.length_drop, List.length_take]; rfl)) ?_; (with_reducible refine (twin_Accept.calls _ _ t101 1 5 t106 true _ ?side1 ?side2 A2.out).mono ?_); (case side1 => refine (Kd.R_reads' (e := 36) (base := w.heap.size) (ok := fun k_ => True) (n := t101.length) (c := co10) ?_).2.2; exact (by (with_reducible repeat (first | apply Kd.R_alloc | apply Kd.R_drewN | apply Kd.R_drew)); exact (Kd.R_mono (Kd.R_far (p := ⟨gb105, 0, none⟩) (Kd.R_types HO103.out BK105.out (by decide)) (fun _ hk => hk.2) (.slice Ao10 t101.length co10)) (fun _ h_ => h_.1)))); (case side2 => exact (Kd.R_reads' HO103.out).2.1); rintro e w12 ⟨v107, rfl, ho0, hb⟩; refine ⟨_, rfl, ?_⟩; have n0_ := Aside0.mk (Kd.R_elder' (by (with_reducible repeat (first | apply Kd.R_alloc | apply Kd.R_drewN | apply Kd.R_drew)); exact (Kd.R_mono (Kd.R_far (p := ⟨gb105, 0, none⟩) (Kd.R_types HO103.out BK105.out (by decide)) (fun _ hk => hk.2) (.slice Ao10 t101.length co10)) (fun _ h_ => h_.1))) (Kd.R_base ho0) hb); have n1_ := Aside0.mk (Kd.R_lower (Kd.R_new' ho0 (Kd.R_lt (by (with_reducible repeat (first | apply Kd.R_alloc | apply Kd.R_drewN | apply Kd.R_drew)); exact (Kd.R_mono (Kd.R_far (p := ⟨gb105, 0, none⟩) (Kd.R_types HO103.out BK105.out (by decide)) (fun _ hk => hk.2) (.slice Ao10 t101.length co10)) (fun _ h_ => h_.1))))) (below_size (by repeat (first | (with_reducible first | exact HB.out | apply below_alloc | apply pw_below_drewN | apply below_drew1 | refine below_set ?_ GE105.out) | exact HB.out)))); have n2_ := Aside0.mk (blk_below (g := gb105) (o := .cells #[.slice Ao10 t101.length co10] 28 (0, 0)) (by (with_reducible repeat (first | refine blk_drewN ?_ _ | refine blk_drew ?_ | refine blk_alloc ?_ _)); refine blk_put (cs := #[.slice none 0 0]) ?_ 0 _ rfl; (with_reducible repeat (first | refine blk_drewN ?_ _ | refine blk_drew ?_ | refine blk_alloc ?_ _)); exact BK105.out) hb); have n3_ := Aside0.mk (below_step (by repeat (first | (with_reducible first | exact HB.out | apply below_alloc | apply pw_below_drewN | apply below_drew1 | refine below_set ?_ GE105.out) | exact HB.out)) hb); clear HO103; clear BK105; clear HB; have HO103 := n0_; have HO108 := n1_; have BK105 := n2_; have HB := n3_; clear n0_ n1_ n2_ n3_; (try clear hb); (try clear hb2); (try clear hk); (try clear hi); (try clear ho0); obtain ⟨Ao13, co13, eo13⟩ := Kd.R_slice HO108.out; subst eo13; have hcz14_0 : w12.cell? ⟨gb105, 0, none⟩ = some (.slice Ao10 t101.length co10) := (blk_cell BK105.out 0).trans rfl; have hfz14_0 := blk_frozen BK105.out 0) | ((with_reducible refine gate_callee (f := 17) rfl ?_); refine goesL_ (some 20) rfl rfl Try.func17 (by kernel_rfl) rfl #[.agg #[.slice Ao13 t106.length co13], .int .i64 1, .int .i64 7] rfl (by (try simp only [List.map_toArray, List.map_cons, List.map_nil]); first | done | rfl | (simp only [List.length_drop, List.length_take]; rfl)) ?_; (with_reducible refine (twin_Accept.calls _ _ t106 1 7 t110 t113 _ ?side1 ?side2 A3.out).mono ?_); (case side1 => refine (Kd.R_reads' (e := 36) (base := w.heap.size) (ok := fun k_ => (True ∧ some k_ ≠ (.slice Ao10 t101.length co10 : Value).ownBlock)) (n := t106.length) (c := co13) ?_).2.2; exact (by (with_reducible repeat (first | apply Kd.R_alloc | apply Kd.R_drewN | apply Kd.R_drew)); exact (Kd.R_mono (Kd.R_far (p := ⟨gb105, 0, none⟩) (Kd.R_types HO108.out BK105.out (by decide)) (fun _ hk => hk.2) (.slice Ao13 t106.length co13)) (fun _ h_ => h_.1)))); (case side2 => exact (Kd.R_reads' HO108.out).2.1); rintro e w15 ⟨v111, rfl, ho0, hb⟩; refine ⟨_, rfl, ?_⟩; have n0_ := Aside0.mk (Kd.R_elder' (by (with_reducible repeat (first | apply Kd.R_alloc | apply Kd.R_drewN | apply Kd.R_drew)); exact (Kd.R_mono (Kd.R_far (p := ⟨gb105, 0, none⟩) (Kd.R_types HO103.out BK105.out (by decide)) (fun _ hk => hk.2) (.slice Ao13 t106.length co13)) (fun _ h_ => h_.1))) (Kd.R_base ho0) hb); have n1_ := Aside0.mk (Kd.R_elder' (by (with_reducible repeat (first | apply Kd.R_alloc | apply Kd.R_drewN | apply Kd.R_drew)); exact (Kd.R_mono (Kd.R_far (p := ⟨gb105, 0, none⟩) (Kd.R_types HO108.out BK105.out (by decide)) (fun _ hk => hk.2) (.slice Ao13 t106.length co13)) (fun _ h_ => h_.1))) (Kd.R_base ho0) hb); have n2_ := Aside0.mk (Kd.R_lower (Kd.R_new' (Kd.R_new' ho0 (Kd.R_lt (by (with_reducible repeat (first | apply Kd.R_alloc | apply Kd.R_drewN | apply Kd.R_drew)); exact (Kd.R_mono (Kd.R_far (p := ⟨gb105, 0, none⟩) (Kd.R_types HO103.out BK105.out (by decide)) (fun _ hk => hk.2) (.slice Ao13 t106.length co13)) (fun _ h_ => h_.1))))) (Kd.R_lt (by (with_reducible repeat (first | apply Kd.R_alloc | apply Kd.R_drewN | apply Kd.R_drew)); exact (Kd.R_mono (Kd.R_far (p := ⟨gb105, 0, none⟩) (Kd.R_types HO108.out BK105.out (by decide)) (fun _ hk => hk.2) (.slice Ao13 t106.length co13)) (fun _ h_ => h_.1))))) (below_size (by repeat (first | (with_reducible first | exact HB.out | apply below_alloc | apply pw_below_drewN | apply below_drew1 | refine below_set ?_ GE105.out) | exact HB.out)))); have n3_ := Aside0.mk (blk_below (g := gb105) (o := .cells #[.slice Ao13 t106.length co13] 28 (0, 0)) (by (with_reducible repeat (first | refine blk_drewN ?_ _ | refine blk_drew ?_ | refine blk_alloc ?_ _)); refine blk_put (cs := #[.slice Ao10 t101.length co10]) ?_ 0 _ rfl; (with_reducible repeat (first | refine blk_drewN ?_ _ | refine blk_drew ?_ | refine blk_alloc ?_ _)); exact BK105.out) hb); have n4_ := Aside0.mk (below_step (by repeat (first | (with_reducible first | exact HB.out | apply below_alloc | apply pw_below_drewN | apply below_drew1 | refine below_set ?_ GE105.out) | exact HB.out)) hb); clear HO103; clear HO108; clear BK105; clear HB; have HO103 := n0_; have HO108 := n1_; have HO112 := n2_; have BK105 := n3_; have HB := n4_; clear n0_ n1_ n2_ n3_ n4_; (try clear hb); (try clear hb2); (try clear hk); (try clear hi); (try clear ho0); obtain ⟨Ao16, co16, eo16⟩ := Kd.R_slice HO112.out; subst eo16; have hcz17_0 : w15.cell? ⟨gb105, 0, none⟩ = some (.slice Ao13 t106.length co13) := (blk_cell BK105.out 0).trans rfl; have hfz17_0 := blk_frozen BK105.out 0) | ((with_reducible refine gate_callee (f := 17) rfl ?_); refine goesL_ (some 25) rfl rfl Try.func17 (by kernel_rfl) rfl #[.agg #[.slice Ao16 t110.length co16], .int .i64 1, .int .i64 6] rfl (by (try simp only [List.map_toArray, List.map_cons, List.map_nil]); first | done | rfl | (simp only [List.length_drop, List.length_take]; rfl)) ?_; (with_reducible refine (twin_Accept.calls _ _ t110 1 6 t114 t117 _ ?side1 ?side2 A4.out).mono ?_); (case side1 => refine (Kd.R_reads' (e := 36) (base := w.heap.size) (ok := fun k_ => ((True ∧ some k_ ≠ (.slice Ao10 t101.length co10 : Value).ownBlock) ∧ some k_ ≠ (.slice Ao13 t106.length co13 : Value).ownBlock)) (n := t110.length) (c := co16) ?_).2.2; exact (by (with_reducible repeat (first | apply Kd.R_alloc | apply Kd.R_drewN | apply Kd.R_drew)); exact (Kd.R_mono (Kd.R_far (p := ⟨gb105, 0, none⟩) (Kd.R_types HO112.out BK105.out (by decide)) (fun _ hk => hk.2) (.slice Ao16 t110.length co16)) (fun _ h_ => h_.1)))); (case side2 => exact (Kd.R_reads' HO112.out).2.1); rintro e w18 ⟨v115, rfl, ho0, hb⟩; refine ⟨_, rfl, ?_⟩; have n0_ := Aside0.mk (Kd.R_elder' (by (with_reducible repeat (first | apply Kd.R_alloc | apply Kd.R_drewN | apply Kd.R_drew)); exact (Kd.R_mono (Kd.R_far (p := ⟨gb105, 0, none⟩) (Kd.R_types HO103.out BK105.out (by decide)) (fun _ hk => hk.2) (.slice Ao16 t110.length co16)) (fun _ h_ => h_.1))) (Kd.R_base ho0) hb); have n1_ := Aside0.mk (Kd.R_elder' (by (with_reducible repeat (first | apply Kd.R_alloc | apply Kd.R_drewN | apply Kd.R_drew)); exact (Kd.R_mono (Kd.R_far (p := ⟨gb105, 0, none⟩) (Kd.R_types HO108.out BK105.out (by decide)) (fun _ hk => hk.2) (.slice Ao16 t110.length co16)) (fun _ h_ => h_.1))) (Kd.R_base ho0) hb); have n2_ := Aside0.mk (Kd.R_elder' (by (with_reducible repeat (first | apply Kd.R_alloc | apply Kd.R_drewN | apply Kd.R_drew)); exact (Kd.R_mono (Kd.R_far (p := ⟨gb105, 0, none⟩) (Kd.R_types HO112.out BK105.out (by decide)) (fun _ hk => hk.2) (.slice Ao16 t110.length co16)) (fun _ h_ => h_.1))) (Kd.R_base ho0) hb); have n3_ := Aside0.mk (Kd.R_lower (Kd.R_new' (Kd.R_new' (Kd.R_new' ho0 (Kd.R_lt (by (with_reducible repeat (first | apply Kd.R_alloc | apply Kd.R_drewN | apply Kd.R_drew)); exact (Kd.R_mono (Kd.R_far (p := ⟨gb105, 0, none⟩) (Kd.R_types HO103.out BK105.out (by decide)) (fun _ hk => hk.2) (.slice Ao16 t110.length co16)) (fun _ h_ => h_.1))))) (Kd.R_lt (by (with_reducible repeat (first | apply Kd.R_alloc | apply Kd.R_drewN | apply Kd.R_drew)); exact (Kd.R_mono (Kd.R_far (p := ⟨gb105, 0, none⟩) (Kd.R_types HO108.out BK105.out (by decide)) (fun _ hk => hk.2) (.slice Ao16 t110.length co16)) (fun _ h_ => h_.1))))) (Kd.R_lt (by (with_reducible repeat (first | apply Kd.R_alloc | apply Kd.R_drewN | apply Kd.R_drew)); exact (Kd.R_mono (Kd.R_far (p := ⟨gb105, 0, none⟩) (Kd.R_types HO112.out BK105.out (by decide)) (fun _ hk => hk.2) (.slice Ao16 t110.length co16)) (fun _ h_ => h_.1))))) (below_size (by repeat (first | (with_reducible first | exact HB.out | apply below_alloc | apply pw_below_drewN | apply below_drew1 | refine below_set ?_ GE105.out) | exact HB.out)))); have n4_ := Aside0.mk (blk_below (g := gb105) (o := .cells #[.slice Ao16 t110.length co16] 28 (0, 0)) (by (with_reducible repeat (first | refine blk_drewN ?_ _ | refine blk_drew ?_ | refine blk_alloc ?_ _)); refine blk_put (cs := #[.slice Ao13 t106.length co13]) ?_ 0 _ rfl; (with_reducible repeat (first | refine blk_drewN ?_ _ | refine blk_drew ?_ | refine blk_alloc ?_ _)); exact BK105.out) hb); have n5_ := Aside0.mk (below_step (by repeat (first | (with_reducible first | exact HB.out | apply below_alloc | apply pw_below_drewN | apply below_drew1 | refine below_set ?_ GE105.out) | exact HB.out)) hb); clear HO103; clear HO108; clear HO112; clear BK105; clear HB; have HO103 := n0_; have HO108 := n1_; have HO112 := n2_; have HO116 := n3_; have BK105 := n4_; have HB := n5_; clear n0_ n1_ n2_ n3_ n4_ n5_; (try clear hb); (try clear hb2); (try clear hk); (try clear hi); (try clear ho0); obtain ⟨Ao19, co19, eo19⟩ := Kd.R_slice HO116.out; subst eo19; have hcz20_0 : w18.cell? ⟨gb105, 0, none⟩ = some (.slice Ao16 t110.length co16) := (blk_cell BK105.out 0).trans rfl; have hfz20_0 := blk_frozen BK105.out 0) | ((with_reducible refine gate_callee (f := 17) rfl ?_); refine goesL_ (some 30) rfl rfl Try.func17 (by kernel_rfl) rfl #[.agg #[.slice Ao19 t114.length co19], .int .i64 1, .int .i64 6] rfl (by (try simp only [List.map_toArray, List.map_cons, List.map_nil]); first | done | rfl | (simp only [List.length_drop, List.length_take]; rfl)) ?_; (with_reducible refine (twin_Accept.calls _ _ t114 1 6 t118 t121 _ ?side1 ?side2 A5.out).mono ?_); (case side1 => refine (Kd.R_reads' (e := 36) (base := w.heap.size) (ok := fun k_ => (((True ∧ some k_ ≠ (.slice Ao10 t101.length co10 : Value).ownBlock) ∧ some k_ ≠ (.slice Ao13 t106.length co13 : Value).ownBlock) ∧ some k_ ≠ (.slice Ao16 t110.length co16 : Value).ownBlock)) (n := t114.length) (c := co19) ?_).2.2; exact (by (with_reducible repeat (first | apply Kd.R_alloc | apply Kd.R_drewN | apply Kd.R_drew)); exact (Kd.R_mono (Kd.R_far (p := ⟨gb105, 0, none⟩) (Kd.R_types HO116.out BK105.out (by decide)) (fun _ hk => hk.2) (.slice Ao19 t114.length co19)) (fun _ h_ => h_.1)))); (case side2 => exact (Kd.R_reads' HO116.out).2.1); rintro e w21 ⟨v119, rfl, ho0, hb⟩; refine ⟨_, rfl, ?_⟩; have n0_ := Aside0.mk (Kd.R_elder' (by (with_reducible repeat (first | apply Kd.R_alloc | apply Kd.R_drewN | apply Kd.R_drew)); exact (Kd.R_mono (Kd.R_far (p := ⟨gb105, 0, none⟩) (Kd.R_types HO103.out BK105.out (by decide)) (fun _ hk => hk.2) (.slice Ao19 t114.length co19)) (fun _ h_ => h_.1))) (Kd.R_base ho0) hb); have n1_ := Aside0.mk (Kd.R_elder' (by (with_reducible repeat (first | apply Kd.R_alloc | apply Kd.R_drewN | apply Kd.R_drew)); exact (Kd.R_mono (Kd.R_far (p := ⟨gb105, 0, none⟩) (Kd.R_types HO108.out BK105.out (by decide)) (fun _ hk => hk.2) (.slice Ao19 t114.length co19)) (fun _ h_ => h_.1))) (Kd.R_base ho0) hb); have n2_ := Aside0.mk (Kd.R_elder' (by (with_reducible repeat (first | apply Kd.R_alloc | apply Kd.R_drewN | apply Kd.R_drew)); exact (Kd.R_mono (Kd.R_far (p := ⟨gb105, 0, none⟩) (Kd.R_types HO112.out BK105.out (by decide)) (fun _ hk => hk.2) (.slice Ao19 t114.length co19)) (fun _ h_ => h_.1))) (Kd.R_base ho0) hb); have n3_ := Aside0.mk (Kd.R_elder' (by (with_reducible repeat (first | apply Kd.R_alloc | apply Kd.R_drewN | apply Kd.R_drew)); exact (Kd.R_mono (Kd.R_far (p := ⟨gb105, 0, none⟩) (Kd.R_types HO116.out BK105.out (by decide)) (fun _ hk => hk.2) (.slice Ao19 t114.length co19)) (fun _ h_ => h_.1))) (Kd.R_base ho0) hb); have n4_ := Aside0.mk (Kd.R_lower (Kd.R_new' (Kd.R_new' (Kd.R_new' (Kd.R_new' ho0 (Kd.R_lt (by (with_reducible repeat (first | apply Kd.R_alloc | apply Kd.R_drewN | apply Kd.R_drew)); exact (Kd.R_mono (Kd.R_far (p := ⟨gb105, 0, none⟩) (Kd.R_types HO103.out BK105.out (by decide)) (fun _ hk => hk.2) (.slice Ao19 t114.length co19)) (fun _ h_ => h_.1))))) (Kd.R_lt (by (with_reducible repeat (first | apply Kd.R_alloc | apply Kd.R_drewN | apply Kd.R_drew)); exact (Kd.R_mono (Kd.R_far (p := ⟨gb105, 0, none⟩) (Kd.R_types HO108.out BK105.out (by decide)) (fun _ hk => hk.2) (.slice Ao19 t114.length co19)) (fun _ h_ => h_.1))))) (Kd.R_lt (by (with_reducible repeat (first | apply Kd.R_alloc | apply Kd.R_drewN | apply Kd.R_drew)); exact (Kd.R_mono (Kd.R_far (p := ⟨gb105, 0, none⟩) (Kd.R_types HO112.out BK105.out (by decide)) (fun _ hk => hk.2) (.slice Ao19 t114.length co19)) (fun _ h_ => h_.1))))) (Kd.R_lt (by (with_reducible repeat (first | apply Kd.R_alloc | apply Kd.R_drewN | apply Kd.R_drew)); exact (Kd.R_mono (Kd.R_far (p := ⟨gb105, 0, none⟩) (Kd.R_types HO116.out BK105.out (by decide)) (fun _ hk => hk.2) (.slice Ao19 t114.length co19)) (fun _ h_ => h_.1))))) (below_size (by repeat (first | (with_reducible first | exact HB.out | apply below_alloc | apply pw_below_drewN | apply below_drew1 | refine below_set ?_ GE105.out) | exact HB.out)))); have n5_ := Aside0.mk (blk_below (g := gb105) (o := .cells #[.slice Ao19 t114.length co19] 28 (0, 0)) (by (with_reducible repeat (first | refine blk_drewN ?_ _ | refine blk_drew ?_ | refine blk_alloc ?_ _)); refine blk_put (cs := #[.slice Ao16 t110.length co16]) ?_ 0 _ rfl; (with_reducible repeat (first | refine blk_drewN ?_ _ | refine blk_drew ?_ | refine blk_alloc ?_ _)); exact BK105.out) hb); have n6_ := Aside0.mk (below_step (by repeat (first | (with_reducible first | exact HB.out | apply below_alloc | apply pw_below_drewN | apply below_drew1 | refine below_set ?_ GE105.out) | exact HB.out)) hb); clear HO103; clear HO108; clear HO112; clear HO116; clear BK105; clear HB; have HO103 := n0_; have HO108 := n1_; have HO112 := n2_; have HO116 := n3_; have HO120 := n4_; have BK105 := n5_; have HB := n6_; clear n0_ n1_ n2_ n3_ n4_ n5_ n6_; (try clear hb); (try clear hb2); (try clear hk); (try clear hi); (try clear ho0)) | ((with_reducible refine gate_dst (N := 6) rfl ?_); refine box_event ?hg (N := 6) ?hd (cs := #[.slice none 0 0]) (t := 28) ?hr ?_; (case hd => rfl); (case hg => rfl); (case hr => first | (go_simp; done) | (go_simp; rfl)); intro gb122 hg w22 hbox hb; have n0_ := Aside0.mk (Kd.R_below (by (with_reducible repeat (first | apply Kd.R_alloc | apply Kd.R_drewN | apply Kd.R_drew)); exact HO103.out) hb); have n1_ := Aside0.mk (Kd.R_below (by (with_reducible repeat (first | apply Kd.R_alloc | apply Kd.R_drewN | apply Kd.R_drew)); exact HO108.out) hb); have n2_ := Aside0.mk (Kd.R_below (by (with_reducible repeat (first | apply Kd.R_alloc | apply Kd.R_drewN | apply Kd.R_drew)); exact HO112.out) hb); have n3_ := Aside0.mk (Kd.R_below (by (with_reducible repeat (first | apply Kd.R_alloc | apply Kd.R_drewN | apply Kd.R_drew)); exact HO116.out) hb); have n4_ := Aside0.mk (Kd.R_below (by (with_reducible repeat (first | apply Kd.R_alloc | apply Kd.R_drewN | apply Kd.R_drew)); exact HO120.out) hb); have n5_ := Aside0.mk (blk_below (g := gb105) (o := .cells #[.slice Ao19 t114.length co19] 28 (0, 0)) (by (with_reducible repeat (first | refine blk_drewN ?_ _ | refine blk_drew ?_ | refine blk_alloc ?_ _)); exact BK105.out) hb); have n6_ := Aside0.mk (below_step (by repeat (first | (with_reducible first | exact HB.out | apply below_alloc | apply pw_below_drewN | apply below_drew1 | refine below_set ?_ GE105.out) | exact HB.out)) hb); have n7_ := Aside0.mk (hbox); have n8_ := Aside0.mk ((by rw [hg]; exact (below_size (by repeat (first | (with_reducible first | exact HB.out | apply below_alloc | apply pw_below_drewN | apply below_drew1 | refine below_set ?_ GE105.out) | exact HB.out))) : w.heap.size ≤ gb122)); have n9_ := Aside0.mk ((by rw [hg]; exact (below_size (by repeat (first | (with_reducible first | exact HB.out | apply below_alloc | apply pw_below_drewN | apply below_drew1 | refine below_set ?_ GE105.out) | exact HB.out))) : w.heap.size ≤ gb122)); have n10_ := Aside0.mk ((by rw [hg]; exact Nat.ne_of_lt (blk_lt (g := gb105) (o := .cells #[.slice Ao19 t114.length co19] 28 (0, 0)) (by (with_reducible repeat (first | refine blk_drewN ?_ _ | refine blk_drew ?_ | refine blk_alloc ?_ _)); exact BK105.out)) : gb105 ≠ gb122)); have n11_ := Aside0.mk ((by rw [hg]; exact Nat.ne_of_gt (blk_lt (g := gb105) (o := .cells #[.slice Ao19 t114.length co19] 28 (0, 0)) (by (with_reducible repeat (first | refine blk_drewN ?_ _ | refine blk_drew ?_ | refine blk_alloc ?_ _)); exact BK105.out)) : gb122 ≠ gb105)); clear HO103; clear HO108; clear HO112; clear HO116; clear HO120; clear BK105; clear HB; have HO103 := n0_; have HO108 := n1_; have HO112 := n2_; have HO116 := n3_; have HO120 := n4_; have BK105 := n5_; have HB := n6_; have BK122 := n7_; have GW122 := n8_; have GE122 := n9_; have NB105_122 := n10_; have NB122_105 := n11_; clear n0_ n1_ n2_ n3_ n4_ n5_ n6_ n7_ n8_ n9_ n10_ n11_; clear hb hbox hg; obtain ⟨Ao23, co23, eo23⟩ := Kd.R_slice HO120.out; subst eo23; have hnb24 := NB122_105.out; have hnc24 := NB105_122.out; have hcz25_0 : w22.cell? ⟨gb122, 0, none⟩ = some (.slice none 0 0) := (blk_cell BK122.out 0).trans rfl; have hfz25_0 := blk_frozen BK122.out 0))
   go_ret
   exact ⟨by first | rfl | (simp [errW_none, errW_some] <;> rfl) | (simp [*, errW_none, errW_some] <;> rfl), by repeat (first | (with_reducible first | exact HB.out | apply below_alloc | apply pw_below_drewN | apply below_drew1 | refine below_set ?_ GE105.out | refine below_set ?_ GE122.out) | exact HB.out)⟩
  ·replace c7 := Bool.eq_false_iff.mpr c7
   subst c7
   have H1 : (if t113 = true then (if t117 = true then (some (!t121)) else (some false)) else (some false)) = some r := by rw [if_neg (show ¬ (false = true) by decide)] at H; exact H
   clear H
   have H := H1
   clear H1
   by_cases c26 : t113 = true
   ·subst c26
    have H1 : (if t117 = true then (some (!t121)) else (some false)) = some r := by rw [if_pos rfl] at H; exact H
    clear H
    have H := H1
    clear H1
    by_cases c27 : t117 = true
    ·subst c27
     have H1 : (some (!t121)) = some r := by rw [if_pos rfl] at H; exact H
     clear H
     have H := H1
     clear H1
     obtain rfl := Option.some.inj H
     go_enter Try.func15, Try.ntmps15
     go_wp2_with (first | ((with_reducible refine gate_callee (f := 17) rfl ?_); refine goesL_ (some 10) rfl rfl Try.func17 (by kernel_rfl) rfl #[.agg #[.slice none 0 0], .int .i64 1, .int .i64 5] rfl (by (try simp only [List.map_toArray, List.map_cons, List.map_nil]); first | done | rfl | (simp only [List.length_drop, List.length_take]; rfl)) ?_; (refine (twin_Accept.calls _ _ ([] : List (S36)) 1 5 t101 true _ ?side1 ?side2 A1.out).mono ?_); (case side1 => exact Kd.C_nil _ _); (case side2 => exact Nat.le_refl _); rintro e w28 ⟨v102, rfl, ho0, hb⟩; refine ⟨_, rfl, ?_⟩; have n0_ := Aside0.mk (Kd.R_lower ho0 (below_size (by repeat (first | (with_reducible first | exact HB.out | apply below_alloc | apply pw_below_drewN | apply below_drew1) | exact HB.out)))); have n1_ := Aside0.mk (below_step (by repeat (first | (with_reducible first | exact HB.out | apply below_alloc | apply pw_below_drewN | apply below_drew1) | exact HB.out)) hb); clear HB; have HO103 := n0_; have HB := n1_; clear n0_ n1_; (try clear hb); (try clear hb2); (try clear hk); (try clear hi); (try clear ho0)) | ((with_reducible refine gate_dst (N := 1) rfl ?_); refine box_event ?hg (N := 1) ?hd (cs := #[.slice none 0 0]) (t := 28) ?hr ?_; (case hd => rfl); (case hg => rfl); (case hr => first | (go_simp; done) | (go_simp; rfl)); intro gb105 hg w29 hbox hb; have n0_ := Aside0.mk (Kd.R_below (by (with_reducible repeat (first | apply Kd.R_alloc | apply Kd.R_drewN | apply Kd.R_drew)); exact HO103.out) hb); have n1_ := Aside0.mk (below_step (by repeat (first | (with_reducible first | exact HB.out | apply below_alloc | apply pw_below_drewN | apply below_drew1) | exact HB.out)) hb); have n2_ := Aside0.mk (hbox); have n3_ := Aside0.mk ((by rw [hg]; exact (below_size (by repeat (first | (with_reducible first | exact HB.out | apply below_alloc | apply pw_below_drewN | apply below_drew1) | exact HB.out))) : w.heap.size ≤ gb105)); have n4_ := Aside0.mk ((by rw [hg]; exact (below_size (by repeat (first | (with_reducible first | exact HB.out | apply below_alloc | apply pw_below_drewN | apply below_drew1) | exact HB.out))) : w.heap.size ≤ gb105)); clear HO103; clear HB; have HO103 := n0_; have HB := n1_; have BK105 := n2_; have GW105 := n3_; have GE105 := n4_; clear n0_ n1_ n2_ n3_ n4_; clear hb hbox hg; obtain ⟨Ao30, co30, eo30⟩ := Kd.R_slice HO103.out; subst eo30; have hcz31_0 : w29.cell? ⟨gb105, 0, none⟩ = some (.slice none 0 0) := (blk_cell BK105.out 0).trans rfl; have hfz31_0 := blk_frozen BK105.out 0) | ((with_reducible refine gate_callee (f := 17) rfl ?_); refine goesL_ (some 15) rfl rfl Try.func17 (by kernel_rfl) rfl #[.agg #[.slice Ao30 t101.length co30], .int .i64 1, .int .i64 5] rfl (by (try simp only [List.map_toArray, List.map_cons, List.map_nil]); first | done | rfl | (simp only [List.length_drop, List.length_take]; rfl)) ?_; (with_reducible refine (twin_Accept.calls _ _ t101 1 5 t106 false _ ?side1 ?side2 A2.out).mono ?_); (case side1 => refine (Kd.R_reads' (e := 36) (base := w.heap.size) (ok := fun k_ => True) (n := t101.length) (c := co30) ?_).2.2; exact (by (with_reducible repeat (first | apply Kd.R_alloc | apply Kd.R_drewN | apply Kd.R_drew)); exact (Kd.R_mono (Kd.R_far (p := ⟨gb105, 0, none⟩) (Kd.R_types HO103.out BK105.out (by decide)) (fun _ hk => hk.2) (.slice Ao30 t101.length co30)) (fun _ h_ => h_.1)))); (case side2 => exact (Kd.R_reads' HO103.out).2.1); rintro e w32 ⟨v107, rfl, ho0, hb⟩; refine ⟨_, rfl, ?_⟩; have n0_ := Aside0.mk (Kd.R_elder' (by (with_reducible repeat (first | apply Kd.R_alloc | apply Kd.R_drewN | apply Kd.R_drew)); exact (Kd.R_mono (Kd.R_far (p := ⟨gb105, 0, none⟩) (Kd.R_types HO103.out BK105.out (by decide)) (fun _ hk => hk.2) (.slice Ao30 t101.length co30)) (fun _ h_ => h_.1))) (Kd.R_base ho0) hb); have n1_ := Aside0.mk (Kd.R_lower (Kd.R_new' ho0 (Kd.R_lt (by (with_reducible repeat (first | apply Kd.R_alloc | apply Kd.R_drewN | apply Kd.R_drew)); exact (Kd.R_mono (Kd.R_far (p := ⟨gb105, 0, none⟩) (Kd.R_types HO103.out BK105.out (by decide)) (fun _ hk => hk.2) (.slice Ao30 t101.length co30)) (fun _ h_ => h_.1))))) (below_size (by repeat (first | (with_reducible first | exact HB.out | apply below_alloc | apply pw_below_drewN | apply below_drew1 | refine below_set ?_ GE105.out) | exact HB.out)))); have n2_ := Aside0.mk (blk_below (g := gb105) (o := .cells #[.slice Ao30 t101.length co30] 28 (0, 0)) (by (with_reducible repeat (first | refine blk_drewN ?_ _ | refine blk_drew ?_ | refine blk_alloc ?_ _)); refine blk_put (cs := #[.slice none 0 0]) ?_ 0 _ rfl; (with_reducible repeat (first | refine blk_drewN ?_ _ | refine blk_drew ?_ | refine blk_alloc ?_ _)); exact BK105.out) hb); have n3_ := Aside0.mk (below_step (by repeat (first | (with_reducible first | exact HB.out | apply below_alloc | apply pw_below_drewN | apply below_drew1 | refine below_set ?_ GE105.out) | exact HB.out)) hb); clear HO103; clear BK105; clear HB; have HO103 := n0_; have HO108 := n1_; have BK105 := n2_; have HB := n3_; clear n0_ n1_ n2_ n3_; (try clear hb); (try clear hb2); (try clear hk); (try clear hi); (try clear ho0); obtain ⟨Ao33, co33, eo33⟩ := Kd.R_slice HO108.out; subst eo33; have hcz34_0 : w32.cell? ⟨gb105, 0, none⟩ = some (.slice Ao30 t101.length co30) := (blk_cell BK105.out 0).trans rfl; have hfz34_0 := blk_frozen BK105.out 0) | ((with_reducible refine gate_callee (f := 17) rfl ?_); refine goesL_ (some 20) rfl rfl Try.func17 (by kernel_rfl) rfl #[.agg #[.slice Ao33 t106.length co33], .int .i64 1, .int .i64 7] rfl (by (try simp only [List.map_toArray, List.map_cons, List.map_nil]); first | done | rfl | (simp only [List.length_drop, List.length_take]; rfl)) ?_; (with_reducible refine (twin_Accept.calls _ _ t106 1 7 t110 true _ ?side1 ?side2 A3.out).mono ?_); (case side1 => refine (Kd.R_reads' (e := 36) (base := w.heap.size) (ok := fun k_ => (True ∧ some k_ ≠ (.slice Ao30 t101.length co30 : Value).ownBlock)) (n := t106.length) (c := co33) ?_).2.2; exact (by (with_reducible repeat (first | apply Kd.R_alloc | apply Kd.R_drewN | apply Kd.R_drew)); exact (Kd.R_mono (Kd.R_far (p := ⟨gb105, 0, none⟩) (Kd.R_types HO108.out BK105.out (by decide)) (fun _ hk => hk.2) (.slice Ao33 t106.length co33)) (fun _ h_ => h_.1)))); (case side2 => exact (Kd.R_reads' HO108.out).2.1); rintro e w35 ⟨v111, rfl, ho0, hb⟩; refine ⟨_, rfl, ?_⟩; have n0_ := Aside0.mk (Kd.R_elder' (by (with_reducible repeat (first | apply Kd.R_alloc | apply Kd.R_drewN | apply Kd.R_drew)); exact (Kd.R_mono (Kd.R_far (p := ⟨gb105, 0, none⟩) (Kd.R_types HO103.out BK105.out (by decide)) (fun _ hk => hk.2) (.slice Ao33 t106.length co33)) (fun _ h_ => h_.1))) (Kd.R_base ho0) hb); have n1_ := Aside0.mk (Kd.R_elder' (by (with_reducible repeat (first | apply Kd.R_alloc | apply Kd.R_drewN | apply Kd.R_drew)); exact (Kd.R_mono (Kd.R_far (p := ⟨gb105, 0, none⟩) (Kd.R_types HO108.out BK105.out (by decide)) (fun _ hk => hk.2) (.slice Ao33 t106.length co33)) (fun _ h_ => h_.1))) (Kd.R_base ho0) hb); have n2_ := Aside0.mk (Kd.R_lower (Kd.R_new' (Kd.R_new' ho0 (Kd.R_lt (by (with_reducible repeat (first | apply Kd.R_alloc | apply Kd.R_drewN | apply Kd.R_drew)); exact (Kd.R_mono (Kd.R_far (p := ⟨gb105, 0, none⟩) (Kd.R_types HO103.out BK105.out (by decide)) (fun _ hk => hk.2) (.slice Ao33 t106.length co33)) (fun _ h_ => h_.1))))) (Kd.R_lt (by (with_reducible repeat (first | apply Kd.R_alloc | apply Kd.R_drewN | apply Kd.R_drew)); exact (Kd.R_mono (Kd.R_far (p := ⟨gb105, 0, none⟩) (Kd.R_types HO108.out BK105.out (by decide)) (fun _ hk => hk.2) (.slice Ao33 t106.length co33)) (fun _ h_ => h_.1))))) (below_size (by repeat (first | (with_reducible first | exact HB.out | apply below_alloc | apply pw_below_drewN | apply below_drew1 | refine below_set ?_ GE105.out) | exact HB.out)))); have n3_ := Aside0.mk (blk_below (g := gb105) (o := .cells #[.slice Ao33 t106.length co33] 28 (0, 0)) (by (with_reducible repeat (first | refine blk_drewN ?_ _ | refine blk_drew ?_ | refine blk_alloc ?_ _)); refine blk_put (cs := #[.slice Ao30 t101.length co30]) ?_ 0 _ rfl; (with_reducible repeat (first | refine blk_drewN ?_ _ | refine blk_drew ?_ | refine blk_alloc ?_ _)); exact BK105.out) hb); have n4_ := Aside0.mk (below_step (by repeat (first | (with_reducible first | exact HB.out | apply below_alloc | apply pw_below_drewN | apply below_drew1 | refine below_set ?_ GE105.out) | exact HB.out)) hb); clear HO103; clear HO108; clear BK105; clear HB; have HO103 := n0_; have HO108 := n1_; have HO112 := n2_; have BK105 := n3_; have HB := n4_; clear n0_ n1_ n2_ n3_ n4_; (try clear hb); (try clear hb2); (try clear hk); (try clear hi); (try clear ho0); obtain ⟨Ao36, co36, eo36⟩ := Kd.R_slice HO112.out; subst eo36; have hcz37_0 : w35.cell? ⟨gb105, 0, none⟩ = some (.slice Ao33 t106.length co33) := (blk_cell BK105.out 0).trans rfl; have hfz37_0 := blk_frozen BK105.out 0) | ((with_reducible refine gate_callee (f := 17) rfl ?_); refine goesL_ (some 25) rfl rfl Try.func17 (by kernel_rfl) rfl #[.agg #[.slice Ao36 t110.length co36], .int .i64 1, .int .i64 6] rfl (by (try simp only [List.map_toArray, List.map_cons, List.map_nil]); first | done | rfl | (simp only [List.length_drop, List.length_take]; rfl)) ?_; (with_reducible refine (twin_Accept.calls _ _ t110 1 6 t114 true _ ?side1 ?side2 A4.out).mono ?_); (case side1 => refine (Kd.R_reads' (e := 36) (base := w.heap.size) (ok := fun k_ => ((True ∧ some k_ ≠ (.slice Ao30 t101.length co30 : Value).ownBlock) ∧ some k_ ≠ (.slice Ao33 t106.length co33 : Value).ownBlock)) (n := t110.length) (c := co36) ?_).2.2; exact (by (with_reducible repeat (first | apply Kd.R_alloc | apply Kd.R_drewN | apply Kd.R_drew)); exact (Kd.R_mono (Kd.R_far (p := ⟨gb105, 0, none⟩) (Kd.R_types HO112.out BK105.out (by decide)) (fun _ hk => hk.2) (.slice Ao36 t110.length co36)) (fun _ h_ => h_.1)))); (case side2 => exact (Kd.R_reads' HO112.out).2.1); rintro e w38 ⟨v115, rfl, ho0, hb⟩; refine ⟨_, rfl, ?_⟩; have n0_ := Aside0.mk (Kd.R_elder' (by (with_reducible repeat (first | apply Kd.R_alloc | apply Kd.R_drewN | apply Kd.R_drew)); exact (Kd.R_mono (Kd.R_far (p := ⟨gb105, 0, none⟩) (Kd.R_types HO103.out BK105.out (by decide)) (fun _ hk => hk.2) (.slice Ao36 t110.length co36)) (fun _ h_ => h_.1))) (Kd.R_base ho0) hb); have n1_ := Aside0.mk (Kd.R_elder' (by (with_reducible repeat (first | apply Kd.R_alloc | apply Kd.R_drewN | apply Kd.R_drew)); exact (Kd.R_mono (Kd.R_far (p := ⟨gb105, 0, none⟩) (Kd.R_types HO108.out BK105.out (by decide)) (fun _ hk => hk.2) (.slice Ao36 t110.length co36)) (fun _ h_ => h_.1))) (Kd.R_base ho0) hb); have n2_ := Aside0.mk (Kd.R_elder' (by (with_reducible repeat (first | apply Kd.R_alloc | apply Kd.R_drewN | apply Kd.R_drew)); exact (Kd.R_mono (Kd.R_far (p := ⟨gb105, 0, none⟩) (Kd.R_types HO112.out BK105.out (by decide)) (fun _ hk => hk.2) (.slice Ao36 t110.length co36)) (fun _ h_ => h_.1))) (Kd.R_base ho0) hb); have n3_ := Aside0.mk (Kd.R_lower (Kd.R_new' (Kd.R_new' (Kd.R_new' ho0 (Kd.R_lt (by (with_reducible repeat (first | apply Kd.R_alloc | apply Kd.R_drewN | apply Kd.R_drew)); exact (Kd.R_mono (Kd.R_far (p := ⟨gb105, 0, none⟩) (Kd.R_types HO103.out BK105.out (by decide)) (fun _ hk => hk.2) (.slice Ao36 t110.length co36)) (fun _ h_ => h_.1))))) (Kd.R_lt (by (with_reducible repeat (first | apply Kd.R_alloc | apply Kd.R_drewN | apply Kd.R_drew)); exact (Kd.R_mono (Kd.R_far (p := ⟨gb105, 0, none⟩) (Kd.R_types HO108.out BK105.out (by decide)) (fun _ hk => hk.2) (.slice Ao36 t110.length co36)) (fun _ h_ => h_.1))))) (Kd.R_lt (by (with_reducible repeat (first | apply Kd.R_alloc | apply Kd.R_drewN | apply Kd.R_drew)); exact (Kd.R_mono (Kd.R_far (p := ⟨gb105, 0, none⟩) (Kd.R_types HO112.out BK105.out (by decide)) (fun _ hk => hk.2) (.slice Ao36 t110.length co36)) (fun _ h_ => h_.1))))) (below_size (by repeat (first | (with_reducible first | exact HB.out | apply below_alloc | apply pw_below_drewN | apply below_drew1 | refine below_set ?_ GE105.out) | exact HB.out)))); have n4_ := Aside0.mk (blk_below (g := gb105) (o := .cells #[.slice Ao36 t110.length co36] 28 (0, 0)) (by (with_reducible repeat (first | refine blk_drewN ?_ _ | refine blk_drew ?_ | refine blk_alloc ?_ _)); refine blk_put (cs := #[.slice Ao33 t106.length co33]) ?_ 0 _ rfl; (with_reducible repeat (first | refine blk_drewN ?_ _ | refine blk_drew ?_ | refine blk_alloc ?_ _)); exact BK105.out) hb); have n5_ := Aside0.mk (below_step (by repeat (first | (with_reducible first | exact HB.out | apply below_alloc | apply pw_below_drewN | apply below_drew1 | refine below_set ?_ GE105.out) | exact HB.out)) hb); clear HO103; clear HO108; clear HO112; clear BK105; clear HB; have HO103 := n0_; have HO108 := n1_; have HO112 := n2_; have HO116 := n3_; have BK105 := n4_; have HB := n5_; clear n0_ n1_ n2_ n3_ n4_ n5_; (try clear hb); (try clear hb2); (try clear hk); (try clear hi); (try clear ho0); obtain ⟨Ao39, co39, eo39⟩ := Kd.R_slice HO116.out; subst eo39; have hcz40_0 : w38.cell? ⟨gb105, 0, none⟩ = some (.slice Ao36 t110.length co36) := (blk_cell BK105.out 0).trans rfl; have hfz40_0 := blk_frozen BK105.out 0) | ((with_reducible refine gate_callee (f := 17) rfl ?_); refine goesL_ (some 30) rfl rfl Try.func17 (by kernel_rfl) rfl #[.agg #[.slice Ao39 t114.length co39], .int .i64 1, .int .i64 6] rfl (by (try simp only [List.map_toArray, List.map_cons, List.map_nil]); first | done | rfl | (simp only [List.length_drop, List.length_take]; rfl)) ?_; (with_reducible refine (twin_Accept.calls _ _ t114 1 6 t118 t121 _ ?side1 ?side2 A5.out).mono ?_); (case side1 => refine (Kd.R_reads' (e := 36) (base := w.heap.size) (ok := fun k_ => (((True ∧ some k_ ≠ (.slice Ao30 t101.length co30 : Value).ownBlock) ∧ some k_ ≠ (.slice Ao33 t106.length co33 : Value).ownBlock) ∧ some k_ ≠ (.slice Ao36 t110.length co36 : Value).ownBlock)) (n := t114.length) (c := co39) ?_).2.2; exact (by (with_reducible repeat (first | apply Kd.R_alloc | apply Kd.R_drewN | apply Kd.R_drew)); exact (Kd.R_mono (Kd.R_far (p := ⟨gb105, 0, none⟩) (Kd.R_types HO116.out BK105.out (by decide)) (fun _ hk => hk.2) (.slice Ao39 t114.length co39)) (fun _ h_ => h_.1)))); (case side2 => exact (Kd.R_reads' HO116.out).2.1); rintro e w41 ⟨v119, rfl, ho0, hb⟩; refine ⟨_, rfl, ?_⟩; have n0_ := Aside0.mk (Kd.R_elder' (by (with_reducible repeat (first | apply Kd.R_alloc | apply Kd.R_drewN | apply Kd.R_drew)); exact (Kd.R_mono (Kd.R_far (p := ⟨gb105, 0, none⟩) (Kd.R_types HO103.out BK105.out (by decide)) (fun _ hk => hk.2) (.slice Ao39 t114.length co39)) (fun _ h_ => h_.1))) (Kd.R_base ho0) hb); have n1_ := Aside0.mk (Kd.R_elder' (by (with_reducible repeat (first | apply Kd.R_alloc | apply Kd.R_drewN | apply Kd.R_drew)); exact (Kd.R_mono (Kd.R_far (p := ⟨gb105, 0, none⟩) (Kd.R_types HO108.out BK105.out (by decide)) (fun _ hk => hk.2) (.slice Ao39 t114.length co39)) (fun _ h_ => h_.1))) (Kd.R_base ho0) hb); have n2_ := Aside0.mk (Kd.R_elder' (by (with_reducible repeat (first | apply Kd.R_alloc | apply Kd.R_drewN | apply Kd.R_drew)); exact (Kd.R_mono (Kd.R_far (p := ⟨gb105, 0, none⟩) (Kd.R_types HO112.out BK105.out (by decide)) (fun _ hk => hk.2) (.slice Ao39 t114.length co39)) (fun _ h_ => h_.1))) (Kd.R_base ho0) hb); have n3_ := Aside0.mk (Kd.R_elder' (by (with_reducible repeat (first | apply Kd.R_alloc | apply Kd.R_drewN | apply Kd.R_drew)); exact (Kd.R_mono (Kd.R_far (p := ⟨gb105, 0, none⟩) (Kd.R_types HO116.out BK105.out (by decide)) (fun _ hk => hk.2) (.slice Ao39 t114.length co39)) (fun _ h_ => h_.1))) (Kd.R_base ho0) hb); have n4_ := Aside0.mk (Kd.R_lower (Kd.R_new' (Kd.R_new' (Kd.R_new' (Kd.R_new' ho0 (Kd.R_lt (by (with_reducible repeat (first | apply Kd.R_alloc | apply Kd.R_drewN | apply Kd.R_drew)); exact (Kd.R_mono (Kd.R_far (p := ⟨gb105, 0, none⟩) (Kd.R_types HO103.out BK105.out (by decide)) (fun _ hk => hk.2) (.slice Ao39 t114.length co39)) (fun _ h_ => h_.1))))) (Kd.R_lt (by (with_reducible repeat (first | apply Kd.R_alloc | apply Kd.R_drewN | apply Kd.R_drew)); exact (Kd.R_mono (Kd.R_far (p := ⟨gb105, 0, none⟩) (Kd.R_types HO108.out BK105.out (by decide)) (fun _ hk => hk.2) (.slice Ao39 t114.length co39)) (fun _ h_ => h_.1))))) (Kd.R_lt (by (with_reducible repeat (first | apply Kd.R_alloc | apply Kd.R_drewN | apply Kd.R_drew)); exact (Kd.R_mono (Kd.R_far (p := ⟨gb105, 0, none⟩) (Kd.R_types HO112.out BK105.out (by decide)) (fun _ hk => hk.2) (.slice Ao39 t114.length co39)) (fun _ h_ => h_.1))))) (Kd.R_lt (by (with_reducible repeat (first | apply Kd.R_alloc | apply Kd.R_drewN | apply Kd.R_drew)); exact (Kd.R_mono (Kd.R_far (p := ⟨gb105, 0, none⟩) (Kd.R_types HO116.out BK105.out (by decide)) (fun _ hk => hk.2) (.slice Ao39 t114.length co39)) (fun _ h_ => h_.1))))) (below_size (by repeat (first | (with_reducible first | exact HB.out | apply below_alloc | apply pw_below_drewN | apply below_drew1 | refine below_set ?_ GE105.out) | exact HB.out)))); have n5_ := Aside0.mk (blk_below (g := gb105) (o := .cells #[.slice Ao39 t114.length co39] 28 (0, 0)) (by (with_reducible repeat (first | refine blk_drewN ?_ _ | refine blk_drew ?_ | refine blk_alloc ?_ _)); refine blk_put (cs := #[.slice Ao36 t110.length co36]) ?_ 0 _ rfl; (with_reducible repeat (first | refine blk_drewN ?_ _ | refine blk_drew ?_ | refine blk_alloc ?_ _)); exact BK105.out) hb); have n6_ := Aside0.mk (below_step (by repeat (first | (with_reducible first | exact HB.out | apply below_alloc | apply pw_below_drewN | apply below_drew1 | refine below_set ?_ GE105.out) | exact HB.out)) hb); clear HO103; clear HO108; clear HO112; clear HO116; clear BK105; clear HB; have HO103 := n0_; have HO108 := n1_; have HO112 := n2_; have HO116 := n3_; have HO120 := n4_; have BK105 := n5_; have HB := n6_; clear n0_ n1_ n2_ n3_ n4_ n5_ n6_; (try clear hb); (try clear hb2); (try clear hk); (try clear hi); (try clear ho0)) | ((with_reducible refine gate_dst (N := 6) rfl ?_); refine box_event ?hg (N := 6) ?hd (cs := #[.slice none 0 0]) (t := 28) ?hr ?_; (case hd => rfl); (case hg => rfl); (case hr => first | (go_simp; done) | (go_simp; rfl)); intro gb122 hg w42 hbox hb; have n0_ := Aside0.mk (Kd.R_below (by (with_reducible repeat (first | apply Kd.R_alloc | apply Kd.R_drewN | apply Kd.R_drew)); exact HO103.out) hb); have n1_ := Aside0.mk (Kd.R_below (by (with_reducible repeat (first | apply Kd.R_alloc | apply Kd.R_drewN | apply Kd.R_drew)); exact HO108.out) hb); have n2_ := Aside0.mk (Kd.R_below (by (with_reducible repeat (first | apply Kd.R_alloc | apply Kd.R_drewN | apply Kd.R_drew)); exact HO112.out) hb); have n3_ := Aside0.mk (Kd.R_below (by (with_reducible repeat (first | apply Kd.R_alloc | apply Kd.R_drewN | apply Kd.R_drew)); exact HO116.out) hb); have n4_ := Aside0.mk (Kd.R_below (by (with_reducible repeat (first | apply Kd.R_alloc | apply Kd.R_drewN | apply Kd.R_drew)); exact HO120.out) hb); have n5_ := Aside0.mk (blk_below (g := gb105) (o := .cells #[.slice Ao39 t114.length co39] 28 (0, 0)) (by (with_reducible repeat (first | refine blk_drewN ?_ _ | refine blk_drew ?_ | refine blk_alloc ?_ _)); exact BK105.out) hb); have n6_ := Aside0.mk (below_step (by repeat (first | (with_reducible first | exact HB.out | apply below_alloc | apply pw_below_drewN | apply below_drew1 | refine below_set ?_ GE105.out) | exact HB.out)) hb); have n7_ := Aside0.mk (hbox); have n8_ := Aside0.mk ((by rw [hg]; exact (below_size (by repeat (first | (with_reducible first | exact HB.out | apply below_alloc | apply pw_below_drewN | apply below_drew1 | refine below_set ?_ GE105.out) | exact HB.out))) : w.heap.size ≤ gb122)); have n9_ := Aside0.mk ((by rw [hg]; exact (below_size (by repeat (first | (with_reducible first | exact HB.out | apply below_alloc | apply pw_below_drewN | apply below_drew1 | refine below_set ?_ GE105.out) | exact HB.out))) : w.heap.size ≤ gb122)); have n10_ := Aside0.mk ((by rw [hg]; exact Nat.ne_of_lt (blk_lt (g := gb105) (o := .cells #[.slice Ao39 t114.length co39] 28 (0, 0)) (by (with_reducible repeat (first | refine blk_drewN ?_ _ | refine blk_drew ?_ | refine blk_alloc ?_ _)); exact BK105.out)) : gb105 ≠ gb122)); have n11_ := Aside0.mk ((by rw [hg]; exact Nat.ne_of_gt (blk_lt (g := gb105) (o := .cells #[.slice Ao39 t114.length co39] 28 (0, 0)) (by (with_reducible repeat (first | refine blk_drewN ?_ _ | refine blk_drew ?_ | refine blk_alloc ?_ _)); exact BK105.out)) : gb122 ≠ gb105)); clear HO103; clear HO108; clear HO112; clear HO116; clear HO120; clear BK105; clear HB; have HO103 := n0_; have HO108 := n1_; have HO112 := n2_; have HO116 := n3_; have HO120 := n4_; have BK105 := n5_; have HB := n6_; have BK122 := n7_; have GW122 := n8_; have GE122 := n9_; have NB105_122 := n10_; have NB122_105 := n11_; clear n0_ n1_ n2_ n3_ n4_ n5_ n6_ n7_ n8_ n9_ n10_ n11_; clear hb hbox hg; obtain ⟨Ao43, co43, eo43⟩ := Kd.R_slice HO120.out; subst eo43; have hnb44 := NB122_105.out; have hnc44 := NB105_122.out; have hcz45_0 : w42.cell? ⟨gb122, 0, none⟩ = some (.slice none 0 0) := (blk_cell BK122.out 0).trans rfl; have hfz45_0 := blk_frozen BK122.out 0))
     go_ret
     exact ⟨by first | rfl | (simp [errW_none, errW_some] <;> rfl) | (simp [*, errW_none, errW_some] <;> rfl), by repeat (first | (with_reducible first | exact HB.out | apply below_alloc | apply pw_below_drewN | apply below_drew1 | refine below_set ?_ GE105.out | refine below_set ?_ GE122.out) | exact HB.out)⟩
    ·replace c27 := Bool.eq_false_iff.mpr c27
     subst c27
     have H1 : (some false) = some r := by rw [if_neg (show ¬ (false = true) by decide)] at H; exact H
     clear H
     have H := H1
     clear H1
     obtain rfl := Option.some.inj H
     go_enter Try.func15, Try.ntmps15
     go_wp2_with (first | ((with_reducible refine gate_callee (f := 17) rfl ?_); refine goesL_ (some 10) rfl rfl Try.func17 (by kernel_rfl) rfl #[.agg #[.slice none 0 0], .int .i64 1, .int .i64 5] rfl (by (try simp only [List.map_toArray, List.map_cons, List.map_nil]); first | done | rfl | (simp only [List.length_drop, List.length_take]; rfl)) ?_; (refine (twin_Accept.calls _ _ ([] : List (S36)) 1 5 t101 true _ ?side1 ?side2 A1.out).mono ?_); (case side1 => exact Kd.C_nil _ _); (case side2 => exact Nat.le_refl _); rintro e w46 ⟨v102, rfl, ho0, hb⟩; refine ⟨_, rfl, ?_⟩; have n0_ := Aside0.mk (Kd.R_lower ho0 (below_size (by repeat (first | (with_reducible first | exact HB.out | apply below_alloc | apply pw_below_drewN | apply below_drew1) | exact HB.out)))); have n1_ := Aside0.mk (below_step (by repeat (first | (with_reducible first | exact HB.out | apply below_alloc | apply pw_below_drewN | apply below_drew1) | exact HB.out)) hb); clear HB; have HO103 := n0_; have HB := n1_; clear n0_ n1_; (try clear hb); (try clear hb2); (try clear hk); (try clear hi); (try clear ho0)) | ((with_reducible refine gate_dst (N := 1) rfl ?_); refine box_event ?hg (N := 1) ?hd (cs := #[.slice none 0 0]) (t := 28) ?hr ?_; (case hd => rfl); (case hg => rfl); (case hr => first | (go_simp; done) | (go_simp; rfl)); intro gb105 hg w47 hbox hb; have n0_ := Aside0.mk (Kd.R_below (by (with_reducible repeat (first | apply Kd.R_alloc | apply Kd.R_drewN | apply Kd.R_drew)); exact HO103.out) hb); have n1_ := Aside0.mk (below_step (by repeat (first | (with_reducible first | exact HB.out | apply below_alloc | apply pw_below_drewN | apply below_drew1) | exact HB.out)) hb); have n2_ := Aside0.mk (hbox); have n3_ := Aside0.mk ((by rw [hg]; exact (below_size (by repeat (first | (with_reducible first | exact HB.out | apply below_alloc | apply pw_below_drewN | apply below_drew1) | exact HB.out))) : w.heap.size ≤ gb105)); have n4_ := Aside0.mk ((by rw [hg]; exact (below_size (by repeat (first | (with_reducible first | exact HB.out | apply below_alloc | apply pw_below_drewN | apply below_drew1) | exact HB.out))) : w.heap.size ≤ gb105)); clear HO103; clear HB; have HO103 := n0_; have HB := n1_; have BK105 := n2_; have GW105 := n3_; have GE105 := n4_; clear n0_ n1_ n2_ n3_ n4_; clear hb hbox hg; obtain ⟨Ao48, co48, eo48⟩ := Kd.R_slice HO103.out; subst eo48; have hcz49_0 : w47.cell? ⟨gb105, 0, none⟩ = some (.slice none 0 0) := (blk_cell BK105.out 0).trans rfl; have hfz49_0 := blk_frozen BK105.out 0) | ((with_reducible refine gate_callee (f := 17) rfl ?_); refine goesL_ (some 15) rfl rfl Try.func17 (by kernel_rfl) rfl #[.agg #[.slice Ao48 t101.length co48], .int .i64 1, .int .i64 5] rfl (by (try simp only [List.map_toArray, List.map_cons, List.map_nil]); first | done | rfl | (simp only [List.length_drop, List.length_take]; rfl)) ?_; (with_reducible refine (twin_Accept.calls _ _ t101 1 5 t106 false _ ?side1 ?side2 A2.out).mono ?_); (case side1 => refine (Kd.R_reads' (e := 36) (base := w.heap.size) (ok := fun k_ => True) (n := t101.length) (c := co48) ?_).2.2; exact (by (with_reducible repeat (first | apply Kd.R_alloc | apply Kd.R_drewN | apply Kd.R_drew)); exact (Kd.R_mono (Kd.R_far (p := ⟨gb105, 0, none⟩) (Kd.R_types HO103.out BK105.out (by decide)) (fun _ hk => hk.2) (.slice Ao48 t101.length co48)) (fun _ h_ => h_.1)))); (case side2 => exact (Kd.R_reads' HO103.out).2.1); rintro e w50 ⟨v107, rfl, ho0, hb⟩; refine ⟨_, rfl, ?_⟩; have n0_ := Aside0.mk (Kd.R_elder' (by (with_reducible repeat (first | apply Kd.R_alloc | apply Kd.R_drewN | apply Kd.R_drew)); exact (Kd.R_mono (Kd.R_far (p := ⟨gb105, 0, none⟩) (Kd.R_types HO103.out BK105.out (by decide)) (fun _ hk => hk.2) (.slice Ao48 t101.length co48)) (fun _ h_ => h_.1))) (Kd.R_base ho0) hb); have n1_ := Aside0.mk (Kd.R_lower (Kd.R_new' ho0 (Kd.R_lt (by (with_reducible repeat (first | apply Kd.R_alloc | apply Kd.R_drewN | apply Kd.R_drew)); exact (Kd.R_mono (Kd.R_far (p := ⟨gb105, 0, none⟩) (Kd.R_types HO103.out BK105.out (by decide)) (fun _ hk => hk.2) (.slice Ao48 t101.length co48)) (fun _ h_ => h_.1))))) (below_size (by repeat (first | (with_reducible first | exact HB.out | apply below_alloc | apply pw_below_drewN | apply below_drew1 | refine below_set ?_ GE105.out) | exact HB.out)))); have n2_ := Aside0.mk (blk_below (g := gb105) (o := .cells #[.slice Ao48 t101.length co48] 28 (0, 0)) (by (with_reducible repeat (first | refine blk_drewN ?_ _ | refine blk_drew ?_ | refine blk_alloc ?_ _)); refine blk_put (cs := #[.slice none 0 0]) ?_ 0 _ rfl; (with_reducible repeat (first | refine blk_drewN ?_ _ | refine blk_drew ?_ | refine blk_alloc ?_ _)); exact BK105.out) hb); have n3_ := Aside0.mk (below_step (by repeat (first | (with_reducible first | exact HB.out | apply below_alloc | apply pw_below_drewN | apply below_drew1 | refine below_set ?_ GE105.out) | exact HB.out)) hb); clear HO103; clear BK105; clear HB; have HO103 := n0_; have HO108 := n1_; have BK105 := n2_; have HB := n3_; clear n0_ n1_ n2_ n3_; (try clear hb); (try clear hb2); (try clear hk); (try clear hi); (try clear ho0); obtain ⟨Ao51, co51, eo51⟩ := Kd.R_slice HO108.out; subst eo51; have hcz52_0 : w50.cell? ⟨gb105, 0, none⟩ = some (.slice Ao48 t101.length co48) := (blk_cell BK105.out 0).trans rfl; have hfz52_0 := blk_frozen BK105.out 0) | ((with_reducible refine gate_callee (f := 17) rfl ?_); refine goesL_ (some 20) rfl rfl Try.func17 (by kernel_rfl) rfl #[.agg #[.slice Ao51 t106.length co51], .int .i64 1, .int .i64 7] rfl (by (try simp only [List.map_toArray, List.map_cons, List.map_nil]); first | done | rfl | (simp only [List.length_drop, List.length_take]; rfl)) ?_; (with_reducible refine (twin_Accept.calls _ _ t106 1 7 t110 true _ ?side1 ?side2 A3.out).mono ?_); (case side1 => refine (Kd.R_reads' (e := 36) (base := w.heap.size) (ok := fun k_ => (True ∧ some k_ ≠ (.slice Ao48 t101.length co48 : Value).ownBlock)) (n := t106.length) (c := co51) ?_).2.2; exact (by (with_reducible repeat (first | apply Kd.R_alloc | apply Kd.R_drewN | apply Kd.R_drew)); exact (Kd.R_mono (Kd.R_far (p := ⟨gb105, 0, none⟩) (Kd.R_types HO108.out BK105.out (by decide)) (fun _ hk => hk.2) (.slice Ao51 t106.length co51)) (fun _ h_ => h_.1)))); (case side2 => exact (Kd.R_reads' HO108.out).2.1); rintro e w53 ⟨v111, rfl, ho0, hb⟩; refine ⟨_, rfl, ?_⟩; have n0_ := Aside0.mk (Kd.R_elder' (by (with_reducible repeat (first | apply Kd.R_alloc | apply Kd.R_drewN | apply Kd.R_drew)); exact (Kd.R_mono (Kd.R_far (p := ⟨gb105, 0, none⟩) (Kd.R_types HO103.out BK105.out (by decide)) (fun _ hk => hk.2) (.slice Ao51 t106.length co51)) (fun _ h_ => h_.1))) (Kd.R_base ho0) hb); have n1_ := Aside0.mk (Kd.R_elder' (by (with_reducible repeat (first | apply Kd.R_alloc | apply Kd.R_drewN | apply Kd.R_drew)); exact (Kd.R_mono (Kd.R_far (p := ⟨gb105, 0, none⟩) (Kd.R_types HO108.out BK105.out (by decide)) (fun _ hk => hk.2) (.slice Ao51 t106.length co51)) (fun _ h_ => h_.1))) (Kd.R_base ho0) hb); have n2_ := Aside0.mk (Kd.R_lower (Kd.R_new' (Kd.R_new' ho0 (Kd.R_lt (by (with_reducible repeat (first | apply Kd.R_alloc | apply Kd.R_drewN | apply Kd.R_drew)); exact (Kd.R_mono (Kd.R_far (p := ⟨gb105, 0, none⟩) (Kd.R_types HO103.out BK105.out (by decide)) (fun _ hk => hk.2) (.slice Ao51 t106.length co51)) (fun _ h_ => h_.1))))) (Kd.R_lt (by (with_reducible repeat (first | apply Kd.R_alloc | apply Kd.R_drewN | apply Kd.R_drew)); exact (Kd.R_mono (Kd.R_far (p := ⟨gb105, 0, none⟩) (Kd.R_types HO108.out BK105.out (by decide)) (fun _ hk => hk.2) (.slice Ao51 t106.length co51)) (fun _ h_ => h_.1))))) (below_size (by repeat (first | (with_reducible first | exact HB.out | apply below_alloc | apply pw_below_drewN | apply below_drew1 | refine below_set ?_ GE105.out) | exact HB.out)))); have n3_ := Aside0.mk (blk_below (g := gb105) (o := .cells #[.slice Ao51 t106.length co51] 28 (0, 0)) (by (with_reducible repeat (first | refine blk_drewN ?_ _ | refine blk_drew ?_ | refine blk_alloc ?_ _)); refine blk_put (cs := #[.slice Ao48 t101.length co48]) ?_ 0 _ rfl; (with_reducible repeat (first | refine blk_drewN ?_ _ | refine blk_drew ?_ | refine blk_alloc ?_ _)); exact BK105.out) hb); have n4_ := Aside0.mk (below_step (by repeat (first | (with_reducible first | exact HB.out | apply below_alloc | apply pw_below_drewN | apply below_drew1 | refine below_set ?_ GE105.out) | exact HB.out)) hb); clear HO103; clear HO108; clear BK105; clear HB; have HO103 := n0_; have HO108 := n1_; have HO112 := n2_; have BK105 := n3_; have HB := n4_; clear n0_ n1_ n2_ n3_ n4_; (try clear hb); (try clear hb2); (try clear hk); (try clear hi); (try clear ho0); obtain ⟨Ao54, co54, eo54⟩ := Kd.R_slice HO112.out; subst eo54; have hcz55_0 : w53.cell? ⟨gb105, 0, none⟩ = some (.slice Ao51 t106.length co51) := (blk_cell BK105.out 0).trans rfl; have hfz55_0 := blk_frozen BK105.out 0) | ((with_reducible refine gate_callee (f := 17) rfl ?_); refine goesL_ (some 25) rfl rfl Try.func17 (by kernel_rfl) rfl #[.agg #[.slice Ao54 t110.length co54], .int .i64 1, .int .i64 6] rfl (by (try simp only [List.map_toArray, List.map_cons, List.map_nil]); first | done | rfl | (simp only [List.length_drop, List.length_take]; rfl)) ?_; (with_reducible refine (twin_Accept.calls _ _ t110 1 6 t114 false _ ?side1 ?side2 A4.out).mono ?_); (case side1 => refine (Kd.R_reads' (e := 36) (base := w.heap.size) (ok := fun k_ => ((True ∧ some k_ ≠ (.slice Ao48 t101.length co48 : Value).ownBlock) ∧ some k_ ≠ (.slice Ao51 t106.length co51 : Value).ownBlock)) (n := t110.length) (c := co54) ?_).2.2; exact (by (with_reducible repeat (first | apply Kd.R_alloc | apply Kd.R_drewN | apply Kd.R_drew)); exact (Kd.R_mono (Kd.R_far (p := ⟨gb105, 0, none⟩) (Kd.R_types HO112.out BK105.out (by decide)) (fun _ hk => hk.2) (.slice Ao54 t110.length co54)) (fun _ h_ => h_.1)))); (case side2 => exact (Kd.R_reads' HO112.out).2.1); rintro e w56 ⟨v115, rfl, ho0, hb⟩; refine ⟨_, rfl, ?_⟩; have n0_ := Aside0.mk (Kd.R_elder' (by (with_reducible repeat (first | apply Kd.R_alloc | apply Kd.R_drewN | apply Kd.R_drew)); exact (Kd.R_mono (Kd.R_far (p := ⟨gb105, 0, none⟩) (Kd.R_types HO103.out BK105.out (by decide)) (fun _ hk => hk.2) (.slice Ao54 t110.length co54)) (fun _ h_ => h_.1))) (Kd.R_base ho0) hb); have n1_ := Aside0.mk (Kd.R_elder' (by (with_reducible repeat (first | apply Kd.R_alloc | apply Kd.R_drewN | apply Kd.R_drew)); exact (Kd.R_mono (Kd.R_far (p := ⟨gb105, 0, none⟩) (Kd.R_types HO108.out BK105.out (by decide)) (fun _ hk => hk.2) (.slice Ao54 t110.length co54)) (fun _ h_ => h_.1))) (Kd.R_base ho0) hb); have n2_ := Aside0.mk (Kd.R_elder' (by (with_reducible repeat (first | apply Kd.R_alloc | apply Kd.R_drewN | apply Kd.R_drew)); exact (Kd.R_mono (Kd.R_far (p := ⟨gb105, 0, none⟩) (Kd.R_types HO112.out BK105.out (by decide)) (fun _ hk => hk.2) (.slice Ao54 t110.length co54)) (fun _ h_ => h_.1))) (Kd.R_base ho0) hb); have n3_ := Aside0.mk (Kd.R_lower (Kd.R_new' (Kd.R_new' (Kd.R_new' ho0 (Kd.R_lt (by (with_reducible repeat (first | apply Kd.R_alloc | apply Kd.R_drewN | apply Kd.R_drew)); exact (Kd.R_mono (Kd.R_far (p := ⟨gb105, 0, none⟩) (Kd.R_types HO103.out BK105.out (by decide)) (fun _ hk => hk.2) (.slice Ao54 t110.length co54)) (fun _ h_ => h_.1))))) (Kd.R_lt (by (with_reducible repeat (first | apply Kd.R_alloc | apply Kd.R_drewN | apply Kd.R_drew)); exact (Kd.R_mono (Kd.R_far (p := ⟨gb105, 0, none⟩) (Kd.R_types HO108.out BK105.out (by decide)) (fun _ hk => hk.2) (.slice Ao54 t110.length co54)) (fun _ h_ => h_.1))))) (Kd.R_lt (by (with_reducible repeat (first | apply Kd.R_alloc | apply Kd.R_drewN | apply Kd.R_drew)); exact (Kd.R_mono (Kd.R_far (p := ⟨gb105, 0, none⟩) (Kd.R_types HO112.out BK105.out (by decide)) (fun _ hk => hk.2) (.slice Ao54 t110.length co54)) (fun _ h_ => h_.1))))) (below_size (by repeat (first | (with_reducible first | exact HB.out | apply below_alloc | apply pw_below_drewN | apply below_drew1 | refine below_set ?_ GE105.out) | exact HB.out)))); have n4_ := Aside0.mk (blk_below (g := gb105) (o := .cells #[.slice Ao54 t110.length co54] 28 (0, 0)) (by (with_reducible repeat (first | refine blk_drewN ?_ _ | refine blk_drew ?_ | refine blk_alloc ?_ _)); refine blk_put (cs := #[.slice Ao51 t106.length co51]) ?_ 0 _ rfl; (with_reducible repeat (first | refine blk_drewN ?_ _ | refine blk_drew ?_ | refine blk_alloc ?_ _)); exact BK105.out) hb); have n5_ := Aside0.mk (below_step (by repeat (first | (with_reducible first | exact HB.out | apply below_alloc | apply pw_below_drewN | apply below_drew1 | refine below_set ?_ GE105.out) | exact HB.out)) hb); clear HO103; clear HO108; clear HO112; clear BK105; clear HB; have HO103 := n0_; have HO108 := n1_; have HO112 := n2_; have HO116 := n3_; have BK105 := n4_; have HB := n5_; clear n0_ n1_ n2_ n3_ n4_ n5_; (try clear hb); (try clear hb2); (try clear hk); (try clear hi); (try clear ho0); obtain ⟨Ao57, co57, eo57⟩ := Kd.R_slice HO116.out; subst eo57; have hcz58_0 : w56.cell? ⟨gb105, 0, none⟩ = some (.slice Ao54 t110.length co54) := (blk_cell BK105.out 0).trans rfl; have hfz58_0 := blk_frozen BK105.out 0) | ((with_reducible refine gate_callee (f := 17) rfl ?_); refine goesL_ (some 30) rfl rfl Try.func17 (by kernel_rfl) rfl #[.agg #[.slice Ao57 t114.length co57], .int .i64 1, .int .i64 6] rfl (by (try simp only [List.map_toArray, List.map_cons, List.map_nil]); first | done | rfl | (simp only [List.length_drop, List.length_take]; rfl)) ?_; (with_reducible refine (twin_Accept.calls _ _ t114 1 6 t118 t121 _ ?side1 ?side2 A5.out).mono ?_); (case side1 => refine (Kd.R_reads' (e := 36) (base := w.heap.size) (ok := fun k_ => (((True ∧ some k_ ≠ (.slice Ao48 t101.length co48 : Value).ownBlock) ∧ some k_ ≠ (.slice Ao51 t106.length co51 : Value).ownBlock) ∧ some k_ ≠ (.slice Ao54 t110.length co54 : Value).ownBlock)) (n := t114.length) (c := co57) ?_).2.2; exact (by (with_reducible repeat (first | apply Kd.R_alloc | apply Kd.R_drewN | apply Kd.R_drew)); exact (Kd.R_mono (Kd.R_far (p := ⟨gb105, 0, none⟩) (Kd.R_types HO116.out BK105.out (by decide)) (fun _ hk => hk.2) (.slice Ao57 t114.length co57)) (fun _ h_ => h_.1)))); (case side2 => exact (Kd.R_reads' HO116.out).2.1); rintro e w59 ⟨v119, rfl, ho0, hb⟩; refine ⟨_, rfl, ?_⟩; have n0_ := Aside0.mk (Kd.R_elder' (by (with_reducible repeat (first | apply Kd.R_alloc | apply Kd.R_drewN | apply Kd.R_drew)); exact (Kd.R_mono (Kd.R_far (p := ⟨gb105, 0, none⟩) (Kd.R_types HO103.out BK105.out (by decide)) (fun _ hk => hk.2) (.slice Ao57 t114.length co57)) (fun _ h_ => h_.1))) (Kd.R_base ho0) hb); have n1_ := Aside0.mk (Kd.R_elder' (by (with_reducible repeat (first | apply Kd.R_alloc | apply Kd.R_drewN | apply Kd.R_drew)); exact (Kd.R_mono (Kd.R_far (p := ⟨gb105, 0, none⟩) (Kd.R_types HO108.out BK105.out (by decide)) (fun _ hk => hk.2) (.slice Ao57 t114.length co57)) (fun _ h_ => h_.1))) (Kd.R_base ho0) hb); have n2_ := Aside0.mk (Kd.R_elder' (by (with_reducible repeat (first | apply Kd.R_alloc | apply Kd.R_drewN | apply Kd.R_drew)); exact (Kd.R_mono (Kd.R_far (p := ⟨gb105, 0, none⟩) (Kd.R_types HO112.out BK105.out (by decide)) (fun _ hk => hk.2) (.slice Ao57 t114.length co57)) (fun _ h_ => h_.1))) (Kd.R_base ho0) hb); have n3_ := Aside0.mk (Kd.R_elder' (by (with_reducible repeat (first | apply Kd.R_alloc | apply Kd.R_drewN | apply Kd.R_drew)); exact (Kd.R_mono (Kd.R_far (p := ⟨gb105, 0, none⟩) (Kd.R_types HO116.out BK105.out (by decide)) (fun _ hk => hk.2) (.slice Ao57 t114.length co57)) (fun _ h_ => h_.1))) (Kd.R_base ho0) hb); have n4_ := Aside0.mk (Kd.R_lower (Kd.R_new' (Kd.R_new' (Kd.R_new' (Kd.R_new' ho0 (Kd.R_lt (by (with_reducible repeat (first | apply Kd.R_alloc | apply Kd.R_drewN | apply Kd.R_drew)); exact (Kd.R_mono (Kd.R_far (p := ⟨gb105, 0, none⟩) (Kd.R_types HO103.out BK105.out (by decide)) (fun _ hk => hk.2) (.slice Ao57 t114.length co57)) (fun _ h_ => h_.1))))) (Kd.R_lt (by (with_reducible repeat (first | apply Kd.R_alloc | apply Kd.R_drewN | apply Kd.R_drew)); exact (Kd.R_mono (Kd.R_far (p := ⟨gb105, 0, none⟩) (Kd.R_types HO108.out BK105.out (by decide)) (fun _ hk => hk.2) (.slice Ao57 t114.length co57)) (fun _ h_ => h_.1))))) (Kd.R_lt (by (with_reducible repeat (first | apply Kd.R_alloc | apply Kd.R_drewN | apply Kd.R_drew)); exact (Kd.R_mono (Kd.R_far (p := ⟨gb105, 0, none⟩) (Kd.R_types HO112.out BK105.out (by decide)) (fun _ hk => hk.2) (.slice Ao57 t114.length co57)) (fun _ h_ => h_.1))))) (Kd.R_lt (by (with_reducible repeat (first | apply Kd.R_alloc | apply Kd.R_drewN | apply Kd.R_drew)); exact (Kd.R_mono (Kd.R_far (p := ⟨gb105, 0, none⟩) (Kd.R_types HO116.out BK105.out (by decide)) (fun _ hk => hk.2) (.slice Ao57 t114.length co57)) (fun _ h_ => h_.1))))) (below_size (by repeat (first | (with_reducible first | exact HB.out | apply below_alloc | apply pw_below_drewN | apply below_drew1 | refine below_set ?_ GE105.out) | exact HB.out)))); have n5_ := Aside0.mk (blk_below (g := gb105) (o := .cells #[.slice Ao57 t114.length co57] 28 (0, 0)) (by (with_reducible repeat (first | refine blk_drewN ?_ _ | refine blk_drew ?_ | refine blk_alloc ?_ _)); refine blk_put (cs := #[.slice Ao54 t110.length co54]) ?_ 0 _ rfl; (with_reducible repeat (first | refine blk_drewN ?_ _ | refine blk_drew ?_ | refine blk_alloc ?_ _)); exact BK105.out) hb); have n6_ := Aside0.mk (below_step (by repeat (first | (with_reducible first | exact HB.out | apply below_alloc | apply pw_below_drewN | apply below_drew1 | refine below_set ?_ GE105.out) | exact HB.out)) hb); clear HO103; clear HO108; clear HO112; clear HO116; clear BK105; clear HB; have HO103 := n0_; have HO108 := n1_; have HO112 := n2_; have HO116 := n3_; have HO120 := n4_; have BK105 := n5_; have HB := n6_; clear n0_ n1_ n2_ n3_ n4_ n5_ n6_; (try clear hb); (try clear hb2); (try clear hk); (try clear hi); (try clear ho0)) | ((with_reducible refine gate_dst (N := 6) rfl ?_); refine box_event ?hg (N := 6) ?hd (cs := #[.slice none 0 0]) (t := 28) ?hr ?_; (case hd => rfl); (case hg => rfl); (case hr => first | (go_simp; done) | (go_simp; rfl)); intro gb122 hg w60 hbox hb; have n0_ := Aside0.mk (Kd.R_below (by (with_reducible repeat (first | apply Kd.R_alloc | apply Kd.R_drewN | apply Kd.R_drew)); exact HO103.out) hb); have n1_ := Aside0.mk (Kd.R_below (by (with_reducible repeat (first | apply Kd.R_alloc | apply Kd.R_drewN | apply Kd.R_drew)); exact HO108.out) hb); have n2_ := Aside0.mk (Kd.R_below (by (with_reducible repeat (first | apply Kd.R_alloc | apply Kd.R_drewN | apply Kd.R_drew)); exact HO112.out) hb); have n3_ := Aside0.mk (Kd.R_below (by (with_reducible repeat (first | apply Kd.R_alloc | apply Kd.R_drewN | apply Kd.R_drew)); exact HO116.out) hb); have n4_ := Aside0.mk (Kd.R_below (by (with_reducible repeat (first | apply Kd.R_alloc | apply Kd.R_drewN | apply Kd.R_drew)); exact HO120.out) hb); have n5_ := Aside0.mk (blk_below (g := gb105) (o := .cells #[.slice Ao57 t114.length co57] 28 (0, 0)) (by (with_reducible repeat (first | refine blk_drewN ?_ _ | refine blk_drew ?_ | refine blk_alloc ?_ _)); exact BK105.out) hb); have n6_ := Aside0.mk (below_step (by repeat (first | (with_reducible first | exact HB.out | apply below_alloc | apply pw_below_drewN | apply below_drew1 | refine below_set ?_ GE105.out) | exact HB.out)) hb); have n7_ := Aside0.mk (hbox); have n8_ := Aside0.mk ((by rw [hg]; exact (below_size (by repeat (first | (with_reducible first | exact HB.out | apply below_alloc | apply pw_below_drewN | apply below_drew1 | refine below_set ?_ GE105.out) | exact HB.out))) : w.heap.size ≤ gb122)); have n9_ := Aside0.mk ((by rw [hg]; exact (below_size (by repeat (first | (with_reducible first | exact HB.out | apply below_alloc | apply pw_below_drewN | apply below_drew1 | refine below_set ?_ GE105.out) | exact HB.out))) : w.heap.size ≤ gb122)); have n10_ := Aside0.mk ((by rw [hg]; exact Nat.ne_of_lt (blk_lt (g := gb105) (o := .cells #[.slice Ao57 t114.length co57] 28 (0, 0)) (by (with_reducible repeat (first | refine blk_drewN ?_ _ | refine blk_drew ?_ | refine blk_alloc ?_ _)); exact BK105.out)) : gb105 ≠ gb122)); have n11_ := Aside0.mk ((by rw [hg]; exact Nat.ne_of_gt (blk_lt (g := gb105) (o := .cells #[.slice Ao57 t114.length co57] 28 (0, 0)) (by (with_reducible repeat (first | refine blk_drewN ?_ _ | refine blk_drew ?_ | refine blk_alloc ?_ _)); exact BK105.out)) : gb122 ≠ gb105)); clear HO103; clear HO108; clear HO112; clear HO116; clear HO120; clear BK105; clear HB; have HO103 := n0_; have HO108 := n1_; have HO112 := n2_; have HO116 := n3_; have HO120 := n4_; have BK105 := n5_; have HB := n6_; have BK122 := n7_; have GW122 := n8_; have GE122 := n9_; have NB105_122 := n10_; have NB122_105 := n11_; clear n0_ n1_ n2_ n3_ n4_ n5_ n6_ n7_ n8_ n9_ n10_ n11_; clear hb hbox hg; obtain ⟨Ao61, co61, eo61⟩ := Kd.R_slice HO120.out; subst eo61; have hnb62 := NB122_105.out; have hnc62 := NB105_122.out; have hcz63_0 : w60.cell? ⟨gb122, 0, none⟩ = some (.slice none 0 0) := (blk_cell BK122.out 0).trans rfl; have hfz63_0 := blk_frozen BK122.out 0))
     go_ret
     exact ⟨by first | rfl | (simp [errW_none, errW_some] <;> rfl) | (simp [*, errW_none, errW_some] <;> rfl), by repeat (first | (with_reducible first | exact HB.out | apply below_alloc | apply pw_below_drewN | apply below_drew1 | refine below_set ?_ GE105.out | refine below_set ?_ GE122.out) | exact HB.out)⟩
   ·replace c26 := Bool.eq_false_iff.mpr c26
    subst c26
    have H1 : (some false) = some r := by rw [if_neg (show ¬ (false = true) by decide)] at H; exact H
    clear H
    have H := H1
    clear H1
    obtain rfl := Option.some.inj H
    go_enter Try.func15, Try.ntmps15
    go_wp2_with (first | ((with_reducible refine gate_callee (f := 17) rfl ?_); refine goesL_ (some 10) rfl rfl Try.func17 (by kernel_rfl) rfl #[.agg #[.slice none 0 0], .int .i64 1, .int .i64 5] rfl (by (try simp only [List.map_toArray, List.map_cons, List.map_nil]); first | done | rfl | (simp only [List.length_drop, List.length_take]; rfl)) ?_; (refine (twin_Accept.calls _ _ ([] : List (S36)) 1 5 t101 true _ ?side1 ?side2 A1.out).mono ?_); (case side1 => exact Kd.C_nil _ _); (case side2 => exact Nat.le_refl _); rintro e w64 ⟨v102, rfl, ho0, hb⟩; refine ⟨_, rfl, ?_⟩; have n0_ := Aside0.mk (Kd.R_lower ho0 (below_size (by repeat (first | (with_reducible first | exact HB.out | apply below_alloc | apply pw_below_drewN | apply below_drew1) | exact HB.out)))); have n1_ := Aside0.mk (below_step (by repeat (first | (with_reducible first | exact HB.out | apply below_alloc | apply pw_below_drewN | apply below_drew1) | exact HB.out)) hb); clear HB; have HO103 := n0_; have HB := n1_; clear n0_ n1_; (try clear hb); (try clear hb2); (try clear hk); (try clear hi); (try clear ho0)) | ((with_reducible refine gate_dst (N := 1) rfl ?_); refine box_event ?hg (N := 1) ?hd (cs := #[.slice none 0 0]) (t := 28) ?hr ?_; (case hd => rfl); (case hg => rfl); (case hr => first | (go_simp; done) | (go_simp; rfl)); intro gb105 hg w65 hbox hb; have n0_ := Aside0.mk (Kd.R_below (by (with_reducible repeat (first | apply Kd.R_alloc | apply Kd.R_drewN | apply Kd.R_drew)); exact HO103.out) hb); have n1_ := Aside0.mk (below_step (by repeat (first | (with_reducible first | exact HB.out | apply below_alloc | apply pw_below_drewN | apply below_drew1) | exact HB.out)) hb); have n2_ := Aside0.mk (hbox); have n3_ := Aside0.mk ((by rw [hg]; exact (below_size (by repeat (first | (with_reducible first | exact HB.out | apply below_alloc | apply pw_below_drewN | apply below_drew1) | exact HB.out))) : w.heap.size ≤ gb105)); have n4_ := Aside0.mk ((by rw [hg]; exact (below_size (by repeat (first | (with_reducible first | exact HB.out | apply below_alloc | apply pw_below_drewN | apply below_drew1) | exact HB.out))) : w.heap.size ≤ gb105)); clear HO103; clear HB; have HO103 := n0_; have HB := n1_; have BK105 := n2_; have GW105 := n3_; have GE105 := n4_; clear n0_ n1_ n2_ n3_ n4_; clear hb hbox hg; obtain ⟨Ao66, co66, eo66⟩ := Kd.R_slice HO103.out; subst eo66; have hcz67_0 : w65.cell? ⟨gb105, 0, none⟩ = some (.slice none 0 0) := (blk_cell BK105.out 0).trans rfl; have hfz67_0 := blk_frozen BK105.out 0) | ((with_reducible refine gate_callee (f := 17) rfl ?_); refine goesL_ (some 15) rfl rfl Try.func17 (by kernel_rfl) rfl #[.agg #[.slice Ao66 t101.length co66], .int .i64 1, .int .i64 5] rfl (by (try simp only [List.map_toArray, List.map_cons, List.map_nil]); first | done | rfl | (simp only [List.length_drop, List.length_take]; rfl)) ?_; (with_reducible refine (twin_Accept.calls _ _ t101 1 5 t106 false _ ?side1 ?side2 A2.out).mono ?_); (case side1 => refine (Kd.R_reads' (e := 36) (base := w.heap.size) (ok := fun k_ => True) (n := t101.length) (c := co66) ?_).2.2; exact (by (with_reducible repeat (first | apply Kd.R_alloc | apply Kd.R_drewN | apply Kd.R_drew)); exact (Kd.R_mono (Kd.R_far (p := ⟨gb105, 0, none⟩) (Kd.R_types HO103.out BK105.out (by decide)) (fun _ hk => hk.2) (.slice Ao66 t101.length co66)) (fun _ h_ => h_.1)))); (case side2 => exact (Kd.R_reads' HO103.out).2.1); rintro e w68 ⟨v107, rfl, ho0, hb⟩; refine ⟨_, rfl, ?_⟩; have n0_ := Aside0.mk (Kd.R_elder' (by (with_reducible repeat (first | apply Kd.R_alloc | apply Kd.R_drewN | apply Kd.R_drew)); exact (Kd.R_mono (Kd.R_far (p := ⟨gb105, 0, none⟩) (Kd.R_types HO103.out BK105.out (by decide)) (fun _ hk => hk.2) (.slice Ao66 t101.length co66)) (fun _ h_ => h_.1))) (Kd.R_base ho0) hb); have n1_ := Aside0.mk (Kd.R_lower (Kd.R_new' ho0 (Kd.R_lt (by (with_reducible repeat (first | apply Kd.R_alloc | apply Kd.R_drewN | apply Kd.R_drew)); exact (Kd.R_mono (Kd.R_far (p := ⟨gb105, 0, none⟩) (Kd.R_types HO103.out BK105.out (by decide)) (fun _ hk => hk.2) (.slice Ao66 t101.length co66)) (fun _ h_ => h_.1))))) (below_size (by repeat (first | (with_reducible first | exact HB.out | apply below_alloc | apply pw_below_drewN | apply below_drew1 | refine below_set ?_ GE105.out) | exact HB.out)))); have n2_ := Aside0.mk (blk_below (g := gb105) (o := .cells #[.slice Ao66 t101.length co66] 28 (0, 0)) (by (with_reducible repeat (first | refine blk_drewN ?_ _ | refine blk_drew ?_ | refine blk_alloc ?_ _)); refine blk_put (cs := #[.slice none 0 0]) ?_ 0 _ rfl; (with_reducible repeat (first | refine blk_drewN ?_ _ | refine blk_drew ?_ | refine blk_alloc ?_ _)); exact BK105.out) hb); have n3_ := Aside0.mk (below_step (by repeat (first | (with_reducible first | exact HB.out | apply below_alloc | apply pw_below_drewN | apply below_drew1 | refine below_set ?_ GE105.out) | exact HB.out)) hb); clear HO103; clear BK105; clear HB; have HO103 := n0_; have HO108 := n1_; have BK105 := n2_; have HB := n3_; clear n0_ n1_ n2_ n3_; (try clear hb); (try clear hb2); (try clear hk); (try clear hi); (try clear ho0); obtain ⟨Ao69, co69, eo69⟩ := Kd.R_slice HO108.out; subst eo69; have hcz70_0 : w68.cell? ⟨gb105, 0, none⟩ = some (.slice Ao66 t101.length co66) := (blk_cell BK105.out 0).trans rfl; have hfz70_0 := blk_frozen BK105.out 0) | ((with_reducible refine gate_callee (f := 17) rfl ?_); refine goesL_ (some 20) rfl rfl Try.func17 (by kernel_rfl) rfl #[.agg #[.slice Ao69 t106.length co69], .int .i64 1, .int .i64 7] rfl (by (try simp only [List.map_toArray, List.map_cons, List.map_nil]); first | done | rfl | (simp only [List.length_drop, List.length_take]; rfl)) ?_; (with_reducible refine (twin_Accept.calls _ _ t106 1 7 t110 false _ ?side1 ?side2 A3.out).mono ?_); (case side1 => refine (Kd.R_reads' (e := 36) (base := w.heap.size) (ok := fun k_ => (True ∧ some k_ ≠ (.slice Ao66 t101.length co66 : Value).ownBlock)) (n := t106.length) (c := co69) ?_).2.2; exact (by (with_reducible repeat (first | apply Kd.R_alloc | apply Kd.R_drewN | apply Kd.R_drew)); exact (Kd.R_mono (Kd.R_far (p := ⟨gb105, 0, none⟩) (Kd.R_types HO108.out BK105.out (by decide)) (fun _ hk => hk.2) (.slice Ao69 t106.length co69)) (fun _ h_ => h_.1)))); (case side2 => exact (Kd.R_reads' HO108.out).2.1); rintro e w71 ⟨v111, rfl, ho0, hb⟩; refine ⟨_, rfl, ?_⟩; have n0_ := Aside0.mk (Kd.R_elder' (by (with_reducible repeat (first | apply Kd.R_alloc | apply Kd.R_drewN | apply Kd.R_drew)); exact (Kd.R_mono (Kd.R_far (p := ⟨gb105, 0, none⟩) (Kd.R_types HO103.out BK105.out (by decide)) (fun _ hk => hk.2) (.slice Ao69 t106.length co69)) (fun _ h_ => h_.1))) (Kd.R_base ho0) hb); have n1_ := Aside0.mk (Kd.R_elder' (by (with_reducible repeat (first | apply Kd.R_alloc | apply Kd.R_drewN | apply Kd.R_drew)); exact (Kd.R_mono (Kd.R_far (p := ⟨gb105, 0, none⟩) (Kd.R_types HO108.out BK105.out (by decide)) (fun _ hk => hk.2) (.slice Ao69 t106.length co69)) (fun _ h_ => h_.1))) (Kd.R_base ho0) hb); have n2_ := Aside0.mk (Kd.R_lower (Kd.R_new' (Kd.R_new' ho0 (Kd.R_lt (by (with_reducible repeat (first | apply Kd.R_alloc | apply Kd.R_drewN | apply Kd.R_drew)); exact (Kd.R_mono (Kd.R_far (p := ⟨gb105, 0, none⟩) (Kd.R_types HO103.out BK105.out (by decide)) (fun _ hk => hk.2) (.slice Ao69 t106.length co69)) (fun _ h_ => h_.1))))) (Kd.R_lt (by (with_reducible repeat (first | apply Kd.R_alloc | apply Kd.R_drewN | apply Kd.R_drew)); exact (Kd.R_mono (Kd.R_far (p := ⟨gb105, 0, none⟩) (Kd.R_types HO108.out BK105.out (by decide)) (fun _ hk => hk.2) (.slice Ao69 t106.length co69)) (fun _ h_ => h_.1))))) (below_size (by repeat (first | (with_reducible first | exact HB.out | apply below_alloc | apply pw_below_drewN | apply below_drew1 | refine below_set ?_ GE105.out) | exact HB.out)))); have n3_ := Aside0.mk (blk_below (g := gb105) (o := .cells #[.slice Ao69 t106.length co69] 28 (0, 0)) (by (with_reducible repeat (first | refine blk_drewN ?_ _ | refine blk_drew ?_ | refine blk_alloc ?_ _)); refine blk_put (cs := #[.slice Ao66 t101.length co66]) ?_ 0 _ rfl; (with_reducible repeat (first | refine blk_drewN ?_ _ | refine blk_drew ?_ | refine blk_alloc ?_ _)); exact BK105.out) hb); have n4_ := Aside0.mk (below_step (by repeat (first | (with_reducible first | exact HB.out | apply below_alloc | apply pw_below_drewN | apply below_drew1 | refine below_set ?_ GE105.out) | exact HB.out)) hb); clear HO103; clear HO108; clear BK105; clear HB; have HO103 := n0_; have HO108 := n1_; have HO112 := n2_; have BK105 := n3_; have HB := n4_; clear n0_ n1_ n2_ n3_ n4_; (try clear hb); (try clear hb2); (try clear hk); (try clear hi); (try clear ho0); obtain ⟨Ao72, co72, eo72⟩ := Kd.R_slice HO112.out; subst eo72; have hcz73_0 : w71.cell? ⟨gb105, 0, none⟩ = some (.slice Ao69 t106.length co69) := (blk_cell BK105.out 0).trans rfl; have hfz73_0 := blk_frozen BK105.out 0) | ((with_reducible refine gate_callee (f := 17) rfl ?_); refine goesL_ (some 25) rfl rfl Try.func17 (by kernel_rfl) rfl #[.agg #[.slice Ao72 t110.length co72], .int .i64 1, .int .i64 6] rfl (by (try simp only [List.map_toArray, List.map_cons, List.map_nil]); first | done | rfl | (simp only [List.length_drop, List.length_take]; rfl)) ?_; (with_reducible refine (twin_Accept.calls _ _ t110 1 6 t114 t117 _ ?side1 ?side2 A4.out).mono ?_); (case side1 => refine (Kd.R_reads' (e := 36) (base := w.heap.size) (ok := fun k_ => ((True ∧ some k_ ≠ (.slice Ao66 t101.length co66 : Value).ownBlock) ∧ some k_ ≠ (.slice Ao69 t106.length co69 : Value).ownBlock)) (n := t110.length) (c := co72) ?_).2.2; exact (by (with_reducible repeat (first | apply Kd.R_alloc | apply Kd.R_drewN | apply Kd.R_drew)); exact (Kd.R_mono (Kd.R_far (p := ⟨gb105, 0, none⟩) (Kd.R_types HO112.out BK105.out (by decide)) (fun _ hk => hk.2) (.slice Ao72 t110.length co72)) (fun _ h_ => h_.1)))); (case side2 => exact (Kd.R_reads' HO112.out).2.1); rintro e w74 ⟨v115, rfl, ho0, hb⟩; refine ⟨_, rfl, ?_⟩; have n0_ := Aside0.mk (Kd.R_elder' (by (with_reducible repeat (first | apply Kd.R_alloc | apply Kd.R_drewN | apply Kd.R_drew)); exact (Kd.R_mono (Kd.R_far (p := ⟨gb105, 0, none⟩) (Kd.R_types HO103.out BK105.out (by decide)) (fun _ hk => hk.2) (.slice Ao72 t110.length co72)) (fun _ h_ => h_.1))) (Kd.R_base ho0) hb); have n1_ := Aside0.mk (Kd.R_elder' (by (with_reducible repeat (first | apply Kd.R_alloc | apply Kd.R_drewN | apply Kd.R_drew)); exact (Kd.R_mono (Kd.R_far (p := ⟨gb105, 0, none⟩) (Kd.R_types HO108.out BK105.out (by decide)) (fun _ hk => hk.2) (.slice Ao72 t110.length co72)) (fun _ h_ => h_.1))) (Kd.R_base ho0) hb); have n2_ := Aside0.mk (Kd.R_elder' (by (with_reducible repeat (first | apply Kd.R_alloc | apply Kd.R_drewN | apply Kd.R_drew)); exact (Kd.R_mono (Kd.R_far (p := ⟨gb105, 0, none⟩) (Kd.R_types HO112.out BK105.out (by decide)) (fun _ hk => hk.2) (.slice Ao72 t110.length co72)) (fun _ h_ => h_.1))) (Kd.R_base ho0) hb); have n3_ := Aside0.mk (Kd.R_lower (Kd.R_new' (Kd.R_new' (Kd.R_new' ho0 (Kd.R_lt (by (with_reducible repeat (first | apply Kd.R_alloc | apply Kd.R_drewN | apply Kd.R_drew)); exact (Kd.R_mono (Kd.R_far (p := ⟨gb105, 0, none⟩) (Kd.R_types HO103.out BK105.out (by decide)) (fun _ hk => hk.2) (.slice Ao72 t110.length co72)) (fun _ h_ => h_.1))))) (Kd.R_lt (by (with_reducible repeat (first | apply Kd.R_alloc | apply Kd.R_drewN | apply Kd.R_drew)); exact (Kd.R_mono (Kd.R_far (p := ⟨gb105, 0, none⟩) (Kd.R_types HO108.out BK105.out (by decide)) (fun _ hk => hk.2) (.slice Ao72 t110.length co72)) (fun _ h_ => h_.1))))) (Kd.R_lt (by (with_reducible repeat (first | apply Kd.R_alloc | apply Kd.R_drewN | apply Kd.R_drew)); exact (Kd.R_mono (Kd.R_far (p := ⟨gb105, 0, none⟩) (Kd.R_types HO112.out BK105.out (by decide)) (fun _ hk => hk.2) (.slice Ao72 t110.length co72)) (fun _ h_ => h_.1))))) (below_size (by repeat (first | (with_reducible first | exact HB.out | apply below_alloc | apply pw_below_drewN | apply below_drew1 | refine below_set ?_ GE105.out) | exact HB.out)))); have n4_ := Aside0.mk (blk_below (g := gb105) (o := .cells #[.slice Ao72 t110.length co72] 28 (0, 0)) (by (with_reducible repeat (first | refine blk_drewN ?_ _ | refine blk_drew ?_ | refine blk_alloc ?_ _)); refine blk_put (cs := #[.slice Ao69 t106.length co69]) ?_ 0 _ rfl; (with_reducible repeat (first | refine blk_drewN ?_ _ | refine blk_drew ?_ | refine blk_alloc ?_ _)); exact BK105.out) hb); have n5_ := Aside0.mk (below_step (by repeat (first | (with_reducible first | exact HB.out | apply below_alloc | apply pw_below_drewN | apply below_drew1 | refine below_set ?_ GE105.out) | exact HB.out)) hb); clear HO103; clear HO108; clear HO112; clear BK105; clear HB; have HO103 := n0_; have HO108 := n1_; have HO112 := n2_; have HO116 := n3_; have BK105 := n4_; have HB := n5_; clear n0_ n1_ n2_ n3_ n4_ n5_; (try clear hb); (try clear hb2); (try clear hk); (try clear hi); (try clear ho0); obtain ⟨Ao75, co75, eo75⟩ := Kd.R_slice HO116.out; subst eo75; have hcz76_0 : w74.cell? ⟨gb105, 0, none⟩ = some (.slice Ao72 t110.length co72) := (blk_cell BK105.out 0).trans rfl; have hfz76_0 := blk_frozen BK105.out 0) | ((with_reducible refine gate_callee (f := 17) rfl ?_); refine goesL_ (some 30) rfl rfl Try.func17 (by kernel_rfl) rfl #[.agg #[.slice Ao75 t114.length co75], .int .i64 1, .int .i64 6] rfl (by (try simp only [List.map_toArray, List.map_cons, List.map_nil]); first | done | rfl | (simp only [List.length_drop, List.length_take]; rfl)) ?_; (with_reducible refine (twin_Accept.calls _ _ t114 1 6 t118 t121 _ ?side1 ?side2 A5.out).mono ?_); (case side1 => refine (Kd.R_reads' (e := 36) (base := w.heap.size) (ok := fun k_ => (((True ∧ some k_ ≠ (.slice Ao66 t101.length co66 : Value).ownBlock) ∧ some k_ ≠ (.slice Ao69 t106.length co69 : Value).ownBlock) ∧ some k_ ≠ (.slice Ao72 t110.length co72 : Value).ownBlock)) (n := t114.length) (c := co75) ?_).2.2; exact (by (with_reducible repeat (first | apply Kd.R_alloc | apply Kd.R_drewN | apply Kd.R_drew)); exact (Kd.R_mono (Kd.R_far (p := ⟨gb105, 0, none⟩) (Kd.R_types HO116.out BK105.out (by decide)) (fun _ hk => hk.2) (.slice Ao75 t114.length co75)) (fun _ h_ => h_.1)))); (case side2 => exact (Kd.R_reads' HO116.out).2.1); rintro e w77 ⟨v119, rfl, ho0, hb⟩; refine ⟨_, rfl, ?_⟩; have n0_ := Aside0.mk (Kd.R_elder' (by (with_reducible repeat (first | apply Kd.R_alloc | apply Kd.R_drewN | apply Kd.R_drew)); exact (Kd.R_mono (Kd.R_far (p := ⟨gb105, 0, none⟩) (Kd.R_types HO103.out BK105.out (by decide)) (fun _ hk => hk.2) (.slice Ao75 t114.length co75)) (fun _ h_ => h_.1))) (Kd.R_base ho0) hb); have n1_ := Aside0.mk (Kd.R_elder' (by (with_reducible repeat (first | apply Kd.R_alloc | apply Kd.R_drewN | apply Kd.R_drew)); exact (Kd.R_mono (Kd.R_far (p := ⟨gb105, 0, none⟩) (Kd.R_types HO108.out BK105.out (by decide)) (fun _ hk => hk.2) (.slice Ao75 t114.length co75)) (fun _ h_ => h_.1))) (Kd.R_base ho0) hb); have n2_ := Aside0.mk (Kd.R_elder' (by (with_reducible repeat (first | apply Kd.R_alloc | apply Kd.R_drewN | apply Kd.R_drew)); exact (Kd.R_mono (Kd.R_far (p := ⟨gb105, 0, none⟩) (Kd.R_types HO112.out BK105.out (by decide)) (fun _ hk => hk.2) (.slice Ao75 t114.length co75)) (fun _ h_ => h_.1))) (Kd.R_base ho0) hb); have n3_ := Aside0.mk (Kd.R_elder' (by (with_reducible repeat (first | apply Kd.R_alloc | apply Kd.R_drewN | apply Kd.R_drew)); exact (Kd.R_mono (Kd.R_far (p := ⟨gb105, 0, none⟩) (Kd.R_types HO116.out BK105.out (by decide)) (fun _ hk => hk.2) (.slice Ao75 t114.length co75)) (fun _ h_ => h_.1))) (Kd.R_base ho0) hb); have n4_ := Aside0.mk (Kd.R_lower (Kd.R_new' (Kd.R_new' (Kd.R_new' (Kd.R_new' ho0 (Kd.R_lt (by (with_reducible repeat (first | apply Kd.R_alloc | apply Kd.R_drewN | apply Kd.R_drew)); exact (Kd.R_mono (Kd.R_far (p := ⟨gb105, 0, none⟩) (Kd.R_types HO103.out BK105.out (by decide)) (fun _ hk => hk.2) (.slice Ao75 t114.length co75)) (fun _ h_ => h_.1))))) (Kd.R_lt (by (with_reducible repeat (first | apply Kd.R_alloc | apply Kd.R_drewN | apply Kd.R_drew)); exact (Kd.R_mono (Kd.R_far (p := ⟨gb105, 0, none⟩) (Kd.R_types HO108.out BK105.out (by decide)) (fun _ hk => hk.2) (.slice Ao75 t114.length co75)) (fun _ h_ => h_.1))))) (Kd.R_lt (by (with_reducible repeat (first | apply Kd.R_alloc | apply Kd.R_drewN | apply Kd.R_drew)); exact (Kd.R_mono (Kd.R_far (p := ⟨gb105, 0, none⟩) (Kd.R_types HO112.out BK105.out (by decide)) (fun _ hk => hk.2) (.slice Ao75 t114.length co75)) (fun _ h_ => h_.1))))) (Kd.R_lt (by (with_reducible repeat (first | apply Kd.R_alloc | apply Kd.R_drewN | apply Kd.R_drew)); exact (Kd.R_mono (Kd.R_far (p := ⟨gb105, 0, none⟩) (Kd.R_types HO116.out BK105.out (by decide)) (fun _ hk => hk.2) (.slice Ao75 t114.length co75)) (fun _ h_ => h_.1))))) (below_size (by repeat (first | (with_reducible first | exact HB.out | apply below_alloc | apply pw_below_drewN | apply below_drew1 | refine below_set ?_ GE105.out) | exact HB.out)))); have n5_ := Aside0.mk (blk_below (g := gb105) (o := .cells #[.slice Ao75 t114.length co75] 28 (0, 0)) (by (with_reducible repeat (first | refine blk_drewN ?_ _ | refine blk_drew ?_ | refine blk_alloc ?_ _)); refine blk_put (cs := #[.slice Ao72 t110.length co72]) ?_ 0 _ rfl; (with_reducible repeat (first | refine blk_drewN ?_ _ | refine blk_drew ?_ | refine blk_alloc ?_ _)); exact BK105.out) hb); have n6_ := Aside0.mk (below_step (by repeat (first | (with_reducible first | exact HB.out | apply below_alloc | apply pw_below_drewN | apply below_drew1 | refine below_set ?_ GE105.out) | exact HB.out)) hb); clear HO103; clear HO108; clear HO112; clear HO116; clear BK105; clear HB; have HO103 := n0_; have HO108 := n1_; have HO112 := n2_; have HO116 := n3_; have HO120 := n4_; have BK105 := n5_; have HB := n6_; clear n0_ n1_ n2_ n3_ n4_ n5_ n6_; (try clear hb); (try clear hb2); (try clear hk); (try clear hi); (try clear ho0)) | ((with_reducible refine gate_dst (N := 6) rfl ?_); refine box_event ?hg (N := 6) ?hd (cs := #[.slice none 0 0]) (t := 28) ?hr ?_; (case hd => rfl); (case hg => rfl); (case hr => first | (go_simp; done) | (go_simp; rfl)); intro gb122 hg w78 hbox hb; have n0_ := Aside0.mk (Kd.R_below (by (with_reducible repeat (first | apply Kd.R_alloc | apply Kd.R_drewN | apply Kd.R_drew)); exact HO103.out) hb); have n1_ := Aside0.mk (Kd.R_below (by (with_reducible repeat (first | apply Kd.R_alloc | apply Kd.R_drewN | apply Kd.R_drew)); exact HO108.out) hb); have n2_ := Aside0.mk (Kd.R_below (by (with_reducible repeat (first | apply Kd.R_alloc | apply Kd.R_drewN | apply Kd.R_drew)); exact HO112.out) hb); have n3_ := Aside0.mk (Kd.R_below (by (with_reducible repeat (first | apply Kd.R_alloc | apply Kd.R_drewN | apply Kd.R_drew)); exact HO116.out) hb); have n4_ := Aside0.mk (Kd.R_below (by (with_reducible repeat (first | apply Kd.R_alloc | apply Kd.R_drewN | apply Kd.R_drew)); exact HO120.out) hb); have n5_ := Aside0.mk (blk_below (g := gb105) (o := .cells #[.slice Ao75 t114.length co75] 28 (0, 0)) (by (with_reducible repeat (first | refine blk_drewN ?_ _ | refine blk_drew ?_ | refine blk_alloc ?_ _)); exact BK105.out) hb); have n6_ := Aside0.mk (below_step (by repeat (first | (with_reducible first | exact HB.out | apply below_alloc | apply pw_below_drewN | apply below_drew1 | refine below_set ?_ GE105.out) | exact HB.out)) hb); have n7_ := Aside0.mk (hbox); have n8_ := Aside0.mk ((by rw [hg]; exact (below_size (by repeat (first | (with_reducible first | exact HB.out | apply below_alloc | apply pw_below_drewN | apply below_drew1 | refine below_set ?_ GE105.out) | exact HB.out))) : w.heap.size ≤ gb122)); have n9_ := Aside0.mk ((by rw [hg]; exact (below_size (by repeat (first | (with_reducible first | exact HB.out | apply below_alloc | apply pw_below_drewN | apply below_drew1 | refine below_set ?_ GE105.out) | exact HB.out))) : w.heap.size ≤ gb122)); have n10_ := Aside0.mk ((by rw [hg]; exact Nat.ne_of_lt (blk_lt (g := gb105) (o := .cells #[.slice Ao75 t114.length co75] 28 (0, 0)) (by (with_reducible repeat (first | refine blk_drewN ?_ _ | refine blk_drew ?_ | refine blk_alloc ?_ _)); exact BK105.out)) : gb105 ≠ gb122)); have n11_ := Aside0.mk ((by rw [hg]; exact Nat.ne_of_gt (blk_lt (g := gb105) (o := .cells #[.slice Ao75 t114.length co75] 28 (0, 0)) (by (with_reducible repeat (first | refine blk_drewN ?_ _ | refine blk_drew ?_ | refine blk_alloc ?_ _)); exact BK105.out)) : gb122 ≠ gb105)); clear HO103; clear HO108; clear HO112; clear HO116; clear HO120; clear BK105; clear HB; have HO103 := n0_; have HO108 := n1_; have HO112 := n2_; have HO116 := n3_; have HO120 := n4_; have BK105 := n5_; have HB := n6_; have BK122 := n7_; have GW122 := n8_; have GE122 := n9_; have NB105_122 := n10_; have NB122_105 := n11_; clear n0_ n1_ n2_ n3_ n4_ n5_ n6_ n7_ n8_ n9_ n10_ n11_; clear hb hbox hg; obtain ⟨Ao79, co79, eo79⟩ := Kd.R_slice HO120.out; subst eo79; have hnb80 := NB122_105.out; have hnc80 := NB105_122.out; have hcz81_0 : w78.cell? ⟨gb122, 0, none⟩ = some (.slice none 0 0) := (blk_cell BK122.out 0).trans rfl; have hfz81_0 := blk_frozen BK122.out 0))
    go_ret
    exact ⟨by first | rfl | (simp [errW_none, errW_some] <;> rfl) | (simp [*, errW_none, errW_some] <;> rfl), by repeat (first | (with_reducible first | exact HB.out | apply below_alloc | apply pw_below_drewN | apply below_drew1 | refine below_set ?_ GE105.out | refine below_set ?_ GE122.out) | exact HB.out)⟩
 ·replace c6 := Bool.eq_false_iff.mpr c6
  subst c6
  have H1 : (some false) = some r := by rw [if_neg (show ¬ (false = true) by decide)] at H; exact H
  clear H
  have H := H1
  clear H1
  obtain rfl := Option.some.inj H
  go_enter Try.func15, Try.ntmps15
  go_wp2_with (first | ((with_reducible refine gate_callee (f := 17) rfl ?_); refine goesL_ (some 10) rfl rfl Try.func17 (by kernel_rfl) rfl #[.agg #[.slice none 0 0], .int .i64 1, .int .i64 5] rfl (by (try simp only [List.map_toArray, List.map_cons, List.map_nil]); first | done | rfl | (simp only [List.length_drop, List.length_take]; rfl)) ?_; (refine (twin_Accept.calls _ _ ([] : List (S36)) 1 5 t101 false _ ?side1 ?side2 A1.out).mono ?_); (case side1 => exact Kd.C_nil _ _); (case side2 => exact Nat.le_refl _); rintro e w82 ⟨v102, rfl, ho0, hb⟩; refine ⟨_, rfl, ?_⟩; have n0_ := Aside0.mk (Kd.R_lower ho0 (below_size (by repeat (first | (with_reducible first | exact HB.out | apply below_alloc | apply pw_below_drewN | apply below_drew1) | exact HB.out)))); have n1_ := Aside0.mk (below_step (by repeat (first | (with_reducible first | exact HB.out | apply below_alloc | apply pw_below_drewN | apply below_drew1) | exact HB.out)) hb); clear HB; have HO103 := n0_; have HB := n1_; clear n0_ n1_; (try clear hb); (try clear hb2); (try clear hk); (try clear hi); (try clear ho0)) | ((with_reducible refine gate_dst (N := 1) rfl ?_); refine box_event ?hg (N := 1) ?hd (cs := #[.slice none 0 0]) (t := 28) ?hr ?_; (case hd => rfl); (case hg => rfl); (case hr => first | (go_simp; done) | (go_simp; rfl)); intro gb105 hg w83 hbox hb; have n0_ := Aside0.mk (Kd.R_below (by (with_reducible repeat (first | apply Kd.R_alloc | apply Kd.R_drewN | apply Kd.R_drew)); exact HO103.out) hb); have n1_ := Aside0.mk (below_step (by repeat (first | (with_reducible first | exact HB.out | apply below_alloc | apply pw_below_drewN | apply below_drew1) | exact HB.out)) hb); have n2_ := Aside0.mk (hbox); have n3_ := Aside0.mk ((by rw [hg]; exact (below_size (by repeat (first | (with_reducible first | exact HB.out | apply below_alloc | apply pw_below_drewN | apply below_drew1) | exact HB.out))) : w.heap.size ≤ gb105)); have n4_ := Aside0.mk ((by rw [hg]; exact (below_size (by repeat (first | (with_reducible first | exact HB.out | apply below_alloc | apply pw_below_drewN | apply below_drew1) | exact HB.out))) : w.heap.size ≤ gb105)); clear HO103; clear HB; have HO103 := n0_; have HB := n1_; have BK105 := n2_; have GW105 := n3_; have GE105 := n4_; clear n0_ n1_ n2_ n3_ n4_; clear hb hbox hg; obtain ⟨Ao84, co84, eo84⟩ := Kd.R_slice HO103.out; subst eo84; have hcz85_0 : w83.cell? ⟨gb105, 0, none⟩ = some (.slice none 0 0) := (blk_cell BK105.out 0).trans rfl; have hfz85_0 := blk_frozen BK105.out 0) | ((with_reducible refine gate_callee (f := 17) rfl ?_); refine goesL_ (some 15) rfl rfl Try.func17 (by kernel_rfl) rfl #[.agg #[.slice Ao84 t101.length co84], .int .i64 1, .int .i64 5] rfl (by (try simp only [List.map_toArray, List.map_cons, List.map_nil]); first | done | rfl | (simp only [List.length_drop, List.length_take]; rfl)) ?_; (with_reducible refine (twin_Accept.calls _ _ t101 1 5 t106 t109 _ ?side1 ?side2 A2.out).mono ?_); (case side1 => refine (Kd.R_reads' (e := 36) (base := w.heap.size) (ok := fun k_ => True) (n := t101.length) (c := co84) ?_).2.2; exact (by (with_reducible repeat (first | apply Kd.R_alloc | apply Kd.R_drewN | apply Kd.R_drew)); exact (Kd.R_mono (Kd.R_far (p := ⟨gb105, 0, none⟩) (Kd.R_types HO103.out BK105.out (by decide)) (fun _ hk => hk.2) (.slice Ao84 t101.length co84)) (fun _ h_ => h_.1)))); (case side2 => exact (Kd.R_reads' HO103.out).2.1); rintro e w86 ⟨v107, rfl, ho0, hb⟩; refine ⟨_, rfl, ?_⟩; have n0_ := Aside0.mk (Kd.R_elder' (by (with_reducible repeat (first | apply Kd.R_alloc | apply Kd.R_drewN | apply Kd.R_drew)); exact (Kd.R_mono (Kd.R_far (p := ⟨gb105, 0, none⟩) (Kd.R_types HO103.out BK105.out (by decide)) (fun _ hk => hk.2) (.slice Ao84 t101.length co84)) (fun _ h_ => h_.1))) (Kd.R_base ho0) hb); have n1_ := Aside0.mk (Kd.R_lower (Kd.R_new' ho0 (Kd.R_lt (by (with_reducible repeat (first | apply Kd.R_alloc | apply Kd.R_drewN | apply Kd.R_drew)); exact (Kd.R_mono (Kd.R_far (p := ⟨gb105, 0, none⟩) (Kd.R_types HO103.out BK105.out (by decide)) (fun _ hk => hk.2) (.slice Ao84 t101.length co84)) (fun _ h_ => h_.1))))) (below_size (by repeat (first | (with_reducible first | exact HB.out | apply below_alloc | apply pw_below_drewN | apply below_drew1 | refine below_set ?_ GE105.out) | exact HB.out)))); have n2_ := Aside0.mk (blk_below (g := gb105) (o := .cells #[.slice Ao84 t101.length co84] 28 (0, 0)) (by (with_reducible repeat (first | refine blk_drewN ?_ _ | refine blk_drew ?_ | refine blk_alloc ?_ _)); refine blk_put (cs := #[.slice none 0 0]) ?_ 0 _ rfl; (with_reducible repeat (first | refine blk_drewN ?_ _ | refine blk_drew ?_ | refine blk_alloc ?_ _)); exact BK105.out) hb); have n3_ := Aside0.mk (below_step (by repeat (first | (with_reducible first | exact HB.out | apply below_alloc | apply pw_below_drewN | apply below_drew1 | refine below_set ?_ GE105.out) | exact HB.out)) hb); clear HO103; clear BK105; clear HB; have HO103 := n0_; have HO108 := n1_; have BK105 := n2_; have HB := n3_; clear n0_ n1_ n2_ n3_; (try clear hb); (try clear hb2); (try clear hk); (try clear hi); (try clear ho0); obtain ⟨Ao87, co87, eo87⟩ := Kd.R_slice HO108.out; subst eo87; have hcz88_0 : w86.cell? ⟨gb105, 0, none⟩ = some (.slice Ao84 t101.length co84) := (blk_cell BK105.out 0).trans rfl; have hfz88_0 := blk_frozen BK105.out 0) | ((with_reducible refine gate_callee (f := 17) rfl ?_); refine goesL_ (some 20) rfl rfl Try.func17 (by kernel_rfl) rfl #[.agg #[.slice Ao87 t106.length co87], .int .i64 1, .int .i64 7] rfl (by (try simp only [List.map_toArray, List.map_cons, List.map_nil]); first | done | rfl | (simp only [List.length_drop, List.length_take]; rfl)) ?_; (with_reducible refine (twin_Accept.calls _ _ t106 1 7 t110 t113 _ ?side1 ?side2 A3.out).mono ?_); (case side1 => refine (Kd.R_reads' (e := 36) (base := w.heap.size) (ok := fun k_ => (True ∧ some k_ ≠ (.slice Ao84 t101.length co84 : Value).ownBlock)) (n := t106.length) (c := co87) ?_).2.2; exact (by (with_reducible repeat (first | apply Kd.R_alloc | apply Kd.R_drewN | apply Kd.R_drew)); exact (Kd.R_mono (Kd.R_far (p := ⟨gb105, 0, none⟩) (Kd.R_types HO108.out BK105.out (by decide)) (fun _ hk => hk.2) (.slice Ao87 t106.length co87)) (fun _ h_ => h_.1)))); (case side2 => exact (Kd.R_reads' HO108.out).2.1); rintro e w89 ⟨v111, rfl, ho0, hb⟩; refine ⟨_, rfl, ?_⟩; have n0_ := Aside0.mk (Kd.R_elder' (by (with_reducible repeat (first | apply Kd.R_alloc | apply Kd.R_drewN | apply Kd.R_drew)); exact (Kd.R_mono (Kd.R_far (p := ⟨gb105, 0, none⟩) (Kd.R_types HO103.out BK105.out (by decide)) (fun _ hk => hk.2) (.slice Ao87 t106.length co87)) (fun _ h_ => h_.1))) (Kd.R_base ho0) hb); have n1_ := Aside0.mk (Kd.R_elder' (by (with_reducible repeat (first | apply Kd.R_alloc | apply Kd.R_drewN | apply Kd.R_drew)); exact (Kd.R_mono (Kd.R_far (p := ⟨gb105, 0, none⟩) (Kd.R_types HO108.out BK105.out (by decide)) (fun _ hk => hk.2) (.slice Ao87 t106.length co87)) (fun _ h_ => h_.1))) (Kd.R_base ho0) hb); have n2_ := Aside0.mk (Kd.R_lower (Kd.R_new' (Kd.R_new' ho0 (Kd.R_lt (by (with_reducible repeat (first | apply Kd.R_alloc | apply Kd.R_drewN | apply Kd.R_drew)); exact (Kd.R_mono (Kd.R_far (p := ⟨gb105, 0, none⟩) (Kd.R_types HO103.out BK105.out (by decide)) (fun _ hk => hk.2) (.slice Ao87 t106.length co87)) (fun _ h_ => h_.1))))) (Kd.R_lt (by (with_reducible repeat (first | apply Kd.R_alloc | apply Kd.R_drewN | apply Kd.R_drew)); exact (Kd.R_mono (Kd.R_far (p := ⟨gb105, 0, none⟩) (Kd.R_types HO108.out BK105.out (by decide)) (fun _ hk => hk.2) (.slice Ao87 t106.length co87)) (fun _ h_ => h_.1))))) (below_size (by repeat (first | (with_reducible first | exact HB.out | apply below_alloc | apply pw_below_drewN | apply below_drew1 | refine below_set ?_ GE105.out) | exact HB.out)))); have n3_ := Aside0.mk (blk_below (g := gb105) (o := .cells #[.slice Ao87 t106.length co87] 28 (0, 0)) (by (with_reducible repeat (first | refine blk_drewN ?_ _ | refine blk_drew ?_ | refine blk_alloc ?_ _)); refine blk_put (cs := #[.slice Ao84 t101.length co84]) ?_ 0 _ rfl; (with_reducible repeat (first | refine blk_drewN ?_ _ | refine blk_drew ?_ | refine blk_alloc ?_ _)); exact BK105.out) hb); have n4_ := Aside0.mk (below_step (by repeat (first | (with_reducible first | exact HB.out | apply below_alloc | apply pw_below_drewN | apply below_drew1 | refine below_set ?_ GE105.out) | exact HB.out)) hb); clear HO103; clear HO108; clear BK105; clear HB; have HO103 := n0_; have HO108 := n1_; have HO112 := n2_; have BK105 := n3_; have HB := n4_; clear n0_ n1_ n2_ n3_ n4_; (try clear hb); (try clear hb2); (try clear hk); (try clear hi); (try clear ho0); obtain ⟨Ao90, co90, eo90⟩ := Kd.R_slice HO112.out; subst eo90; have hcz91_0 : w89.cell? ⟨gb105, 0, none⟩ = some (.slice Ao87 t106.length co87) := (blk_cell BK105.out 0).trans rfl; have hfz91_0 := blk_frozen BK105.out 0) | ((with_reducible refine gate_callee (f := 17) rfl ?_); refine goesL_ (some 25) rfl rfl Try.func17 (by kernel_rfl) rfl #[.agg #[.slice Ao90 t110.length co90], .int .i64 1, .int .i64 6] rfl (by (try simp only [List.map_toArray, List.map_cons, List.map_nil]); first | done | rfl | (simp only [List.length_drop, List.length_take]; rfl)) ?_; (with_reducible refine (twin_Accept.calls _ _ t110 1 6 t114 t117 _ ?side1 ?side2 A4.out).mono ?_); (case side1 => refine (Kd.R_reads' (e := 36) (base := w.heap.size) (ok := fun k_ => ((True ∧ some k_ ≠ (.slice Ao84 t101.length co84 : Value).ownBlock) ∧ some k_ ≠ (.slice Ao87 t106.length co87 : Value).ownBlock)) (n := t110.length) (c := co90) ?_).2.2; exact (by (with_reducible repeat (first | apply Kd.R_alloc | apply Kd.R_drewN | apply Kd.R_drew)); exact (Kd.R_mono (Kd.R_far (p := ⟨gb105, 0, none⟩) (Kd.R_types HO112.out BK105.out (by decide)) (fun _ hk => hk.2) (.slice Ao90 t110.length co90)) (fun _ h_ => h_.1)))); (case side2 => exact (Kd.R_reads' HO112.out).2.1); rintro e w92 ⟨v115, rfl, ho0, hb⟩; refine ⟨_, rfl, ?_⟩; have n0_ := Aside0.mk (Kd.R_elder' (by (with_reducible repeat (first | apply Kd.R_alloc | apply Kd.R_drewN | apply Kd.R_drew)); exact (Kd.R_mono (Kd.R_far (p := ⟨gb105, 0, none⟩) (Kd.R_types HO103.out BK105.out (by decide)) (fun _ hk => hk.2) (.slice Ao90 t110.length co90)) (fun _ h_ => h_.1))) (Kd.R_base ho0) hb); have n1_ := Aside0.mk (Kd.R_elder' (by (with_reducible repeat (first | apply Kd.R_alloc | apply Kd.R_drewN | apply Kd.R_drew)); exact (Kd.R_mono (Kd.R_far (p := ⟨gb105, 0, none⟩) (Kd.R_types HO108.out BK105.out (by decide)) (fun _ hk => hk.2) (.slice Ao90 t110.length co90)) (fun _ h_ => h_.1))) (Kd.R_base ho0) hb); have n2_ := Aside0.mk (Kd.R_elder' (by (with_reducible repeat (first | apply Kd.R_alloc | apply Kd.R_drewN | apply Kd.R_drew)); exact (Kd.R_mono (Kd.R_far (p := ⟨gb105, 0, none⟩) (Kd.R_types HO112.out BK105.out (by decide)) (fun _ hk => hk.2) (.slice Ao90 t110.length co90)) (fun _ h_ => h_.1))) (Kd.R_base ho0) hb); have n3_ := Aside0.mk (Kd.R_lower (Kd.R_new' (Kd.R_new' (Kd.R_new' ho0 (Kd.R_lt (by (with_reducible repeat (first | apply Kd.R_alloc | apply Kd.R_drewN | apply Kd.R_drew)); exact (Kd.R_mono (Kd.R_far (p := ⟨gb105, 0, none⟩) (Kd.R_types HO103.out BK105.out (by decide)) (fun _ hk => hk.2) (.slice Ao90 t110.length co90)) (fun _ h_ => h_.1))))) (Kd.R_lt (by (with_reducible repeat (first | apply Kd.R_alloc | apply Kd.R_drewN | apply Kd.R_drew)); exact (Kd.R_mono (Kd.R_far (p := ⟨gb105, 0, none⟩) (Kd.R_types HO108.out BK105.out (by decide)) (fun _ hk => hk.2) (.slice Ao90 t110.length co90)) (fun _ h_ => h_.1))))) (Kd.R_lt (by (with_reducible repeat (first | apply Kd.R_alloc | apply Kd.R_drewN | apply Kd.R_drew)); exact (Kd.R_mono (Kd.R_far (p := ⟨gb105, 0, none⟩) (Kd.R_types HO112.out BK105.out (by decide)) (fun _ hk => hk.2) (.slice Ao90 t110.length co90)) (fun _ h_ => h_.1))))) (below_size (by repeat (first | (with_reducible first | exact HB.out | apply below_alloc | apply pw_below_drewN | apply below_drew1 | refine below_set ?_ GE105.out) | exact HB.out)))); have n4_ := Aside0.mk (blk_below (g := gb105) (o := .cells #[.slice Ao90 t110.length co90] 28 (0, 0)) (by (with_reducible repeat (first | refine blk_drewN ?_ _ | refine blk_drew ?_ | refine blk_alloc ?_ _)); refine blk_put (cs := #[.slice Ao87 t106.length co87]) ?_ 0 _ rfl; (with_reducible repeat (first | refine blk_drewN ?_ _ | refine blk_drew ?_ | refine blk_alloc ?_ _)); exact BK105.out) hb); have n5_ := Aside0.mk (below_step (by repeat (first | (with_reducible first | exact HB.out | apply below_alloc | apply pw_below_drewN | apply below_drew1 | refine below_set ?_ GE105.out) | exact HB.out)) hb); clear HO103; clear HO108; clear HO112; clear BK105; clear HB; have HO103 := n0_; have HO108 := n1_; have HO112 := n2_; have HO116 := n3_; have BK105 := n4_; have HB := n5_; clear n0_ n1_ n2_ n3_ n4_ n5_; (try clear hb); (try clear hb2); (try clear hk); (try clear hi); (try clear ho0); obtain ⟨Ao93, co93, eo93⟩ := Kd.R_slice HO116.out; subst eo93; have hcz94_0 : w92.cell? ⟨gb105, 0, none⟩ = some (.slice Ao90 t110.length co90) := (blk_cell BK105.out 0).trans rfl; have hfz94_0 := blk_frozen BK105.out 0) | ((with_reducible refine gate_callee (f := 17) rfl ?_); refine goesL_ (some 30) rfl rfl Try.func17 (by kernel_rfl) rfl #[.agg #[.slice Ao93 t114.length co93], .int .i64 1, .int .i64 6] rfl (by (try simp only [List.map_toArray, List.map_cons, List.map_nil]); first | done | rfl | (simp only [List.length_drop, List.length_take]; rfl)) ?_; (with_reducible refine (twin_Accept.calls _ _ t114 1 6 t118 t121 _ ?side1 ?side2 A5.out).mono ?_); (case side1 => refine (Kd.R_reads' (e := 36) (base := w.heap.size) (ok := fun k_ => (((True ∧ some k_ ≠ (.slice Ao84 t101.length co84 : Value).ownBlock) ∧ some k_ ≠ (.slice Ao87 t106.length co87 : Value).ownBlock) ∧ some k_ ≠ (.slice Ao90 t110.length co90 : Value).ownBlock)) (n := t114.length) (c := co93) ?_).2.2; exact (by (with_reducible repeat (first | apply Kd.R_alloc | apply Kd.R_drewN | apply Kd.R_drew)); exact (Kd.R_mono (Kd.R_far (p := ⟨gb105, 0, none⟩) (Kd.R_types HO116.out BK105.out (by decide)) (fun _ hk => hk.2) (.slice Ao93 t114.length co93)) (fun _ h_ => h_.1)))); (case side2 => exact (Kd.R_reads' HO116.out).2.1); rintro e w95 ⟨v119, rfl, ho0, hb⟩; refine ⟨_, rfl, ?_⟩; have n0_ := Aside0.mk (Kd.R_elder' (by (with_reducible repeat (first | apply Kd.R_alloc | apply Kd.R_drewN | apply Kd.R_drew)); exact (Kd.R_mono (Kd.R_far (p := ⟨gb105, 0, none⟩) (Kd.R_types HO103.out BK105.out (by decide)) (fun _ hk => hk.2) (.slice Ao93 t114.length co93)) (fun _ h_ => h_.1))) (Kd.R_base ho0) hb); have n1_ := Aside0.mk (Kd.R_elder' (by (with_reducible repeat (first | apply Kd.R_alloc | apply Kd.R_drewN | apply Kd.R_drew)); exact (Kd.R_mono (Kd.R_far (p := ⟨gb105, 0, none⟩) (Kd.R_types HO108.out BK105.out (by decide)) (fun _ hk => hk.2) (.slice Ao93 t114.length co93)) (fun _ h_ => h_.1))) (Kd.R_base ho0) hb); have n2_ := Aside0.mk (Kd.R_elder' (by (with_reducible repeat (first | apply Kd.R_alloc | apply Kd.R_drewN | apply Kd.R_drew)); exact (Kd.R_mono (Kd.R_far (p := ⟨gb105, 0, none⟩) (Kd.R_types HO112.out BK105.out (by decide)) (fun _ hk => hk.2) (.slice Ao93 t114.length co93)) (fun _ h_ => h_.1))) (Kd.R_base ho0) hb); have n3_ := Aside0.mk (Kd.R_elder' (by (with_reducible repeat (first | apply Kd.R_alloc | apply Kd.R_drewN | apply Kd.R_drew)); exact (Kd.R_mono (Kd.R_far (p := ⟨gb105, 0, none⟩) (Kd.R_types HO116.out BK105.out (by decide)) (fun _ hk => hk.2) (.slice Ao93 t114.length co93)) (fun _ h_ => h_.1))) (Kd.R_base ho0) hb); have n4_ := Aside0.mk (Kd.R_lower (Kd.R_new' (Kd.R_new' (Kd.R_new' (Kd.R_new' ho0 (Kd.R_lt (by (with_reducible repeat (first | apply Kd.R_alloc | apply Kd.R_drewN | apply Kd.R_drew)); exact (Kd.R_mono (Kd.R_far (p := ⟨gb105, 0, none⟩) (Kd.R_types HO103.out BK105.out (by decide)) (fun _ hk => hk.2) (.slice Ao93 t114.length co93)) (fun _ h_ => h_.1))))) (Kd.R_lt (by (with_reducible repeat (first | apply Kd.R_alloc | apply Kd.R_drewN | apply Kd.R_drew)); exact (Kd.R_mono (Kd.R_far (p := ⟨gb105, 0, none⟩) (Kd.R_types HO108.out BK105.out (by decide)) (fun _ hk => hk.2) (.slice Ao93 t114.length co93)) (fun _ h_ => h_.1))))) (Kd.R_lt (by (with_reducible repeat (first | apply Kd.R_alloc | apply Kd.R_drewN | apply Kd.R_drew)); exact (Kd.R_mono (Kd.R_far (p := ⟨gb105, 0, none⟩) (Kd.R_types HO112.out BK105.out (by decide)) (fun _ hk => hk.2) (.slice Ao93 t114.length co93)) (fun _ h_ => h_.1))))) (Kd.R_lt (by (with_reducible repeat (first | apply Kd.R_alloc | apply Kd.R_drewN | apply Kd.R_drew)); exact (Kd.R_mono (Kd.R_far (p := ⟨gb105, 0, none⟩) (Kd.R_types HO116.out BK105.out (by decide)) (fun _ hk => hk.2) (.slice Ao93 t114.length co93)) (fun _ h_ => h_.1))))) (below_size (by repeat (first | (with_reducible first | exact HB.out | apply below_alloc | apply pw_below_drewN | apply below_drew1 | refine below_set ?_ GE105.out) | exact HB.out)))); have n5_ := Aside0.mk (blk_below (g := gb105) (o := .cells #[.slice Ao93 t114.length co93] 28 (0, 0)) (by (with_reducible repeat (first | refine blk_drewN ?_ _ | refine blk_drew ?_ | refine blk_alloc ?_ _)); refine blk_put (cs := #[.slice Ao90 t110.length co90]) ?_ 0 _ rfl; (with_reducible repeat (first | refine blk_drewN ?_ _ | refine blk_drew ?_ | refine blk_alloc ?_ _)); exact BK105.out) hb); have n6_ := Aside0.mk (below_step (by repeat (first | (with_reducible first | exact HB.out | apply below_alloc | apply pw_below_drewN | apply below_drew1 | refine below_set ?_ GE105.out) | exact HB.out)) hb); clear HO103; clear HO108; clear HO112; clear HO116; clear BK105; clear HB; have HO103 := n0_; have HO108 := n1_; have HO112 := n2_; have HO116 := n3_; have HO120 := n4_; have BK105 := n5_; have HB := n6_; clear n0_ n1_ n2_ n3_ n4_ n5_ n6_; (try clear hb); (try clear hb2); (try clear hk); (try clear hi); (try clear ho0)) | ((with_reducible refine gate_dst (N := 6) rfl ?_); refine box_event ?hg (N := 6) ?hd (cs := #[.slice none 0 0]) (t := 28) ?hr ?_; (case hd => rfl); (case hg => rfl); (case hr => first | (go_simp; done) | (go_simp; rfl)); intro gb122 hg w96 hbox hb; have n0_ := Aside0.mk (Kd.R_below (by (with_reducible repeat (first | apply Kd.R_alloc | apply Kd.R_drewN | apply Kd.R_drew)); exact HO103.out) hb); have n1_ := Aside0.mk (Kd.R_below (by (with_reducible repeat (first | apply Kd.R_alloc | apply Kd.R_drewN | apply Kd.R_drew)); exact HO108.out) hb); have n2_ := Aside0.mk (Kd.R_below (by (with_reducible repeat (first | apply Kd.R_alloc | apply Kd.R_drewN | apply Kd.R_drew)); exact HO112.out) hb); have n3_ := Aside0.mk (Kd.R_below (by (with_reducible repeat (first | apply Kd.R_alloc | apply Kd.R_drewN | apply Kd.R_drew)); exact HO116.out) hb); have n4_ := Aside0.mk (Kd.R_below (by (with_reducible repeat (first | apply Kd.R_alloc | apply Kd.R_drewN | apply Kd.R_drew)); exact HO120.out) hb); have n5_ := Aside0.mk (blk_below (g := gb105) (o := .cells #[.slice Ao93 t114.length co93] 28 (0, 0)) (by (with_reducible repeat (first | refine blk_drewN ?_ _ | refine blk_drew ?_ | refine blk_alloc ?_ _)); exact BK105.out) hb); have n6_ := Aside0.mk (below_step (by repeat (first | (with_reducible first | exact HB.out | apply below_alloc | apply pw_below_drewN | apply below_drew1 | refine below_set ?_ GE105.out) | exact HB.out)) hb); have n7_ := Aside0.mk (hbox); have n8_ := Aside0.mk ((by rw [hg]; exact (below_size (by repeat (first | (with_reducible first | exact HB.out | apply below_alloc | apply pw_below_drewN | apply below_drew1 | refine below_set ?_ GE105.out) | exact HB.out))) : w.heap.size ≤ gb122)); have n9_ := Aside0.mk ((by rw [hg]; exact (below_size (by repeat (first | (with_reducible first | exact HB.out | apply below_alloc | apply pw_below_drewN | apply below_drew1 | refine below_set ?_ GE105.out) | exact HB.out))) : w.heap.size ≤ gb122)); have n10_ := Aside0.mk ((by rw [hg]; exact Nat.ne_of_lt (blk_lt (g := gb105) (o := .cells #[.slice Ao93 t114.length co93] 28 (0, 0)) (by (with_reducible repeat (first | refine blk_drewN ?_ _ | refine blk_drew ?_ | refine blk_alloc ?_ _)); exact BK105.out)) : gb105 ≠ gb122)); have n11_ := Aside0.mk ((by rw [hg]; exact Nat.ne_of_gt (blk_lt (g := gb105) (o := .cells #[.slice Ao93 t114.length co93] 28 (0, 0)) (by (with_reducible repeat (first | refine blk_drewN ?_ _ | refine blk_drew ?_ | refine blk_alloc ?_ _)); exact BK105.out)) : gb122 ≠ gb105)); clear HO103; clear HO108; clear HO112; clear HO116; clear HO120; clear BK105; clear HB; have HO103 := n0_; have HO108 := n1_; have HO112 := n2_; have HO116 := n3_; have HO120 := n4_; have BK105 := n5_; have HB := n6_; have BK122 := n7_; have GW122 := n8_; have GE122 := n9_; have NB105_122 := n10_; have NB122_105 := n11_; clear n0_ n1_ n2_ n3_ n4_ n5_ n6_ n7_ n8_ n9_ n10_ n11_; clear hb hbox hg; obtain ⟨Ao97, co97, eo97⟩ := Kd.R_slice HO120.out; subst eo97; have hnb98 := NB122_105.out; have hnc98 := NB105_122.out; have hcz99_0 : w96.cell? ⟨gb122, 0, none⟩ = some (.slice none 0 0) := (blk_cell BK122.out 0).trans rfl; have hfz99_0 := blk_frozen BK122.out 0))
  go_ret
  exact ⟨by first | rfl | (simp [errW_none, errW_some] <;> rfl) | (simp [*, errW_none, errW_some] <;> rfl), by repeat (first | (with_reducible first | exact HB.out | apply below_alloc | apply pw_below_drewN | apply below_drew1 | refine below_set ?_ GE105.out | refine below_set ?_ GE122.out) | exact HB.out)⟩
end Go.Proofs.Ytnjddjpohobelaa.XB
end
section
namespace Go.Proofs.Ytnjddjpohobelaa.TwO
open Go.RowKit Go.Proofs.YtnjddjpohobelaaW.PrintWords Go.Proofs.YtnjddjpohobelaaW.PrintMore Go.Proofs.Ytnjddjpohobelaa.XB
set_option linter.unusedVariables false
theorem known : substationlaw16_known.f = some true := by decide +kernel
theorem w64 {x : Int} (h0 : -9223372036854775808 ≤ x) (h1 : x ≤ 9223372036854775807) : wrap64 x = x := by unfold wrap64; omega
theorem rd_drop (l : List Int) (m : Nat) (i : Int) (hi : 0 ≤ i) : rd (l.drop m) i = rd l ((m : Int) + i) := by
  unfold rd
  rw [List.getD_eq_getElem?_getD, List.getD_eq_getElem?_getD, List.getElem?_drop, show ((m : Int) + i).toNat = m + i.toNat by omega]
theorem two {l : List Int} (h : 2 ≤ l.length) : substationref16_two.f l = some (tw_word (rd l 0) (rd l 1)) := by
  unfold substationref16_two.f tw_word
  rw [if_pos (by omega), if_pos (by omega)]
theorem refOpen (bs : List Int) (hl : bs.length ≤ 9223372036854775807) : substationref16_Open.f 2 bs = some (tw_openF bs) := by
  unfold substationref16_Open.f
  by_cases h8 : bs.length < 8
  · rw [w64 (by omega) (by omega), if_pos (by omega)]
    unfold tw_openF
    rw [if_pos h8]
  · obtain ⟨m, hm⟩ : ∃ m : Nat, bs.length = m + 8 := ⟨bs.length - 8, by omega⟩
    have hw : wrap64 ((bs.length : Int) - 8) = (m : Int) := by rw [w64 (by omega) (by omega)]; omega
    have hd : (bs.drop m).length = 8 := by rw [List.length_drop]; omega
    have r := fun i (hi : 0 ≤ i) => rd_drop bs m i hi
    have hsub : bs.length - 8 = m := by omega
    rw [hw, if_neg (by omega), if_pos (by omega), if_pos (by omega), Int.toNat_natCast, hd, if_pos (by omega)]
    have e6 : (bs.drop m).drop 6 = bs.drop (m + 6) := List.drop_drop
    have e2 : (bs.drop m).drop 2 = bs.drop (m + 2) := List.drop_drop
    have l6 : (bs.drop (m + 6)).length = 2 := by rw [List.length_drop]; omega
    have l2 : (bs.drop (m + 2)).length = 6 := by rw [List.length_drop]; omega
    have t6 : substationref16_two.f ((bs.drop m).drop 6) = some (tw_word (rd bs ((m : Int) + 6)) (rd bs ((m : Int) + 7))) := by
      rw [e6, two (by omega), rd_drop bs _ _ (by omega), rd_drop bs _ _ (by omega), show ((m + 6 : Nat) : Int) + 0 = (m : Int) + 6 by omega, show ((m + 6 : Nat) : Int) + 1 = (m : Int) + 7 by omega]
    have t2 : substationref16_two.f ((bs.drop m).drop 2) = some (tw_word (rd bs ((m : Int) + 2)) (rd bs ((m : Int) + 3))) := by
      rw [e2, two (by omega), rd_drop bs _ _ (by omega), rd_drop bs _ _ (by omega), show ((m + 2 : Nat) : Int) + 0 = (m : Int) + 2 by omega, show ((m + 2 : Nat) : Int) + 1 = (m : Int) + 3 by omega]
    have t0 : substationref16_two.f (bs.drop m) = some (tw_word (rd bs ((m : Int) + 0)) (rd bs ((m : Int) + 1))) := by
      rw [two (by omega), rd_drop bs _ _ (by omega), rd_drop bs _ _ (by omega)]
    have hnet : rd bs ((m : Int) + 4) = 160 ∨ rd bs ((m : Int) + 4) = 161 → wrap64 (wrap64 (rd bs ((m : Int) + 4)) - 160) = if rd bs ((m : Int) + 4) = 161 then 1 else 0 := by
      rintro (h | h) <;> rw [h, w64 (x := wrap64 _ - 160) (by unfold wrap64; omega) (by unfold wrap64; omega), w64 (by omega) (by omega)] <;> rfl
    have j1 : ∀ b, substationref16_Open.j1 1 bs m (bs.drop m) b = if b = true then some (0, 0, 0, [], 4) else if m ≤ 1500 then some (tw_word (rd bs ((m : Int) + 0)) (rd bs ((m : Int) + 1)), tw_word (rd bs ((m : Int) + 2)) (rd bs ((m : Int) + 3)), wrap64 (wrap64 (rd bs ((m : Int) + 4)) - 160), bs.take m, 0) else substationref16_Open.j1 1 bs m (bs.drop m) b := by
      intro b
      by_cases hb : b = true
      · subst hb; rfl
      · by_cases h15 : m ≤ 1500
        · rw [if_neg hb, if_pos h15, substationref16_Open.j1, if_neg hb, t0, Option.bind_some, if_pos (by omega), t2, Option.bind_some, if_pos (by omega), Option.bind_some, if_pos (by omega), if_pos (by omega), Int.toNat_natCast, if_pos (by rw [List.length_nil, List.length_take]; omega), List.nil_append, r 4 (by omega)]
        · rw [if_neg hb, if_neg h15]
    have j0 : ∀ b, substationref16_Open.j0 2 bs m (bs.drop m) b = if b = true then some (0, 0, 0, [], 15) else if tw_word (rd bs ((m : Int) + 6)) (rd bs ((m : Int) + 7)) ≠ m ∨ 1500 < (m : Int) then some (0, 0, 0, [], 4) else some (tw_word (rd bs ((m : Int) + 0)) (rd bs ((m : Int) + 1)), tw_word (rd bs ((m : Int) + 2)) (rd bs ((m : Int) + 3)), wrap64 (wrap64 (rd bs ((m : Int) + 4)) - 160), bs.take m, 0) := by
      intro b
      by_cases hb : b = true
      · subst hb; rfl
      · rw [if_neg hb, substationref16_Open.j0, if_neg hb, if_pos (by omega), t6, Option.bind_some]
        by_cases hx : tw_word (rd bs ((m : Int) + 6)) (rd bs ((m : Int) + 7)) = m
        · rw [if_pos hx]
          by_cases h15 : 1500 < (m : Int)
          · rw [if_pos (.inr h15), j1, if_pos (by simpa using h15)]
          · rw [if_neg (fun z => z.elim (fun h => h hx) (fun h => h15 h)), j1, if_neg (by simpa using h15), if_pos (by omega)]
        · rw [if_neg hx, if_pos (.inl hx), j1, if_pos rfl]
    rw [j0, j0]
    unfold tw_openF
    rw [if_neg h8, hsub, r 4 (by omega), r 5 (by omega)]
    by_cases h4 : rd bs ((m : Int) + 4) = 160
    · have hn := hnet (.inl h4)
      rw [h4] at hn
      by_cases h5 : rd bs ((m : Int) + 5) = 0 <;> simp [h4, h5, hn] <;> split <;> rfl
    · by_cases h4' : rd bs ((m : Int) + 4) = 161
      · have hn := hnet (.inr h4')
        rw [h4'] at hn
        by_cases h5 : rd bs ((m : Int) + 5) = 0 <;> simp [h4', h5, hn] <;> split <;> rfl
      · simp [h4, h4']
end Go.Proofs.Ytnjddjpohobelaa.TwO
end
section
namespace Go.Proofs.Ytnjddjpohobelaa.XB
open Go.RowKit Go.Proofs.YtnjddjpohobelaaW.PrintWords Go.Proofs.YtnjddjpohobelaaW.PrintLast Go.Proofs.YtnjddjpohobelaaW.PrintMore
attribute [local go_sem] max2_int min2_int max_two min_two max_three min_three max_four min_four   -- for this text's walks alone
set_option linter.unusedVariables false
set_option linter.unusedSimpArgs false
/-! ### substationlaw16_TwinOpens: function 8 -/
def substationlaw16_TwinOpens.f (k : Nat) (l0 : List Int) : Option (Bool) := (substationlaw16_known.f).bind fun t101 => (if t101 = true then ((twin_Open.f l0).bind fun bt102 => ((substationref16_Open.f k l0).bind fun bt110 => (if bt102.2.2.2.2 = bt110.2.2.2.2 then (if bt102.1 = bt110.1 then (if bt102.2.1 = bt110.2.1 then (if bt102.2.2.1 = bt110.2.2.1 then (some ((strOfNums bt102.2.2.2.1).toList == (strOfNums bt110.2.2.2.1).toList)) else (some false)) else (some false)) else (some false)) else (some false)))) else (some false))
theorem substationlaw16_TwinOpens.mono : ∀ a0 k, LeO (substationlaw16_TwinOpens.f k a0) (substationlaw16_TwinOpens.f (k + 1) a0) := by
 intro a0 k
 unfold substationlaw16_TwinOpens.f
 repeat' first
   | (with_reducible exact substationref16_Open.mono _ _)
   | (with_reducible exact LeO.refl _)
   | (with_reducible exact LeO.none _)
   | (with_reducible refine LeO.ite ?_ ?_)
   | (with_reducible refine LeO.bind ?_ (fun _ => ?_))
   | exact substationref16_Open.mono _ _
   | exact LeO.none _
   | refine LeO.ite ?_ ?_
   | refine LeO.bind ?_ (fun _ => ?_)
set_option maxHeartbeats 8000000 in
set_option maxRecDepth 100000 in
theorem substationlaw16_TwinOpens.calls (k : Nat) (A0 : Option Addr) (c0 : Nat) (l0 : List Int) (r : Bool) (w : World) (hr0 : Kd.C (Kd.int .u8) w A0 l0.length l0) (hc0 : l0.length ≤ c0) (hr_ : r = true) (h : substationlaw16_TwinOpens.f k l0 = some r) :
  Calls Try.prog 8 #[.slice A0 l0.length c0] w fun e w' => e = .returned (.bool r) ∧ Below w.heap.size w w' := by
 have hu58 := Try.underlying58
 have hu61 := Try.underlying61
 have HR0 := Aside0.mk hr0
 have HC0 := Aside0.mk hc0
 clear hr0 hc0
 have HB := Aside0.mk (Below.refl w.heap.size w)
 have H : ((substationlaw16_known.f).bind fun t101 => (if t101 = true then ((twin_Open.f l0).bind fun bt102 => ((substationref16_Open.f k l0).bind fun bt110 => (if bt102.2.2.2.2 = bt110.2.2.2.2 then (if bt102.1 = bt110.1 then (if bt102.2.1 = bt110.2.1 then (if bt102.2.2.1 = bt110.2.2.1 then (some ((strOfNums bt102.2.2.2.1).toList == (strOfNums bt110.2.2.2.1).toList)) else (some false)) else (some false)) else (some false)) else (some false)))) else (some false))) = some r := h
 clear h
 replace H := Option.bind_eq_some_iff.mp H
 obtain ⟨t101, A20, H⟩ := H
 replace H : (if t101 = true then ((twin_Open.f l0).bind fun bt102 => ((substationref16_Open.f k l0).bind fun bt110 => (if bt102.2.2.2.2 = bt110.2.2.2.2 then (if bt102.1 = bt110.1 then (if bt102.2.1 = bt110.2.1 then (if bt102.2.2.1 = bt110.2.2.1 then (some ((strOfNums bt102.2.2.2.1).toList == (strOfNums bt110.2.2.2.1).toList)) else (some false)) else (some false)) else (some false)) else (some false)))) else (some false)) = some r := H
 have A2 := Aside0.mk A20
 clear A20
 by_cases c3 : t101 = true
 ·subst c3
  have H1 : ((twin_Open.f l0).bind fun bt102 => ((substationref16_Open.f k l0).bind fun bt110 => (if bt102.2.2.2.2 = bt110.2.2.2.2 then (if bt102.1 = bt110.1 then (if bt102.2.1 = bt110.2.1 then (if bt102.2.2.1 = bt110.2.2.1 then (some ((strOfNums bt102.2.2.2.1).toList == (strOfNums bt110.2.2.2.1).toList)) else (some false)) else (some false)) else (some false)) else (some false)))) = some r := by rw [if_pos rfl] at H; exact H
  clear H
  have H := H1
  clear H1
  replace H := Option.bind_eq_some_iff.mp H
  obtain ⟨⟨t102, t103, t104, t105, t108⟩, A40, H⟩ := H
  replace H : ((substationref16_Open.f k l0).bind fun bt110 => (if t108 = bt110.2.2.2.2 then (if t102 = bt110.1 then (if t103 = bt110.2.1 then (if t104 = bt110.2.2.1 then (some ((strOfNums t105).toList == (strOfNums bt110.2.2.2.1).toList)) else (some false)) else (some false)) else (some false)) else (some false))) = some r := H
  have A4 := Aside0.mk A40
  clear A40
  replace H := Option.bind_eq_some_iff.mp H
  obtain ⟨⟨t110, t111, t112, t113, t116⟩, A50, H⟩ := H
  replace H : (if t108 = t116 then (if t102 = t110 then (if t103 = t111 then (if t104 = t112 then (some ((strOfNums t105).toList == (strOfNums t113).toList)) else (some false)) else (some false)) else (some false)) else (some false)) = some r := H
  have A5 := Aside0.mk A50
  clear A50
  by_cases c6 : t108 = t116
  ·rw [if_pos c6] at H
   have c6b0 : (t108 == t116) = true := beq_iff_eq.mpr c6
   have c6b1 : (t108 != t116) = false := bne_eq_false_iff_eq.mpr c6
   clear c6
   by_cases c7 : t102 = t110
   ·rw [if_pos c7] at H
    have c7b0 : (t102 == t110) = true := beq_iff_eq.mpr c7
    have c7b1 : (t102 != t110) = false := bne_eq_false_iff_eq.mpr c7
    clear c7
    by_cases c8 : t103 = t111
    ·rw [if_pos c8] at H
     have c8b0 : (t103 == t111) = true := beq_iff_eq.mpr c8
     have c8b1 : (t103 != t111) = false := bne_eq_false_iff_eq.mpr c8
     clear c8
     by_cases c9 : t104 = t112
     ·rw [if_pos c9] at H
      have c9b0 : (t104 == t112) = true := beq_iff_eq.mpr c9
      have c9b1 : (t104 != t112) = false := bne_eq_false_iff_eq.mpr c9
      clear c9
      obtain rfl := Option.some.inj H
      go_enter Try.func8, Try.ntmps8
      go_wp2_with (first | ((with_reducible refine gate_callee (f := 15) rfl ?_); refine goesL_ (some 7) rfl rfl Try.func15 (by kernel_rfl) rfl #[] rfl (by (try simp only [List.map_toArray, List.map_cons, List.map_nil]); first | done | rfl | (simp only [List.length_drop, List.length_take]; rfl)) ?_; (with_reducible refine (substationlaw16_known.calls  true _ A2.out).mono ?_); rintro e w10 ⟨rfl, hb⟩; refine ⟨_, rfl, ?_⟩; have n0_ := Aside0.mk (below_step (by repeat (first | (with_reducible first | exact HB.out | apply below_alloc | apply pw_below_drewN | apply below_drew1) | exact HB.out)) hb); clear HB; have HB := n0_; clear n0_; (try clear hb); (try clear hb2); (try clear hk); (try clear hi)) | ((with_reducible refine gate_callee (f := 24) rfl ?_); refine goesL_ (some 11) rfl rfl Try.func24 (by kernel_rfl) rfl #[.slice A0 l0.length c0] rfl (by (try simp only [List.map_toArray, List.map_cons, List.map_nil]); first | done | rfl | (simp only [List.length_drop, List.length_take]; rfl)) ?_; (with_reducible refine (twin_Open.calls _ _ l0 t102 t103 t104 t105 t108 _ ?side1 ?side2 A4.out).mono ?_); (case side1 => repeat (first | exact (Kd.C_below HR0.out HB.out) | (with_reducible refine Kd.C_alloc ?_ _) | (with_reducible refine Kd.C_drewN ?_ _) | (with_reducible refine Kd.C_drew ?_))); (case side2 => exact HC0.out); rintro e w11 ⟨v106, rfl, ho0, hb⟩; refine ⟨_, rfl, ?_⟩; have n0_ := Aside0.mk (Kd.R_lower ho0 (below_size (by repeat (first | (with_reducible first | exact HB.out | apply below_alloc | apply pw_below_drewN | apply below_drew1) | exact HB.out)))); have n1_ := Aside0.mk (below_step (by repeat (first | (with_reducible first | exact HB.out | apply below_alloc | apply pw_below_drewN | apply below_drew1) | exact HB.out)) hb); clear HB; have HO107 := n0_; have HB := n1_; clear n0_ n1_; (try clear hb); (try clear hb2); (try clear hk); (try clear hi); (try clear ho0)) | ((with_reducible refine gate_dst (N := 3) rfl ?_); refine box_event ?hg (N := 3) ?hd (cs := #[.int .i64 0, .int .i64 0, .int .i64 0, .slice none 0 0]) (t := 58) ?hr ?_; (case hd => rfl); (case hg => rfl); (case hr => first | (go_simp; done) | (go_simp; rfl)); intro gb109 hg w12 hbox hb; have n0_ := Aside0.mk (Kd.R_below (by (with_reducible repeat (first | apply Kd.R_alloc | apply Kd.R_drewN | apply Kd.R_drew)); exact HO107.out) hb); have n1_ := Aside0.mk (below_step (by repeat (first | (with_reducible first | exact HB.out | apply below_alloc | apply pw_below_drewN | apply below_drew1) | exact HB.out)) hb); have n2_ := Aside0.mk (hbox); have n3_ := Aside0.mk ((by rw [hg]; exact (below_size (by repeat (first | (with_reducible first | exact HB.out | apply below_alloc | apply pw_below_drewN | apply below_drew1) | exact HB.out))) : w.heap.size ≤ gb109)); have n4_ := Aside0.mk ((by rw [hg]; exact (below_size (by repeat (first | (with_reducible first | exact HB.out | apply below_alloc | apply pw_below_drewN | apply below_drew1) | exact HB.out))) : w.heap.size ≤ gb109)); clear HO107; clear HB; have HO107 := n0_; have HB := n1_; have BK109 := n2_; have GW109 := n3_; have GE109 := n4_; clear n0_ n1_ n2_ n3_ n4_; clear hb hbox hg; have hcz13_0 : w12.cell? ⟨gb109, 0, none⟩ = some (.int .i64 0) := (blk_cell BK109.out 0).trans rfl; have hcz13_1 : w12.cell? ⟨gb109, 1, none⟩ = some (.int .i64 0) := (blk_cell BK109.out 1).trans rfl; have hcz13_2 : w12.cell? ⟨gb109, 2, none⟩ = some (.int .i64 0) := (blk_cell BK109.out 2).trans rfl; have hcz13_3 : w12.cell? ⟨gb109, 3, none⟩ = some (.slice none 0 0) := (blk_cell BK109.out 3).trans rfl; have hfz13_0 := blk_frozen BK109.out 0; have hfz13_1 := blk_frozen BK109.out 1; have hfz13_2 := blk_frozen BK109.out 2; have hfz13_3 := blk_frozen BK109.out 3; obtain ⟨Ao14, co14, eo14⟩ := Kd.R_slice HO107.out; subst eo14) | ((with_reducible refine gate_callee (f := 25) rfl ?_); refine goesL_ (some 16) rfl rfl Try.func25 (by kernel_rfl) rfl #[.slice A0 l0.length c0] rfl (by (try simp only [List.map_toArray, List.map_cons, List.map_nil]); first | done | rfl | (simp only [List.length_drop, List.length_take]; rfl)) ?_; (with_reducible refine (substationref16_Open.calls k _ _ l0 t110 t111 t112 t113 t116 _ ?side1 ?side2 A5.out).mono ?_); (case side1 => exact Kd.C_below HR0.out (by repeat (first | (with_reducible first | exact HB.out | apply below_alloc | apply pw_below_drewN | apply below_drew1 | refine below_set ?_ GE109.out) | exact HB.out))); (case side2 => exact HC0.out); rintro e w15 ⟨v114, rfl, ho0, hb⟩; refine ⟨_, rfl, ?_⟩; have n0_ := Aside0.mk (Kd.R_elder' (by (with_reducible repeat (first | apply Kd.R_alloc | apply Kd.R_drewN | apply Kd.R_drew)); exact (Kd.R_mono (Kd.R_far (p := ⟨gb109, 3, none⟩) (Kd.R_far (p := ⟨gb109, 2, none⟩) (Kd.R_far (p := ⟨gb109, 1, none⟩) (Kd.R_far (p := ⟨gb109, 0, none⟩) (Kd.R_types HO107.out BK109.out (by decide)) (fun _ hk => hk.2) (.int .i64 t102)) (fun _ hk => hk.2) (.int .i64 t103)) (fun _ hk => hk.2) (.int .i64 t104)) (fun _ hk => hk.2) (.slice Ao14 t105.length co14)) (fun _ h_ => h_.1))) (Kd.R_base ho0) hb); have n1_ := Aside0.mk (Kd.R_lower (Kd.R_new' ho0 (Kd.R_lt (by (with_reducible repeat (first | apply Kd.R_alloc | apply Kd.R_drewN | apply Kd.R_drew)); exact (Kd.R_mono (Kd.R_far (p := ⟨gb109, 3, none⟩) (Kd.R_far (p := ⟨gb109, 2, none⟩) (Kd.R_far (p := ⟨gb109, 1, none⟩) (Kd.R_far (p := ⟨gb109, 0, none⟩) (Kd.R_types HO107.out BK109.out (by decide)) (fun _ hk => hk.2) (.int .i64 t102)) (fun _ hk => hk.2) (.int .i64 t103)) (fun _ hk => hk.2) (.int .i64 t104)) (fun _ hk => hk.2) (.slice Ao14 t105.length co14)) (fun _ h_ => h_.1))))) (below_size (by repeat (first | (with_reducible first | exact HB.out | apply below_alloc | apply pw_below_drewN | apply below_drew1 | refine below_set ?_ GE109.out) | exact HB.out)))); have n2_ := Aside0.mk (blk_below (g := gb109) (o := .cells #[.int .i64 t102, .int .i64 t103, .int .i64 t104, .slice Ao14 t105.length co14] 58 (0, 0)) (by (with_reducible repeat (first | refine blk_drewN ?_ _ | refine blk_drew ?_ | refine blk_alloc ?_ _)); refine blk_put (cs := #[.int .i64 t102, .int .i64 t103, .int .i64 t104, .slice none 0 0]) ?_ 3 _ rfl; (with_reducible repeat (first | refine blk_drewN ?_ _ | refine blk_drew ?_ | refine blk_alloc ?_ _)); refine blk_put (cs := #[.int .i64 t102, .int .i64 t103, .int .i64 0, .slice none 0 0]) ?_ 2 _ rfl; (with_reducible repeat (first | refine blk_drewN ?_ _ | refine blk_drew ?_ | refine blk_alloc ?_ _)); refine blk_put (cs := #[.int .i64 t102, .int .i64 0, .int .i64 0, .slice none 0 0]) ?_ 1 _ rfl; (with_reducible repeat (first | refine blk_drewN ?_ _ | refine blk_drew ?_ | refine blk_alloc ?_ _)); refine blk_put (cs := #[.int .i64 0, .int .i64 0, .int .i64 0, .slice none 0 0]) ?_ 0 _ rfl; (with_reducible repeat (first | refine blk_drewN ?_ _ | refine blk_drew ?_ | refine blk_alloc ?_ _)); exact BK109.out) hb); have n3_ := Aside0.mk (below_step (by repeat (first | (with_reducible first | exact HB.out | apply below_alloc | apply pw_below_drewN | apply below_drew1 | refine below_set ?_ GE109.out) | exact HB.out)) hb); clear HO107; clear BK109; clear HB; have HO107 := n0_; have HO115 := n1_; have BK109 := n2_; have HB := n3_; clear n0_ n1_ n2_ n3_; (try clear hb); (try clear hb2); (try clear hk); (try clear hi); (try clear ho0)) | ((with_reducible refine gate_dst (N := 5) rfl ?_); refine box_event ?hg (N := 5) ?hd (cs := #[.int .i64 0, .int .i64 0, .int .i64 0, .slice none 0 0]) (t := 61) ?hr ?_; (case hd => rfl); (case hg => rfl); (case hr => first | (go_simp; done) | (go_simp; rfl)); intro gb117 hg w16 hbox hb; have n0_ := Aside0.mk (Kd.R_below (by (with_reducible repeat (first | apply Kd.R_alloc | apply Kd.R_drewN | apply Kd.R_drew)); exact HO107.out) hb); have n1_ := Aside0.mk (Kd.R_below (by (with_reducible repeat (first | apply Kd.R_alloc | apply Kd.R_drewN | apply Kd.R_drew)); exact HO115.out) hb); have n2_ := Aside0.mk (blk_below (g := gb109) (o := .cells #[.int .i64 t102, .int .i64 t103, .int .i64 t104, .slice Ao14 t105.length co14] 58 (0, 0)) (by (with_reducible repeat (first | refine blk_drewN ?_ _ | refine blk_drew ?_ | refine blk_alloc ?_ _)); exact BK109.out) hb); have n3_ := Aside0.mk (below_step (by repeat (first | (with_reducible first | exact HB.out | apply below_alloc | apply pw_below_drewN | apply below_drew1 | refine below_set ?_ GE109.out) | exact HB.out)) hb); have n4_ := Aside0.mk (hbox); have n5_ := Aside0.mk ((by rw [hg]; exact (below_size (by repeat (first | (with_reducible first | exact HB.out | apply below_alloc | apply pw_below_drewN | apply below_drew1 | refine below_set ?_ GE109.out) | exact HB.out))) : w.heap.size ≤ gb117)); have n6_ := Aside0.mk ((by rw [hg]; exact (below_size (by repeat (first | (with_reducible first | exact HB.out | apply below_alloc | apply pw_below_drewN | apply below_drew1 | refine below_set ?_ GE109.out) | exact HB.out))) : w.heap.size ≤ gb117)); have n7_ := Aside0.mk ((by rw [hg]; exact Nat.ne_of_lt (blk_lt (g := gb109) (o := .cells #[.int .i64 t102, .int .i64 t103, .int .i64 t104, .slice Ao14 t105.length co14] 58 (0, 0)) (by (with_reducible repeat (first | refine blk_drewN ?_ _ | refine blk_drew ?_ | refine blk_alloc ?_ _)); exact BK109.out)) : gb109 ≠ gb117)); have n8_ := Aside0.mk ((by rw [hg]; exact Nat.ne_of_gt (blk_lt (g := gb109) (o := .cells #[.int .i64 t102, .int .i64 t103, .int .i64 t104, .slice Ao14 t105.length co14] 58 (0, 0)) (by (with_reducible repeat (first | refine blk_drewN ?_ _ | refine blk_drew ?_ | refine blk_alloc ?_ _)); exact BK109.out)) : gb117 ≠ gb109)); clear HO107; clear HO115; clear BK109; clear HB; have HO107 := n0_; have HO115 := n1_; have BK109 := n2_; have HB := n3_; have BK117 := n4_; have GW117 := n5_; have GE117 := n6_; have NB109_117 := n7_; have NB117_109 := n8_; clear n0_ n1_ n2_ n3_ n4_ n5_ n6_ n7_ n8_; clear hb hbox hg; have hnb17 := NB117_109.out; have hnc17 := NB109_117.out; have hcz18_0 : w16.cell? ⟨gb117, 0, none⟩ = some (.int .i64 0) := (blk_cell BK117.out 0).trans rfl; have hcz18_1 : w16.cell? ⟨gb117, 1, none⟩ = some (.int .i64 0) := (blk_cell BK117.out 1).trans rfl; have hcz18_2 : w16.cell? ⟨gb117, 2, none⟩ = some (.int .i64 0) := (blk_cell BK117.out 2).trans rfl; have hcz18_3 : w16.cell? ⟨gb117, 3, none⟩ = some (.slice none 0 0) := (blk_cell BK117.out 3).trans rfl; have hfz18_0 := blk_frozen BK117.out 0; have hfz18_1 := blk_frozen BK117.out 1; have hfz18_2 := blk_frozen BK117.out 2; have hfz18_3 := blk_frozen BK117.out 3; obtain ⟨Ao19, co19, eo19⟩ := Kd.R_slice HO115.out; subst eo19; have hcz20_0 : w16.cell? ⟨gb109, 0, none⟩ = some (.int .i64 t102) := (blk_cell BK109.out 0).trans rfl; have hcz20_1 : w16.cell? ⟨gb109, 1, none⟩ = some (.int .i64 t103) := (blk_cell BK109.out 1).trans rfl; have hcz20_2 : w16.cell? ⟨gb109, 2, none⟩ = some (.int .i64 t104) := (blk_cell BK109.out 2).trans rfl; have hcz20_3 : w16.cell? ⟨gb109, 3, none⟩ = some (.slice Ao14 t105.length co14) := (blk_cell BK109.out 3).trans rfl; have hfz20_0 := blk_frozen BK109.out 0; have hfz20_1 := blk_frozen BK109.out 1; have hfz20_2 := blk_frozen BK109.out 2; have hfz20_3 := blk_frozen BK109.out 3; have hcv21 := own_string (P := Try.prog) Try.underlying51 Try.underlying5 Try.underlying9 (Kd.own_of_R (Kd.R_mono (Kd.R_far (p := ⟨gb117, 3, none⟩) (Kd.R_far (p := ⟨gb117, 2, none⟩) (Kd.R_far (p := ⟨gb117, 1, none⟩) (Kd.R_far (p := ⟨gb117, 0, none⟩) (Kd.R_types HO107.out BK117.out (by decide)) (fun _ hk => hk.2) (.int .i64 t110)) (fun _ hk => hk.2) (.int .i64 t111)) (fun _ hk => hk.2) (.int .i64 t112)) (fun _ hk => hk.2) (.slice Ao19 t113.length co19)) (fun _ h_ => h_.1))); have hcv22 := own_string (P := Try.prog) Try.underlying51 Try.underlying5 Try.underlying9 (Kd.own_of_R (Kd.R_mono (Kd.R_far (p := ⟨gb117, 3, none⟩) (Kd.R_far (p := ⟨gb117, 2, none⟩) (Kd.R_far (p := ⟨gb117, 1, none⟩) (Kd.R_far (p := ⟨gb117, 0, none⟩) (Kd.R_types HO115.out BK117.out (by decide)) (fun _ hk => hk.2) (.int .i64 t110)) (fun _ hk => hk.2) (.int .i64 t111)) (fun _ hk => hk.2) (.int .i64 t112)) (fun _ hk => hk.2) (.slice Ao19 t113.length co19)) (fun _ h_ => h_.1)))))
      go_ret
      exact ⟨by first | rfl | (simp [errW_none, errW_some] <;> rfl) | (simp [*, errW_none, errW_some] <;> rfl), by repeat (first | (with_reducible first | exact HB.out | apply below_alloc | apply pw_below_drewN | apply below_drew1 | refine below_set ?_ GE109.out | refine below_set ?_ GE117.out) | exact HB.out)⟩
     ·rw [if_neg c9] at H
      have c9b0 : (t104 == t112) = false := beq_eq_false_iff_ne.mpr c9
      have c9b1 : (t104 != t112) = true := bne_iff_ne.mpr c9
      exact absurd (hr_.symm.trans (Option.some.inj H).symm) (by decide)
    ·rw [if_neg c8] at H
     have c8b0 : (t103 == t111) = false := beq_eq_false_iff_ne.mpr c8
     have c8b1 : (t103 != t111) = true := bne_iff_ne.mpr c8
     exact absurd (hr_.symm.trans (Option.some.inj H).symm) (by decide)
   ·rw [if_neg c7] at H
    have c7b0 : (t102 == t110) = false := beq_eq_false_iff_ne.mpr c7
    have c7b1 : (t102 != t110) = true := bne_iff_ne.mpr c7
    exact absurd (hr_.symm.trans (Option.some.inj H).symm) (by decide)
  ·rw [if_neg c6] at H
   have c6b0 : (t108 == t116) = false := beq_eq_false_iff_ne.mpr c6
   have c6b1 : (t108 != t116) = true := bne_iff_ne.mpr c6
   exact absurd (hr_.symm.trans (Option.some.inj H).symm) (by decide)
 ·replace c3 := Bool.eq_false_iff.mpr c3
  subst c3
  have H1 : (some false) = some r := by rw [if_neg (show ¬ (false = true) by decide)] at H; exact H
  clear H
  have H := H1
  clear H1
  exact absurd (hr_.symm.trans (Option.some.inj H).symm) (by decide)
end Go.Proofs.Ytnjddjpohobelaa.XB
end
section
namespace Go.Proofs.Ytnjddjpohobelaa.RTwinOpens
open Go.RowKit Go.Proofs.YtnjddjpohobelaaW.PrintWords Go.Proofs.YtnjddjpohobelaaW.PrintLast Go.Proofs.YtnjddjpohobelaaW.PrintMore Go.Proofs.Ytnjddjpohobelaa.XB Go.Proofs.Ytnjddjpohobelaa.XOpen
set_option linter.unusedVariables false
/-- The pure statement of the law. -/
def Pure : Prop := ∀ (x0 : List Int), (x0.length ≤ 9223372036854775807 ∧ ∀ y_ ∈ x0, (Lit.int .u8 y_).wf = true) → ∃ k, substationlaw16_TwinOpens.f k x0 = some true
end Go.Proofs.Ytnjddjpohobelaa.RTwinOpens
end
section
namespace Go.Proofs.Ytnjddjpohobelaa.Pure
open Go.RowKit Go.Proofs.YtnjddjpohobelaaW.PrintWords Go.Proofs.YtnjddjpohobelaaW.PrintMore Go.Proofs.Ytnjddjpohobelaa.XB
theorem TwinOpens : RTwinOpens.Pure := by
  intro x0 h
  refine ⟨2, ?_⟩
  unfold substationlaw16_TwinOpens.f
  have ho : twin_Open.f x0 = some (tw_openF x0) := by
    unfold twin_Open.f
    rw [if_pos h.1]
  rw [TwO.known, Option.bind_some, if_pos rfl, ho, Option.bind_some, TwO.refOpen x0 h.1, Option.bind_some, if_pos rfl, if_pos rfl, if_pos rfl, if_pos rfl, beq_self_eq_true]
end Go.Proofs.Ytnjddjpohobelaa.Pure
end
