/- A part of the proof of the law ringWays_holds: general lemmas, functions of the program as plain functions with proofs that the calls compute them, and what they compute; merged from this session's texts. -/
import Derived.Test.YtnjddjpohobelaaMRWays6
import Derived.RangeFuncNested
import Derived.RangeFuncBound
import Derived.RangeFuncCalls
import Derived.RangeFuncLeaves
import Derived.Shelf.Abstract
import Derived.Shelf.RegionOpen
import Derived.OwnWalkIn
import Derived.TacticsInMore
import Derived.LoopNIn
import Derived.LoopIn
import Derived.WalkKit
section
namespace Go.Proofs.Ytnjddjpohobelaa.XB
open Go.RowKit Go.Proofs.YtnjddjpohobelaaW.PrintWords Go.Proofs.YtnjddjpohobelaaW.PrintLast Go.Proofs.YtnjddjpohobelaaW.PrintMore
attribute [local go_sem] max2_int min2_int max_two min_two max_three min_three max_four min_four   -- for this text's walks alone
set_option linter.unusedVariables false
set_option linter.unusedSimpArgs false
/-! ### (ring.Ring).way: the iterator -/
/-- The next node of a way, and the link that leads to it. -/
def rgNext (n d v : Int) : Int := if d = 1 then (v + n - 1) % n else (v + 1) % n
def rgLink (n d v : Int) : Int := if d = 1 then (v + n - 1) % n else v
/-- The nodes of a way with their hops: k hops are left at most. -/
def rgWay (cut : List Bool) (d : Int) : Nat → Int → Int → List (Int × Int)
  | 0, _, _ => []
  | k + 1, v, h => if rdOf false cut (rgLink cut.length d v) = true then [] else (rgNext cut.length d v, h) :: rgWay cut d k (rgNext cut.length d v) (h + 1)
theorem rg_next_in {n d v : Int} (hn : 0 < n) (_h0 : 0 ≤ v) : 0 ≤ rgNext n d v ∧ rgNext n d v < n := by
  unfold rgNext
  split
  · exact ⟨Int.emod_nonneg _ (by omega), Int.emod_lt_of_pos _ hn⟩
  · exact ⟨Int.emod_nonneg _ (by omega), Int.emod_lt_of_pos _ hn⟩
/-- What the iterator hands out: a node and a number of hops. -/
abbrev RgP (n : Nat) := { x : Int × Int // (0 ≤ x.1 ∧ x.1 < n) ∧ 0 < x.2 ∧ x.2 < n }
abbrev rgEnc (n : Nat) (x : RgP n) : Array Value := #[.int .i64 x.1.1, .int .i64 x.1.2]
/-- What a round must keep: the blocks of S. -/
def RgK (S : Nat → Prop) (W W' : World) : Prop := ∀ b, S b → W'.heap[b]? = W.heap[b]?
theorem RgK.cell {S : Nat → Prop} {W W' : World} (h : RgK S W W') {p : Addr} (hp : S p.block) : W'.cell? p = W.cell? p := by
  simp only [World.cell?, h _ hp]
theorem RgK.trans {S : Nat → Prop} {A B C : World} (h : RgK S A B) (k : RgK S B C) : RgK S A C := fun b hb => (k b hb).trans (h b hb)
theorem RgK.of_below {S : Nat → Prop} {n : Nat} {W W' : World} (h : Below n W W') (hS : ∀ b, S b → b < n) : RgK S W W' := fun b hb => h.block b (hS b hb)
theorem RgK.putObj {S : Nat → Prop} {n : Nat} (hS : ∀ b, S b → b < n) : ∀ (W : World) (l : Nat) (o o' : Obj), n ≤ l → W.heap[l]? = some o → o.isCells = false → o.isWalk = false → RgK S W (W.putObj l o') := fun W l o o' hl h _ _ => fun b hb => (grownBy_putObj' W l o').block b (by have := hS b hb; have := (Array.getElem?_eq_some_iff.1 h).1; omega) (by have := hS b hb; intro e; cases e; omega)
section
attribute [local go_sem] Oper.semAt_some
set_option maxHeartbeats 4000000 in
set_option maxRecDepth 100000 in
theorem rg_way_stops (F : Fence) (nF : Nat) (h62 : F.fn 62) (hro : F.round = none) (hnF : 1 ≤ nF) (cut : List Bool) (A : Option Addr) (c : Nat) (fr d : Int) (g1 g2 g3 : Nat) (S : Nat → Prop) (w : World)
    (hn3 : 3 ≤ cut.length) (hn1 : cut.length < 1000000) (hfr : 0 ≤ fr ∧ fr < cut.length) (hd : d = 0 ∨ d = 1) (hSw : ∀ b, S b → b < w.heap.size)
    (hb1 : S g1) (hb2 : S g2) (hb3 : S g3) (hbA : ∀ a, A = some a → S a.block)
    (h1 : w.cell? ⟨g1, 0, none⟩ = some (.slice A cut.length c)) (h2 : w.cell? ⟨g2, 0, none⟩ = some (.int .i64 fr)) (h3 : w.cell? ⟨g3, 0, none⟩ = some (.int .i64 d)) (hC : Kd.C Kd.bool w A cut.length cut) :
    SeqStopsK F nF Try.prog 62 #[.pointer (some ⟨g1, 0, none⟩), .pointer (some ⟨g2, 0, none⟩), .pointer (some ⟨g3, 0, none⟩)] (rgEnc cut.length) (RgK S) (fun xs => xs.map (·.1) = rgWay cut d (cut.length - 1) fr 1) (fun pre => pre.map (·.1) <+: rgWay cut d (cut.length - 1) fr 1) cut.length w := fun l J Jx W hW _ _ hY h0 => by
  refine callsIn_of_wp Try.func62 rfl h62 ?_ hro
  simp only [Try.ntmps62, List.size_toArray, List.length_cons, List.length_nil, Nat.reduceAdd, Nat.reduceSub, Array.replicate_succ, Array.replicate_zero, List.push_toArray, List.append_toArray, List.nil_append, List.cons_append]
  have hBW : RgK S w W := RgK.of_below hW hSw
  have HC := Aside0.mk hC
  have HD := Aside0.mk hd
  have H1 := Aside0.mk h1
  have H2 := Aside0.mk h2
  have H3 := Aside0.mk h3
  have HY := Aside0.mk hY
  obtain ⟨ad, e⟩ : ∃ ad, A = some ad := by obtain ⟨ad, e, _⟩ := hC.2.2 (by omega); exact ⟨ad, e⟩
  subst e
  have hbA' := hbA ad rfl
  clear hbA
  have q1 : W.cell? ⟨g1, 0, none⟩ = some (.slice (some ad) cut.length c) := (hBW.cell (p := ⟨g1, 0, none⟩) hb1).trans h1
  have q2 : W.cell? ⟨g2, 0, none⟩ = some (.int .i64 fr) := (hBW.cell (p := ⟨g2, 0, none⟩) hb2).trans h2
  have HB := Aside0.mk hBW
  have HW := Aside0.mk hW
  clear hC hd h1 h2 h3 hY hW hBW
  gi_wp2
  gi_loopw [6, 7, 8] (fun s6 s7 _ wr => ∃ (pre : List (RgP cut.length)) (k : Nat) (v : Int), s6 = .int .i64 v ∧ s7 = .int .i64 ((cut.length - k : Nat) : Int) ∧ k + 1 ≤ cut.length ∧ 0 ≤ v ∧ v < cut.length ∧ Aside0 (J pre wr) ∧ Aside0 (RgK S w wr) ∧ pre.length + k + 1 = cut.length ∧
      Aside0 (pre.map (·.1) ++ rgWay cut d k v ((cut.length - k : Nat) : Int) = rgWay cut d (cut.length - 1) fr 1))
    (fun _ s7 _ _ => cut.length - (intOf s7).toNat)
  case atStart =>
    exact ⟨[], cut.length - 1, fr, rfl, by rw [show cut.length - (cut.length - 1) = 1 by omega]; rfl, by omega, hfr.1, hfr.2, ⟨h0⟩, HB, by simp; omega, ⟨by rw [show cut.length - (cut.length - 1) = 1 by omega]; rfl⟩⟩
  case round =>
    clear HB
    obtain ⟨pre, k, v, rfl, rfl, hk, hv0, hv1, HJ, HB, hpl, HR⟩ := hrel
    cases k with
    | zero =>
      have hlt : ¬ (cut.length : Int) < cut.length := by omega
      gi_wp2
      go_end0
      exact ⟨⟨_, rfl⟩, .inl ⟨pre, by have := HR.out; simpa [rgWay] using this, HJ.out⟩⟩
    | succ k =>
      have hh1 : (0 : Int) < ((cut.length - (k + 1) : Nat) : Int) := by omega
      have hh2 : ((cut.length - (k + 1) : Nat) : Int) < cut.length := by omega
      obtain ⟨h, hhd⟩ : ∃ h : Nat, h = cut.length - (k + 1) := ⟨_, rfl⟩
      have HH := Aside0.mk hhd
      have hn := rg_next_in (n := cut.length) (d := d) (v := v) (by omega) hv0
      have hl0 : 0 ≤ rgLink cut.length d v ∧ rgLink cut.length d v < cut.length := by
        unfold rgLink
        split
        · exact ⟨Int.emod_nonneg _ (by omega), Int.emod_lt_of_pos _ (by omega)⟩
        · exact ⟨hv0, hv1⟩
      obtain ⟨ad', e', hcl⟩ := Kd.at_bool HC.out (rgLink cut.length d v) hl0.1 hl0.2
      cases e'
      replace hcl := (HB.out.cell (p := ad.add (rgLink cut.length d v).toNat) (by unfold Addr.add; split <;> exact hbA')).trans hcl
      have q1 : wr.cell? ⟨g1, 0, none⟩ = some (.slice (some ad) cut.length c) := (HB.out.cell (p := ⟨g1, 0, none⟩) hb1).trans H1.out
      have q3 : wr.cell? ⟨g3, 0, none⟩ = some (.int .i64 d) := (HB.out.cell (p := ⟨g3, 0, none⟩) hb3).trans H3.out
      have HRR := HR.out
      rw [rgWay, ← hhd] at HRR
      have HR2 := Aside0.mk HRR
      rw [← hhd] at hh1 hh2 ⊢
      clear HR HRR hhd
      obtain ⟨fn, tmps, assign, body, hy, hRr⟩ := HY.out pre ⟨(rgNext cut.length d v, (h : Int)), hn, hh1, hh2⟩ wr HJ.out (by omega)
      dsimp only [rgEnc] at hy
      have HRr := Aside0.mk hRr
      clear hRr
      rcases HD.out with hd0 | hd0
      all_goals
        subst hd0
        clear HD
        cases hbc : rdOf false cut (rgLink (cut.length : Int) _ v)
        all_goals
          rw [hbc] at hcl
          have HBC := Aside0.mk hbc
          clear hbc
      · simp only [rgLink, rgNext, show ¬ (0 : Int) = 1 by decide, if_false] at hcl hy hn hl0
        obtain ⟨hn0, hn1⟩ := hn
        obtain ⟨hl0a, hl0b⟩ := hl0
        gi_wp2
        refine HRr.out.mono ?_
        rintro e W3 (⟨rfl, hJ3, hk3⟩ | ⟨rfl, hJx3⟩)
        · have HJ3 := Aside0.mk hJ3
          have HB3 := Aside0.mk (HB.out.trans hk3)
          clear hJ3 hk3 HJ HB hcl q1 q3 hy HRr
          gi_wp2
          go_roundw
          case rel => exact ⟨_, k, (v + 1) % (cut.length : Int), rfl, by rw [HH.out]; first | rfl | (congr 1; omega), by omega, hn0, hn1, HJ3, HB3, by simp; omega, ⟨by have := HR2.out; rw [HBC.out] at this; rw [show ((cut.length - k : Nat) : Int) = (h : Int) + 1 by have := HH.out; omega]; simpa [rgNext] using this⟩⟩
          case measure => have := HH.out; simp [intOf]; omega
        · have HJ3 := Aside0.mk hJx3
          clear hJx3 HJ HB hcl q1 q3 hy HRr
          gi_wp2
          refine bodyPost_ret (results_none rfl _ _ _) rfl ?_
          exact ⟨⟨_, rfl⟩, .inr ⟨_, ⟨rgWay cut 0 k (rgNext cut.length 0 v) ((h : Int) + 1), by have := HR2.out; rw [HBC.out] at this; simpa [rgNext] using this⟩, HJ3.out⟩⟩
      · simp only [rgLink, rgNext, show ¬ (0 : Int) = 1 by decide, if_false] at hcl hy hn hl0
        obtain ⟨hn0, hn1⟩ := hn
        obtain ⟨hl0a, hl0b⟩ := hl0
        gi_wp2
        refine ⟨fun _ h => (by cases h), ?_⟩
        gi_wp2
        refine bodyPost_ret (results_none rfl _ _ _) rfl ?_
        exact ⟨⟨_, rfl⟩, .inl ⟨pre, by have := HR2.out; rw [HBC.out] at this; simpa using this, HJ.out⟩⟩
      · simp only [rgLink, rgNext, if_true] at hcl hy hn hl0
        obtain ⟨hn0, hn1⟩ := hn
        obtain ⟨hl0a, hl0b⟩ := hl0
        gi_wp2
        refine HRr.out.mono ?_
        rintro e W3 (⟨rfl, hJ3, hk3⟩ | ⟨rfl, hJx3⟩)
        · have HJ3 := Aside0.mk hJ3
          have HB3 := Aside0.mk (HB.out.trans hk3)
          clear hJ3 hk3 HJ HB hcl q1 q3 hy HRr
          gi_wp2
          go_roundw
          case rel => exact ⟨_, k, (v + cut.length - 1) % (cut.length : Int), rfl, by rw [HH.out]; first | rfl | (congr 1; omega), by omega, hn0, hn1, HJ3, HB3, by simp; omega, ⟨by have := HR2.out; rw [HBC.out] at this; rw [show ((cut.length - k : Nat) : Int) = (h : Int) + 1 by have := HH.out; omega]; simpa [rgNext] using this⟩⟩
          case measure => have := HH.out; simp [intOf]; omega
        · have HJ3 := Aside0.mk hJx3
          clear hJx3 HJ HB hcl q1 q3 hy HRr
          gi_wp2
          refine bodyPost_ret (results_none rfl _ _ _) rfl ?_
          exact ⟨⟨_, rfl⟩, .inr ⟨_, ⟨rgWay cut 1 k (rgNext cut.length 1 v) ((h : Int) + 1), by have := HR2.out; rw [HBC.out] at this; simpa [rgNext] using this⟩, HJ3.out⟩⟩
      · simp only [rgLink, rgNext, if_true] at hcl hy hn hl0
        obtain ⟨hn0, hn1⟩ := hn
        obtain ⟨hl0a, hl0b⟩ := hl0
        gi_wp2
        refine ⟨fun _ h => (by cases h), ?_⟩
        gi_wp2
        refine bodyPost_ret (results_none rfl _ _ _) rfl ?_
        exact ⟨⟨_, rfl⟩, .inl ⟨pre, by have := HR2.out; rw [HBC.out] at this; simpa using this, HJ.out⟩⟩
end
/-! ### (ring.Ring).has and way -/
def rgHas (cut : List Bool) (v : Int) : Bool := decide (3 ≤ cut.length) && decide (cut.length ≤ 40) && decide (0 ≤ v) && decide (v < cut.length)
set_option maxHeartbeats 1000000 in
set_option maxRecDepth 100000 in
theorem rg_has (A : Option Addr) (c : Nat) (cut : List Bool) (v : Int) (w : World) (hr : Kd.C Kd.bool w A cut.length cut) (hc : cut.length ≤ c) :
    Calls Try.prog 54 #[.agg #[.slice A cut.length c], .int .i64 v] w fun e w' => e = .returned (.bool (rgHas cut v)) ∧ Below w.heap.size w w' := by
  have HR := Aside0.mk hr
  have HC := Aside0.mk hc
  obtain ⟨r, hcr⟩ : ∃ r, ring_Check.f cut = some r := by unfold ring_Check.f; split <;> (try split) <;> exact ⟨_, rfl⟩
  have hr0 : r = 0 ↔ 3 ≤ cut.length ∧ cut.length ≤ 40 := by
    unfold ring_Check.f at hcr
    split at hcr
    · simp only [Option.some.injEq] at hcr; omega
    · split at hcr <;> simp only [Option.some.injEq] at hcr <;> omega
  have CR := Aside0.mk hcr
  generalize hb : rgHas cut v = b
  have HBB := Aside0.mk hb
  have hu67 := Try.underlying67
  clear hr hc hcr hb
  by_cases h0 : r = 0
  · subst h0
    have h1 := hr0.1 rfl
    clear hr0
    obtain ⟨h1a, h1b⟩ := h1
    by_cases h2 : 0 ≤ v
    · by_cases h3 : v < cut.length
      · have : b = true := by rw [← HBB.out]; unfold rgHas; simp [h1a, h1b, h2, h3]
        subst this
        go_enter Try.func54, Try.ntmps54
        go_wp2_with (go_at_call 37; refine (ring_Check.calls A c cut 0 _ (Kd.C_alloc HR.out _) HC.out CR.out).mono ?_; rintro e w' ⟨rfl, hb⟩; have HB2 := Aside0.mk hb; have hcc := (hb.cell (p := ⟨w.heap.size, 0, none⟩) (by simp)).trans (World.cell?_alloc_at (w := w) #[.slice A cut.length c] 67 w.heap.size 0 rfl); clear hb)
        go_ret
        exact ⟨rfl, ((Below.refl _ _).alloc (Nat.le_refl _) _).trans (HB2.out.mono (by simp))⟩
      · have : b = false := by rw [← HBB.out]; unfold rgHas; simp [h3]
        subst this
        have hd3 : decide (v < (cut.length : Int)) = false := decide_eq_false h3
        go_enter Try.func54, Try.ntmps54
        go_wp2_with (go_at_call 37; refine (ring_Check.calls A c cut 0 _ (Kd.C_alloc HR.out _) HC.out CR.out).mono ?_; rintro e w' ⟨rfl, hb⟩; have HB2 := Aside0.mk hb; have hcc := (hb.cell (p := ⟨w.heap.size, 0, none⟩) (by simp)).trans (World.cell?_alloc_at (w := w) #[.slice A cut.length c] 67 w.heap.size 0 rfl); clear hb)
        go_ret
        exact ⟨rfl, ((Below.refl _ _).alloc (Nat.le_refl _) _).trans (HB2.out.mono (by simp))⟩
    · have : b = false := by rw [← HBB.out]; unfold rgHas; simp [h2]
      subst this
      go_enter Try.func54, Try.ntmps54
      go_wp2_with (go_at_call 37; refine (ring_Check.calls A c cut 0 _ (Kd.C_alloc HR.out _) HC.out CR.out).mono ?_; rintro e w' ⟨rfl, hb⟩; have HB2 := Aside0.mk hb; clear hb)
      go_ret
      exact ⟨rfl, ((Below.refl _ _).alloc (Nat.le_refl _) _).trans (HB2.out.mono (by simp))⟩
  · have h1 : ¬ (3 ≤ cut.length ∧ cut.length ≤ 40) := fun h => h0 (hr0.2 h)
    have hrb : (r == 0) = false := beq_eq_false_iff_ne.2 h0
    have : b = false := by
      rw [← HBB.out]
      unfold rgHas
      by_cases h2 : 3 ≤ cut.length
      · have h3 : ¬ cut.length ≤ 40 := fun h => h1 ⟨h2, h⟩
        simp [h3]
      · simp [h2]
    subst this
    clear hr0 h0 h1
    go_enter Try.func54, Try.ntmps54
    go_wp2_with (go_at_call 37; refine (ring_Check.calls A c cut r _ (Kd.C_alloc HR.out _) HC.out CR.out).mono ?_; rintro e w' ⟨rfl, hb⟩; have HB2 := Aside0.mk hb; clear hb)
    go_ret
    exact ⟨rfl, ((Below.refl _ _).alloc (Nat.le_refl _) _).trans (HB2.out.mono (by simp))⟩
set_option maxHeartbeats 1000000 in
theorem rg_way (A : Option Addr) (n c : Nat) (fr d : Int) (w : World) :
    Calls Try.prog 55 #[.agg #[.slice A n c], .int .i64 fr, .int .i64 d] w fun e w' => e = .returned (.func (.func 62) #[] #[.pointer (some ⟨w.heap.size, 0, none⟩), .pointer (some ⟨w.heap.size + 1, 0, none⟩), .pointer (some ⟨w.heap.size + 2, 0, none⟩)]) ∧
      ((w.alloc (.cells #[.slice A n c] 67)).alloc (.cells #[.int .i64 fr] 3)).alloc (.cells #[.int .i64 d] 3) = w' := by
  go_enter Try.func55, Try.ntmps55
  go_wp2
  go_ret
  exact ⟨rfl, rfl⟩
/-! ### ring.Hops -/
/-- The first node of a way that is the one sought. -/
def rgFind (ps : List (Int × Int)) (tg : Int) : Option (Int × Int) := ps.find? fun p => decide (p.1 = tg)
theorem rg_find_hit {tg : Int} {pre : List (Int × Int)} {x : Int × Int} (h : rgFind pre tg = none) (hx : x.1 = tg) : rgFind (pre ++ [x]) tg = some x := by
  unfold rgFind at *; rw [List.find?_append, h]; simp [hx]
theorem rg_find_miss {tg : Int} {pre : List (Int × Int)} {x : Int × Int} (h : rgFind pre tg = none) (hx : ¬ x.1 = tg) : rgFind (pre ++ [x]) tg = none := by
  unfold rgFind at *; rw [List.find?_append, h]; simp [hx]
theorem rg_find_prefix {tg : Int} {pre full : List (Int × Int)} {x : Int × Int} (h : rgFind pre tg = some x) (hp : pre <+: full) : rgFind full tg = some x := by
  obtain ⟨t, rfl⟩ := hp
  unfold rgFind at *
  rw [List.find?_append, h]; rfl
theorem rg_box4 (w : World) (o1 o2 o3 o4 : Obj) : ∀ W, (((w.alloc o1).alloc o2).alloc o3).alloc o4 = W → W.heap[w.heap.size]? = some o1 ∧ W.heap[w.heap.size + 1]? = some o2 ∧ W.heap[w.heap.size + 1 + 1]? = some o3 ∧ W.heap[w.heap.size + 1 + 1 + 1]? = some o4 ∧ W.heap.size = w.heap.size + 4 ∧ Below w.heap.size w W := by
  rintro W rfl
  refine ⟨blk_alloc (blk_alloc (blk_alloc (blk_new w o1) _) _) _, ?_, ?_, ?_, by simp, ((((Below.refl _ _).alloc (Nat.le_refl _) _).alloc (by simp) _).alloc (by simp; omega) _).alloc (by simp; omega) _⟩
  · have := blk_new (w.alloc o1) o2
    rw [World.size_alloc] at this
    exact blk_alloc (blk_alloc this _) _
  · have := blk_new ((w.alloc o1).alloc o2) o3
    rw [World.size_alloc, World.size_alloc] at this
    exact blk_alloc this _
  · have := blk_new (((w.alloc o1).alloc o2).alloc o3) o4
    rw [World.size_alloc, World.size_alloc, World.size_alloc] at this
    exact this
theorem rg_box3 (w : World) (o1 o2 o3 : Obj) : ∀ W, ((w.alloc o1).alloc o2).alloc o3 = W → W.heap[w.heap.size]? = some o1 ∧ W.heap[w.heap.size + 1]? = some o2 ∧ W.heap[w.heap.size + 2]? = some o3 ∧ W.heap.size = w.heap.size + 3 ∧ Below w.heap.size w W := by
  rintro W rfl
  refine ⟨blk_alloc (blk_alloc (blk_new w o1) _) _, ?_, ?_, by simp, (((Below.refl _ _).alloc (Nat.le_refl _) _).alloc (by simp) _).alloc (by simp; omega) _⟩
  · have := blk_new (w.alloc o1) o2
    rw [World.size_alloc] at this
    exact blk_alloc this _
  · have := blk_new ((w.alloc o1).alloc o2) o3
    rw [World.size_alloc, World.size_alloc] at this
    exact this
/-- What the caller's boxes hold between two rounds, and where a round has left. -/
def RgI (w : World) (tg : Int) {n : Nat} (pre : List (RgP n)) (W : World) : Prop := rgFind (pre.map (·.1)) tg = none ∧ Boxed W (w.heap.size + 1) 3 (.int .i64 tg) ∧ Boxed W (w.heap.size + 1 + 1) 3 (.int .i64 0) ∧ Boxed W (w.heap.size + 1 + 1 + 1) 4 (.bool false) ∧ Below w.heap.size w W
def RgX (w : World) (tg : Int) {n : Nat} (cd : Code) (pre : List (RgP n)) (W : World) : Prop := cd = .ret ∧ ∃ p, rgFind (pre.map (·.1)) tg = some p ∧ Boxed W (w.heap.size + 1 + 1) 3 (.int .i64 p.2) ∧ Boxed W (w.heap.size + 1 + 1 + 1) 4 (.bool true) ∧ Below w.heap.size w W
theorem rg_I_own (w : World) (tg : Int) {n : Nat} (B : Nat) (hB : w.heap.size ≤ B) : OwnFrom B (RgI w tg (n := n)) := fun s X Y row hs hg hr => by
  obtain ⟨h1, h2, h3, h4, h5⟩ := hs
  have hr' : ∀ r, row = some r → ∃ o : Obj, X.heap[r]? = some o ∧ o.isCells = false := fun r e => (hr r e).2
  exact ⟨h1, boxed_own (β := Unit) _ _ (fun _ => _) () X Y row h2 hg hr', boxed_own (β := Unit) _ _ (fun _ => _) () X Y row h3 hg hr', boxed_own (β := Unit) _ _ (fun _ => _) () X Y row h4 hg hr', ownFrom_below (β := Unit) (Nat.le_refl _) hB () X Y row h5 hg hr⟩
theorem rg_X_own (w : World) (tg : Int) {n : Nat} (B : Nat) (hB : w.heap.size ≤ B) : ∀ cd, OwnFrom B (RgX w tg (n := n) cd) := fun cd s X Y row hs hg hr => by
  obtain ⟨h1, p, h2, h3, h4, h5⟩ := hs
  have hr' : ∀ r, row = some r → ∃ o : Obj, X.heap[r]? = some o ∧ o.isCells = false := fun r e => (hr r e).2
  exact ⟨h1, p, h2, boxed_own (β := Unit) _ _ (fun _ => _) () X Y row h3 hg hr', boxed_own (β := Unit) _ _ (fun _ => _) () X Y row h4 hg hr', ownFrom_below (β := Unit) (Nat.le_refl _) hB () X Y row h5 hg hr⟩
def rgHops (cut : List Bool) (fr tg d : Int) : Int × Bool :=
  if rgHas cut fr = true ∧ (d = 0 ∨ d = 1) then (match rgFind (rgWay cut d (cut.length - 1) fr 1) tg with | some p => (p.2, true) | none => (0, false)) else (0, false)
section
attribute [local go_sem] Oper.semAt_some
set_option maxHeartbeats 4000000 in
set_option maxRecDepth 100000 in
theorem rg_hops_yes (A : Option Addr) (c : Nat) (cut : List Bool) (fr tg d : Int) (w : World) (hr : Kd.C Kd.bool w A cut.length cut) (hc : cut.length ≤ c) (hh : rgHas cut fr = true) (hd : d = 0 ∨ d = 1) (r1 : Int) (r2 : Bool)
    (hres : (match rgFind (rgWay cut d (cut.length - 1) fr 1) tg with | some p => (p.2, true) | none => ((0 : Int), false)) = (r1, r2)) :
    Calls Try.prog 34 #[.agg #[.slice A cut.length c], .int .i64 fr, .int .i64 tg, .int .i64 d] w fun e w' =>
      e = .returned (.tuple #[.int .i64 r1, .bool r2]) ∧ Below w.heap.size w w' := by
  have hh' := hh
  unfold rgHas at hh'
  simp only [Bool.and_eq_true, decide_eq_true_eq] at hh'
  obtain ⟨⟨⟨hn3, hn40⟩, hf0⟩, hf1⟩ := hh'
  have HR := Aside0.mk hr
  have HC := Aside0.mk hc
  have HD := Aside0.mk hd
  have HH := Aside0.mk hh
  have HRES := Aside0.mk hres
  clear hr hc hh hres
  refine (callsIn_wide (n := 4)).1 ?_
  have h1 : 1 ≤ 4 := by omega
  have hro : Fence.wide.round = none := rfl
  refine callsIn_of_wp_marks Try.func34 rfl trivial ?_ hro
  simp only [Try.ntmps34, List.size_toArray, List.length_cons, List.length_nil, Nat.reduceAdd, Nat.reduceSub, Array.replicate_succ, Array.replicate_zero, List.push_toArray, List.append_toArray, List.nil_append, List.cons_append]
  have hdd : (d != 0 && d != 1) = false := by rcases HD.out with rfl | rfl <;> rfl
  gi_wp2
  refine ⟨trivial, ?_⟩
  obtain ⟨W4, hW4⟩ : ∃ W4, (((w.alloc (.cells #[.slice A cut.length c] 67)).alloc (.cells #[.int .i64 tg] 3)).alloc (.cells #[.int .i64 0] 3)).alloc (.cells #[.bool false] 4) = W4 := ⟨_, rfl⟩
  obtain ⟨p4, p6, p8, p9, ps, pb⟩ := rg_box4 _ _ _ _ _ W4 hW4
  rw [hW4]
  clear hW4
  refine (callsIn_wide.2 (rg_has A c cut fr W4 (Kd.C_below HR.out pb) HC.out)).mono ?_
  rw [HH.out]
  rintro e w5 ⟨rfl, hb⟩
  have P4 := Aside0.mk (blk_below p4 hb)
  have P6 := Aside0.mk (blk_below p6 hb)
  have P8 := Aside0.mk (blk_below p8 hb)
  have P9 := Aside0.mk (blk_below p9 hb)
  have HB5 := Aside0.mk (below_step pb hb)
  have HS5 := Aside0.mk (show w.heap.size + 4 ≤ w5.heap.size by rw [← ps]; exact hb.size)
  have k4 := (blk_cell P4.out 0).trans rfl
  have k8 := (blk_cell P8.out 0).trans rfl
  have k9 := (blk_cell P9.out 0).trans rfl
  have f8 := blk_frozen P8.out 0
  have f9 := blk_frozen P9.out 0
  clear hb p4 p6 p8 p9 ps pb W4
  rcases HD.out with hd0 | hd0
  all_goals
    subst hd0
    gi_wp2
    refine ⟨trivial, ?_⟩
    refine (callsIn_wide.2 (rg_way A cut.length c fr _ w5)).mono ?_
    rintro e w6 ⟨rfl, hw6⟩
    obtain ⟨r1, r2, r3, rs, rb⟩ := rg_box3 _ _ _ _ w6 hw6
    have Q6 := Aside0.mk (blk_below P6.out rb)
    have Q8 := Aside0.mk (blk_below P8.out rb)
    have Q9 := Aside0.mk (blk_below P9.out rb)
    have HB6 := Aside0.mk (below_step HB5.out rb)
    have R1 := Aside0.mk r1
    have R2 := Aside0.mk r2
    have R3 := Aside0.mk r3
    have RS := Aside0.mk rs
    have HA : Aside0 (∀ a, A = some a → a.block < w6.heap.size) := ⟨fun a ha => by
      obtain ⟨ad, e, hc⟩ := Kd.at_bool HR.out 0 (by omega) (by omega)
      rw [ha] at e; cases e
      have := World.block_lt_of_cell? w _ hc
      have h2 := HB6.out.size
      have h3 : (a.add (0 : Int).toNat).block = a.block := by unfold Addr.add; split <;> rfl
      omega⟩
    clear hw6 r1 r2 r3 rs rb k4 k8 k9 f8 f9
    gi_wp2
  · refine wpIn_rangeFunc_ownF hro h1 (gf := 62) (lb := #[.pointer (some ⟨w5.heap.size, 0, none⟩), .pointer (some ⟨w5.heap.size + 1, 0, none⟩), .pointer (some ⟨w5.heap.size + 2, 0, none⟩)]) rfl trivial (enters_of Try.func62 (by kernel_rfl) rfl)
      (rg_way_stops Fence.wide 3 trivial rfl (by omega) cut A c fr 0 w5.heap.size (w5.heap.size + 1) (w5.heap.size + 2) (fun b => b < w6.heap.size) w6 hn3 (by omega) ⟨hf0, hf1⟩ (by decide) (fun _ h => h) (by rw [RS.out]; omega) (by rw [RS.out]; omega) (by rw [RS.out]; omega) HA.out ((blk_cell R1.out 0).trans rfl) ((blk_cell R2.out 0).trans rfl) ((blk_cell R3.out 0).trans rfl) (Kd.C_below HR.out HB6.out))
      (fun h k => RgK.trans h k) (RgK.putObj (fun _ h => h)) (Below.refl _ _) (fun _ => rfl)
      (RgI w tg) (RgX w tg) (rg_I_own w tg _ HB6.out.size) (rg_X_own w tg _ HB6.out.size) ⟨rfl, Q6.out, Q8.out, Q9.out, HB6.out⟩
      (fun x => { tmps := #[.agg #[.slice A cut.length c], .int .i64 fr, .int .i64 tg, .int .i64 0, .pointer (some ⟨w.heap.size, 0, none⟩), undef, .pointer (some ⟨w.heap.size + 1, 0, none⟩), undef, .pointer (some ⟨w.heap.size + 1 + 1, 0, none⟩), .pointer (some ⟨w.heap.size + 1 + 1 + 1, 0, none⟩), .int .i64 x.1.1, .int .i64 x.1.2, .agg #[.slice A cut.length c], .int .i64 fr, .bool true, .bool false, .bool false, .int .i64 0, .bool false, .bool false, undef, undef, .bool false, .bool false, .agg #[.slice A cut.length c], .int .i64 fr, .int .i64 0, .func (.func 62) #[] #[.pointer (some ⟨w5.heap.size, 0, none⟩), .pointer (some ⟨w5.heap.size + 1, 0, none⟩), .pointer (some ⟨w5.heap.size + 2, 0, none⟩)], .int .i64 x.1.1, .int .i64 x.1.2, undef, undef, undef, undef], defers := [] }) ?assign ?body ?done ?stop
    case assign =>
      intro l x W K hK
      gi_wp2
      exact hK
    case body =>
      rintro l pre ⟨⟨x1, x2⟩, hx⟩ W ⟨hfi, b6, b8, b9, hb⟩ _
      have k6 := b6.cell
      have k8 := b8.cell
      have k9 := b9.cell
      have f8 := b8.frozen
      have f9 := b9.frozen
      dsimp only
      by_cases ht : x1 = tg
      · gi_wp2
        refine ⟨(KeepsOthers.setCell _ _ _).trans (KeepsOthers.setCell _ _ _), rfl, (x1, x2), ?_, (b8.set _).other (B' := w.heap.size + 1 + 1 + 1) (by omega) _, (b9.other (B' := w.heap.size + 1 + 1) (by omega) _).set _, (hb.setCell (p := ⟨w.heap.size + 1 + 1, 0, none⟩) (by show _ ≤ w.heap.size + 1 + 1; omega) _).setCell (p := ⟨w.heap.size + 1 + 1 + 1, 0, none⟩) (by show _ ≤ w.heap.size + 1 + 1 + 1; omega) _⟩
        rw [List.map_append]
        exact rg_find_hit hfi ht
      · gi_wp2
        refine ⟨KeepsOthers.refl _, fun _ _ => rfl, ?_, b6, b8, b9, hb⟩
        rw [List.map_append]
        exact rg_find_miss hfi ht
    case done =>
      rintro D xs W hD hS ⟨hfi, b6, b8, b9, hb⟩ hK
      have k8 := b8.cell
      have k9 := b9.cell
      have f8 := b8.frozen
      have f9 := b9.frozen
      gi_wp2
      have c8 : Boxed _ _ _ _ := (b8.set (.int .i64 0)).other (B' := w.heap.size + 1 + 1 + 1) (by omega) (.bool false)
      have c9 : Boxed _ _ _ _ := (b9.other (B' := w.heap.size + 1 + 1) (by omega) (.int .i64 0)).set (.bool false)
      have hb' := (hb.setCell (p := ⟨w.heap.size + 1 + 1, 0, none⟩) (by show _ ≤ w.heap.size + 1 + 1; omega) (.int .i64 0)).setCell (p := ⟨w.heap.size + 1 + 1 + 1, 0, none⟩) (by show _ ≤ w.heap.size + 1 + 1 + 1; omega) (.bool false)
      have hK' := ((KeepsOthers.setCell W ⟨w.heap.size + 1 + 1, 0, none⟩ (.int .i64 0)).trans (KeepsOthers.setCell _ ⟨w.heap.size + 1 + 1 + 1, 0, none⟩ (.bool false))).same D _ hK rfl
      refine ⟨by simp, .inl ⟨_, _, rfl, run_takeDeferred hK', ?_⟩⟩
      have d8 := cell_kept c8.cell (grownBy_putObj' _ D (.deferred none)) (fun r e => by cases e; exact ⟨_, hK', rfl⟩)
      have d9 := cell_kept c9.cell (grownBy_putObj' _ D (.deferred none)) (fun r e => by cases e; exact ⟨_, hK', rfl⟩)
      have hres := HRES.out
      rw [← hS, hfi] at hres
      cases hres
      refine ⟨_, ?_, rfl, hb'.trans (belowK_b (w := w) (Nat.le_refl _) _ D _ _ (by have := HB6.out.size; omega) hK' rfl rfl)⟩
      simp [results, Try.f34, go_sem, d8, d9]
    case stop =>
      rintro D cd pre W hD hSp ⟨rfl, p, hp, b8, b9, hb⟩ hK
      have k8 := b8.cell
      have k9 := b9.cell
      gi_wp2
      refine ⟨by simp, .inl ⟨_, _, rfl, run_takeDeferred hK, ?_⟩⟩
      have d8 := cell_kept b8.cell (grownBy_putObj' _ D (.deferred none)) (fun r e => by cases e; exact ⟨_, hK, rfl⟩)
      have d9 := cell_kept b9.cell (grownBy_putObj' _ D (.deferred none)) (fun r e => by cases e; exact ⟨_, hK, rfl⟩)
      have hres := HRES.out
      rw [rg_find_prefix hp hSp] at hres
      cases hres
      refine ⟨_, ?_, rfl, hb.trans (belowK_b (w := w) (Nat.le_refl _) _ D _ _ (by have := HB6.out.size; omega) hK rfl rfl)⟩
      simp [results, Try.f34, go_sem, d8, d9]
  · refine wpIn_rangeFunc_ownF hro h1 (gf := 62) (lb := #[.pointer (some ⟨w5.heap.size, 0, none⟩), .pointer (some ⟨w5.heap.size + 1, 0, none⟩), .pointer (some ⟨w5.heap.size + 2, 0, none⟩)]) rfl trivial (enters_of Try.func62 (by kernel_rfl) rfl)
      (rg_way_stops Fence.wide 3 trivial rfl (by omega) cut A c fr 1 w5.heap.size (w5.heap.size + 1) (w5.heap.size + 2) (fun b => b < w6.heap.size) w6 hn3 (by omega) ⟨hf0, hf1⟩ (by decide) (fun _ h => h) (by rw [RS.out]; omega) (by rw [RS.out]; omega) (by rw [RS.out]; omega) HA.out ((blk_cell R1.out 0).trans rfl) ((blk_cell R2.out 0).trans rfl) ((blk_cell R3.out 0).trans rfl) (Kd.C_below HR.out HB6.out))
      (fun h k => RgK.trans h k) (RgK.putObj (fun _ h => h)) (Below.refl _ _) (fun _ => rfl)
      (RgI w tg) (RgX w tg) (rg_I_own w tg _ HB6.out.size) (rg_X_own w tg _ HB6.out.size) ⟨rfl, Q6.out, Q8.out, Q9.out, HB6.out⟩
      (fun x => { tmps := #[.agg #[.slice A cut.length c], .int .i64 fr, .int .i64 tg, .int .i64 1, .pointer (some ⟨w.heap.size, 0, none⟩), undef, .pointer (some ⟨w.heap.size + 1, 0, none⟩), undef, .pointer (some ⟨w.heap.size + 1 + 1, 0, none⟩), .pointer (some ⟨w.heap.size + 1 + 1 + 1, 0, none⟩), .int .i64 x.1.1, .int .i64 x.1.2, .agg #[.slice A cut.length c], .int .i64 fr, .bool true, .bool false, .bool false, .int .i64 1, .bool true, .bool true, .int .i64 1, .bool false, .bool false, .bool false, .agg #[.slice A cut.length c], .int .i64 fr, .int .i64 1, .func (.func 62) #[] #[.pointer (some ⟨w5.heap.size, 0, none⟩), .pointer (some ⟨w5.heap.size + 1, 0, none⟩), .pointer (some ⟨w5.heap.size + 2, 0, none⟩)], .int .i64 x.1.1, .int .i64 x.1.2, undef, undef, undef, undef], defers := [] }) ?assign ?body ?done ?stop
    case assign =>
      intro l x W K hK
      gi_wp2
      exact hK
    case body =>
      rintro l pre ⟨⟨x1, x2⟩, hx⟩ W ⟨hfi, b6, b8, b9, hb⟩ _
      have k6 := b6.cell
      have k8 := b8.cell
      have k9 := b9.cell
      have f8 := b8.frozen
      have f9 := b9.frozen
      dsimp only
      by_cases ht : x1 = tg
      · gi_wp2
        refine ⟨(KeepsOthers.setCell _ _ _).trans (KeepsOthers.setCell _ _ _), rfl, (x1, x2), ?_, (b8.set _).other (B' := w.heap.size + 1 + 1 + 1) (by omega) _, (b9.other (B' := w.heap.size + 1 + 1) (by omega) _).set _, (hb.setCell (p := ⟨w.heap.size + 1 + 1, 0, none⟩) (by show _ ≤ w.heap.size + 1 + 1; omega) _).setCell (p := ⟨w.heap.size + 1 + 1 + 1, 0, none⟩) (by show _ ≤ w.heap.size + 1 + 1 + 1; omega) _⟩
        rw [List.map_append]
        exact rg_find_hit hfi ht
      · gi_wp2
        refine ⟨KeepsOthers.refl _, fun _ _ => rfl, ?_, b6, b8, b9, hb⟩
        rw [List.map_append]
        exact rg_find_miss hfi ht
    case done =>
      rintro D xs W hD hS ⟨hfi, b6, b8, b9, hb⟩ hK
      have k8 := b8.cell
      have k9 := b9.cell
      have f8 := b8.frozen
      have f9 := b9.frozen
      gi_wp2
      have c8 : Boxed _ _ _ _ := (b8.set (.int .i64 0)).other (B' := w.heap.size + 1 + 1 + 1) (by omega) (.bool false)
      have c9 : Boxed _ _ _ _ := (b9.other (B' := w.heap.size + 1 + 1) (by omega) (.int .i64 0)).set (.bool false)
      have hb' := (hb.setCell (p := ⟨w.heap.size + 1 + 1, 0, none⟩) (by show _ ≤ w.heap.size + 1 + 1; omega) (.int .i64 0)).setCell (p := ⟨w.heap.size + 1 + 1 + 1, 0, none⟩) (by show _ ≤ w.heap.size + 1 + 1 + 1; omega) (.bool false)
      have hK' := ((KeepsOthers.setCell W ⟨w.heap.size + 1 + 1, 0, none⟩ (.int .i64 0)).trans (KeepsOthers.setCell _ ⟨w.heap.size + 1 + 1 + 1, 0, none⟩ (.bool false))).same D _ hK rfl
      refine ⟨by simp, .inl ⟨_, _, rfl, run_takeDeferred hK', ?_⟩⟩
      have d8 := cell_kept c8.cell (grownBy_putObj' _ D (.deferred none)) (fun r e => by cases e; exact ⟨_, hK', rfl⟩)
      have d9 := cell_kept c9.cell (grownBy_putObj' _ D (.deferred none)) (fun r e => by cases e; exact ⟨_, hK', rfl⟩)
      have hres := HRES.out
      rw [← hS, hfi] at hres
      cases hres
      refine ⟨_, ?_, rfl, hb'.trans (belowK_b (w := w) (Nat.le_refl _) _ D _ _ (by have := HB6.out.size; omega) hK' rfl rfl)⟩
      simp [results, Try.f34, go_sem, d8, d9]
    case stop =>
      rintro D cd pre W hD hSp ⟨rfl, p, hp, b8, b9, hb⟩ hK
      have k8 := b8.cell
      have k9 := b9.cell
      gi_wp2
      refine ⟨by simp, .inl ⟨_, _, rfl, run_takeDeferred hK, ?_⟩⟩
      have d8 := cell_kept b8.cell (grownBy_putObj' _ D (.deferred none)) (fun r e => by cases e; exact ⟨_, hK, rfl⟩)
      have d9 := cell_kept b9.cell (grownBy_putObj' _ D (.deferred none)) (fun r e => by cases e; exact ⟨_, hK, rfl⟩)
      have hres := HRES.out
      rw [rg_find_prefix hp hSp] at hres
      cases hres
      refine ⟨_, ?_, rfl, hb.trans (belowK_b (w := w) (Nat.le_refl _) _ D _ _ (by have := HB6.out.size; omega) hK rfl rfl)⟩
      simp [results, Try.f34, go_sem, d8, d9]
end
set_option maxHeartbeats 4000000 in
set_option maxRecDepth 100000 in
theorem rg_hops_no (A : Option Addr) (c : Nat) (cut : List Bool) (fr tg d : Int) (w : World) (hr : Kd.C Kd.bool w A cut.length cut) (hc : cut.length ≤ c) (hh : ¬ (rgHas cut fr = true ∧ (d = 0 ∨ d = 1))) :
    Calls Try.prog 34 #[.agg #[.slice A cut.length c], .int .i64 fr, .int .i64 tg, .int .i64 d] w fun e w' =>
      e = .returned (.tuple #[.int .i64 0, .bool false]) ∧ Below w.heap.size w w' := by
  obtain ⟨W4, hW4⟩ : ∃ W4, (((w.alloc (.cells #[.slice A cut.length c] 67)).alloc (.cells #[.int .i64 tg] 3)).alloc (.cells #[.int .i64 0] 3)).alloc (.cells #[.bool false] 4) = W4 := ⟨_, rfl⟩
  obtain ⟨p4, p6, p8, p9, ps, pb⟩ := rg_box4 _ _ _ _ _ W4 hW4
  have hcall := rg_has A c cut fr W4 (Kd.C_below hr pb) hc
  have P8' := Aside0.mk p8
  have P9' := Aside0.mk p9
  have PB := Aside0.mk pb
  have HH := Aside0.mk hh
  have HW4 := Aside0.mk hW4
  clear p4 p6 p8 p9 ps pb hr hc hh hW4
  rcases hq : rgHas cut fr with _ | _
  · have HQ := Aside0.mk hq
    rw [hq] at hcall
    have HCALL := Aside0.mk hcall
    clear hq hcall
    go_enter Try.func34, Try.ntmps34
    go_wp2_with (go_at_call 54; rw [HW4.out]; refine HCALL.out.mono ?_; rintro e w5 ⟨rfl, hb⟩; have P8 := Aside0.mk (blk_below P8'.out hb); have P9 := Aside0.mk (blk_below P9'.out hb); have HB5 := Aside0.mk (below_step PB.out hb); have k8 := (blk_cell P8.out 0).trans rfl; have k9 := (blk_cell P9.out 0).trans rfl; have f8 := blk_frozen P8.out 0; have f9 := blk_frozen P9.out 0; clear hb)
    have c8 : Boxed _ _ _ _ := (Boxed.set (.int .i64 0) P8.out).other (B' := w.heap.size + 1 + 1 + 1) (by omega) (.bool false)
    have c9 : Boxed _ _ _ _ := (Boxed.other P9.out (B' := w.heap.size + 1 + 1) (by omega) (.int .i64 0)).set (.bool false)
    have hb' := (HB5.out.setCell (p := ⟨w.heap.size + 1 + 1, 0, none⟩) (by show _ ≤ w.heap.size + 1 + 1; omega) (.int .i64 0)).setCell (p := ⟨w.heap.size + 1 + 1 + 1, 0, none⟩) (by show _ ≤ w.heap.size + 1 + 1 + 1; omega) (.bool false)
    have d8 := c8.cell
    have d9 := c9.cell
    refine bodyPost_ret (v := .tuple #[.int .i64 0, .bool false]) ?_ rfl ⟨rfl, hb'⟩
    simp [results, Try.f34, go_sem, d8, d9]
  · have hdn : ¬ (d = 0 ∨ d = 1) := fun h => HH.out ⟨hq, h⟩
    have hd0 : (d != 0) = true := bne_iff_ne.2 fun h => hdn (.inl h)
    have hd1 : (d != 1) = true := bne_iff_ne.2 fun h => hdn (.inr h)
    have hd0' : (d == 0) = false := beq_eq_false_iff_ne.2 fun h => hdn (.inl h)
    have hd1' : (d == 1) = false := beq_eq_false_iff_ne.2 fun h => hdn (.inr h)
    rw [hq] at hcall
    have HCALL := Aside0.mk hcall
    clear hq hcall hdn
    go_enter Try.func34, Try.ntmps34
    go_wp2_with (go_at_call 54; rw [HW4.out]; refine HCALL.out.mono ?_; rintro e w5 ⟨rfl, hb⟩; have P8 := Aside0.mk (blk_below P8'.out hb); have P9 := Aside0.mk (blk_below P9'.out hb); have HB5 := Aside0.mk (below_step PB.out hb); have k8 := (blk_cell P8.out 0).trans rfl; have k9 := (blk_cell P9.out 0).trans rfl; have f8 := blk_frozen P8.out 0; have f9 := blk_frozen P9.out 0; clear hb)
    have c8 : Boxed _ _ _ _ := (Boxed.set (.int .i64 0) P8.out).other (B' := w.heap.size + 1 + 1 + 1) (by omega) (.bool false)
    have c9 : Boxed _ _ _ _ := (Boxed.other P9.out (B' := w.heap.size + 1 + 1) (by omega) (.int .i64 0)).set (.bool false)
    have hb' := (HB5.out.setCell (p := ⟨w.heap.size + 1 + 1, 0, none⟩) (by show _ ≤ w.heap.size + 1 + 1; omega) (.int .i64 0)).setCell (p := ⟨w.heap.size + 1 + 1 + 1, 0, none⟩) (by show _ ≤ w.heap.size + 1 + 1 + 1; omega) (.bool false)
    have d8 := c8.cell
    have d9 := c9.cell
    refine bodyPost_ret (v := .tuple #[.int .i64 0, .bool false]) ?_ rfl ⟨rfl, hb'⟩
    simp [results, Try.f34, go_sem, d8, d9]
theorem rg_hops (A : Option Addr) (c : Nat) (cut : List Bool) (fr tg d : Int) (w : World) (hr : Kd.C Kd.bool w A cut.length cut) (hc : cut.length ≤ c) (r1 : Int) (r2 : Bool) (h : rgHops cut fr tg d = (r1, r2)) :
    Calls Try.prog 34 #[.agg #[.slice A cut.length c], .int .i64 fr, .int .i64 tg, .int .i64 d] w fun e w' =>
      e = .returned (.tuple #[.int .i64 r1, .bool r2]) ∧ Below w.heap.size w w' := by
  unfold rgHops at h
  by_cases hh : rgHas cut fr = true ∧ (d = 0 ∨ d = 1)
  · rw [if_pos hh] at h
    exact rg_hops_yes A c cut fr tg d w hr hc hh.1 hh.2 r1 r2 h
  · rw [if_neg hh] at h
    cases h
    exact rg_hops_no A c cut fr tg d w hr hc hh
/-! ### ring_Hops: function 34 -/
def ring_Hops.f (l0_0 : List Bool) (a1 : Int) (a2 : Int) (a3 : Int) : Option (Int × Bool) := some (rgHops l0_0 a1 a2 a3)
theorem ring_Hops.calls (A0_0 : Option Addr) (c0_0 : Nat) (l0_0 : List Bool) (a1 : Int) (a2 : Int) (a3 : Int) (r1 : Int) (r2 : Bool) (w : World) (hr0_0 : Kd.C Kd.bool w A0_0 l0_0.length l0_0) (hc0_0 : l0_0.length ≤ c0_0) (h : ring_Hops.f l0_0 a1 a2 a3 = some (r1, r2)) :
    Calls Try.prog 34 #[.agg #[.slice A0_0 l0_0.length c0_0], .int .i64 a1, .int .i64 a2, .int .i64 a3] w fun e w' => e = .returned (.tuple #[.int .i64 r1, .bool r2]) ∧ Below w.heap.size w w' :=
  rg_hops A0_0 c0_0 l0_0 a1 a2 a3 w hr0_0 hc0_0 r1 r2 (Option.some.inj h)
end Go.Proofs.Ytnjddjpohobelaa.XB
end
section
namespace Go.Proofs.Ytnjddjpohobelaa.XB
open Go.RowKit Go.Proofs.YtnjddjpohobelaaW.PrintWords Go.Proofs.YtnjddjpohobelaaW.PrintLast Go.Proofs.YtnjddjpohobelaaW.PrintMore
attribute [local go_sem] max2_int min2_int max_two min_two max_three min_three max_four min_four   -- for this text's walks alone
set_option linter.unusedVariables false
set_option linter.unusedSimpArgs false
/-! ### ring.Reached -/
def rgMark (ps : List (Int × Int)) (out : List Bool) : List Bool := ps.foldl (fun o p => o.set p.1.toNat true) out
theorem rgMark_len (ps : List (Int × Int)) (out : List Bool) : (rgMark ps out).length = out.length := by
  unfold rgMark
  induction ps generalizing out with
  | nil => rfl
  | cons p ps ih => rw [List.foldl_cons, ih, List.length_set]
theorem rgMark_snoc (ps : List (Int × Int)) (p : Int × Int) (out : List Bool) : rgMark (ps ++ [p]) out = (rgMark ps out).set p.1.toNat true := by
  unfold rgMark; rw [List.foldl_append]; rfl
def rgReachK (cut : List Bool) (fr : Int) : Nat → List Bool
  | 0 => (List.replicate cut.length false).set fr.toNat true
  | k + 1 => rgMark (rgWay cut k (cut.length - 1) fr 1) (rgReachK cut fr k)
theorem rgReachK_len (cut : List Bool) (fr : Int) : ∀ k, (rgReachK cut fr k).length = cut.length
  | 0 => by simp [rgReachK]
  | k + 1 => by rw [rgReachK, rgMark_len, rgReachK_len cut fr k]
def rgReached (cut : List Bool) (fr : Int) : List Bool := if rgHas cut fr = true then rgReachK cut fr 2 else []
/-- A row of bools, whole, in block g. -/
def RgRow (W : World) (g : Nat) (l : List Bool) : Prop := W.heap[g]? = some (.cells (l.map Value.bool).toArray 4 (0, 0))
theorem rg_made (n : Nat) : madeCells (Value.bool false).cells (n * 1) = ((List.replicate n false).map Value.bool).toArray := by
  apply Array.ext
  · simp [size_madeCells]
  · intro i h1 h2
    simp [madeCells, Value.cells, Nat.mod_one]
theorem rg_make (W : World) (n : Nat) (hn : n ≤ 1000) : (Instr.makeSlice 65 (.int .i64 n) (.int .i64 n)).run Try.prog W = .ok (.slice (some ⟨W.heap.size, 0, none⟩) n n) (W.alloc (.cells ((List.replicate n false).map Value.bool).toArray 4)) := by
  obtain ⟨i0, hi, hzz⟩ := Option.map_eq_some_iff.1 info4
  simp only [Prod.mk.injEq] at hzz
  obtain ⟨hz0, hz1, hz2⟩ := hzz
  have h := run_make (P := Try.prog) W 65 4 i0 (.bool false) Try.underlying65 hi hz0 .i64 .i64 n n (by omega) (by omega) (by rw [hz2]; omega) (by omega)
  rw [hz1, Int.toNat_natCast, rg_made] at h
  exact h
theorem RgRow.cell {W : World} {g : Nat} {l : List Bool} (h : RgRow W g l) (i : Nat) (hi : i < l.length) : ∃ b, W.cell? ⟨g, i, none⟩ = some (.bool b) := by
  refine ⟨l[i], ?_⟩
  rw [blk_cell (show W.heap[g]? = _ from h) i]
  simp [hi]
theorem RgRow.put {W : World} {g : Nat} {l : List Bool} (h : RgRow W g l) (i : Nat) : RgRow (W.setCell ⟨g, i, none⟩ (.bool true)) g (l.set i true) :=
  blk_put (show W.heap[g]? = _ from h) i (.bool true) (by simp [List.map_set])
theorem RgRow.kept {W W' : World} {row : Option Nat} {g : Nat} {l : List Bool} (h : RgRow W g l) (hg : W.grownBy W' row) (hne : some g ≠ row) : RgRow W' g l := (hg.block g (Array.getElem?_eq_some_iff.1 (show W.heap[g]? = _ from h)).1 hne).trans h
theorem RgRow.R {W : World} {g n₀ : Nat} {l : List Bool} (h : RgRow W g l) (hn : n₀ ≤ g) (hl : l.length ≤ 1000) : Kd.R Kd.bool 4 W n₀ (fun _ => True) (.slice (some ⟨g, 0, none⟩) l.length l.length) l := by
  refine Kd.R_of_own ⟨by simp [encs], .inr ⟨g, l.length, _, rfl, hn, h, Nat.le_refl _, by unfold maxLen; omega, by simp, by rw [Nat.mul_one]; simp [encs, List.take_of_length_le]⟩⟩ (fun _ _ => trivial)
/-- The marks of the loops over iterators that are over: each its own block, shut at the return. -/
def rgMk (D : Nat) : Deferred := { target := .collected D, args := #[] }
def RgMarks (n₀ B : Nat) (Ds : List Nat) (W : World) : Prop := ∀ D, D ∈ Ds → n₀ ≤ D ∧ D < B ∧ W.heap[D]? = some (.deferred (some []))
theorem RgMarks.kept {n₀ B : Nat} {Ds : List Nat} {W W' : World} {row : Option Nat} (h : RgMarks n₀ B Ds W) (hg : W.grownBy W' row) (hr : ∀ r, row = some r → B ≤ r) : RgMarks n₀ B Ds W' := fun D hD => by
  obtain ⟨h1, h2, h3⟩ := h D hD
  exact ⟨h1, h2, (hg.block D (Array.getElem?_eq_some_iff.1 h3).1 (fun e => by have := hr D e.symm; omega)).trans h3⟩
theorem RgMarks.others {n₀ B : Nat} {Ds : List Nat} {W W' : World} (h : RgMarks n₀ B Ds W) (hk : KeepsOthers W W') : RgMarks n₀ B Ds W' := fun D hD => by
  obtain ⟨h1, h2, h3⟩ := h D hD
  exact ⟨h1, h2, hk.same D _ h3 rfl⟩
theorem RgMarks.cons {n₀ B B' D : Nat} {Ds : List Nat} {W : World} (h : RgMarks n₀ B Ds W) (hB : B ≤ D) (hn : n₀ ≤ D) (hD : D < B') (hK : W.heap[D]? = some (.deferred (some []))) : RgMarks n₀ B' (D :: Ds) W := fun E hE => by
  rcases List.mem_cons.1 hE with rfl | hE
  · exact ⟨hn, hD, hK⟩
  · obtain ⟨h1, h2, h3⟩ := h E hE
    exact ⟨h1, by omega, h3⟩
theorem RgMarks.not_mem {n₀ B D : Nat} {Ds : List Nat} {W : World} (h : RgMarks n₀ B Ds W) (hB : B ≤ D) : D ∉ Ds := fun hm => by
  have := (h D hm).2.1
  omega
theorem rg_grow_set (W : World) (b i : Nat) (v : Value) : W.grownBy (W.setCell ⟨b, i, none⟩ v) (some b) :=
  ⟨rfl, rfl, rfl, (KeepsWalks.setCell W _ v).size, fun k _ hk => Below.heap_setCell _ _ _ k (fun e => hk (by rw [e]))⟩
/-- On the way out each mark is taken up; blocks of cells, and what lay below n₀, lie as they lay. -/
theorem rg_leaves {F : Fence} {n : Nat} {P : Program} {fn : Func} {tmps : Array Value} {R : Ending → World → Prop} (n₀ B : Nat) : ∀ (Ds : List Nat) (W : World), Ds.Nodup → RgMarks n₀ B Ds W →
    (∀ W' : World, Below n₀ W W' → (∀ (b : Nat) (cells : Array Value) (t : TypeId), W.heap[b]? = some (Obj.cells cells t (0, 0)) → W'.heap[b]? = some (Obj.cells cells t (0, 0))) → LeavesInM F n P fn tmps R [] .returning W') → LeavesInM F n P fn tmps R (Ds.map rgMk) .returning W
  | [], W, _, _, h => h W (Below.refl _ _) (fun _ _ _ h => h)
  | D :: Ds, W, hn, hm, h => by
    obtain ⟨h1, h2, h3⟩ := hm D List.mem_cons_self
    refine ⟨by simp, .inl ⟨D, _, rfl, run_takeDeferred h3, ?_⟩⟩
    have hnd := List.nodup_cons.1 hn
    refine rg_leaves n₀ B Ds _ hnd.2 (fun E hE => ?_) (fun W' hb hc => h W' (Below.trans ?_ hb) (fun b cells t hbk => hc b cells t ?_))
    · obtain ⟨g1, g2, g3⟩ := hm E (List.mem_cons_of_mem _ hE)
      exact ⟨g1, g2, ((grownBy_putObj' W D _).block E (Array.getElem?_eq_some_iff.1 g3).1 (fun e => by cases e; exact hnd.1 hE)).trans g3⟩
    · have hg := grownBy_putObj' W D (.deferred none)
      exact ⟨hg.os, hg.tape, hg.output, hg.size, fun k hk => hg.block k (by have := (Array.getElem?_eq_some_iff.1 h3).1; omega) (fun e => by cases e; omega)⟩
    · refine ((grownBy_putObj' W D (.deferred none)).block b (Array.getElem?_eq_some_iff.1 hbk).1 (fun e => ?_)).trans hbk
      cases e
      rw [h3] at hbk
      cases hbk
def RgS (w : World) (A : Option Addr) (c : Nat) (cut : List Bool) (g B5 : Nat) (l : List Bool) (Ds : List Nat) (B : Nat) (W : World) : Prop :=
  Boxed W w.heap.size 67 (.slice A cut.length c) ∧ RgRow W g l ∧ Boxed W B5 65 (.slice (some ⟨g, 0, none⟩) cut.length cut.length) ∧ Below w.heap.size w W ∧ RgMarks w.heap.size B Ds W
theorem RgS.own (w : World) (A : Option Addr) (c : Nat) (cut : List Bool) (g B5 : Nat) (Ds : List Nat) (B : Nat) (hB : w.heap.size ≤ B) {β : Type} (f : β → List Bool) : OwnFrom B (fun s W => RgS w A c cut g B5 (f s) Ds B W) := fun s X Y row hs hg hr => by
  obtain ⟨h1, h2, h3, h4, h5⟩ := hs
  have hr' : ∀ r, row = some r → ∃ o : Obj, X.heap[r]? = some o ∧ o.isCells = false := fun r e => (hr r e).2
  exact ⟨boxed_own (β := Unit) _ _ (fun _ => _) () X Y row h1 hg hr', h2.kept hg (fun e => by
    obtain ⟨o, ho, hc⟩ := hr' g e.symm
    rw [show X.heap[g]? = _ from h2] at ho; cases ho; cases hc), boxed_own (β := Unit) _ _ (fun _ => _) () X Y row h3 hg hr', ownFrom_below (β := Unit) (Nat.le_refl _) hB () X Y row h4 hg hr, h5.kept hg (fun r e => (hr r e).1)⟩
section
attribute [local go_sem] Oper.semAt_some
set_option maxHeartbeats 4000000 in
set_option maxRecDepth 100000 in
theorem rg_reached_yes (A : Option Addr) (c : Nat) (cut : List Bool) (fr : Int) (w : World) (hr : Kd.C Kd.bool w A cut.length cut) (hc : cut.length ≤ c) (hh : rgHas cut fr = true) :
    Calls Try.prog 35 #[.agg #[.slice A cut.length c], .int .i64 fr] w fun e w' =>
      ∃ v0_ : Value, e = .returned (v0_) ∧ Kd.R Kd.bool 4 w' w.heap.size (fun _ => True) v0_ (rgReachK cut fr 2) ∧ Below w.heap.size w w' := by
  have hh' := hh
  unfold rgHas at hh'
  simp only [Bool.and_eq_true, decide_eq_true_eq] at hh'
  obtain ⟨⟨⟨hn3, hn40⟩, hf0⟩, hf1⟩ := hh'
  have HR := Aside0.mk hr
  have HC := Aside0.mk hc
  have HH := Aside0.mk hh
  clear hr hc hh
  refine (callsIn_wide (n := 4)).1 ?_
  have h1 : 1 ≤ 4 := by omega
  have hro : Fence.wide.round = none := rfl
  refine callsIn_of_wp_marks Try.func35 rfl trivial ?_ hro
  simp only [Try.ntmps35, List.size_toArray, List.length_cons, List.length_nil, Nat.reduceAdd, Nat.reduceSub, Array.replicate_succ, Array.replicate_zero, List.push_toArray, List.append_toArray, List.nil_append, List.cons_append]
  gi_wp2
  refine ⟨trivial, ?_⟩
  obtain ⟨W2, hW2⟩ : ∃ W2, w.alloc (.cells #[.slice A cut.length c] 67) = W2 := ⟨_, rfl⟩
  have p2 : W2.heap[w.heap.size]? = some (.cells #[.slice A cut.length c] 67 (0, 0)) := by rw [← hW2]; exact blk_new _ _
  have pb : Below w.heap.size w W2 := by rw [← hW2]; exact (Below.refl _ _).alloc (Nat.le_refl _) _
  rw [hW2]
  clear hW2
  refine (callsIn_wide.2 (rg_has A c cut fr W2 (Kd.C_below HR.out pb) HC.out)).mono ?_
  rw [HH.out]
  rintro e w5 ⟨rfl, hb⟩
  have P2 := Aside0.mk (blk_below p2 (hb.mono (by have := pb.size; have := blk_lt p2; omega)))
  have HB5 := Aside0.mk (below_step pb hb)
  have k2 := (blk_cell P2.out 0).trans rfl
  clear hb p2 pb W2
  have hm := rg_make w5 cut.length (by omega)
  obtain ⟨W6, hW6⟩ : ∃ W6, w5.alloc (.cells ((List.replicate cut.length false).map Value.bool).toArray 4) = W6 := ⟨_, rfl⟩
  have R6 : RgRow W6 w5.heap.size (List.replicate cut.length false) := by rw [← hW6]; exact blk_new _ _
  have Q2 : Aside0 (W6.heap[w.heap.size]? = some (.cells #[.slice A cut.length c] 67 (0, 0))) := Aside0.mk (by rw [← hW6]; exact blk_alloc P2.out _)
  have HB6 := Aside0.mk (show Below w.heap.size w W6 by rw [← hW6]; exact HB5.out.alloc HB5.out.size _)
  have HS6 := Aside0.mk (show W6.heap.size = w5.heap.size + 1 by rw [← hW6]; simp)
  have HR6 := Aside0.mk R6
  rw [hW6] at hm
  have R7 : RgRow (W6.alloc (.cells #[.slice (some ⟨w5.heap.size, 0, none⟩) cut.length cut.length] 65)) w5.heap.size (List.replicate cut.length false) := blk_alloc R6 _
  obtain ⟨bb, k7⟩ := R7.cell fr.toNat (by rw [List.length_replicate]; omega)
  have f7 := blk_frozen (show (W6.alloc (.cells #[.slice (some ⟨w5.heap.size, 0, none⟩) cut.length cut.length] 65)).heap[w5.heap.size]? = _ from R7) fr.toNat
  have hwg : w.heap.size < w5.heap.size := blk_lt P2.out
  have hgB : w5.heap.size < W6.heap.size := by rw [HS6.out]; omega
  have hS0 : RgS w A c cut w5.heap.size W6.heap.size (rgReachK cut fr 0) [] w.heap.size ((W6.alloc (.cells #[.slice (some ⟨w5.heap.size, 0, none⟩) cut.length cut.length] 65)).setCell ⟨w5.heap.size, fr.toNat, none⟩ (.bool true)) :=
    ⟨(Boxed.alloc Q2.out _).kept (rg_grow_set _ _ _ _) (by intro e; injection e with e; omega), R7.put _, (Boxed.new _ _ _).kept (rg_grow_set _ _ _ _) (by intro e; injection e with e; omega), (HB6.out.alloc HB6.out.size _).setCell (p := ⟨w5.heap.size, fr.toNat, none⟩) (Nat.le_of_lt hwg) _, fun _ h => by cases h⟩
  have HS0 := Aside0.mk hS0
  have Hwg := Aside0.mk hwg
  have HgB := Aside0.mk hgB
  clear hS0 R6 hwg hgB
  gi_wp2
  generalize (W6.alloc (.cells #[.slice (some ⟨w5.heap.size, 0, none⟩) cut.length cut.length] 65)).setCell ⟨w5.heap.size, fr.toNat, none⟩ (.bool true) = W0 at HS0 ⊢
  clear k7 f7 R7 hm HB6 Q2 HS6 HR6 k2 P2 HB5
  have hwg := Hwg.out
  have hgB := HgB.out
  clear Hwg HgB hW6
  generalize W6.heap.size = B5 at hgB HS0 ⊢
  generalize w5.heap.size = g at hgB hwg HS0 ⊢
  refine wpIn_loop (fun a W => ∃ (k : Nat) (Ds : List Nat) (B : Nat) (u6 u7 u20 u21 u22 u23 u24 u25 u26 u27 u28 u29 u30 u31 : Value),
    a = { tmps := #[.agg #[.slice A cut.length c], .int .i64 fr, .pointer (some ⟨w.heap.size, 0, none⟩), undef, .slice none 0 0, .pointer (some ⟨B5, 0, none⟩), u6, u7, .agg #[.slice A cut.length c], .int .i64 fr, .bool true, .bool false, .pointer (some ⟨w.heap.size, 0, none⟩), .slice A cut.length c, .int .i64 cut.length, .slice (some ⟨g, 0, none⟩) cut.length cut.length, .slice (some ⟨g, 0, none⟩) cut.length cut.length, .int .i64 fr, .pointer (some ⟨g, fr.toNat, none⟩), .int .i64 k, u20, u21, u22, u23, u24, u25, u26, u27, u28, u29, u30, u31, undef], defers := Ds.map rgMk } ∧
    k ≤ 2 ∧ Ds.Nodup ∧ Aside0 (RgS w A c cut g B5 (rgReachK cut fr k) Ds B W ∧ B ≤ W.heap.size)) (fun a _ => 2 - (intOf (a.tmps.getD 19 undef)).toNat) ⟨0, [], w.heap.size, undef, undef, undef, undef, undef, undef, undef, undef, undef, undef, undef, undef, undef, undef, rfl, by omega, List.nodup_nil, ⟨HS0.out, HS0.out.2.2.2.1.size⟩⟩ ?_
  clear HS0 W0 w5 W6
  rintro a W ⟨k, Ds, B, u6, u7, u20, u21, u22, u23, u24, u25, u26, u27, u28, u29, u30, u31, rfl, hk, hnd, HS⟩
  have k2 := HS.out.1.1.cell
  have k5 := HS.out.1.2.2.1.cell
  by_cases hk2 : k < 2
  · have hki : (k : Int) < 2 := by omega
    gi_wp2
    refine ⟨trivial, ?_⟩
    refine (callsIn_wide.2 (rg_way A cut.length c fr _ W)).mono ?_
    rintro e w6 ⟨rfl, hw6⟩
    obtain ⟨r1, r2, r3, rs, rb⟩ := rg_box3 _ _ _ _ w6 hw6
    obtain ⟨⟨s2, sr, s5, sb, sm⟩, hBW⟩ := HS.out
    have hg1 : g < W.heap.size := (Array.getElem?_eq_some_iff.1 (show W.heap[g]? = _ from sr)).1
    have hg5 : B5 < W.heap.size := s5.lt
    have hgrow : W.grownBy w6 none := ⟨rb.os, rb.tape, rb.output, rb.size, fun k hk _ => rb.block k hk⟩
    have hS6 : Aside0 (RgS w A c cut g B5 (rgReachK cut fr k) Ds W.heap.size w6) := ⟨s2.kept hgrow (by simp), sr.kept hgrow (by simp), s5.kept hgrow (by simp), below_step sb rb, fun D hD => by
      obtain ⟨m1, m2, m3⟩ := sm.kept hgrow (by simp) D hD
      exact ⟨m1, by omega, m3⟩⟩
    have R1 := Aside0.mk r1
    have R2 := Aside0.mk r2
    have R3 := Aside0.mk r3
    have RS := Aside0.mk rs
    have HA : Aside0 (∀ a, A = some a → a.block < w.heap.size) := ⟨fun a ha => by
      obtain ⟨ad, e, hc⟩ := Kd.at_bool HR.out 0 (by omega) (by omega)
      rw [ha] at e; cases e
      have := World.block_lt_of_cell? w _ hc
      have h3 : (a.add (0 : Int).toNat).block = a.block := by unfold Addr.add; split <;> rfl
      omega⟩
    have hsz : W.heap.size ≤ w6.heap.size := rb.size
    have HCB : Aside0 (Kd.C Kd.bool w6 A cut.length cut) := ⟨Kd.C_below HR.out hS6.out.2.2.2.1⟩
    clear hw6 r1 r2 r3 rs rb s2 sr s5 sm hgrow HS k2 k5
    gi_wp2
    refine wpIn_rangeFunc_ownF hro h1 (gf := 62) (lb := #[.pointer (some ⟨W.heap.size, 0, none⟩), .pointer (some ⟨W.heap.size + 1, 0, none⟩), .pointer (some ⟨W.heap.size + 2, 0, none⟩)]) rfl trivial (enters_of Try.func62 (by kernel_rfl) rfl)
      (rg_way_stops Fence.wide 3 trivial rfl (by omega) cut A c fr k W.heap.size (W.heap.size + 1) (W.heap.size + 2) (fun b => b < w6.heap.size ∧ b ≠ g) w6 hn3 (by omega) ⟨hf0, hf1⟩ (by omega) (fun _ h => h.1) ⟨by rw [RS.out]; omega, by omega⟩ ⟨by rw [RS.out]; omega, by omega⟩ ⟨by rw [RS.out]; omega, by omega⟩ (fun a ha => by have := HA.out a ha; exact ⟨by omega, by omega⟩) ((blk_cell R1.out 0).trans rfl) ((blk_cell R2.out 0).trans rfl) ((blk_cell R3.out 0).trans rfl) HCB.out)
      (fun h k => RgK.trans h k) (RgK.putObj (fun _ h => h.1)) (Below.refl _ _) (fun _ => rfl)
      (fun pre W' => RgS w A c cut g B5 (rgMark (pre.map (·.1)) (rgReachK cut fr k)) Ds w6.heap.size W') (fun _ _ _ => False) (RgS.own w A c cut g B5 Ds _ (by have := sb.size; omega) (fun pre : List (RgP cut.length) => rgMark (pre.map (·.1)) (rgReachK cut fr k))) (fun _ _ _ _ _ h _ _ => h) ⟨hS6.out.1, hS6.out.2.1, hS6.out.2.2.1, hS6.out.2.2.2.1, fun D hD => by
        obtain ⟨m1, m2, m3⟩ := hS6.out.2.2.2.2 D hD
        exact ⟨m1, by omega, m3⟩⟩
      (fun x => { tmps := #[.agg #[.slice A cut.length c], .int .i64 fr, .pointer (some ⟨w.heap.size, 0, none⟩), undef, .slice none 0 0, .pointer (some ⟨B5, 0, none⟩), .int .i64 k, .int .i64 x.1.1, .agg #[.slice A cut.length c], .int .i64 fr, .bool true, .bool false, .pointer (some ⟨w.heap.size, 0, none⟩), .slice A cut.length c, .int .i64 cut.length, .slice (some ⟨g, 0, none⟩) cut.length cut.length, .slice (some ⟨g, 0, none⟩) cut.length cut.length, .int .i64 fr, .pointer (some ⟨g, fr.toNat, none⟩), .int .i64 k, .bool true, .int .i64 k, .agg #[.slice A cut.length c], .int .i64 fr, .int .i64 k, .func (.func 62) #[] #[.pointer (some ⟨W.heap.size, 0, none⟩), .pointer (some ⟨W.heap.size + 1, 0, none⟩), .pointer (some ⟨W.heap.size + 2, 0, none⟩)], .int .i64 x.1.1, .int .i64 x.1.2, u28, u29, u30, u31, undef], defers := [] }) ?assign ?body ?done ?stop
    case assign =>
      intro l x W K hK
      gi_wp2
      exact hK
    case body =>
      rintro l pre ⟨⟨x1, x2⟩, ⟨hx1, hx2⟩, hx3⟩ W' hI _
      have HI := Aside0.mk hI
      have k5 := hI.2.2.1.cell
      have hx1' : 0 ≤ x1 := hx1
      have hx2' : x1 < cut.length := hx2
      obtain ⟨bb', k7⟩ := hI.2.1.cell x1.toNat (by rw [rgMark_len, rgReachK_len]; omega)
      have f7 := blk_frozen (show W'.heap[g]? = _ from hI.2.1) x1.toNat
      clear hI
      dsimp only
      gi_wp2
      refine ⟨KeepsOthers.setCell _ _ _, fun b hb => Below.heap_setCell _ _ _ b hb.2, HI.out.1.kept (rg_grow_set _ _ _ _) (by intro e; injection e with e; omega), ?_, HI.out.2.2.1.kept (rg_grow_set _ _ _ _) (by intro e; injection e with e; omega), HI.out.2.2.2.1.setCell (p := ⟨g, _, none⟩) (Nat.le_of_lt hwg) _, HI.out.2.2.2.2.others (KeepsOthers.setCell _ _ _)⟩
      rw [List.map_append, List.map_cons, List.map_nil, rgMark_snoc]
      exact HI.out.2.1.put _
    case stop =>
      rintro D cd pre W' hD hSp h hK
      exact h.elim
    case done =>
      rintro D xs W' hD hS hI hK
      have HI := Aside0.mk hI
      have HK := Aside0.mk hK
      clear hI hK
      gi_wp2
      refine ⟨⟨k + 1, D :: Ds, D + 1, _, _, _, _, _, _, _, _, _, _, _, _, _, _, rfl, by omega, List.nodup_cons.2 ⟨HI.out.2.2.2.2.not_mem hD, hnd⟩, ⟨⟨HI.out.1, ?_, HI.out.2.2.1, HI.out.2.2.2.1, HI.out.2.2.2.2.cons hD (by have := sb.size; omega) (by omega) HK.out⟩, ?_⟩⟩, ?_⟩
      · rw [rgReachK, ← hS]
        exact HI.out.2.1
      · exact (Array.getElem?_eq_some_iff.1 HK.out).1
      · simp [intOf]
        omega
  · obtain rfl : k = 2 := by omega
    clear hk hk2
    gi_wp2
    refine rg_leaves w.heap.size B Ds W hnd HS.out.1.2.2.2.2 (fun W' hb hc => ?_)
    have hR : RgRow W' g (rgReachK cut fr 2) := hc _ _ _ HS.out.1.2.1
    have hRR := hR.R (n₀ := w.heap.size) (by omega) (by rw [rgReachK_len]; omega)
    rw [rgReachK_len] at hRR
    refine ⟨.slice (some ⟨g, 0, none⟩) cut.length cut.length, ?_, _, rfl, hRR, HS.out.1.2.2.2.1.trans hb⟩
    simp [results, Try.f35, go_sem]
end
set_option maxHeartbeats 4000000 in
set_option maxRecDepth 100000 in
theorem rg_reached_no (A : Option Addr) (c : Nat) (cut : List Bool) (fr : Int) (w : World) (hr : Kd.C Kd.bool w A cut.length cut) (hc : cut.length ≤ c) (hh : rgHas cut fr = false) :
    Calls Try.prog 35 #[.agg #[.slice A cut.length c], .int .i64 fr] w fun e w' =>
      ∃ v0_ : Value, e = .returned (v0_) ∧ Kd.R Kd.bool 4 w' w.heap.size (fun _ => True) v0_ [] ∧ Below w.heap.size w w' := by
  have HR := Aside0.mk hr
  have HC := Aside0.mk hc
  have HH := Aside0.mk hh
  clear hr hc hh
  go_enter Try.func35, Try.ntmps35
  go_wp2_with (go_at_call 54; refine (rg_has A c cut fr _ (Kd.C_alloc HR.out _) HC.out).mono ?_; rw [HH.out]; rintro e w' ⟨rfl, hb⟩; have HB2 := Aside0.mk hb; clear hb)
  go_ret
  exact ⟨_, rfl, Kd.R_nil _ _ _ _ _, ((Below.refl _ _).alloc (Nat.le_refl _) _).trans (HB2.out.mono (by simp))⟩
theorem rg_reached (A : Option Addr) (c : Nat) (cut : List Bool) (fr : Int) (w : World) (hr : Kd.C Kd.bool w A cut.length cut) (hc : cut.length ≤ c) :
    Calls Try.prog 35 #[.agg #[.slice A cut.length c], .int .i64 fr] w fun e w' =>
      ∃ v0_ : Value, e = .returned (v0_) ∧ Kd.R Kd.bool 4 w' w.heap.size (fun _ => True) v0_ (rgReached cut fr) ∧ Below w.heap.size w w' := by
  unfold rgReached
  cases hh : rgHas cut fr with
  | true => exact rg_reached_yes A c cut fr w hr hc hh
  | false => exact rg_reached_no A c cut fr w hr hc hh
/-! ### ring_Reached: function 35 -/
def ring_Reached.f (l0_0 : List Bool) (a1 : Int) : Option (List Bool) := some (rgReached l0_0 a1)
theorem ring_Reached.calls (A0_0 : Option Addr) (c0_0 : Nat) (l0_0 : List Bool) (a1 : Int) (r : List Bool) (w : World) (hr0_0 : Kd.C Kd.bool w A0_0 l0_0.length l0_0) (hc0_0 : l0_0.length ≤ c0_0) (h : ring_Reached.f l0_0 a1 = some r) :
    Calls Try.prog 35 #[.agg #[.slice A0_0 l0_0.length c0_0], .int .i64 a1] w fun e w' => ∃ v0_ : Value, e = .returned (v0_) ∧ Kd.R Kd.bool 4 w' w.heap.size (fun _ => True) v0_ r ∧ Below w.heap.size w w' := by
  obtain rfl := Option.some.inj h
  exact rg_reached A0_0 c0_0 l0_0 a1 w hr0_0 hc0_0
end Go.Proofs.Ytnjddjpohobelaa.XB
end
