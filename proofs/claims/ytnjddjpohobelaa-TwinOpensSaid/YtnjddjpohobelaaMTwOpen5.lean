/- A part of the proof of the law twinOpens_holds: general lemmas, functions of the program as plain functions with proofs that the calls compute them, and what they compute; merged from this session's texts. -/
import Derived.Test.YtnjddjpohobelaaMTwOpen4
import Derived.Lib.SliceRun
import Derived.WideMake
section
namespace Go.Proofs.Ytnjddjpohobelaa.XB
open Go.RowKit Go.Proofs.YtnjddjpohobelaaW.PrintWords Go.Proofs.YtnjddjpohobelaaW.PrintLast Go.Proofs.YtnjddjpohobelaaW.PrintMore
attribute [local go_sem] max2_int min2_int max_two min_two max_three min_three max_four min_four   -- for this text's walks alone
set_option linter.unusedVariables false
set_option linter.unusedSimpArgs false
/-! ### twin_Open: function 24 -/
/-! ### slices.Clone at twin.Source -/
theorem tw_infoB : (Try.prog.info? 5).map (fun i => (i.zero, i.size, i.bytes)) = some (some (.int .u8 0), 1, 1) := by kernel_rfl
theorem tw_nilB {w : World} {A0 : Option Addr} {l0 : List Int} (h : Kd.C (Kd.int .u8) w A0 l0.length l0) (e : A0 = none) : l0 = [] := by
  cases l0 with
  | nil => rfl
  | cons x t => obtain ⟨a, ha, _⟩ := h.2.2 (by simp); rw [e] at ha; cases ha
set_option maxHeartbeats 1000000 in
set_option maxRecDepth 100000 in
theorem tw_cloneB (A0 : Option Addr) (c0 : Nat) (l0 : List (Int)) (w : World) (hr0 : Kd.C (Kd.int .u8) w A0 l0.length l0) (hc0 : l0.length ≤ c0) (hl : l0.length < 1000000) :
    Calls Try.prog 50 #[.slice A0 l0.length c0] w fun e w' => ∃ v0_ : Value, e = .returned (v0_) ∧ Kd.R (Kd.int .u8) 5 w' w.heap.size (fun _ => True) v0_ l0 ∧ Below w.heap.size w w' := by
  have HR0 := Aside0.mk hr0
  have HL := Aside0.mk hl
  have HB := Aside0.mk (Below.refl w.heap.size w)
  cases A0 with
  | none =>
    obtain rfl := tw_nilB hr0 rfl
    clear hr0 hc0 hl
    have heq := fun w => Lib.run_eql_slice_nil (P := Try.prog) w 51 5 none 0 c0 0 0 Try.underlying51
    go_enter Try.func50, Try.ntmps50
    go_wp2
    go_ret
    exact ⟨_, rfl, Kd.R_nil _ _ _ _ _, Below.refl _ _⟩
  | some a =>
    clear hr0 hl
    have heq := fun w => Lib.run_eql_slice_nil (P := Try.prog) w 51 5 (some a) l0.length c0 0 0 Try.underlying51
    go_enter Try.func50, Try.ntmps50
    go_wp2_with (first
      | ((with_reducible refine gate_dst (N := 5) rfl ?_); refine Kd.R_lit (Kd.int .u8) w.heap.size 5 rfl (N := 5) rfl (xs := ([] : List (Int))) (inner := []) (ok := fun _ => True) (okp := fun _ => True) (w0 := w) ?hr (Reps.none _ _) (fun _ hk => hk) trivial (Below.refl _ _) (Nat.le_refl _) (by simp) ?_; (case hr => first | (go_simp; done) | (go_simp; rfl)); intro v1 w1 ho hb hg_ hnew_; clear hg_ hnew_; have HO := Aside0.mk ho; have HB1 := Aside0.mk hb; clear ho hb)
      | ((with_reducible refine gate_builtin (b := .append) (xs := #[.tmp 5, .tmp 6]) rfl ?_); at_builtin; refine Kd.R_append_rows (Kd.int .u8) (w0 := w) w.heap.size rfl (.tmp 5) (.tmp 6) 51 5 (.int .u8 0) 1 rfl Try.underlying51 tw_infoB rfl (by decide) (by omega) v1 [] l0 _ _ _ (fun _ => True) (fun _ => False) rfl rfl HO.out (Kd.C_below HR0.out HB1.out) (fun _ _ h => h) (fun _ h => h.elim) (fun _ _ => trivial) HB1.out HB1.out.size ?aL ?_; (case aL => have := HL.out; simp only [List.length_nil]; omega); intro v2 w2 ho hb hg hat; have HO2 := Aside0.mk ho; have HB2 := Aside0.mk hb; clear ho hb hg hat)
      )
    go_ret
    exact ⟨_, rfl, HO2.out, HB2.out⟩
/-! ### the map of twin.Open -/
theorem tw_ins (w : World) (r clock : Nat) (es : Array MapEntry) (k v : Int) (hb : w.heap[r]? = some (.map es clock)) (hf : Instr.findNow (.int .u8) (.int .u8 k) es.toList 0 = some none) :
    (Instr.mapUpdate 109 (.map (some r)) (.int .u8 k) (.int .i64 v)).run Try.prog w = .ok () { w with heap := w.heap.setIfInBounds r (.map (es.push { key := .int .u8 k, val := .int .i64 v, born := clock }) (clock + 1)) } := by
  have hc : (Instr.checkKey false 10000 5 (.int .u8 k)).run Try.prog w = .ok () w := MapKept.run_checkKey (k := .int .u8 k) Try.underlying5 (by simp [MapKept.IsKey]) false 9999
  simp [Instr.mapUpdate, run_underlying Try.underlying109, MapKept.run_getObj_map hb, hc, MapKept.run_findKey Try.underlying5 hf, MapKept.run_setObj_map _ hb, Result.andThen]
theorem tw_look (w : World) (r clock : Nat) (k : Int) (hb : w.heap[r]? = some (.map #[{ key := .int .u8 160, val := .int .i64 0, born := 0 }, { key := .int .u8 161, val := .int .i64 1, born := 1 }] clock)) :
    (Instr.lookup 109 (.map (some r)) (.int .u8 k) true).run Try.prog w = .ok (.tuple #[.int .i64 (if k = 161 then 1 else 0), .bool (decide (k = 160) || decide (k = 161))]) w := by
  have hc : (Instr.checkKey false 10000 5 (.int .u8 k)).run Try.prog w = .ok () w := MapKept.run_checkKey (k := .int .u8 k) Try.underlying5 (by simp [MapKept.IsKey]) false 9999
  by_cases h0 : k = 160
  · subst h0
    have hf : Instr.findNow (.int .u8) (.int .u8 160) [{ key := .int .u8 160, val := .int .i64 0, born := 0 }, { key := .int .u8 161, val := .int .i64 1, born := 1 }] 0 = some (some (0, .int .i64 0)) := rfl
    simp [Instr.lookup, run_underlying Try.underlying109, MapKept.run_getObj_map hb, hc, MapKept.run_findKey Try.underlying5 hf, Result.andThen]
  · by_cases h1 : k = 161
    · subst h1
      have hf : Instr.findNow (.int .u8) (.int .u8 161) [{ key := .int .u8 160, val := .int .i64 0, born := 0 }, { key := .int .u8 161, val := .int .i64 1, born := 1 }] 0 = some (some (1, .int .i64 1)) := rfl
      simp [Instr.lookup, run_underlying Try.underlying109, MapKept.run_getObj_map hb, hc, MapKept.run_findKey Try.underlying5 hf, Result.andThen]
    · have hf : Instr.findNow (.int .u8) (.int .u8 k) [{ key := .int .u8 160, val := .int .i64 0, born := 0 }, { key := .int .u8 161, val := .int .i64 1, born := 1 }] 0 = some none := by
        have q0 : (k == 160) = false := beq_eq_false_iff_ne.2 h0
        have q1 : (k == 161) = false := beq_eq_false_iff_ne.2 h1
        simp [Instr.findNow, Instr.sameNow, q0, q1]
      simp [Instr.lookup, run_underlying Try.underlying109, MapKept.run_getObj_map hb, hc, MapKept.run_findKey Try.underlying5 hf, Result.andThen, h0, h1, Try.zeroValue3]
/-! ### twin.Open -/
def tw_word (a b : Int) : Int := Go.bits .or .i64 (wrap64 ((wrap64 a) * 256)) (wrap64 b)
def tw_openF (bs : List Int) : Int × Int × Int × List Int × Int :=
  if bs.length < 8 then (0, 0, 0, [], 13)
  else if ¬ (rd bs (((bs.length - 8 : Nat) : Int) + 4) = 160 ∨ rd bs (((bs.length - 8 : Nat) : Int) + 4) = 161) ∨ rd bs (((bs.length - 8 : Nat) : Int) + 5) ≠ 0 then (0, 0, 0, [], 15)
  else if tw_word (rd bs (((bs.length - 8 : Nat) : Int) + 6)) (rd bs (((bs.length - 8 : Nat) : Int) + 7)) ≠ ((bs.length - 8 : Nat) : Int) ∨ 1500 < ((bs.length - 8 : Nat) : Int) then (0, 0, 0, [], 4)
  else (tw_word (rd bs (((bs.length - 8 : Nat) : Int) + 0)) (rd bs (((bs.length - 8 : Nat) : Int) + 1)), tw_word (rd bs (((bs.length - 8 : Nat) : Int) + 2)) (rd bs (((bs.length - 8 : Nat) : Int) + 3)), (if rd bs (((bs.length - 8 : Nat) : Int) + 4) = 161 then 1 else 0), bs.take (bs.length - 8), 0)
theorem tw_same {w : World} {g i : Nat} {t : TypeId} {cs : Array Value} {v : Value} (h : w.heap[g]? = some (.cells cs t (0, 0))) (e : cs[i]? = some v) : w.setCell ⟨g, i, none⟩ v = w := by
  have hcs : cs.setIfInBounds i v = cs := by
    apply Array.ext_getElem?
    intro j
    by_cases hj : i = j
    · subst hj
      rw [Array.getElem?_setIfInBounds_self_of_lt (Array.getElem?_eq_some_iff.1 e).1, e]
    · rw [Array.getElem?_setIfInBounds_ne hj]
  have hw : (w.setCell ⟨g, i, none⟩ v).heap = w.heap := by
    apply Array.ext_getElem?
    intro j
    by_cases hj : g = j
    · subst hj
      rw [blk_put h i v hcs, h]
    · simp [World.setCell, Array.getElem?_modify, hj]
  show ({ w with heap := (w.setCell ⟨g, i, none⟩ v).heap } : World) = w
  rw [hw]
set_option maxHeartbeats 4000000 in
set_option maxRecDepth 100000 in
theorem tw_open_short (A : Option Addr) (c : Nat) (bs : List Int) (w : World) (hC : Kd.C (Kd.int .u8) w A bs.length bs) (hc : bs.length ≤ c) (hm : bs.length ≤ 9223372036854775807) (hn : bs.length < 8) :
    Calls Try.prog 24 #[.slice A bs.length c] w fun e w' => ∃ v3_ : Value, e = .returned (.tuple #[.agg #[.int .i64 (tw_openF bs).1, .int .i64 (tw_openF bs).2.1, .int .i64 (tw_openF bs).2.2.1, v3_], .int .i64 (tw_openF bs).2.2.2.2]) ∧ Kd.R (Kd.int .u8) 5 w' w.heap.size (fun _ => True) v3_ (tw_openF bs).2.2.2.1 ∧ Below w.heap.size w w' := by
  have hlt : (bs.length : Int) - 8 < 0 := by omega
  clear hC
  go_enter Try.func24, Try.ntmps24
  go_wp2
  refine bodyPost_ret (results_ct rfl _ _ w.heap.size 58 #[.int .i64 0, .int .i64 0, .int .i64 0, .slice none 0 0] (0, 0) _ rfl (blk_new w _) Try.underlying58 rfl (by kernel_rfl)) rfl ?_
  rw [show tw_openF bs = (0, 0, 0, [], 13) from if_pos hn]
  exact ⟨_, rfl, Kd.R_nil _ _ _ _ _, (Below.refl _ _).alloc (Nat.le_refl _) _⟩
set_option maxHeartbeats 4000000 in
set_option maxRecDepth 100000 in
theorem tw_open_long (A : Option Addr) (c : Nat) (bs : List Int) (w : World) (hC : Kd.C (Kd.int .u8) w A bs.length bs) (hc : bs.length ≤ c) (hm : bs.length ≤ 9223372036854775807) (hn : ¬ bs.length < 8) :
    Calls Try.prog 24 #[.slice A bs.length c] w fun e w' => ∃ v3_ : Value, e = .returned (.tuple #[.agg #[.int .i64 (tw_openF bs).1, .int .i64 (tw_openF bs).2.1, .int .i64 (tw_openF bs).2.2.1, v3_], .int .i64 (tw_openF bs).2.2.2.2]) ∧ Kd.R (Kd.int .u8) 5 w' w.heap.size (fun _ => True) v3_ (tw_openF bs).2.2.2.1 ∧ Below w.heap.size w w' := by
  have hlt : ¬ (bs.length : Int) - 8 < 0 := by omega
  obtain ⟨ad, e, hx0⟩ := Kd.at_int hC 0 (by omega) (by omega)
  subst e
  have HC := Aside0.mk hC
  clear hC hx0
  go_enter Try.func24, Try.ntmps24
  go_wp2
  have hmm := @run_makeMap Try.prog
  obtain ⟨m, hmm8⟩ : ∃ m : Nat, bs.length = m + 8 := ⟨bs.length - 8, by omega⟩
  have hlen8 : (bs.length : Int) - 8 = m := by omega
  obtain ⟨WX, hWX⟩ : ∃ WX, (((w.alloc (.cells #[.int .i64 0, .int .i64 0, .int .i64 0, .slice none 0 0] 58)).alloc (.cells #[.slice (some (ad.add m)) 8 (c - m)] 51)).alloc (.map #[] 0)).drew = WX := ⟨_, rfl⟩
  have b0 : WX.heap[w.heap.size]? = some (.cells #[.int .i64 0, .int .i64 0, .int .i64 0, .slice none 0 0] 58 (0, 0)) := by rw [← hWX]; exact blk_drew (blk_alloc (blk_alloc (blk_new _ _) _) _)
  have b1 : WX.heap[w.heap.size + 1]? = some (.cells #[.slice (some (ad.add m)) 8 (c - m)] 51 (0, 0)) := by
    rw [← hWX]
    have h_ := blk_new (w.alloc (.cells #[.int .i64 0, .int .i64 0, .int .i64 0, .slice none 0 0] 58)) (.cells #[.slice (some (ad.add m)) 8 (c - m)] 51)
    rw [World.size_alloc] at h_
    exact blk_drew (blk_alloc h_ _)
  have b2 : WX.heap[w.heap.size + 1 + 1]? = some (.map #[] 0) := by
    rw [← hWX]
    have h_ := blk_new ((w.alloc (.cells #[.int .i64 0, .int .i64 0, .int .i64 0, .slice none 0 0] 58)).alloc (.cells #[.slice (some (ad.add m)) 8 (c - m)] 51)) (.map #[] 0)
    rw [World.size_alloc, World.size_alloc] at h_
    exact h_
  have bb : Below w.heap.size w WX := by rw [← hWX]; exact below_drew1 ((((Below.refl _ _).alloc (Nat.le_refl _) _).alloc (by simp) _).alloc (by simp; omega) _)
  have hu1 := tw_ins WX (w.heap.size + 1 + 1) 0 #[] 160 0 b2 rfl
  obtain ⟨W1, hW1⟩ : ∃ W1, { WX with heap := WX.heap.setIfInBounds (w.heap.size + 1 + 1) (.map (#[].push { key := .int .u8 160, val := .int .i64 0, born := 0 }) (0 + 1)) } = W1 := ⟨_, rfl⟩
  rw [hW1] at hu1
  have hk1 : ∀ q, q ≠ w.heap.size + 1 + 1 → W1.heap[q]? = WX.heap[q]? := fun q hq => by rw [← hW1]; exact Array.getElem?_setIfInBounds_ne hq.symm
  have hm1 : W1.heap[w.heap.size + 1 + 1]? = some (.map #[{ key := .int .u8 160, val := .int .i64 0, born := 0 }] 1) := by
    rw [← hW1]
    exact Array.getElem?_setIfInBounds_self_of_lt (Array.getElem?_eq_some_iff.1 b2).1
  have hu2 := tw_ins W1 (w.heap.size + 1 + 1) 1 #[{ key := .int .u8 160, val := .int .i64 0, born := 0 }] 161 1 hm1 rfl
  obtain ⟨W2, hW2⟩ : ∃ W2, { W1 with heap := W1.heap.setIfInBounds (w.heap.size + 1 + 1) (.map (#[({ key := .int .u8 160, val := .int .i64 0, born := 0 } : MapEntry)].push { key := .int .u8 161, val := .int .i64 1, born := 1 }) (1 + 1)) } = W2 := ⟨_, rfl⟩
  rw [hW2] at hu2
  have hk2 : ∀ q, q ≠ w.heap.size + 1 + 1 → W2.heap[q]? = WX.heap[q]? := fun q hq => by rw [← hk1 q hq, ← hW2]; exact Array.getElem?_setIfInBounds_ne hq.symm
  have hm2 : W2.heap[w.heap.size + 1 + 1]? = some (.map #[{ key := .int .u8 160, val := .int .i64 0, born := 0 }, { key := .int .u8 161, val := .int .i64 1, born := 1 }] 2) := by
    rw [← hW2]
    exact Array.getElem?_setIfInBounds_self_of_lt (Array.getElem?_eq_some_iff.1 hm1).1
  have hs2 : W2.heap.size = WX.heap.size := by rw [← hW2, ← hW1]; simp
  have hb2 : Below w.heap.size w W2 := ⟨by rw [← bb.os, ← hW2, ← hW1], by rw [← bb.tape, ← hW2, ← hW1], by rw [← bb.output, ← hW2, ← hW1], by rw [hs2]; exact bb.size, fun q hq => (hk2 q (by omega)).trans (bb.block q hq)⟩
  have c0 : W2.heap[w.heap.size]? = some (.cells #[.int .i64 0, .int .i64 0, .int .i64 0, .slice none 0 0] 58 (0, 0)) := (hk2 _ (by omega)).trans b0
  have c1 : W2.heap[w.heap.size + 1]? = some (.cells #[.slice (some (ad.add m)) 8 (c - m)] 51 (0, 0)) := (hk2 _ (by omega)).trans b1
  have hC2 := Kd.C_below HC.out hb2
  rw [← hWX] at hu1
  clear hW1 hW2 hWX b0 b1 b2 bb hk1 hm1 hk2
  obtain ⟨ad', e', hx4⟩ := Kd.at_int hC2 ((m : Int) + 4) (by omega) (by omega)
  cases e'
  have hsz8 : bs.length - 8 = m := by omega
  have hsz9 : bs.length - (bs.length - 8) = 8 := by omega
  have hx4' : W2.cell? ⟨(ad.add m).block, (ad.add m).off + 4, none⟩ = some (.int .u8 (rd bs ((m : Int) + 4))) := by
    rw [show (⟨(ad.add m).block, (ad.add m).off + 4, none⟩ : Addr) = (ad.add m).add 4 from rfl, Addr.add_add]
    rw [show ((m : Int) + 4).toNat = m + 4 by omega] at hx4
    exact hx4
  have hl := tw_look W2 (w.heap.size + 1 + 1) 2 (rd bs ((m : Int) + 4)) hm2
  have c1' : W2.cell? ⟨w.heap.size + 1, 0, none⟩ = some (.slice (some (ad.add m)) 8 (c - m)) := (blk_cell c1 0).trans rfl
  obtain ⟨ad', e', hx5⟩ := Kd.at_int hC2 ((m : Int) + 5) (by omega) (by omega)
  cases e'
  have hx5' : W2.cell? ⟨(ad.add m).block, (ad.add m).off + 5, none⟩ = some (.int .u8 (rd bs ((m : Int) + 5))) := by
    rw [show (⟨(ad.add m).block, (ad.add m).off + 5, none⟩ : Addr) = (ad.add m).add 5 from rfl, Addr.add_add]
    rw [show ((m : Int) + 5).toNat = m + 5 by omega] at hx5
    exact hx5
  have hx_ : ∀ k : Nat, k < 8 → W2.cell? ((ad.add m).add k) = some (.int .u8 (rd bs ((m : Int) + (k : Int)))) := by
    intro k hk
    obtain ⟨ad', e', hx⟩ := Kd.at_int hC2 ((m : Int) + (k : Int)) (by omega) (by omega)
    cases e'
    rw [Addr.add_add]
    rw [show ((m : Int) + (k : Int)).toNat = m + k by omega] at hx
    exact hx
  have HX_ := Aside0.mk hx_
  clear hx_
  have d0 : W2.cell? ⟨w.heap.size, 0, none⟩ = some (.int .i64 0) := (blk_cell c0 0).trans rfl
  have d1 : W2.cell? ⟨w.heap.size, 1, none⟩ = some (.int .i64 0) := (blk_cell c0 1).trans rfl
  have d2 : W2.cell? ⟨w.heap.size, 2, none⟩ = some (.int .i64 0) := (blk_cell c0 2).trans rfl
  have d3 : W2.cell? ⟨w.heap.size, 3, none⟩ = some (.slice none 0 0) := (blk_cell c0 3).trans rfl
  have f0 := blk_frozen c0 0
  have f1 := blk_frozen c0 1
  have f2 := blk_frozen c0 2
  have f3 := blk_frozen c0 3
  have e0 : W2.setCell ⟨w.heap.size, 0, none⟩ (.int .i64 0) = W2 := tw_same c0 rfl
  have e1 : W2.setCell ⟨w.heap.size, 1, none⟩ (.int .i64 0) = W2 := tw_same c0 rfl
  have e2 : W2.setCell ⟨w.heap.size, 2, none⟩ (.int .i64 0) = W2 := tw_same c0 rfl
  have e3 : W2.setCell ⟨w.heap.size, 3, none⟩ (.slice none 0 0) = W2 := tw_same c0 rfl
  have HB2 := Aside0.mk hb2
  have C0 := Aside0.mk c0
  have C1 := Aside0.mk c1
  have HC2 := Aside0.mk hC2
  have HM2 := Aside0.mk hm2
  clear hb2 c0 c1 hC2 hx4 hx5 hs2 hm2
  generalize hkk : rd bs ((m : Int) + 4) = kk at hl hx4'
  have HKK := Aside0.mk hkk
  clear hkk
  go_region
  go_wp2
  all_goals try
    (refine bodyPost_ret (results_ct rfl _ _ w.heap.size 58 #[.int .i64 0, .int .i64 0, .int .i64 0, .slice none 0 0] (0, 0) _ rfl C0.out Try.underlying58 rfl (by kernel_rfl)) rfl ?_
     have F : tw_openF bs = (0, 0, 0, [], 15) := by
       unfold tw_openF
       rw [if_neg hn, if_pos]
       rw [hsz8, HKK.out]
       clear hu1 hu2 hl hmm HB2 C0 C1 HC2 HM2 HC d0 d1 d2 d3 e0 e1 e2 e3 f0 f1 f2 f3 c1' hx5'
       grind
     rw [F]
     exact ⟨_, rfl, Kd.R_nil _ _ _ _ _, HB2.out⟩)
  clear hx4' hx5'
  have hx6 : W2.cell? ⟨(ad.add m).block, (ad.add m).off + 6, none⟩ = some (.int .u8 (rd bs ((m : Int) + 6))) := HX_.out 6 (by omega)
  have hx7 : W2.cell? ⟨(ad.add m).block, (ad.add m).off + 7, none⟩ = some (.int .u8 (rd bs ((m : Int) + 7))) := HX_.out 7 (by omega)
  go_region
  go_wp2
  all_goals try
    (refine bodyPost_ret (results_ct rfl _ _ w.heap.size 58 #[.int .i64 0, .int .i64 0, .int .i64 0, .slice none 0 0] (0, 0) _ rfl (blk_drew C0.out) Try.underlying58 rfl (by kernel_rfl)) rfl ?_
     have F : tw_openF bs = (0, 0, 0, [], 4) := by
       unfold tw_openF tw_word
       rw [hsz8, HKK.out]
       clear hu1 hu2 hl hmm HB2 C0 C1 HC2 HM2 HC HX_ d0 d1 d2 d3 e0 e1 e2 e3 f0 f1 f2 f3 c1' hx6 hx7
       grind
     rw [F]
     exact ⟨_, rfl, Kd.R_nil _ _ _ _ _, below_drew1 HB2.out⟩)
  have W3e : ∃ W_, W2.drew = W_ := ⟨_, rfl⟩
  obtain ⟨W3, hW3⟩ := W3e
  have q1 : W3.cell? ⟨w.heap.size + 1, 0, none⟩ = some (.slice (some (ad.add m)) 8 (c - m)) := by rw [← hW3]; exact c1'
  have HX3 : ∀ k : Nat, k < 8 → W3.cell? ((ad.add m).add k) = some (.int .u8 (rd bs ((m : Int) + (k : Int)))) := by rw [← hW3]; exact HX_.out
  have hy0 : W3.cell? (ad.add m) = some (.int .u8 (rd bs ((m : Int) + 0))) := HX3 0 (by omega)
  have hy1 : W3.cell? ⟨(ad.add m).block, (ad.add m).off + 1, none⟩ = some (.int .u8 (rd bs ((m : Int) + 1))) := HX3 1 (by omega)
  have C3 : Aside0 (W3.heap[w.heap.size]? = some (.cells #[.int .i64 0, .int .i64 0, .int .i64 0, .slice none 0 0] 58 (0, 0))) := ⟨by rw [← hW3]; exact blk_drew C0.out⟩
  have HB3 : Aside0 (Below w.heap.size w W3) := ⟨by rw [← hW3]; exact below_drew1 HB2.out⟩
  have HC3 := Aside0.mk (Kd.C_below HC.out HB3.out)
  have HX3' := Aside0.mk HX3
  rw [hW3]
  clear hx6 hx7 c1' d0 d1 d2 d3 e0 e1 e2 e3 f0 f1 f2 f3 hu1 hu2 hl HX3 hW3
  go_region
  go_wp2
  have W4e : ∃ W_, W3.drew = W_ := ⟨_, rfl⟩
  obtain ⟨W4, hW4⟩ := W4e
  have q2 : W4.cell? ⟨w.heap.size + 1, 0, none⟩ = some (.slice (some (ad.add m)) 8 (c - m)) := by rw [← hW4]; exact q1
  have HX4 : ∀ k : Nat, k < 8 → W4.cell? ((ad.add m).add k) = some (.int .u8 (rd bs ((m : Int) + (k : Int)))) := by rw [← hW4]; exact HX3'.out
  have hz2 : W4.cell? ⟨(ad.add m).block, (ad.add m).off + 2, none⟩ = some (.int .u8 (rd bs ((m : Int) + 2))) := HX4 2 (by omega)
  have hz3 : W4.cell? ⟨(ad.add m).block, (ad.add m).off + 3, none⟩ = some (.int .u8 (rd bs ((m : Int) + 3))) := HX4 3 (by omega)
  have hz4 : W4.cell? ⟨(ad.add m).block, (ad.add m).off + 4, none⟩ = some (.int .u8 (rd bs ((m : Int) + 4))) := HX4 4 (by omega)
  have C4 : Aside0 (W4.heap[w.heap.size]? = some (.cells #[.int .i64 0, .int .i64 0, .int .i64 0, .slice none 0 0] 58 (0, 0))) := ⟨by rw [← hW4]; exact blk_drew C3.out⟩
  have HB4 : Aside0 (Below w.heap.size w W4) := ⟨by rw [← hW4]; exact below_drew1 HB3.out⟩
  have HC4 := Aside0.mk (Kd.C_below HC.out HB4.out)
  rw [hW4]
  clear hy0 hy1 q1 HX3' HX4 hW4
  have hml : (bs.take m).length = m := by rw [List.length_take]; omega
  have HT : Aside0 (Kd.C (Kd.int .u8) W4 (some ad) (bs.take m).length (bs.take m)) := ⟨Kd.C_take HC4.out (m := m) (by omega)⟩
  have hm15 : m < 1000000 := by omega
  have HML := Aside0.mk hml
  have HM15 := Aside0.mk hm15
  go_region
  go_wp2_with (first | ((with_reducible refine gate_callee (f := 50) rfl ?_); refine goesL_ (some 59) rfl rfl Try.func50 (by kernel_rfl) rfl #[.slice (some ad) (bs.take m).length m] rfl (by simp only [List.map_toArray, List.map_cons, List.map_nil]; rw [HML.out]; rfl) ?_; refine (tw_cloneB _ _ (bs.take m) _ ?s1 ?s2 ?s3).mono ?_; (case s1 => exact Kd.C_drew HT.out _); (case s2 => exact Nat.le_of_eq HML.out); (case s3 => rw [HML.out]; exact HM15.out); rintro e w5 ⟨v5, rfl, hR5, hB5⟩; have HR5 := Aside0.mk hR5; have HB5 := Aside0.mk hB5; clear hR5 hB5; refine ⟨_, rfl, ?_⟩))
  all_goals
    have hk5 := tw_cloneB (some ad) m (bs.take m) W4.drew (Kd.C_drew HT.out) (Nat.le_of_eq HML.out) (by rw [HML.out]; exact HM15.out)
    rw [HML.out] at hk5
    refine hk5.mono ?_
    rintro e w5 ⟨v5, rfl, hR5, hB5⟩
    have HR5 := Aside0.mk hR5
    have HB5 := Aside0.mk hB5
    obtain ⟨A5, c5, e5⟩ := Kd.R_slice hR5
    have C5 : w5.heap[w.heap.size]? = some (.cells #[.int .i64 0, .int .i64 0, .int .i64 0, .slice none 0 0] 58 (0, 0)) := blk_below (blk_drew C4.out) hB5
    clear hk5 hR5 hB5
    subst e5
    have d0 := (blk_cell C5 0).trans rfl
    have d1 := (blk_cell C5 1).trans rfl
    have d2 := (blk_cell C5 2).trans rfl
    have d3 := (blk_cell C5 3).trans rfl
    have f0 := blk_frozen C5 0
    have f1 := blk_frozen C5 1
    have f2 := blk_frozen C5 2
    have f3 := blk_frozen C5 3
    have D5 := Aside0.mk C5
    clear C5
    go_wp2
    have E0 := blk_put D5.out 0 (Value.int IntKind.i64 (bits BinOp.or IntKind.i64 (wrap64 (wrap64 (rd bs m) * 256)) (wrap64 (rd bs (m + 1))))) rfl
    have E1 := blk_put E0 1 (Value.int IntKind.i64 (bits BinOp.or IntKind.i64 (wrap64 (wrap64 (rd bs (m + 2)) * 256)) (wrap64 (rd bs (m + 3))))) rfl
    have HR6 := HR5.out
    rw [HML.out] at HR6
    have G1 := Kd.R_set (Kd.R_set HR6 D5.out (by decide) 0 (Value.int IntKind.i64 (bits BinOp.or IntKind.i64 (wrap64 (wrap64 (rd bs m) * 256)) (wrap64 (rd bs (m + 1)))))) E0 (by decide) 1 (Value.int IntKind.i64 (bits BinOp.or IntKind.i64 (wrap64 (wrap64 (rd bs (m + 2)) * 256)) (wrap64 (rd bs (m + 3)))))
    have hB6 : Below w.heap.size w w5 := (below_drew1 HB4.out).trans (HB5.out.mono (by have := HB4.out.size; exact this))
    have hlow : w.heap.size ≤ W4.drew.heap.size := HB4.out.size
    have F : tw_openF bs = (tw_word (rd bs m) (rd bs ((m : Int) + 1)), tw_word (rd bs ((m : Int) + 2)) (rd bs ((m : Int) + 3)), (if kk = 161 then 1 else 0), bs.take m, 0) := by
      unfold tw_openF
      rw [hsz8, HKK.out, if_neg hn, if_neg ?_, if_neg ?_, show (m : Int) + 0 = m by omega]
      · unfold tw_word
        clear hmm HX_ HB2 C0 C1 HC2 HM2 HC HKK C3 HB3 HC3 C4 HB4 HC4 HT q2 hz2 hz3 hz4 HR5 HR6 HB5 d0 d1 d2 d3 f0 f1 f2 f3 D5 E0 E1 G1 hB6
        grind
      · clear hmm HX_ HB2 C0 C1 HC2 HM2 HC HKK C3 HB3 HC3 C4 HB4 HC4 HT q2 hz2 hz3 hz4 HR5 HR6 HB5 d0 d1 d2 d3 f0 f1 f2 f3 D5 E0 E1 G1 hB6
        grind
    have fin : ∀ net : Int, (if kk = 161 then (1 : Int) else 0) = net → bodyPost Try.prog Try.f24 (fun e w' => ∃ v3_ : Value, e = .returned (.tuple #[.agg #[.int .i64 (tw_openF bs).1, .int .i64 (tw_openF bs).2.1, .int .i64 (tw_openF bs).2.2.1, v3_], .int .i64 (tw_openF bs).2.2.2.2]) ∧ Kd.R (Kd.int .u8) 5 w' w.heap.size (fun _ => True) v3_ (tw_openF bs).2.2.2.1 ∧ Below w.heap.size w w') Exit.ret = bodyPost Try.prog Try.f24 (fun e w' => ∃ v3_ : Value, e = .returned (.tuple #[.agg #[.int .i64 (tw_word (rd bs m) (rd bs ((m : Int) + 1))), .int .i64 (tw_word (rd bs ((m : Int) + 2)) (rd bs ((m : Int) + 3))), .int .i64 net, v3_], .int .i64 0]) ∧ Kd.R (Kd.int .u8) 5 w' w.heap.size (fun _ => True) v3_ (bs.take m) ∧ Below w.heap.size w w') Exit.ret := by
      intro net hnet
      rw [F, hnet]
    first
      | rw [fin 1 (if_pos (by assumption))]
      | rw [fin 0 (if_neg (by assumption))]
    refine bodyPost_ret (results_ct rfl _ _ w.heap.size 58 _ (0, 0) _ rfl (blk_put (blk_put E1 2 _ rfl) 3 _ rfl) Try.underlying58 rfl (by kernel_rfl)) rfl ?_
    exact ⟨.slice A5 m c5, rfl, Kd.R_lower (Kd.R_set (Kd.R_set G1 E1 (by decide) 2 _) (blk_put E1 2 _ rfl) (by decide) 3 _) hlow, (((hB6.setCell (by simp) _).setCell (by simp) _).setCell (by simp) _).setCell (by simp) _⟩
def twin_Open.f (l0 : List Int) : Option (Int × Int × Int × List Int × Int) := if l0.length ≤ 9223372036854775807 then some (tw_openF l0) else none
theorem twin_Open.calls (A0 : Option Addr) (c0 : Nat) (l0 : List Int) (r1 : Int) (r2 : Int) (r3 : Int) (r4 : List Int) (r5 : Int) (w : World) (hr0 : Kd.C (Kd.int .u8) w A0 l0.length l0) (hc0 : l0.length ≤ c0) (h : twin_Open.f l0 = some (r1, r2, r3, r4, r5)) :
    Calls Try.prog 24 #[.slice A0 l0.length c0] w fun e w' => ∃ v3_ : Value, e = .returned (.tuple #[.agg #[.int .i64 r1, .int .i64 r2, .int .i64 r3, v3_], .int .i64 r5]) ∧ Kd.R (Kd.int .u8) 5 w' w.heap.size (fun _ => True) v3_ r4 ∧ Below w.heap.size w w' := by
  unfold twin_Open.f at h
  by_cases hm : l0.length ≤ 9223372036854775807
  · rw [if_pos hm] at h
    have h' := Option.some.inj h
    have k : Calls Try.prog 24 #[.slice A0 l0.length c0] w fun e w' => ∃ v3_ : Value, e = .returned (.tuple #[.agg #[.int .i64 (tw_openF l0).1, .int .i64 (tw_openF l0).2.1, .int .i64 (tw_openF l0).2.2.1, v3_], .int .i64 (tw_openF l0).2.2.2.2]) ∧ Kd.R (Kd.int .u8) 5 w' w.heap.size (fun _ => True) v3_ (tw_openF l0).2.2.2.1 ∧ Below w.heap.size w w' := by
      by_cases hn : l0.length < 8
      · exact tw_open_short A0 c0 l0 w hr0 hc0 hm hn
      · exact tw_open_long A0 c0 l0 w hr0 hc0 hm hn
    rw [h'] at k
    exact k
  · rw [if_neg hm] at h
    exact absurd h (by simp)
end Go.Proofs.Ytnjddjpohobelaa.XB
end
