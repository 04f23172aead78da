/- The law integerSquares_holds holds: the tied statement, from the program's calls and the law's pure statement. -/
import Derived.Test.YtmjceijbbodbfaaDoorMSquares9
import Derived.Test.YtmjceijbbodbfaaDoorRows
import Derived.Test.YtmjceijbbodbfaaDoorTie
import Derived.Test.YtmjceijbbodbfaaDoorCards
import Derived.WalkKit
import Derived.ProofKit
import Derived.OpenShut
import Derived.ShutString
import Derived.ChangeOld
import Derived.Below
import Derived.SizedLaws
import Derived.LaidMore
import Derived.Stop.Joined
import Derived.SevenTiedAt
section
namespace Go.Proofs.YtmjceijbbodbfaaDoor.RIntegerSquares
open Go.ChangeShapes Go.WideShapes Go.ChangeAt Go.RowKit Go.Proofs.YtmjceijbbodbfaaDoorW.PrintWords Go.Proofs.YtmjceijbbodbfaaDoorW.PrintLast Go.Proofs.YtmjceijbbodbfaaDoorW.PrintMore Go.Proofs.YtmjceijbbodbfaaDoor.XA Go.Proofs.YtmjceijbbodbfaaDoor.XOpen
open Go.ChangeMaps (open_string shut_string)
set_option linter.unusedVariables false
theorem own : ownKnob Tryd.prog.godebug = none := by kernel_rfl
theorem laidOut : laidOutB Tryd.prog = true := by kernel_rfl
def laidL : List (String × DataW Unit) := [("math/bits.deBruijn32tab", Rows.laid_math_bits_deBruijn32tab), ("math/bits.deBruijn64tab", Rows.laid_math_bits_deBruijn64tab), ("internal/strconv.uint64pow10", Rows.laid_internal_strconv_uint64pow10)]
set_option maxRecDepth 100000 in
theorem door_met (os : Os) (args : Array Value) : laidMetH Tryd.prog laidL ((World.doorLaid Tryd.prog 62 os).forCall (fun _ _ => 0) ⟨#[], args, []⟩).memory :=
  laidMetH_of_parts3 (fuel := 8) (laidMet_of_run' 8 (by kernel_rfl) (by kernel_rfl)) (by kernel_rfl) (by kernel_rfl)
set_option maxRecDepth 100000 in
theorem lifted (os : Os) (started : os.Started) (H : Type) (enc : TypeId × Value → H) :
    ReturnsInHanded {} Tryd.checked os 8 .any (fun w args => (Rows.integerSquaresSpec.pre enc Tryd.prog Tryd.f8 Rows.integerSquaresRow.domain false w args ∧ laidMetH Tryd.prog laidL w) ∧ sizedMet enc Tryd.prog Tryd.f8 (OpenSpec.ofChange Rows.integerSquaresSpec) false w args) (Rows.integerSquaresSpec.post enc Tryd.prog Tryd.f8 false true false false) := by
  refine returnsInHanded_of_change_and (C := Tryd.checked) (X := fun w _ => laidMetH Tryd.prog laidL w) (fun _ _ _ hh h => h.of_heap hh) own started (by kernel_rfl) Tryd.func8
    (ChangeSpec.witness_shaped (enc := enc) (C := Tryd.checked) (os := os) (X := fun w _ => laidMetH Tryd.prog laidL w) false (World.doorLaid Tryd.prog 62 os) #[.agg #[.bool false, .slice none 0 0], .agg #[.bool false, .slice none 0 0]] 8 rfl (World.shaped_of_RefB (by kernel_rfl) (by kernel_rfl)) (by kernel_rfl) (by kernel_rfl) (by kernel_rfl) (door_met os _)) ?_
  intro W base args ds gs before hval0 hW _ hsz0 hL _
  have hval : ∀ (j : Nat) t v, Tryd.f8.params[j]? = some t → args[j]? = some v → Value.okWide Tryd.prog W .any base t v := hval0
  have hW' := hW
  obtain ⟨p, q, hA0, hV, rfl, hfz, hnd⟩ := hW
  have hA : DataW.TrodAll enc Tryd.prog W 0 (fun _ => true) true Tryd.f8.params.toList args.toList ds p := hA0
  rw [Tryd.params8] at hA hval
  obtain ⟨v0, vs0, d0, ds0, p0, q0, hargs, rfl, rfl, h0, rr0⟩ := trodAll_cons hA
  obtain ⟨v1, vs1, d1, ds1, p1, q1, rfl, rfl, rfl, h1, rr1⟩ := trodAll_cons rr0
  obtain ⟨rfl, rfl, rfl⟩ := trodAll_nil rr1
  obtain rfl : args = #[v0, v1] := by cases args; simp_all
  obtain ⟨rfl, rfl⟩ := trodVars_none hV
  have kk0 := h0
  have lt0 : ∀ x ∈ p0, x.block < W.heap.size := by obtain ⟨m, hm⟩ := kk0; exact DataW.trod_lt m _ _ _ hm
  obtain ⟨cs0, rfl, hs0⟩ := okWide_struct Tryd.underlying27 (hval 0 27 v0 rfl rfl)
  obtain ⟨fuel0, hf0⟩ := h0
  obtain ⟨x0, hK0, w0⟩ := opens27 H enc W 0 _ _ fuel0 cs0.toList _ (by simpa [Value.cells] using hf0)
  obtain ⟨A0_1, c0_1, he0, m0_1, g0_1⟩ := k27_open hK0
  obtain rfl : cs0 = #[.bool x0.f0, .slice A0_1 x0.f1.length c0_1] := by cases cs0; simp_all
  have kk1 := h1
  have lt1 : ∀ x ∈ p1, x.block < W.heap.size := by obtain ⟨m, hm⟩ := kk1; exact DataW.trod_lt m _ _ _ hm
  obtain ⟨cs1, rfl, hs1⟩ := okWide_struct Tryd.underlying27 (hval 1 27 v1 rfl rfl)
  obtain ⟨fuel1, hf1⟩ := h1
  obtain ⟨x1, hK1, w1⟩ := opens27 H enc W 0 _ _ fuel1 cs1.toList _ (by simpa [Value.cells] using hf1)
  obtain ⟨A1_1, c1_1, he1, m1_1, g1_1⟩ := k27_open hK1
  obtain rfl : cs1 = #[.bool x1.f0, .slice A1_1 x1.f1.length c1_1] := by cases cs1; simp_all
  obtain ⟨k_, hk_⟩ := Go.Proofs.YtmjceijbbodbfaaDoor.Pure.IntegerSquares x0 x1 w0 w1
  refine (substationlaw01_IntegerSquares.calls k_ x0.f0 (fun k_ => k_ < W.heap.size) A0_1 c0_1 x0.f1 x1.f0 (fun k_ => k_ < W.heap.size) A1_1 c1_1 x1.f1 true W (Kd.V_mk m0_1 (Kd.C_F (Kd.heap_int .u32) g0_1)) (Kd.V_mk m1_1 (Kd.C_F (Kd.heap_int .u32) g1_1)) rfl hk_).mono ?_
  rintro e W' ⟨he, hb_⟩
  have bel : Below W.heap.size W W' := hb_
  subst he
  exact ⟨_, rfl, _, _, _, [], _, [], hW', trodAll_mk1 (shut_bool Tryd.underlying4 _), (trodAll_cons_mk (Below.trod laidOut (by kernel_rfl) (of_decide_eq_true (by kernel_rfl)) kk0 bel lt0) (trodAll_cons_mk (Below.trod laidOut (by kernel_rfl) (of_decide_eq_true (by kernel_rfl)) kk1 bel lt1) trodAll_mk0)), rfl, bel.frame _, fun h => by cases h⟩
theorem over : Rows.integerSquaresRow.holds Tryd.pinned (OpenSpec.ofChange Rows.integerSquaresSpec) :=
  OpenClaim.holds_of_wide 8 Tryd.f8 rfl rfl rfl rfl rfl rfl rfl ⟨rfl, rfl, rfl, rfl, rfl⟩ rfl rfl rfl rfl rfl (by kernel_rfl) Tryd.func8 (by kernel_rfl)
    (of_decide_eq_true (by kernel_rfl)) (by unfold Func.isWrapper; first | (rw [if_pos (by decide +kernel)]; kernel_rfl) | (rw [if_neg (by decide +kernel)]; exact ⟨rfl, rfl⟩))
    (fun os started H enc _ => lifted os started H enc)
end Go.Proofs.YtmjceijbbodbfaaDoor.RIntegerSquares
namespace Go.Proofs.YtmjceijbbodbfaaDoor
/-- The tied card, under a short name, for the claim. -/
theorem integerSquares_holds : Rows.IntegerSquaresCardSaid :=
  Claim7.holds_tied_plain_at .later [] [.data, .data, .data] true (true, "34ad8542cc41337b8a409f0d53c082bbd2b1793497356e5fc555551a51fbdbc4") true
    (show Rows.IntegerSquaresSaid from RIntegerSquares.over) (fun _ h => by cases h) (by kernel_rfl) (fun _ h => by cases h) integerSquares_row_tie rfl ⟨rfl, rfl⟩ (by kernel_rfl) rfl
    (fun f fn hf hfn => by
      obtain rfl : f = 8 := Option.some.inj ((show Tryd.prog.funcNamed "substation/substationlaw01.IntegerSquares" = some 8 by kernel_rfl).symm.trans hf) |>.symm
      obtain rfl : fn = Tryd.f8 := (Option.some.inj (Tryd.func8.symm.trans hfn)).symm
      exact ⟨by kernel_rfl, fun j t ht => by
        rw [Tryd.params8] at ht
        have hm : t ∈ [27, 27] := by simpa using Array.mem_of_getElem? ht
        have hall : ([27, 27].all fun u => !Tryd.prog.wantsStandIn u) = true := by kernel_rfl
        exact (show Tryd.prog.wantsStandIn t = false by simpa using List.all_eq_true.1 hall t hm)⟩)
    (by kernel_rfl)
end Go.Proofs.YtmjceijbbodbfaaDoor
end
