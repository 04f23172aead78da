/- A part of the proof of the law integerSquares_holds: general lemmas, functions of the program as plain functions with proofs that the calls compute them, and what they compute; merged from this session's texts. -/
import Derived.Test.YtmjceijbbodbfaaDoorMSquares6
import Derived.Shelf.Strings.Builder1
import Derived.Shelf.Strings.Builder2
import Derived.Shelf.Strings.OnBuilder
import Derived.Shelf.Strconv.Itoa0
import Derived.Shelf.Strconv.Itoa1
import Derived.Shelf.LaysM
import Derived.Shelf.Strconv.Itoa2
import Derived.Shelf.Strconv.Itoa3
import Derived.Shelf.Bits.Mul64
import Derived.Test.YtmjceijbbodbfaaDoorProg
section
namespace Go.Proofs
open Go.Shelf
def Tryd.lays156_ren : Go.Shelf.Ren := ⟨fun | 156 => 66 | 165 => 85 | 166 => 86 | 169 => 88 | 240 => 106 | 241 => 107 | 276 => 120 | 277 => 121 | n => n, fun | 31 => 64 | 9 => 9 | 3 => 3 | 4 => 4 | 0 => 0 | 20 => 20 | 72 => 99 | 76 => 88 | 70 => 97 | 37 => 72 | 75 => 87 | 127 => 115 | 164 => 128 | 5 => 5 | 80 => 102 | n => n, fun | n => n⟩
theorem Tryd.lays156 : Go.Proofs.Lays.n156 Tryd.prog Tryd.lays156_ren := {
  mixed := by kernel_rfl
  f156 := Tryd.func66.trans (congrArg some (by kernel_rfl))
  f165 := Tryd.func85.trans (congrArg some (by kernel_rfl))
  f166 := Tryd.func86.trans (congrArg some (by kernel_rfl))
  f169 := Tryd.func88.trans (congrArg some (by kernel_rfl))
  f240 := Tryd.func106.trans (congrArg some (by kernel_rfl))
  f241 := Tryd.func107.trans (congrArg some (by kernel_rfl))
  f276 := Tryd.func120.trans (congrArg some (by kernel_rfl))
  f277 := Tryd.func121.trans (congrArg some (by kernel_rfl))
  t0 := Tryd.underlying0
  a0 := Tryd.isAgg0
  z0 := Tryd.sizeOf0
  v0 := Tryd.zeroValue0
  t3 := Tryd.underlying3
  a3 := Tryd.isAgg3
  z3 := Tryd.sizeOf3
  v3 := Tryd.zeroValue3
  t4 := Tryd.underlying4
  a4 := Tryd.isAgg4
  z4 := Tryd.sizeOf4
  v4 := Tryd.zeroValue4
  t9 := Tryd.underlying9
  a9 := Tryd.isAgg9
  z9 := Tryd.sizeOf9
  v9 := Tryd.zeroValue9
  t20 := Tryd.underlying20
  a20 := Tryd.isAgg20
  z20 := Tryd.sizeOf20
  v20 := Tryd.zeroValue20
  t31 := Tryd.underlying64
  a31 := Tryd.isAgg64
  z31 := Tryd.sizeOf64
  v31 := Tryd.zeroValue64
  t37 := Tryd.underlying72
  a37 := Tryd.isAgg72
  z37 := Tryd.sizeOf72
  v37 := Tryd.zeroValue72
  t70 := Tryd.underlying97
  a70 := Tryd.isAgg97
  z70 := Tryd.sizeOf97
  v70 := Tryd.zeroValue97
  t72 := Tryd.underlying99
  a72 := Tryd.isAgg99
  z72 := Tryd.sizeOf99
  v72 := Tryd.zeroValue99
  t75 := Tryd.underlying87
  a75 := Tryd.isAgg87
  z75 := Tryd.sizeOf87
  v75 := Tryd.zeroValue87
  t76 := Tryd.underlying88
  a76 := Tryd.isAgg88
  z76 := Tryd.sizeOf88
  v76 := Tryd.zeroValue88
  t127 := Tryd.underlying115
  a127 := Tryd.isAgg115
  z127 := Tryd.sizeOf115
  v127 := Tryd.zeroValue115
  t164 := Tryd.underlying128
  a164 := Tryd.isAgg128
  z164 := Tryd.sizeOf128
  v164 := Tryd.zeroValue128 }
theorem Tryd.Builder_Extra_156 : Builder.Extra Tryd.prog Tryd.lays156_ren := {
  sizeBuilder := by kernel_rfl
  liesBuilder := by kernel_rfl
  t5 := Tryd.underlying5
  a5 := Tryd.isAgg5
  z5 := Tryd.sizeOf5
  v5 := Tryd.zeroValue5
  infoByte := by kernel_rfl
  cellsByte := by kernel_rfl
  sizeByte := by kernel_rfl
  neB5 := by decide }
open Go.RowKit in
/-- No element: the empty string; the world is as it was. (Whatever the slice's address and capacity: a nil slice too.) (LAID: no walk: one application.) -/
theorem Tryd.strings_Join_none (a : Option Addr) (c : Nat) (sep : ByteArray) (w : World) :
    Calls Tryd.prog 66 #[.slice a 0 c, .string sep] w fun e w' => e = .returned (.string ⟨#[]⟩) ∧ w' = w := Any.strings_Join_none Tryd.lays156 Tryd.Builder_Extra_156 a c sep w
open Go.RowKit in
/-- strings.Join: "Join concatenates the elements of its first argument to create a single string. The separator string sep is placed between elements in the resulting string.": HOWEVER MANY ELEMENTS. Below the heap's end the world is as it was. (LAID: no walk: one application.) -/
theorem Tryd.strings_Join (bk o c : Nat) (xs : List ByteArray) (sep : ByteArray) (w : World) (hcells : ∀ (j : Nat) x, xs[j]? = some x → w.cell? ⟨bk, o + j, none⟩ = some (.string x)) (hbk : bk < w.heap.size) (hN : xs.length ≤ 140737488355328) (hcap : xs.length ≤ c) (hlen : (Lib.join (xs.map (·.data.toList)) sep.data.toList).length ≤ 140737488355328) :
    Calls Tryd.prog 66 #[.slice (some ⟨bk, o, none⟩) xs.length c, .string sep] w fun e w' => e = .returned (.string ⟨(Lib.join (xs.map (·.data.toList)) sep.data.toList).toArray⟩) ∧ Below w.heap.size w w' := Any.strings_Join Tryd.lays156 Tryd.Builder_Extra_156 bk o c xs sep w hcells hbk hN hcap hlen
def Tryd.lays171_ren : Go.Shelf.Ren := ⟨fun | 171 => 63 | 243 => 82 | 246 => 102 | 283 => 116 | 284 => 117 | 285 => 118 | 286 => 119 | 129 => 126 | 317 => 125 | 318 => 127 | 319 => 128 | 320 => 129 | 337 => 132 | 338 => 133 | n => n, fun | 3 => 3 | 9 => 9 | 2 => 2 | 4 => 4 | 171 => 123 | 0 => 0 | 53 => 58 | 37 => 72 | 5 => 5 | 173 => 126 | 212 => 139 | 51 => 22 | 20 => 20 | 213 => 140 | 46 => 59 | 232 => 147 | 233 => 148 | n => n, fun | 17 => 3 | 18 => 5 | 19 => 6 | n => n⟩
theorem Tryd.lays171 : Go.Proofs.Lays.n171 Tryd.prog Tryd.lays171_ren := {
  mixed := by kernel_rfl
  f129 := Tryd.func126.trans (congrArg some (by kernel_rfl))
  f171 := Tryd.func63.trans (congrArg some (by kernel_rfl))
  f243 := Tryd.func82.trans (congrArg some (by kernel_rfl))
  f246 := Tryd.func102.trans (congrArg some (by kernel_rfl))
  f283 := Tryd.func116.trans (congrArg some (by kernel_rfl))
  f284 := Tryd.func117.trans (congrArg some (by kernel_rfl))
  f285 := Tryd.func118.trans (congrArg some (by kernel_rfl))
  f286 := Tryd.func119.trans (congrArg some (by kernel_rfl))
  f317 := Tryd.func125.trans (congrArg some (by kernel_rfl))
  f318 := Tryd.func127.trans (congrArg some (by kernel_rfl))
  f319 := Tryd.func128.trans (congrArg some (by kernel_rfl))
  f320 := Tryd.func129.trans (congrArg some (by kernel_rfl))
  f337 := Tryd.func132.trans (congrArg some (by kernel_rfl))
  f338 := Tryd.func133.trans (congrArg some (by kernel_rfl))
  t0 := Tryd.underlying0
  a0 := Tryd.isAgg0
  z0 := Tryd.sizeOf0
  v0 := Tryd.zeroValue0
  t2 := Tryd.underlying2
  a2 := Tryd.isAgg2
  z2 := Tryd.sizeOf2
  v2 := Tryd.zeroValue2
  t3 := Tryd.underlying3
  a3 := Tryd.isAgg3
  z3 := Tryd.sizeOf3
  v3 := Tryd.zeroValue3
  t4 := Tryd.underlying4
  a4 := Tryd.isAgg4
  z4 := Tryd.sizeOf4
  v4 := Tryd.zeroValue4
  t5 := Tryd.underlying5
  a5 := Tryd.isAgg5
  z5 := Tryd.sizeOf5
  v5 := Tryd.zeroValue5
  t9 := Tryd.underlying9
  a9 := Tryd.isAgg9
  z9 := Tryd.sizeOf9
  v9 := Tryd.zeroValue9
  t20 := Tryd.underlying20
  a20 := Tryd.isAgg20
  z20 := Tryd.sizeOf20
  v20 := Tryd.zeroValue20
  t37 := Tryd.underlying72
  a37 := Tryd.isAgg72
  z37 := Tryd.sizeOf72
  v37 := Tryd.zeroValue72
  t46 := Tryd.underlying59
  a46 := Tryd.isAgg59
  z46 := Tryd.sizeOf59
  v46 := Tryd.zeroValue59
  t51 := Tryd.underlying22
  a51 := Tryd.isAgg22
  z51 := Tryd.sizeOf22
  v51 := Tryd.zeroValue22
  t53 := Tryd.underlying58
  a53 := Tryd.isAgg58
  z53 := Tryd.sizeOf58
  v53 := Tryd.zeroValue58
  t171 := Tryd.underlying123
  a171 := Tryd.isAgg123
  z171 := Tryd.sizeOf123
  v171 := Tryd.zeroValue123
  t173 := Tryd.underlying126
  a173 := Tryd.isAgg126
  z173 := Tryd.sizeOf126
  v173 := Tryd.zeroValue126
  t212 := Tryd.underlying139
  a212 := Tryd.isAgg139
  z212 := Tryd.sizeOf139
  v212 := Tryd.zeroValue139
  t213 := Tryd.underlying140
  a213 := Tryd.isAgg140
  z213 := Tryd.sizeOf140
  t232 := Tryd.underlying147
  a232 := Tryd.isAgg147
  z232 := Tryd.sizeOf147
  v232 := Tryd.zeroValue147
  t233 := Tryd.underlying148
  a233 := Tryd.isAgg148
  z233 := Tryd.sizeOf148
  v233 := Tryd.zeroValue148
  g17 := by kernel_rfl
  g18 := by kernel_rfl
  g19 := by kernel_rfl }
open Go.RowKit Go.Sort Go.Lib in
/-- THE ROAD WITHOUT THE TABLE: 0 <= i < 100: NO PREMISE ON THE WORLD, AND THE WORLD IS AS IT WAS: a row that keeps its argument in that range need list no table ('laid = []'). (LAID: no walk: one application.) -/
theorem Tryd.strconv_Itoa_small (i : Nat) (hi : i < 100) (w : World) :
    Calls Tryd.prog 63 #[.int .i64 i] w fun e w' => e = .returned (.string ⟨(Lib.decDigits i).toArray⟩) ∧ w' = w := Any.strconv_Itoa_small Tryd.lays171 i hi w
end Go.Proofs
end
section
namespace Go.Proofs.YtmjceijbbodbfaaDoor.Dig
/-- The digit at a place (0 beyond the end). -/
def dg (l : List Int) (i : Nat) : Int := l.getD i 0
/-- The powers of the base. -/
def pw : Nat → Int
  | 0 => 1
  | n + 1 => pw n * 4294967296
theorem pw_succ (n : Nat) : pw (n + 1) = pw n * 4294967296 := rfl
theorem pw_add (m n : Nat) : pw (m + n) = pw m * pw n := by
  induction n with
  | zero => simp [pw]
  | succ n ih => rw [← Nat.add_assoc, pw_succ, ih, pw_succ, Int.mul_assoc]
/-- The value of the first n digits. -/
def pv (l : List Int) : Nat → Int
  | 0 => 0
  | n + 1 => pv l n + pw n * dg l n
/-- The value. -/
def val (l : List Int) : Int := pv l l.length
def Ok (l : List Int) : Prop := ∀ x ∈ l, 0 ≤ x ∧ x < 4294967296
/-- No leading zero. -/
def Nz (l : List Int) : Prop := l = [] ∨ dg l (l.length - 1) ≠ 0
def Norm (l : List Int) : Prop := Ok l ∧ Nz l
theorem dg_out {l : List Int} {i : Nat} (h : l.length ≤ i) : dg l i = 0 := by
  unfold dg
  rw [List.getD_eq_getElem?_getD, List.getElem?_eq_none h]
  rfl
theorem dg_in {l : List Int} {i : Nat} (h : i < l.length) : dg l i = l[i] := by
  unfold dg
  rw [List.getD_eq_getElem?_getD, List.getElem?_eq_getElem h]
  rfl
theorem dg_ok {l : List Int} (h : Ok l) (i : Nat) : 0 ≤ dg l i ∧ dg l i < 4294967296 := by
  rcases Nat.lt_or_ge i l.length with hi | hi
  · rw [dg_in hi]; exact h _ (List.getElem_mem hi)
  · rw [dg_out hi]; omega
theorem dg_set_self {l : List Int} {i : Nat} (h : i < l.length) (v : Int) : dg (l.set i v) i = v := by
  unfold dg
  simp [List.getD_eq_getElem?_getD, h]
theorem dg_set_ne {l : List Int} {i j : Nat} (h : i ≠ j) (v : Int) : dg (l.set i v) j = dg l j := by
  unfold dg
  simp [List.getD_eq_getElem?_getD, List.getElem?_set_ne h]
theorem dg_append_right (a b : List Int) (i : Nat) : dg (a ++ b) (a.length + i) = dg b i := by
  unfold dg
  rw [List.getD_eq_getElem?_getD, List.getElem?_append_right (by omega), List.getD_eq_getElem?_getD]
  simp
theorem dg_replicate (n i : Nat) : dg (List.replicate n 0) i = 0 := by
  unfold dg
  rw [List.getD_eq_getElem?_getD, List.getElem?_replicate]
  split <;> rfl
theorem dg_cons (x : Int) (l : List Int) (i : Nat) : dg (x :: l) (i + 1) = dg l i := by
  unfold dg; simp
theorem dg_cons_zero (x : Int) (l : List Int) : dg (x :: l) 0 = x := by
  unfold dg; simp
theorem dg_take {l : List Int} {n i : Nat} (h : i < n) : dg (l.take n) i = dg l i := by
  unfold dg
  simp [List.getD_eq_getElem?_getD, h]
theorem pow_pos (n : Nat) : 0 < pw n := by
  induction n with
  | zero => simp [pw]
  | succ n ih => rw [pw_succ]; omega
theorem pow_le {m n : Nat} (h : m ≤ n) : pw m ≤ pw n := by
  obtain ⟨d, rfl⟩ : ∃ d, n = m + d := ⟨n - m, by omega⟩
  rw [pw_add]
  have h1 := pow_pos d
  have h2 : pw m * 1 ≤ pw m * pw d := Int.mul_le_mul_of_nonneg_left (by omega) (Int.le_of_lt (pow_pos m))
  omega
theorem pv_congr {a b : List Int} (n : Nat) (h : ∀ i, i < n → dg a i = dg b i) : pv a n = pv b n := by
  induction n with
  | zero => rfl
  | succ n ih => simp only [pv]; rw [ih (fun i hi => h i (by omega)), h n (by omega)]
theorem pv_set {l : List Int} {i : Nat} (n : Nat) (h : n ≤ i) (v : Int) : pv (l.set i v) n = pv l n :=
  pv_congr n fun j hj => dg_set_ne (by omega) v
theorem pv_set_succ {l : List Int} {i : Nat} (h : i < l.length) (v : Int) : pv (l.set i v) (i + 1) = pv l i + pw i * v := by
  simp only [pv]; rw [pv_set i (Nat.le_refl i), dg_set_self h]
theorem pv_out {l : List Int} (m : Nat) : pv l (l.length + m) = val l := by
  induction m with
  | zero => rfl
  | succ m ih =>
    rw [← Nat.add_assoc]
    simp only [pv]
    rw [ih, dg_out (by omega)]
    simp
theorem pv_val {l : List Int} {n : Nat} (h : l.length ≤ n) : pv l n = val l := by
  obtain ⟨m, rfl⟩ : ∃ m, n = l.length + m := ⟨n - l.length, by omega⟩
  exact pv_out m
theorem pv_nonneg {l : List Int} (h : Ok l) (n : Nat) : 0 ≤ pv l n := by
  induction n with
  | zero => exact Int.le_refl _
  | succ n ih =>
    simp only [pv]
    have := Int.mul_nonneg (Int.le_of_lt (pow_pos n)) (dg_ok h n).1
    omega
theorem pv_lt {l : List Int} (h : Ok l) (n : Nat) : pv l n < pw n := by
  induction n with
  | zero => simp [pv, pw]
  | succ n ih =>
    simp only [pv]
    have h1 := dg_ok h n
    have h2 : pw n * dg l n ≤ pw n * 4294967295 := Int.mul_le_mul_of_nonneg_left (by omega) (Int.le_of_lt (pow_pos n))
    rw [pw_succ]
    omega
theorem val_nonneg {l : List Int} (h : Ok l) : 0 ≤ val l := pv_nonneg h _
theorem val_lt {l : List Int} (h : Ok l) : val l < pw l.length := pv_lt h _
theorem pv_cons (x : Int) (l : List Int) (n : Nat) : pv (x :: l) (n + 1) = x + 4294967296 * pv l n := by
  induction n with
  | zero => simp [pv, pw, dg_cons_zero]
  | succ n ih =>
    rw [pv, ih, pv, dg_cons, pw_succ]
    grind
theorem val_nil : val [] = 0 := rfl
theorem val_cons (x : Int) (l : List Int) : val (x :: l) = x + 4294967296 * val l := pv_cons x l _
theorem val_append (a b : List Int) : val (a ++ b) = val a + pw a.length * val b := by
  induction a with
  | nil => simp [val_nil, pw]
  | cons x a ih =>
    rw [List.cons_append, val_cons, ih, val_cons, List.length_cons, pw_succ]
    grind
theorem pv_take (l : List Int) (n : Nat) : val (l.take n) = pv l n := by
  rw [← pv_val (l := l.take n) (n := n) (by rw [List.length_take]; omega)]
  exact pv_congr n fun i hi => dg_take hi
theorem ok_nil : Ok [] := fun x hx => by cases hx
theorem ok_cons {x : Int} {l : List Int} : Ok (x :: l) ↔ (0 ≤ x ∧ x < 4294967296) ∧ Ok l := by
  unfold Ok
  simp
theorem ok_append {a b : List Int} (ha : Ok a) (hb : Ok b) : Ok (a ++ b) := fun x hx => by
  rcases List.mem_append.1 hx with h | h
  · exact ha x h
  · exact hb x h
theorem ok_take {l : List Int} (h : Ok l) (n : Nat) : Ok (l.take n) := fun x hx => h x (List.mem_of_mem_take hx)
theorem ok_set {l : List Int} (h : Ok l) (i : Nat) {v : Int} (h0 : 0 ≤ v) (h1 : v < 4294967296) : Ok (l.set i v) := fun x hx => by
  rcases List.mem_or_eq_of_mem_set hx with hx | rfl
  · exact h x hx
  · exact ⟨h0, h1⟩
theorem ok_replicate (n : Nat) : Ok (List.replicate n 0) := fun x hx => by
  rw [(List.mem_replicate.1 hx).2]; omega
theorem val_replicate (n : Nat) : val (List.replicate n 0) = 0 := by
  have : ∀ m, pv (List.replicate n 0) m = 0 := fun m => by
    induction m with
    | zero => rfl
    | succ m ih => simp only [pv]; rw [ih, dg_replicate]; simp
  exact this _
theorem norm_nil : Norm [] := ⟨ok_nil, .inl rfl⟩
theorem norm_tail {x : Int} {l : List Int} (h : Norm (x :: l)) : Norm l := by
  refine ⟨(ok_cons.1 h.1).2, ?_⟩
  rcases h.2 with h2 | h2
  · cases h2
  · cases l with
    | nil => exact .inl rfl
    | cons y t => exact .inr (by simpa [dg_cons] using h2)
/-- A number without leading zeros is at least the power of its length. -/
theorem norm_ge {l : List Int} (h : Norm l) (hl : l ≠ []) : pw (l.length - 1) ≤ val l := by
  rcases h.2 with h2 | h2
  · exact absurd h2 hl
  · have hp : 0 < l.length := List.length_pos_iff.2 hl
    have e : l.length = (l.length - 1) + 1 := by omega
    unfold val
    rw [e]
    simp only [pv]
    have h3 := dg_ok h.1 (l.length - 1)
    have h4 := pv_nonneg h.1 (l.length - 1)
    have h5 : pw (l.length - 1) * 1 ≤ pw (l.length - 1) * dg l (l.length - 1) := Int.mul_le_mul_of_nonneg_left (by omega) (Int.le_of_lt (pow_pos _))
    simp only [Nat.add_sub_cancel]
    omega
theorem norm_zero {l : List Int} (h : Norm l) (h0 : val l = 0) : l = [] := by
  cases l with
  | nil => rfl
  | cons x t =>
    have := norm_ge h (by simp)
    have := pow_pos ((x :: t).length - 1)
    omega
theorem norm_pos {l : List Int} (h : Norm l) : 0 < val l ↔ l ≠ [] := by
  constructor
  · rintro h0 rfl
    simp [val_nil] at h0
  · intro hl
    have := norm_ge h hl
    have := pow_pos (l.length - 1)
    omega
/-- Two numbers without leading zeros that have one value are the same. -/
theorem uniq : ∀ {a b : List Int}, Norm a → Norm b → val a = val b → a = b
  | [], b, _, hb, h => (norm_zero hb (by rw [← h, val_nil])).symm
  | x :: s, [], ha, _, h => norm_zero ha (by rw [h, val_nil])
  | x :: s, y :: t, ha, hb, h => by
    have h1 := (ok_cons.1 ha.1).1
    have h2 := (ok_cons.1 hb.1).1
    rw [val_cons, val_cons] at h
    have hxy : x = y := by omega
    subst hxy
    rw [uniq (norm_tail ha) (norm_tail hb) (by omega)]
/-- The longer one is the greater one. -/
theorem len_lt {a b : List Int} (ha : Ok a) (hb : Norm b) (h : a.length < b.length) : val a < val b := by
  have h1 := val_lt ha
  have h2 := norm_ge hb (by intro e; subst e; simp at h)
  have h3 : pw a.length ≤ pw (b.length - 1) := pow_le (by omega)
  omega
/-- A value below a power of the base has no more digits. -/
theorem len_le {l : List Int} (h : Norm l) {n : Nat} (hv : val l < pw n) : l.length ≤ n := by
  rcases Nat.lt_or_ge n l.length with hn | hn
  · have h2 := norm_ge h (by intro e; subst e; simp at hn)
    have h3 : pw n ≤ pw (l.length - 1) := pow_le (by omega)
    omega
  · exact hn
/-- The digits of a number. -/
def digs (n : Nat) : List Int := if h : n = 0 then [] else ((n % 4294967296 : Nat) : Int) :: digs (n / 4294967296)
termination_by n
decreasing_by omega
theorem digs_zero : digs 0 = [] := by rw [digs]; simp
theorem digs_pos {n : Nat} (h : n ≠ 0) : digs n = ((n % 4294967296 : Nat) : Int) :: digs (n / 4294967296) := by rw [digs]; simp [h]
theorem digs_spec (n : Nat) : Norm (digs n) ∧ val (digs n) = n := by
  induction n using Nat.strongRecOn with
  | _ n ih =>
    by_cases h : n = 0
    · subst h
      rw [digs_zero]
      exact ⟨norm_nil, rfl⟩
    · obtain ⟨⟨hok, hz⟩, hv⟩ := ih (n / 4294967296) (by omega)
      rw [digs_pos h]
      refine ⟨⟨ok_cons.2 ⟨by omega, hok⟩, .inr ?_⟩, by rw [val_cons, hv]; omega⟩
      cases ht : digs (n / 4294967296) with
      | nil =>
        have h0 : n / 4294967296 = 0 := by
          rw [ht, val_nil] at hv; omega
        simp only [List.length_singleton, Nat.sub_self, dg_cons_zero]
        omega
      | cons y t =>
        rw [ht] at hz
        rcases hz with hz | hz
        · cases hz
        · simpa [dg_cons] using hz
theorem digs_norm (n : Nat) : Norm (digs n) := (digs_spec n).1
theorem digs_val (n : Nat) : val (digs n) = n := (digs_spec n).2
theorem digs_of {l : List Int} (h : Norm l) : l = digs (val l).toNat := uniq h (digs_norm _) (by rw [digs_val]; have := val_nonneg h.1; omega)
/-- What is known of the digits of a sign and a magnitude. -/
def sval (s : Bool) (l : List Int) : Int := if s = true then - val l else val l
end Go.Proofs.YtmjceijbbodbfaaDoor.Dig
end
section
namespace Go.Proofs.YtmjceijbbodbfaaDoor.XA
open Go.RowKit Go.Proofs.YtmjceijbbodbfaaDoorW.PrintWords Go.Proofs.YtmjceijbbodbfaaDoorW.PrintLast Go.Proofs.YtmjceijbbodbfaaDoorW.PrintMore
attribute [local go_sem] max2_int min2_int max_two min_two max_three min_three max_four min_four   -- for this text's walks alone
set_option linter.unusedVariables false
set_option linter.unusedSimpArgs false
/-! ### strconv_Itoa: function 63 -/
/-- strconv.Itoa of a number from 0 to 99 (no table is read). -/
def strconv_Itoa.f (a0 : Int) : Option (ByteArray) := if 0 ≤ a0 then (if a0 < 100 then (some ⟨(Go.Lib.decDigits a0.toNat).toArray⟩) else none) else none
theorem strconv_Itoa.calls (a0 : Int) (r : ByteArray) (w : World) (h : strconv_Itoa.f a0 = some r) :
    Calls Tryd.prog 63 #[.int .i64 a0] w fun e w' => e = .returned (.string r) ∧ Below w.heap.size w w' := by
  unfold strconv_Itoa.f at h
  by_cases h0 : 0 ≤ a0
  · rw [if_pos h0] at h
    by_cases h1 : a0 < 100
    · rw [if_pos h1] at h
      obtain rfl := Option.some.inj h
      obtain ⟨i, rfl⟩ := Int.eq_ofNat_of_zero_le h0
      exact (Tryd.strconv_Itoa_small i (by omega) w).mono fun e w' ⟨he, hw⟩ => ⟨by rw [he]; rfl, by rw [hw]; exact Below.refl _ _⟩
    · rw [if_neg h1] at h
      exact absurd h (by simp)
  · rw [if_neg h0] at h
    exact absurd h (by simp)
end Go.Proofs.YtmjceijbbodbfaaDoor.XA
end
section
namespace Go.Proofs.YtmjceijbbodbfaaDoor.XA
open Go.RowKit Go.Proofs.YtmjceijbbodbfaaDoorW.PrintWords Go.Proofs.YtmjceijbbodbfaaDoorW.PrintLast Go.Proofs.YtmjceijbbodbfaaDoorW.PrintMore
attribute [local go_sem] max2_int min2_int max_two min_two max_three min_three max_four min_four   -- for this text's walks alone
set_option linter.unusedVariables false
set_option linter.unusedSimpArgs false
/-! ### strings_Join: function 66 -/
/-- strings.Join. -/
def strings_Join.f (l0 : List ByteArray) (a1 : ByteArray) : Option (ByteArray) := if (Go.Lib.join (l0.map (·.data.toList)) a1.data.toList).length ≤ 140737488355328 then (if l0.length ≤ 140737488355328 then (some ⟨(Go.Lib.join (l0.map (·.data.toList)) a1.data.toList).toArray⟩) else none) else none
theorem strings_Join.calls (A0 : Option Addr) (c0 : Nat) (l0 : List ByteArray) (a1 : ByteArray) (r : ByteArray) (w : World) (hr0 : Kd.C Kd.string w A0 l0.length l0) (hc0 : l0.length ≤ c0) (h : strings_Join.f l0 a1 = some r) :
    Calls Tryd.prog 66 #[.slice A0 l0.length c0, .string a1] w fun e w' => e = .returned (.string r) ∧ Below w.heap.size w w' := by
  unfold strings_Join.f at h
  by_cases h0 : (Go.Lib.join (l0.map (·.data.toList)) a1.data.toList).length ≤ 140737488355328
  · rw [if_pos h0] at h
    by_cases h1 : l0.length ≤ 140737488355328
    · rw [if_pos h1] at h
      obtain rfl := Option.some.inj h
      cases l0 with
      | nil => exact (Tryd.strings_Join_none A0 c0 a1 w).mono fun e w' ⟨he, hw⟩ => ⟨he, by rw [hw]; exact Below.refl _ _⟩
      | cons x t =>
        obtain ⟨ad, rfl, hc⟩ := hr0.2.2 (by simp)
        have hcell : ∀ (j : Nat) y, (x :: t)[j]? = some y → w.cell? (ad.add j) = some (.string y) := fun j y hj => by
          obtain ⟨c, hl, hk, hu⟩ := hc j y hj
          have hk' : c = [Value.string y] := hk
          subst hk'
          have h2 := hu 0 (.string y) rfl
          have h3 : j * (Kd.string).sz + 0 = j := by show j * 1 + 0 = j; omega
          rw [h3] at h2
          exact h2
        obtain ⟨b, o, s⟩ := ad
        have hs : s = none := by
          have h2 := hcell 0 x rfl
          simp only [Addr.add, if_true] at h2
          cases s with
          | none => rfl
          | some q =>
            exfalso
            unfold World.cell? at h2
            split at h2 <;> simp at h2
        subst hs
        have hadd : ∀ j, (⟨b, o, none⟩ : Addr).add j = ⟨b, o + j, none⟩ := fun j => by
          unfold Addr.add
          split
          · subst_vars; rfl
          · rfl
        exact Tryd.strings_Join b o c0 (x :: t) a1 w (fun j y hj => by rw [← hadd]; exact hcell j y hj) (World.block_lt_of_cell? w _ (hcell 0 x rfl)) h1 hc0 h0
    · rw [if_neg h1] at h
      exact absurd h (by simp)
  · rw [if_neg h0] at h
    exact absurd h (by simp)
end Go.Proofs.YtmjceijbbodbfaaDoor.XA
end
section
namespace Go.Proofs.YtmjceijbbodbfaaDoor.XA
open Go.RowKit Go.Proofs.YtmjceijbbodbfaaDoorW.PrintWords Go.Proofs.YtmjceijbbodbfaaDoorW.PrintLast Go.Proofs.YtmjceijbbodbfaaDoorW.PrintMore
attribute [local go_sem] max2_int min2_int max_two min_two max_three min_three max_four min_four   -- for this text's walks alone
set_option linter.unusedVariables false
set_option linter.unusedSimpArgs false
/-! ### integer_Text: function 29 -/
def integer_Text.l0 : Nat → List ByteArray → List Int → Bool → List Int → Option (ByteArray)
 | 0, _, _, _, _ => none
 | k + 1, x3, x4, x102000, x102001 => if (x4.length : Int) > 0 then ((integer_small.f k x4 1000000000).bind fun bt106 => ((strconv_Itoa.f (wrap64 (bt106.2))).bind fun t110 => (if (bt106.1.length : Int) > 0 then (none) else (if x3.length < 8796093022208 then (integer_Text.l0 k (x3 ++ [t110]) bt106.1 x102000 x102001) else (none))))) else (if x102000 = true then (if x3.length < 8796093022208 then ((slices_Reverse_string_string.f k (x3 ++ [(⟨#[45]⟩ : ByteArray)])).bind fun t117 => ((strings_Join.f t117 (⟨#[]⟩ : ByteArray)).bind fun t118 => (some t118))) else (none)) else ((slices_Reverse_string_string.f k x3).bind fun t119 => ((strings_Join.f t119 (⟨#[]⟩ : ByteArray)).bind fun t120 => (some t120))))
def integer_Text.f (k : Nat) (a0_0 : Bool) (l0_1 : List Int) : Option (ByteArray) := (integer_Valid.f a0_0 l0_1).bind fun t102 => (if t102 = true then (if (l0_1.length : Int) = 0 then (some (⟨#[48]⟩ : ByteArray)) else ((integer_trim.f k l0_1).bind fun t103 => (integer_Text.l0 k ([] : List ByteArray) t103 a0_0 l0_1))) else (some (⟨#[]⟩ : ByteArray)))
theorem integer_Text.mono_l : ∀ k, (∀ y0 y1 y2 y3, LeO (integer_Text.l0 k y0 y1 y2 y3) (integer_Text.l0 (k + 1) y0 y1 y2 y3))
 | 0 => fun _ _ _ _ r h => by simp [integer_Text.l0] at h
 | k + 1 => by
  have ih0 := integer_Text.mono_l k
  ·intro y0 y1 y2 y3
   unfold integer_Text.l0
   repeat' first
   | (with_reducible exact ih0 _ _ _ _)
   | (with_reducible exact integer_small.mono _ _ _)
   | (with_reducible exact integer_trim.mono _ _)
   | (with_reducible exact slices_Reverse_string_string.mono _ _)
   | (with_reducible exact LeO.refl _)
   | (with_reducible exact LeO.none _)
   | (with_reducible refine LeO.ite ?_ ?_)
   | (with_reducible refine LeO.bind ?_ (fun _ => ?_))
   | exact ih0 _ _ _ _
   | exact integer_small.mono _ _ _
   | exact integer_trim.mono _ _
   | exact slices_Reverse_string_string.mono _ _
   | exact LeO.none _
   | refine LeO.ite ?_ ?_
   | refine LeO.bind ?_ (fun _ => ?_)
theorem integer_Text.mono : ∀ a0 a1 k, LeO (integer_Text.f k a0 a1) (integer_Text.f (k + 1) a0 a1) := by
 intro a0 a1 k
 have ih0 := integer_Text.mono_l k
 unfold integer_Text.f
 repeat' first
   | (with_reducible exact ih0 _ _ _ _)
   | (with_reducible exact integer_small.mono _ _ _)
   | (with_reducible exact integer_trim.mono _ _)
   | (with_reducible exact slices_Reverse_string_string.mono _ _)
   | (with_reducible exact LeO.refl _)
   | (with_reducible exact LeO.none _)
   | (with_reducible refine LeO.ite ?_ ?_)
   | (with_reducible refine LeO.bind ?_ (fun _ => ?_))
   | exact ih0 _ _ _ _
   | exact integer_small.mono _ _ _
   | exact integer_trim.mono _ _
   | exact slices_Reverse_string_string.mono _ _
   | exact LeO.none _
   | refine LeO.ite ?_ ?_
   | refine LeO.bind ?_ (fun _ => ?_)
set_option maxHeartbeats 8000000 in
set_option maxRecDepth 100000 in
theorem integer_Text.calls (k : Nat) (a0_0 : Bool) (A0_1 : Option Addr) (c0_1 : Nat) (l0_1 : List Int) (r : ByteArray) (w : World) (hr0_1 : Kd.C (Kd.int .u32) w A0_1 l0_1.length l0_1) (hc0_1 : l0_1.length ≤ c0_1) (h : integer_Text.f k a0_0 l0_1 = some r) :
  Calls Tryd.prog 29 #[.agg #[.bool a0_0, .slice A0_1 l0_1.length c0_1]] w fun e w' => e = .returned (.string r) ∧ Below w.heap.size w w' := by
 have hu27 := Tryd.underlying27
 have HR0_1 := Aside0.mk hr0_1
 have HC0_1 := Aside0.mk hc0_1
 clear hr0_1 hc0_1
 have HB := Aside0.mk (Below.refl w.heap.size w)
 have H : ((integer_Valid.f a0_0 l0_1).bind fun t102 => (if t102 = true then (if (l0_1.length : Int) = 0 then (some (⟨#[48]⟩ : ByteArray)) else ((integer_trim.f k l0_1).bind fun t103 => (integer_Text.l0 k ([] : List ByteArray) t103 a0_0 l0_1))) else (some (⟨#[]⟩ : ByteArray)))) = some r := h
 clear h
 replace H := Option.bind_eq_some_iff.mp H
 obtain ⟨t102, A20, H⟩ := H
 replace H : (if t102 = true then (if (l0_1.length : Int) = 0 then (some (⟨#[48]⟩ : ByteArray)) else ((integer_trim.f k l0_1).bind fun t103 => (integer_Text.l0 k ([] : List ByteArray) t103 a0_0 l0_1))) else (some (⟨#[]⟩ : ByteArray))) = some r := H
 have A2 := Aside0.mk A20
 clear A20
 by_cases c3 : t102 = true
 ·subst c3
  have H1 : (if (l0_1.length : Int) = 0 then (some (⟨#[48]⟩ : ByteArray)) else ((integer_trim.f k l0_1).bind fun t103 => (integer_Text.l0 k ([] : List ByteArray) t103 a0_0 l0_1))) = some r := by rw [if_pos rfl] at H; exact H
  clear H
  have H := H1
  clear H1
  by_cases c4 : (l0_1.length : Int) = 0
  ·rw [if_pos c4] at H
   have c4b0 : ((l0_1.length : Int) == 0) = true := beq_iff_eq.mpr c4
   have c4b1 : ((l0_1.length : Int) != 0) = false := bne_eq_false_iff_eq.mpr c4
   clear c4
   obtain rfl := Option.some.inj H
   go_enter Tryd.func29, Tryd.ntmps29
   go_wp2_with (first | ((with_reducible refine gate_dst (N := 1) rfl ?_); refine box_event ?hg (N := 1) ?hd (cs := #[.bool a0_0, .slice A0_1 l0_1.length c0_1]) (t := 27) ?hr ?_; (case hd => rfl); (case hg => rfl); (case hr => first | (go_simp; done) | (go_simp; rfl)); intro gb101 hg w5 hbox hb; have n0_ := Aside0.mk (below_step (by repeat (first | (with_reducible first | exact HB.out | apply below_alloc | apply pw_below_drewN | apply below_drew1) | exact HB.out)) hb); have n1_ := Aside0.mk (hbox); have n2_ := Aside0.mk ((by rw [hg]; exact (below_size (by repeat (first | (with_reducible first | exact HB.out | apply below_alloc | apply pw_below_drewN | apply below_drew1) | exact HB.out))) : w.heap.size ≤ gb101)); have n3_ := Aside0.mk ((by rw [hg]; exact (below_size (by repeat (first | (with_reducible first | exact HB.out | apply below_alloc | apply pw_below_drewN | apply below_drew1) | exact HB.out))) : w.heap.size ≤ gb101)); clear HB; have HB := n0_; have BK101 := n1_; have GW101 := n2_; have GE101 := n3_; clear n0_ n1_ n2_ n3_; clear hb hbox hg; have hcz6_0 : w5.cell? ⟨gb101, 0, none⟩ = some (.bool a0_0) := (blk_cell BK101.out 0).trans rfl; have hcz6_1 : w5.cell? ⟨gb101, 1, none⟩ = some (.slice A0_1 l0_1.length c0_1) := (blk_cell BK101.out 1).trans rfl; have hfz6_0 := blk_frozen BK101.out 0; have hfz6_1 := blk_frozen BK101.out 1) | ((with_reducible refine gate_callee (f := 20) rfl ?_); refine goesL_ (some 9) rfl rfl Tryd.func20 (by kernel_rfl) rfl #[.agg #[.bool a0_0, .slice A0_1 l0_1.length c0_1]] rfl (by (try simp only [List.map_toArray, List.map_cons, List.map_nil]); first | done | rfl | (simp only [List.length_drop, List.length_take]; rfl)) ?_; (with_reducible refine (integer_Valid.calls a0_0 _ _ l0_1 true _ ?side1 ?side2 A2.out).mono ?_); (case side1 => repeat (first | exact (Kd.C_below HR0_1.out HB.out) | (with_reducible refine Kd.C_alloc ?_ _) | (with_reducible refine Kd.C_drewN ?_ _) | (with_reducible refine Kd.C_drew ?_))); (case side2 => exact HC0_1.out); rintro e w7 ⟨rfl, hb⟩; refine ⟨_, rfl, ?_⟩; have n0_ := Aside0.mk (blk_below (g := gb101) (o := .cells #[.bool a0_0, .slice A0_1 l0_1.length c0_1] 27 (0, 0)) (by (with_reducible repeat (first | refine blk_drewN ?_ _ | refine blk_drew ?_ | refine blk_alloc ?_ _)); exact BK101.out) hb); have n1_ := Aside0.mk (below_step (by repeat (first | (with_reducible first | exact HB.out | apply below_alloc | apply pw_below_drewN | apply below_drew1 | refine below_set ?_ GE101.out) | exact HB.out)) hb); clear BK101; clear HB; have BK101 := n0_; have HB := n1_; clear n0_ n1_; (try clear hb); (try clear hb2); (try clear hk); (try clear hi); have hcz8_0 : w7.cell? ⟨gb101, 0, none⟩ = some (.bool a0_0) := (blk_cell BK101.out 0).trans rfl; have hcz8_1 : w7.cell? ⟨gb101, 1, none⟩ = some (.slice A0_1 l0_1.length c0_1) := (blk_cell BK101.out 1).trans rfl; have hfz8_0 := blk_frozen BK101.out 0; have hfz8_1 := blk_frozen BK101.out 1))
   go_ret
   exact ⟨by first | rfl | (simp [errW_none, errW_some] <;> rfl) | (simp [*, errW_none, errW_some] <;> rfl), by repeat (first | (with_reducible first | exact HB.out | apply below_alloc | apply pw_below_drewN | apply below_drew1 | refine below_set ?_ GE101.out) | exact HB.out)⟩
  ·rw [if_neg c4] at H
   have c4b0 : ((l0_1.length : Int) == 0) = false := beq_eq_false_iff_ne.mpr c4
   have c4b1 : ((l0_1.length : Int) != 0) = true := bne_iff_ne.mpr c4
   have c4b2 : ¬ (l0_1 = []) := fun h_ => c4 (by rw [h_]; rfl)
   replace H := Option.bind_eq_some_iff.mp H
   obtain ⟨t103, A90, H⟩ := H
   replace H : (integer_Text.l0 k ([] : List ByteArray) t103 a0_0 l0_1) = some r := H
   have A9 := Aside0.mk A90
   clear A90
   have H' := Aside0.mk H
   clear H
   go_enter Tryd.func29, Tryd.ntmps29
   go_wp2_with (first | ((with_reducible refine gate_dst (N := 1) rfl ?_); refine box_event ?hg (N := 1) ?hd (cs := #[.bool a0_0, .slice A0_1 l0_1.length c0_1]) (t := 27) ?hr ?_; (case hd => rfl); (case hg => rfl); (case hr => first | (go_simp; done) | (go_simp; rfl)); intro gb101 hg w10 hbox hb; have n0_ := Aside0.mk (below_step (by repeat (first | (with_reducible first | exact HB.out | apply below_alloc | apply pw_below_drewN | apply below_drew1) | exact HB.out)) hb); have n1_ := Aside0.mk (hbox); have n2_ := Aside0.mk ((by rw [hg]; exact (below_size (by repeat (first | (with_reducible first | exact HB.out | apply below_alloc | apply pw_below_drewN | apply below_drew1) | exact HB.out))) : w.heap.size ≤ gb101)); have n3_ := Aside0.mk ((by rw [hg]; exact (below_size (by repeat (first | (with_reducible first | exact HB.out | apply below_alloc | apply pw_below_drewN | apply below_drew1) | exact HB.out))) : w.heap.size ≤ gb101)); clear HB; have HB := n0_; have BK101 := n1_; have GW101 := n2_; have GE101 := n3_; clear n0_ n1_ n2_ n3_; clear hb hbox hg; have hcz11_0 : w10.cell? ⟨gb101, 0, none⟩ = some (.bool a0_0) := (blk_cell BK101.out 0).trans rfl; have hcz11_1 : w10.cell? ⟨gb101, 1, none⟩ = some (.slice A0_1 l0_1.length c0_1) := (blk_cell BK101.out 1).trans rfl; have hfz11_0 := blk_frozen BK101.out 0; have hfz11_1 := blk_frozen BK101.out 1) | ((with_reducible refine gate_callee (f := 20) rfl ?_); refine goesL_ (some 9) rfl rfl Tryd.func20 (by kernel_rfl) rfl #[.agg #[.bool a0_0, .slice A0_1 l0_1.length c0_1]] rfl (by (try simp only [List.map_toArray, List.map_cons, List.map_nil]); first | done | rfl | (simp only [List.length_drop, List.length_take]; rfl)) ?_; (with_reducible refine (integer_Valid.calls a0_0 _ _ l0_1 true _ ?side1 ?side2 A2.out).mono ?_); (case side1 => repeat (first | exact (Kd.C_below HR0_1.out HB.out) | (with_reducible refine Kd.C_alloc ?_ _) | (with_reducible refine Kd.C_drewN ?_ _) | (with_reducible refine Kd.C_drew ?_))); (case side2 => exact HC0_1.out); rintro e w12 ⟨rfl, hb⟩; refine ⟨_, rfl, ?_⟩; have n0_ := Aside0.mk (blk_below (g := gb101) (o := .cells #[.bool a0_0, .slice A0_1 l0_1.length c0_1] 27 (0, 0)) (by (with_reducible repeat (first | refine blk_drewN ?_ _ | refine blk_drew ?_ | refine blk_alloc ?_ _)); exact BK101.out) hb); have n1_ := Aside0.mk (below_step (by repeat (first | (with_reducible first | exact HB.out | apply below_alloc | apply pw_below_drewN | apply below_drew1 | refine below_set ?_ GE101.out) | exact HB.out)) hb); clear BK101; clear HB; have BK101 := n0_; have HB := n1_; clear n0_ n1_; (try clear hb); (try clear hb2); (try clear hk); (try clear hi); have hcz13_0 : w12.cell? ⟨gb101, 0, none⟩ = some (.bool a0_0) := (blk_cell BK101.out 0).trans rfl; have hcz13_1 : w12.cell? ⟨gb101, 1, none⟩ = some (.slice A0_1 l0_1.length c0_1) := (blk_cell BK101.out 1).trans rfl; have hfz13_0 := blk_frozen BK101.out 0; have hfz13_1 := blk_frozen BK101.out 1) | ((with_reducible refine gate_callee (f := 61) rfl ?_); refine goesL_ (some 17) rfl rfl Tryd.func61 (by kernel_rfl) rfl #[.slice A0_1 l0_1.length c0_1] rfl (by (try simp only [List.map_toArray, List.map_cons, List.map_nil]); first | done | rfl | (simp only [List.length_drop, List.length_take]; rfl)) ?_; (with_reducible refine (integer_trim.calls k _ _ l0_1 t103 _ ?side1 ?side2 A9.out).mono ?_); (case side1 => repeat (first | exact (Kd.C_below HR0_1.out HB.out) | (with_reducible refine Kd.C_alloc ?_ _) | (with_reducible refine Kd.C_drewN ?_ _) | (with_reducible refine Kd.C_drew ?_))); (case side2 => exact HC0_1.out); rintro e w14 ⟨v104, rfl, ho0, hb⟩; refine ⟨_, rfl, ?_⟩; have n0_ := Aside0.mk (Kd.R_lower ho0 (below_size (by repeat (first | (with_reducible first | exact HB.out | apply below_alloc | apply pw_below_drewN | apply below_drew1 | refine below_set ?_ GE101.out) | exact HB.out)))); have n1_ := Aside0.mk (blk_below (g := gb101) (o := .cells #[.bool a0_0, .slice A0_1 l0_1.length c0_1] 27 (0, 0)) (by (with_reducible repeat (first | refine blk_drewN ?_ _ | refine blk_drew ?_ | refine blk_alloc ?_ _)); exact BK101.out) hb); have n2_ := Aside0.mk (below_step (by repeat (first | (with_reducible first | exact HB.out | apply below_alloc | apply pw_below_drewN | apply below_drew1 | refine below_set ?_ GE101.out) | exact HB.out)) hb); clear BK101; clear HB; have HO105 := n0_; have BK101 := n1_; have HB := n2_; clear n0_ n1_ n2_; (try clear hb); (try clear hb2); (try clear hk); (try clear hi); (try clear ho0)))
   go_loopg [3, 4] k (fun kq v3 v4 w' => ∃ (x3_1 : List ByteArray) (x4_1 : List Int), Aside0 (integer_Text.l0 kq x3_1 x4_1 a0_0 l0_1 = some r) ∧ Aside0 (kq ≤ k) ∧ Aside0 (Kd.R Kd.string 9 w' w.heap.size (fun _ => True) v3 x3_1) ∧ Aside0 (Kd.R (Kd.int .u32) 22 w' w.heap.size (fun _ => True) v4 x4_1) ∧ Aside0 (w'.heap[gb101]? = some (.cells #[.bool a0_0, (.slice A0_1 l0_1.length c0_1)] 27 (0, 0))) ∧ Aside0 (Below w.heap.size w w'))
   case atStart => exact ⟨(([] : List ByteArray)), (t103), H', ⟨Nat.le_refl _⟩, ⟨by first | exact Kd.R_nil _ _ _ _ _ | exact Kd.N_nil _ _ _ _ _ | exact Kd.V_nil _ _ _ _ _ | exact Kd.Q_nil _ _ _ _ _ | exact Kd.S_nil _ _ _ _ _⟩, ⟨by (with_reducible repeat (first | apply Kd.R_alloc | apply Kd.R_drewN | apply Kd.R_drew)); exact HO105.out⟩, ⟨by (with_reducible repeat (first | refine blk_drewN ?_ _ | refine blk_drew ?_ | refine blk_alloc ?_ _)); exact BK101.out⟩, ⟨by repeat (first | (with_reducible first | exact HB.out | apply below_alloc | apply pw_below_drewN | apply below_drew1 | refine below_set ?_ GE101.out) | exact HB.out)⟩⟩
   case round =>
    clear H'
    try clear c2
    try clear p2
    try clear c3
    try clear c4
    try clear c4b0
    try clear c4b1
    try clear c4b2
    try clear c6
    try clear hcz11_0
    try clear hcz11_1
    try clear hcz13_0
    try clear hcz13_1
    try clear hcz6_0
    try clear hcz6_1
    try clear hcz8_0
    try clear hcz8_1
    try clear hfz11_0
    try clear hfz11_1
    try clear hfz13_0
    try clear hfz13_1
    try clear hfz6_0
    try clear hfz6_1
    try clear hfz8_0
    try clear hfz8_1
    obtain ⟨x3_1, x4_1, HA, HK1, HO_3, HO_4, BK101, HB⟩ := hrel
    cases gk with
    | zero => exact absurd HA.out (by simp [integer_Text.l0])
    | succ k1 =>
     have H := HA.out
     clear HA
     simp only [integer_Text.l0] at H
     by_cases c15 : (x4_1.length : Int) > 0
     ·rw [if_pos c15] at H
      have c15b0 : decide (0 < (x4_1.length : Int)) = true := decide_eq_true c15
      have c15b1 : decide (0 < x4_1.length) = true := decide_eq_true (by omega)
      clear c15
      replace H := Option.bind_eq_some_iff.mp H
      obtain ⟨⟨t106, t107⟩, A160, H⟩ := H
      replace H : ((strconv_Itoa.f (wrap64 (t107))).bind fun t110 => (if (t106.length : Int) > 0 then (none) else (if x3_1.length < 8796093022208 then (integer_Text.l0 k1 (x3_1 ++ [t110]) t106 a0_0 l0_1) else (none)))) = some r := H
      have A16 := Aside0.mk A160
      clear A160
      replace H := Option.bind_eq_some_iff.mp H
      obtain ⟨t110, A170, H⟩ := H
      replace H : (if (t106.length : Int) > 0 then (none) else (if x3_1.length < 8796093022208 then (integer_Text.l0 k1 (x3_1 ++ [t110]) t106 a0_0 l0_1) else (none))) = some r := H
      have A17 := Aside0.mk A170
      clear A170
      by_cases c18 : (t106.length : Int) > 0
      ·rw [if_pos c18] at H
       exact absurd H (by simp)
      ·rw [if_neg c18] at H
       have c18b0 : decide (0 < (t106.length : Int)) = false := decide_eq_false c18
       have c18b1 : decide (0 < t106.length) = false := decide_eq_false (by omega)
       clear c18
       by_cases c19 : x3_1.length < 8796093022208
       ·rw [if_pos c19] at H
        have LMc19 := Aside0.mk c19
        clear c19
        obtain ⟨y111, hy111⟩ : ∃ y_ : List ByteArray, y_ = (x3_1 ++ [t110]) := ⟨_, rfl⟩
        replace H : (integer_Text.l0 k1 y111 t106 a0_0 l0_1) = some r := by first | (rw [hy111]; with_reducible exact H) | (have H2_ := (Option.bind_some _ _).symm.trans H; rw [hy111]; with_reducible exact H2_) | (have H2_ := (Option.bind_some _ _).symm.trans H; with_reducible exact H2_) | with_reducible exact H | (rw [hy111]; exact H) | exact H
        have Ny111 := Aside0.mk hy111
        clear hy111
        have H' := Aside0.mk H
        clear H
        obtain ⟨Ao20, co20, eo20⟩ := Kd.R_slice HO_4.out
        subst eo20
        go_wp2_with (first | ((with_reducible refine gate_callee (f := 62) rfl ?_); refine goesL_ (some 23) rfl rfl Tryd.func62 (by kernel_rfl) rfl #[.slice Ao20 x4_1.length co20, .int .u32 1000000000] rfl (by (try simp only [List.map_toArray, List.map_cons, List.map_nil]); first | done | rfl | (simp only [List.length_drop, List.length_take]; rfl)) ?_; (with_reducible refine (integer_small.calls k1 _ _ x4_1 1000000000 t106 t107 _ ?side1 ?side2 A16.out).mono ?_); (case side1 => repeat (first | exact (Kd.R_reads' HO_4.out).2.2 | (with_reducible refine Kd.C_alloc ?_ _) | (with_reducible refine Kd.C_drewN ?_ _) | (with_reducible refine Kd.C_drew ?_))); (case side2 => exact (Kd.R_reads' HO_4.out).2.1); rintro e w21 ⟨v108, rfl, ho0, hb⟩; refine ⟨_, rfl, ?_⟩; have n0_ := Aside0.mk (Kd.R_below (by (with_reducible repeat (first | apply Kd.R_alloc | apply Kd.R_drewN | apply Kd.R_drew)); exact HO_3.out) hb); have n1_ := Aside0.mk (Kd.R_elder' (by (with_reducible repeat (first | apply Kd.R_alloc | apply Kd.R_drewN | apply Kd.R_drew)); exact HO_4.out) (Kd.R_base ho0) hb); have n2_ := Aside0.mk (Kd.R_lower (Kd.R_new' ho0 (Kd.R_lt (by (with_reducible repeat (first | apply Kd.R_alloc | apply Kd.R_drewN | apply Kd.R_drew)); exact HO_4.out))) (below_size (by repeat (first | (with_reducible first | exact HB.out | apply below_alloc | apply pw_below_drewN | apply below_drew1 | refine below_set ?_ GE101.out) | exact HB.out)))); have n3_ := Aside0.mk (blk_below (g := gb101) (o := .cells #[.bool a0_0, .slice A0_1 l0_1.length c0_1] 27 (0, 0)) (by (with_reducible repeat (first | refine blk_drewN ?_ _ | refine blk_drew ?_ | refine blk_alloc ?_ _)); exact BK101.out) hb); have n4_ := Aside0.mk (below_step (by repeat (first | (with_reducible first | exact HB.out | apply below_alloc | apply pw_below_drewN | apply below_drew1 | refine below_set ?_ GE101.out) | exact HB.out)) hb); clear HO_3; clear HO_4; clear BK101; clear HB; have HO_3 := n0_; have HO_4 := n1_; have HO109 := n2_; have BK101 := n3_; have HB := n4_; clear n0_ n1_ n2_ n3_ n4_; (try clear hb); (try clear hb2); (try clear hk); (try clear hi); (try clear ho0)) | ((with_reducible refine gate_callee (f := 63) rfl ?_); refine goesL_ (some 28) rfl rfl Tryd.func63 (by kernel_rfl) rfl #[.int .i64 (wrap64 (t107))] rfl (by (try simp only [List.map_toArray, List.map_cons, List.map_nil]); first | done | rfl | (simp only [List.length_drop, List.length_take]; rfl)) ?_; (with_reducible refine (strconv_Itoa.calls (wrap64 (t107)) t110 _ A17.out).mono ?_); rintro e w22 ⟨rfl, hb⟩; refine ⟨_, rfl, ?_⟩; have n0_ := Aside0.mk (Kd.R_below (by (with_reducible repeat (first | apply Kd.R_alloc | apply Kd.R_drewN | apply Kd.R_drew)); exact HO_3.out) hb); have n1_ := Aside0.mk (Kd.R_below (by (with_reducible repeat (first | apply Kd.R_alloc | apply Kd.R_drewN | apply Kd.R_drew)); exact HO_4.out) hb); have n2_ := Aside0.mk (Kd.R_below (by (with_reducible repeat (first | apply Kd.R_alloc | apply Kd.R_drewN | apply Kd.R_drew)); exact HO109.out) hb); have n3_ := Aside0.mk (blk_below (g := gb101) (o := .cells #[.bool a0_0, .slice A0_1 l0_1.length c0_1] 27 (0, 0)) (by (with_reducible repeat (first | refine blk_drewN ?_ _ | refine blk_drew ?_ | refine blk_alloc ?_ _)); exact BK101.out) hb); have n4_ := Aside0.mk (below_step (by repeat (first | (with_reducible first | exact HB.out | apply below_alloc | apply pw_below_drewN | apply below_drew1 | refine below_set ?_ GE101.out) | exact HB.out)) hb); clear HO_3; clear HO_4; clear HO109; clear BK101; clear HB; have HO_3 := n0_; have HO_4 := n1_; have HO109 := n2_; have BK101 := n3_; have HB := n4_; clear n0_ n1_ n2_ n3_ n4_; (try clear hb); (try clear hb2); (try clear hk); (try clear hi); obtain ⟨Ao23, co23, eo23⟩ := Kd.R_slice HO109.out; subst eo23) | ((with_reducible refine gate_builtin (b := .append) (xs := #[.tmp 38, .tmp 40]) rfl ?_); at_builtin; refine Kd.R_append Kd.string (w0 := w) w.heap.size rfl (.tmp 38) (.tmp 40) 64 9 (.string ⟨#[]⟩) 16 rfl Tryd.underlying64 info9 rfl (by decide) (by omega) u3 x3_1 t110 [.string t110] (fun _ => True) (fun _ => False) rfl rfl ?aP (fun _ hk => hk.elim) ?aF ?aO ?aB ?aS ?aL ?_; (case aP => exact rfl); (case aB => exact (by repeat (first | (with_reducible first | exact HB.out | apply below_alloc | apply pw_below_drewN | apply below_drew1 | refine below_set ?_ GE101.out) | exact HB.out))); (case aF => exact (fun _ _ => trivial)); (case aO => exact (by (with_reducible repeat (first | apply Kd.R_alloc | apply Kd.R_drewN | apply Kd.R_drew)); exact HO_3.out)); (case aS => exact (below_size (by repeat (first | (with_reducible first | exact HB.out | apply below_alloc | apply pw_below_drewN | apply below_drew1 | refine below_set ?_ GE101.out) | exact HB.out)))); (case aL => have := LMc19.out; omega); intro v112 w24 ho hb hg hat; rw [← Ny111.out] at ho; have n0_ := Aside0.mk (Kd.R_over' (by (with_reducible repeat (first | apply Kd.R_alloc | apply Kd.R_drewN | apply Kd.R_drew)); exact HO_4.out) (Kd.R_typed (by (with_reducible repeat (first | apply Kd.R_alloc | apply Kd.R_drewN | apply Kd.R_drew)); exact HO_3.out)) (by decide) hg); have n1_ := Aside0.mk (blk_grown (g := gb101) (o := .cells #[.bool a0_0, .slice A0_1 l0_1.length c0_1] 27 (0, 0)) (by (with_reducible repeat (first | refine blk_drewN ?_ _ | refine blk_drew ?_ | refine blk_alloc ?_ _)); exact BK101.out) hg (Kd.R_ne HO_3.out BK101.out (by decide))); have n2_ := Aside0.mk (Kd.R_over' (by (with_reducible repeat (first | apply Kd.R_alloc | apply Kd.R_drewN | apply Kd.R_drew)); exact HO109.out) (Kd.R_typed (by (with_reducible repeat (first | apply Kd.R_alloc | apply Kd.R_drewN | apply Kd.R_drew)); exact HO_3.out)) (by decide) hg); have n3_ := Aside0.mk (hb); have n4_ := Aside0.mk (ho); clear HO_4; clear BK101; clear HO109; clear HB; clear HO_3; have HO_4 := n0_; have BK101 := n1_; have HO109 := n2_; have HB := n3_; have HO113 := n4_; clear n0_ n1_ n2_ n3_ n4_; clear ho hb hg hat))
        go_roundg k1
        case measure => have := HK1.out; omega
        case rel => exact ⟨(y111), (t106), H', ⟨by have := HK1.out; omega⟩, ⟨by (with_reducible repeat (first | apply Kd.R_alloc | apply Kd.R_drewN | apply Kd.R_drew)); exact HO113.out⟩, ⟨by (with_reducible repeat (first | apply Kd.R_alloc | apply Kd.R_drewN | apply Kd.R_drew)); exact Kd.R_mono HO109.out (fun _ hk => trivial)⟩, ⟨by (with_reducible repeat (first | refine blk_drewN ?_ _ | refine blk_drew ?_ | refine blk_alloc ?_ _)); exact BK101.out⟩, ⟨by repeat (first | (with_reducible first | exact HB.out | apply below_alloc | apply pw_below_drewN | apply below_drew1 | refine below_set ?_ GE101.out) | exact HB.out)⟩⟩
       ·rw [if_neg c19] at H
        exact absurd H (by simp)
     ·rw [if_neg c15] at H
      have c15b0 : decide (0 < (x4_1.length : Int)) = false := decide_eq_false c15
      have c15b1 : decide (0 < x4_1.length) = false := decide_eq_false (by omega)
      clear c15
      by_cases c25 : a0_0 = true
      ·subst c25
       have H1 : (if x3_1.length < 8796093022208 then ((slices_Reverse_string_string.f k1 (x3_1 ++ [(⟨#[45]⟩ : ByteArray)])).bind fun t117 => ((strings_Join.f t117 (⟨#[]⟩ : ByteArray)).bind fun t118 => (some t118))) else (none)) = some r := by rw [if_pos rfl] at H; exact H
       clear H
       have H := H1
       clear H1
       by_cases c26 : x3_1.length < 8796093022208
       ·rw [if_pos c26] at H
        have LMc26 := Aside0.mk c26
        clear c26
        obtain ⟨y114, hy114⟩ : ∃ y_ : List ByteArray, y_ = (x3_1 ++ [(⟨#[45]⟩ : ByteArray)]) := ⟨_, rfl⟩
        replace H : ((slices_Reverse_string_string.f k1 y114).bind fun t117 => ((strings_Join.f t117 (⟨#[]⟩ : ByteArray)).bind fun t118 => (some t118))) = some r := by first | (rw [hy114]; with_reducible exact H) | (have H2_ := (Option.bind_some _ _).symm.trans H; rw [hy114]; with_reducible exact H2_) | (have H2_ := (Option.bind_some _ _).symm.trans H; with_reducible exact H2_) | with_reducible exact H | (rw [hy114]; exact H) | exact H
        have Ny114 := Aside0.mk hy114
        clear hy114
        replace H := Option.bind_eq_some_iff.mp H
        obtain ⟨t117, A270, H⟩ := H
        replace H : ((strings_Join.f t117 (⟨#[]⟩ : ByteArray)).bind fun t118 => (some t118)) = some r := H
        have A27 := Aside0.mk A270
        clear A270
        replace H := Option.bind_eq_some_iff.mp H
        obtain ⟨t118, A280, H⟩ := H
        replace H : (some t118) = some r := H
        have A28 := Aside0.mk A280
        clear A280
        obtain rfl := Option.some.inj H
        obtain ⟨Ao29, co29, eo29⟩ := Kd.R_slice HO_4.out
        subst eo29
        have hcz30_0 : wr.cell? ⟨gb101, 0, none⟩ = some (.bool true) := (blk_cell BK101.out 0).trans rfl
        have hcz30_1 : wr.cell? ⟨gb101, 1, none⟩ = some (.slice A0_1 l0_1.length c0_1) := (blk_cell BK101.out 1).trans rfl
        have hfz30_0 := blk_frozen BK101.out 0
        have hfz30_1 := blk_frozen BK101.out 1
        go_wp2_with (first | ((with_reducible refine gate_builtin (b := .append) (xs := #[.tmp 45, .tmp 46]) rfl ?_); at_builtin; refine Kd.R_append Kd.string (w0 := w) w.heap.size rfl (.tmp 45) (.tmp 46) 64 9 (.string ⟨#[]⟩) 16 rfl Tryd.underlying64 info9 rfl (by decide) (by omega) u3 x3_1 (⟨#[45]⟩ : ByteArray) [.string (⟨#[45]⟩ : ByteArray)] (fun _ => True) (fun _ => False) rfl rfl ?aP (fun _ hk => hk.elim) ?aF ?aO ?aB ?aS ?aL ?_; (case aP => exact rfl); (case aB => exact (by repeat (first | (with_reducible first | exact HB.out | apply below_alloc | apply pw_below_drewN | apply below_drew1 | refine below_set ?_ GE101.out) | exact HB.out))); (case aF => exact (fun _ _ => trivial)); (case aO => exact (by (with_reducible repeat (first | apply Kd.R_alloc | apply Kd.R_drewN | apply Kd.R_drew)); exact HO_3.out)); (case aS => exact (below_size (by repeat (first | (with_reducible first | exact HB.out | apply below_alloc | apply pw_below_drewN | apply below_drew1 | refine below_set ?_ GE101.out) | exact HB.out)))); (case aL => have := LMc26.out; omega); intro v115 w31 ho hb hg hat; rw [← Ny114.out] at ho; have n0_ := Aside0.mk (Kd.R_over' (by (with_reducible repeat (first | apply Kd.R_alloc | apply Kd.R_drewN | apply Kd.R_drew)); exact HO_4.out) (Kd.R_typed (by (with_reducible repeat (first | apply Kd.R_alloc | apply Kd.R_drewN | apply Kd.R_drew)); exact HO_3.out)) (by decide) hg); have n1_ := Aside0.mk (blk_grown (g := gb101) (o := .cells #[.bool true, .slice A0_1 l0_1.length c0_1] 27 (0, 0)) (by (with_reducible repeat (first | refine blk_drewN ?_ _ | refine blk_drew ?_ | refine blk_alloc ?_ _)); exact BK101.out) hg (Kd.R_ne HO_3.out BK101.out (by decide))); have n2_ := Aside0.mk (hb); have n3_ := Aside0.mk (ho); clear HO_4; clear BK101; clear HB; clear HO_3; have HO_4 := n0_; have BK101 := n1_; have HB := n2_; have HO116 := n3_; clear n0_ n1_ n2_ n3_; clear ho hb hg hat; obtain ⟨Ao32, co32, eo32⟩ := Kd.R_slice HO116.out; subst eo32) | ((with_reducible refine gate_callee (f := 65) rfl ?_); refine goesL_ (some 49) rfl rfl Tryd.func65 (by kernel_rfl) rfl #[.slice Ao32 y114.length co32] rfl (by (try simp only [List.map_toArray, List.map_cons, List.map_nil]); first | done | rfl | (simp only [List.length_drop, List.length_take]; rfl)) ?_; (with_reducible refine (slices_Reverse_string_string.calls k1 (fun k_ => some k_ = (.slice Ao32 y114.length co32 : Value).ownBlock) (.slice Ao32 y114.length co32) y114 t117 w _ ?side1 ?side2 A27.out).mono ?_); (case side1 => repeat (first | (with_reducible first | exact HB.out | apply below_alloc | apply pw_below_drewN | apply below_drew1 | refine below_set ?_ GE101.out) | exact HB.out)); (case side2 => exact Kd.R_tight rfl HO116.out); rintro e w33 ⟨rfl, hy0, hb, hkp⟩; refine ⟨_, rfl, ?_⟩; have n0_ := Aside0.mk (Kd.R_mono (ok' := fun k_ => True) (Kd.R_keptB ((Kd.R_apart' HO_4.out (Kd.R_typed HO116.out) (by decide))) hkp (fun k_ hk_ hs_ => (hk_.2) hs_)) (fun k_ hk_ => trivial)); have n1_ := Aside0.mk (blk_kept (by (with_reducible repeat (first | refine blk_drewN ?_ _ | refine blk_drew ?_ | refine blk_alloc ?_ _)); exact BK101.out) hkp (fun hs_ => (fun e_ => (Kd.R_ne HO116.out BK101.out (by decide)) e_) hs_)); have n2_ := Aside0.mk (Kd.R_reok rfl hy0 (fun k_ e_ => HO116.out.1 k_ e_)); have n3_ := Aside0.mk (hb); clear HO_4; clear BK101; clear HO116; clear HB; have HO_4 := n0_; have BK101 := n1_; have HO116 := n2_; have HB := n3_; clear n0_ n1_ n2_ n3_; (try clear hb); (try clear hkp); (try clear hy0)) | ((with_reducible refine gate_callee (f := 66) rfl ?_); refine goesL_ (some 51) rfl rfl Tryd.func66 (by kernel_rfl) rfl #[.slice Ao32 t117.length co32, .string (⟨#[]⟩ : ByteArray)] rfl (by (try simp only [List.map_toArray, List.map_cons, List.map_nil]); first | done | (rw [show t117.length = y114.length from (Kd.R_reads' HO116.out).1.symm] <;> rfl) | rfl | (simp only [List.length_drop, List.length_take]; rfl)) ?_; (with_reducible refine (strings_Join.calls _ _ t117 (⟨#[]⟩ : ByteArray) t118 _ ?side1 ?side2 A28.out).mono ?_); (case side1 => repeat (first | exact (Kd.R_reads' HO116.out).2.2 | (with_reducible refine Kd.C_alloc ?_ _) | (with_reducible refine Kd.C_drewN ?_ _) | (with_reducible refine Kd.C_drew ?_))); (case side2 => rw [show t117.length = y114.length from (Kd.R_reads' HO116.out).1.symm]; exact (Kd.R_reads' HO116.out).2.1); rintro e w34 ⟨rfl, hb⟩; refine ⟨_, rfl, ?_⟩; have n0_ := Aside0.mk (Kd.R_below (by (with_reducible repeat (first | apply Kd.R_alloc | apply Kd.R_drewN | apply Kd.R_drew)); exact HO_4.out) hb); have n1_ := Aside0.mk (Kd.R_below (by (with_reducible repeat (first | apply Kd.R_alloc | apply Kd.R_drewN | apply Kd.R_drew)); exact HO116.out) hb); have n2_ := Aside0.mk (blk_below (g := gb101) (o := .cells #[.bool true, .slice A0_1 l0_1.length c0_1] 27 (0, 0)) (by (with_reducible repeat (first | refine blk_drewN ?_ _ | refine blk_drew ?_ | refine blk_alloc ?_ _)); exact BK101.out) hb); have n3_ := Aside0.mk (below_step (by repeat (first | (with_reducible first | exact HB.out | apply below_alloc | apply pw_below_drewN | apply below_drew1 | refine below_set ?_ GE101.out) | exact HB.out)) hb); clear HO_4; clear HO116; clear BK101; clear HB; have HO_4 := n0_; have HO116 := n1_; have BK101 := n2_; have HB := n3_; clear n0_ n1_ n2_ n3_; (try clear hb); (try clear hb2); (try clear hk); (try clear hi)))
        go_ret
        exact ⟨by first | rfl | (simp [errW_none, errW_some] <;> rfl) | (simp [*, errW_none, errW_some] <;> rfl), by repeat (first | (with_reducible first | exact HB.out | apply below_alloc | apply pw_below_drewN | apply below_drew1 | refine below_set ?_ GE101.out) | exact HB.out)⟩
       ·rw [if_neg c26] at H
        exact absurd H (by simp)
      ·replace c25 := Bool.eq_false_iff.mpr c25
       subst c25
       have H1 : ((slices_Reverse_string_string.f k1 x3_1).bind fun t119 => ((strings_Join.f t119 (⟨#[]⟩ : ByteArray)).bind fun t120 => (some t120))) = some r := by rw [if_neg (show ¬ (false = true) by decide)] at H; exact H
       clear H
       have H := H1
       clear H1
       replace H := Option.bind_eq_some_iff.mp H
       obtain ⟨t119, A350, H⟩ := H
       replace H : ((strings_Join.f t119 (⟨#[]⟩ : ByteArray)).bind fun t120 => (some t120)) = some r := H
       have A35 := Aside0.mk A350
       clear A350
       replace H := Option.bind_eq_some_iff.mp H
       obtain ⟨t120, A360, H⟩ := H
       replace H : (some t120) = some r := H
       have A36 := Aside0.mk A360
       clear A360
       obtain rfl := Option.some.inj H
       obtain ⟨Ao37, co37, eo37⟩ := Kd.R_slice HO_4.out
       subst eo37
       have hcz38_0 : wr.cell? ⟨gb101, 0, none⟩ = some (.bool false) := (blk_cell BK101.out 0).trans rfl
       have hcz38_1 : wr.cell? ⟨gb101, 1, none⟩ = some (.slice A0_1 l0_1.length c0_1) := (blk_cell BK101.out 1).trans rfl
       have hfz38_0 := blk_frozen BK101.out 0
       have hfz38_1 := blk_frozen BK101.out 1
       obtain ⟨Ao39, co39, eo39⟩ := Kd.R_slice HO_3.out
       subst eo39
       go_wp2_with (first | ((with_reducible refine gate_callee (f := 65) rfl ?_); refine goesL_ (some 49) rfl rfl Tryd.func65 (by kernel_rfl) rfl #[.slice Ao39 x3_1.length co39] rfl (by (try simp only [List.map_toArray, List.map_cons, List.map_nil]); first | done | rfl | (simp only [List.length_drop, List.length_take]; rfl)) ?_; (with_reducible refine (slices_Reverse_string_string.calls k1 (fun k_ => some k_ = (.slice Ao39 x3_1.length co39 : Value).ownBlock) (.slice Ao39 x3_1.length co39) x3_1 t119 w _ ?side1 ?side2 A35.out).mono ?_); (case side1 => repeat (first | (with_reducible first | exact HB.out | apply below_alloc | apply pw_below_drewN | apply below_drew1 | refine below_set ?_ GE101.out) | exact HB.out)); (case side2 => exact Kd.R_tight rfl HO_3.out); rintro e w40 ⟨rfl, hy0, hb, hkp⟩; refine ⟨_, rfl, ?_⟩; have n0_ := Aside0.mk (Kd.R_reok rfl hy0 (fun k_ e_ => HO_3.out.1 k_ e_)); have n1_ := Aside0.mk (Kd.R_mono (ok' := fun k_ => True) (Kd.R_keptB ((Kd.R_apart' HO_4.out (Kd.R_typed HO_3.out) (by decide))) hkp (fun k_ hk_ hs_ => (hk_.2) hs_)) (fun k_ hk_ => trivial)); have n2_ := Aside0.mk (blk_kept (by (with_reducible repeat (first | refine blk_drewN ?_ _ | refine blk_drew ?_ | refine blk_alloc ?_ _)); exact BK101.out) hkp (fun hs_ => (fun e_ => (Kd.R_ne HO_3.out BK101.out (by decide)) e_) hs_)); have n3_ := Aside0.mk (hb); clear HO_3; clear HO_4; clear BK101; clear HB; have HO_3 := n0_; have HO_4 := n1_; have BK101 := n2_; have HB := n3_; clear n0_ n1_ n2_ n3_; (try clear hb); (try clear hkp); (try clear hy0)) | ((with_reducible refine gate_callee (f := 66) rfl ?_); refine goesL_ (some 51) rfl rfl Tryd.func66 (by kernel_rfl) rfl #[.slice Ao39 t119.length co39, .string (⟨#[]⟩ : ByteArray)] rfl (by (try simp only [List.map_toArray, List.map_cons, List.map_nil]); first | done | (rw [show t119.length = x3_1.length from (Kd.R_reads' HO_3.out).1.symm] <;> rfl) | rfl | (simp only [List.length_drop, List.length_take]; rfl)) ?_; (with_reducible refine (strings_Join.calls _ _ t119 (⟨#[]⟩ : ByteArray) t120 _ ?side1 ?side2 A36.out).mono ?_); (case side1 => repeat (first | exact (Kd.R_reads' HO_3.out).2.2 | (with_reducible refine Kd.C_alloc ?_ _) | (with_reducible refine Kd.C_drewN ?_ _) | (with_reducible refine Kd.C_drew ?_))); (case side2 => rw [show t119.length = x3_1.length from (Kd.R_reads' HO_3.out).1.symm]; exact (Kd.R_reads' HO_3.out).2.1); rintro e w41 ⟨rfl, hb⟩; refine ⟨_, rfl, ?_⟩; have n0_ := Aside0.mk (Kd.R_below (by (with_reducible repeat (first | apply Kd.R_alloc | apply Kd.R_drewN | apply Kd.R_drew)); exact HO_3.out) hb); have n1_ := Aside0.mk (Kd.R_below (by (with_reducible repeat (first | apply Kd.R_alloc | apply Kd.R_drewN | apply Kd.R_drew)); exact HO_4.out) hb); have n2_ := Aside0.mk (blk_below (g := gb101) (o := .cells #[.bool false, .slice A0_1 l0_1.length c0_1] 27 (0, 0)) (by (with_reducible repeat (first | refine blk_drewN ?_ _ | refine blk_drew ?_ | refine blk_alloc ?_ _)); exact BK101.out) hb); have n3_ := Aside0.mk (below_step (by repeat (first | (with_reducible first | exact HB.out | apply below_alloc | apply pw_below_drewN | apply below_drew1 | refine below_set ?_ GE101.out) | exact HB.out)) hb); clear HO_3; clear HO_4; clear BK101; clear HB; have HO_3 := n0_; have HO_4 := n1_; have BK101 := n2_; have HB := n3_; clear n0_ n1_ n2_ n3_; (try clear hb); (try clear hb2); (try clear hk); (try clear hi)))
       go_ret
       exact ⟨by first | rfl | (simp [errW_none, errW_some] <;> rfl) | (simp [*, errW_none, errW_some] <;> rfl), by repeat (first | (with_reducible first | exact HB.out | apply below_alloc | apply pw_below_drewN | apply below_drew1 | refine below_set ?_ GE101.out) | exact HB.out)⟩
 ·replace c3 := Bool.eq_false_iff.mpr c3
  subst c3
  have H1 : (some (⟨#[]⟩ : ByteArray)) = some r := by rw [if_neg (show ¬ (false = true) by decide)] at H; exact H
  clear H
  have H := H1
  clear H1
  obtain rfl := Option.some.inj H
  go_enter Tryd.func29, Tryd.ntmps29
  go_wp2_with (first | ((with_reducible refine gate_dst (N := 1) rfl ?_); refine box_event ?hg (N := 1) ?hd (cs := #[.bool a0_0, .slice A0_1 l0_1.length c0_1]) (t := 27) ?hr ?_; (case hd => rfl); (case hg => rfl); (case hr => first | (go_simp; done) | (go_simp; rfl)); intro gb101 hg w42 hbox hb; have n0_ := Aside0.mk (below_step (by repeat (first | (with_reducible first | exact HB.out | apply below_alloc | apply pw_below_drewN | apply below_drew1) | exact HB.out)) hb); have n1_ := Aside0.mk (hbox); have n2_ := Aside0.mk ((by rw [hg]; exact (below_size (by repeat (first | (with_reducible first | exact HB.out | apply below_alloc | apply pw_below_drewN | apply below_drew1) | exact HB.out))) : w.heap.size ≤ gb101)); have n3_ := Aside0.mk ((by rw [hg]; exact (below_size (by repeat (first | (with_reducible first | exact HB.out | apply below_alloc | apply pw_below_drewN | apply below_drew1) | exact HB.out))) : w.heap.size ≤ gb101)); clear HB; have HB := n0_; have BK101 := n1_; have GW101 := n2_; have GE101 := n3_; clear n0_ n1_ n2_ n3_; clear hb hbox hg; have hcz43_0 : w42.cell? ⟨gb101, 0, none⟩ = some (.bool a0_0) := (blk_cell BK101.out 0).trans rfl; have hcz43_1 : w42.cell? ⟨gb101, 1, none⟩ = some (.slice A0_1 l0_1.length c0_1) := (blk_cell BK101.out 1).trans rfl; have hfz43_0 := blk_frozen BK101.out 0; have hfz43_1 := blk_frozen BK101.out 1) | ((with_reducible refine gate_callee (f := 20) rfl ?_); refine goesL_ (some 9) rfl rfl Tryd.func20 (by kernel_rfl) rfl #[.agg #[.bool a0_0, .slice A0_1 l0_1.length c0_1]] rfl (by (try simp only [List.map_toArray, List.map_cons, List.map_nil]); first | done | rfl | (simp only [List.length_drop, List.length_take]; rfl)) ?_; (with_reducible refine (integer_Valid.calls a0_0 _ _ l0_1 false _ ?side1 ?side2 A2.out).mono ?_); (case side1 => repeat (first | exact (Kd.C_below HR0_1.out HB.out) | (with_reducible refine Kd.C_alloc ?_ _) | (with_reducible refine Kd.C_drewN ?_ _) | (with_reducible refine Kd.C_drew ?_))); (case side2 => exact HC0_1.out); rintro e w44 ⟨rfl, hb⟩; refine ⟨_, rfl, ?_⟩; have n0_ := Aside0.mk (blk_below (g := gb101) (o := .cells #[.bool a0_0, .slice A0_1 l0_1.length c0_1] 27 (0, 0)) (by (with_reducible repeat (first | refine blk_drewN ?_ _ | refine blk_drew ?_ | refine blk_alloc ?_ _)); exact BK101.out) hb); have n1_ := Aside0.mk (below_step (by repeat (first | (with_reducible first | exact HB.out | apply below_alloc | apply pw_below_drewN | apply below_drew1 | refine below_set ?_ GE101.out) | exact HB.out)) hb); clear BK101; clear HB; have BK101 := n0_; have HB := n1_; clear n0_ n1_; (try clear hb); (try clear hb2); (try clear hk); (try clear hi)))
  go_ret
  exact ⟨by first | rfl | (simp [errW_none, errW_some] <;> rfl) | (simp [*, errW_none, errW_some] <;> rfl), by repeat (first | (with_reducible first | exact HB.out | apply below_alloc | apply pw_below_drewN | apply below_drew1 | refine below_set ?_ GE101.out) | exact HB.out)⟩
end Go.Proofs.YtmjceijbbodbfaaDoor.XA
end
section
namespace Go.Proofs.YtmjceijbbodbfaaDoor.XA
open Go.RowKit Go.Proofs.YtmjceijbbodbfaaDoorW.PrintWords Go.Proofs.YtmjceijbbodbfaaDoorW.PrintLast Go.Proofs.YtmjceijbbodbfaaDoorW.PrintMore
attribute [local go_sem] max2_int min2_int max_two min_two max_three min_three max_four min_four   -- for this text's walks alone
set_option linter.unusedVariables false
set_option linter.unusedSimpArgs false
/-! ### substationlaw01_known: function 13 -/
def substationlaw01_known.f (k : Nat)  : Option (Bool) := (integer_Of.f k (-7)).bind fun bt101 => ((integer_Of.f k 2).bind fun bt105 => ((integer_Divide.f k bt101.1 bt101.2 bt105.1 bt105.2).bind fun bt109 => (if bt109.2.2.2.2 = 0 then ((substationref01_Of.f k (-4)).bind fun bt120 => ((substationref01_Same.f k bt109.1 bt109.2.1 bt120.1 bt120.2).bind fun t124 => (if t124 = true then ((substationref01_Of.f k 1).bind fun bt125 => ((substationref01_Same.f k bt109.2.2.1 bt109.2.2.2.1 bt125.1 bt125.2).bind fun t129 => (if t129 = true then ((integer_Of.f k (-12)).bind fun bt130 => ((integer_Text.f k bt130.1 bt130.2).bind fun t134 => (some (t134.toList == ([45, 49, 50] : List UInt8))))) else (none)))) else (none)))) else (none))))
theorem substationlaw01_known.mono : ∀ k, LeO (substationlaw01_known.f k ) (substationlaw01_known.f (k + 1) ) := by
 intro  k
 unfold substationlaw01_known.f
 repeat' first
   | (with_reducible exact integer_Divide.mono _ _ _ _ _)
   | (with_reducible exact integer_Of.mono _ _)
   | (with_reducible exact integer_Text.mono _ _ _)
   | (with_reducible exact substationref01_Of.mono _ _)
   | (with_reducible exact substationref01_Same.mono _ _ _ _ _)
   | (with_reducible exact LeO.refl _)
   | (with_reducible exact LeO.none _)
   | (with_reducible refine LeO.ite ?_ ?_)
   | (with_reducible refine LeO.bind ?_ (fun _ => ?_))
   | exact integer_Divide.mono _ _ _ _ _
   | exact integer_Of.mono _ _
   | exact integer_Text.mono _ _ _
   | exact substationref01_Of.mono _ _
   | exact substationref01_Same.mono _ _ _ _ _
   | exact LeO.none _
   | refine LeO.ite ?_ ?_
   | refine LeO.bind ?_ (fun _ => ?_)
def substationlaw01_known.T2 : Bool × List (List Nat × List Nat) := (true, [([], []), ([0], [0]), ([1], [1]), ([2], [2]), ([2, 2], [2]), ([3, 4, 4, 2], [2, 3, 4]), ([2, 5], [2, 5]), ([6, 5], [6]), ([7], [7]), ([7, 7], [7]), ([8, 9, 9, 7], [7, 8, 9]), ([7, 10], [7, 10]), ([11, 10], [11]), ([12, 12], [12]), ([13, 13, 12], [12, 13]), ([14, 12], [12, 14]), ([12, 15], [12, 15]), ([16, 14, 0, 1, 2, 3, 4, 5, 6, 7, 8, 9, 10, 11, 12, 13, 14, 15, 16], [16])])
def substationlaw01_known.B2 : List Nat := [0, 1, 3, 7, 7, 31, 63, 127, 255, 255, 1023, 2047, 4095, 8191, 16383, 32767, 65535, 131071]
theorem substationlaw01_known.tab2 : rtab .any (opsOf Tryd.f13 2) = substationlaw01_known.T2 := by kernel_rfl
theorem substationlaw01_known.bits2 : waitsOk substationlaw01_known.T2.2 substationlaw01_known.B2 = true := by kernel_rfl
set_option maxHeartbeats 8000000 in
set_option maxRecDepth 100000 in
theorem substationlaw01_known.calls (k : Nat)  (r : Bool) (w : World) (h : substationlaw01_known.f k  = some r) :
  Calls Tryd.prog 13 #[] w fun e w' => e = .returned (.bool r) ∧ Below w.heap.size w w' := by
 have hu27 := Tryd.underlying27
 have HB := Aside0.mk (Below.refl w.heap.size w)
 have H : ((integer_Of.f k (-7)).bind fun bt101 => ((integer_Of.f k 2).bind fun bt105 => ((integer_Divide.f k bt101.1 bt101.2 bt105.1 bt105.2).bind fun bt109 => (if bt109.2.2.2.2 = 0 then ((substationref01_Of.f k (-4)).bind fun bt120 => ((substationref01_Same.f k bt109.1 bt109.2.1 bt120.1 bt120.2).bind fun t124 => (if t124 = true then ((substationref01_Of.f k 1).bind fun bt125 => ((substationref01_Same.f k bt109.2.2.1 bt109.2.2.2.1 bt125.1 bt125.2).bind fun t129 => (if t129 = true then ((integer_Of.f k (-12)).bind fun bt130 => ((integer_Text.f k bt130.1 bt130.2).bind fun t134 => (some (t134.toList == ([45, 49, 50] : List UInt8))))) else (none)))) else (none)))) else (none))))) = some r := h
 clear h
 replace H := Option.bind_eq_some_iff.mp H
 obtain ⟨⟨t101, t102⟩, A10, H⟩ := H
 replace H : ((integer_Of.f k 2).bind fun bt105 => ((integer_Divide.f k t101 t102 bt105.1 bt105.2).bind fun bt109 => (if bt109.2.2.2.2 = 0 then ((substationref01_Of.f k (-4)).bind fun bt120 => ((substationref01_Same.f k bt109.1 bt109.2.1 bt120.1 bt120.2).bind fun t124 => (if t124 = true then ((substationref01_Of.f k 1).bind fun bt125 => ((substationref01_Same.f k bt109.2.2.1 bt109.2.2.2.1 bt125.1 bt125.2).bind fun t129 => (if t129 = true then ((integer_Of.f k (-12)).bind fun bt130 => ((integer_Text.f k bt130.1 bt130.2).bind fun t134 => (some (t134.toList == ([45, 49, 50] : List UInt8))))) else (none)))) else (none)))) else (none)))) = some r := H
 have A1 := Aside0.mk A10
 clear A10
 replace H := Option.bind_eq_some_iff.mp H
 obtain ⟨⟨t105, t106⟩, A20, H⟩ := H
 replace H : ((integer_Divide.f k t101 t102 t105 t106).bind fun bt109 => (if bt109.2.2.2.2 = 0 then ((substationref01_Of.f k (-4)).bind fun bt120 => ((substationref01_Same.f k bt109.1 bt109.2.1 bt120.1 bt120.2).bind fun t124 => (if t124 = true then ((substationref01_Of.f k 1).bind fun bt125 => ((substationref01_Same.f k bt109.2.2.1 bt109.2.2.2.1 bt125.1 bt125.2).bind fun t129 => (if t129 = true then ((integer_Of.f k (-12)).bind fun bt130 => ((integer_Text.f k bt130.1 bt130.2).bind fun t134 => (some (t134.toList == ([45, 49, 50] : List UInt8))))) else (none)))) else (none)))) else (none))) = some r := H
 have A2 := Aside0.mk A20
 clear A20
 replace H := Option.bind_eq_some_iff.mp H
 obtain ⟨⟨t109, t110, t113, t114, t117⟩, A30, H⟩ := H
 replace H : (if t117 = 0 then ((substationref01_Of.f k (-4)).bind fun bt120 => ((substationref01_Same.f k t109 t110 bt120.1 bt120.2).bind fun t124 => (if t124 = true then ((substationref01_Of.f k 1).bind fun bt125 => ((substationref01_Same.f k t113 t114 bt125.1 bt125.2).bind fun t129 => (if t129 = true then ((integer_Of.f k (-12)).bind fun bt130 => ((integer_Text.f k bt130.1 bt130.2).bind fun t134 => (some (t134.toList == ([45, 49, 50] : List UInt8))))) else (none)))) else (none)))) else (none)) = some r := H
 have A3 := Aside0.mk A30
 clear A30
 by_cases c4 : t117 = 0
 ·rw [if_pos c4] at H
  have c4b0 : (t117 == 0) = true := beq_iff_eq.mpr c4
  have c4b1 : (t117 != 0) = false := bne_eq_false_iff_eq.mpr c4
  clear c4
  replace H := Option.bind_eq_some_iff.mp H
  obtain ⟨⟨t120, t121⟩, A50, H⟩ := H
  replace H : ((substationref01_Same.f k t109 t110 t120 t121).bind fun t124 => (if t124 = true then ((substationref01_Of.f k 1).bind fun bt125 => ((substationref01_Same.f k t113 t114 bt125.1 bt125.2).bind fun t129 => (if t129 = true then ((integer_Of.f k (-12)).bind fun bt130 => ((integer_Text.f k bt130.1 bt130.2).bind fun t134 => (some (t134.toList == ([45, 49, 50] : List UInt8))))) else (none)))) else (none))) = some r := H
  have A5 := Aside0.mk A50
  clear A50
  replace H := Option.bind_eq_some_iff.mp H
  obtain ⟨t124, A60, H⟩ := H
  replace H : (if t124 = true then ((substationref01_Of.f k 1).bind fun bt125 => ((substationref01_Same.f k t113 t114 bt125.1 bt125.2).bind fun t129 => (if t129 = true then ((integer_Of.f k (-12)).bind fun bt130 => ((integer_Text.f k bt130.1 bt130.2).bind fun t134 => (some (t134.toList == ([45, 49, 50] : List UInt8))))) else (none)))) else (none)) = some r := H
  have A6 := Aside0.mk A60
  clear A60
  by_cases c7 : t124 = true
  ·subst c7
   have H1 : ((substationref01_Of.f k 1).bind fun bt125 => ((substationref01_Same.f k t113 t114 bt125.1 bt125.2).bind fun t129 => (if t129 = true then ((integer_Of.f k (-12)).bind fun bt130 => ((integer_Text.f k bt130.1 bt130.2).bind fun t134 => (some (t134.toList == ([45, 49, 50] : List UInt8))))) else (none)))) = some r := by rw [if_pos rfl] at H; exact H
   clear H
   have H := H1
   clear H1
   replace H := Option.bind_eq_some_iff.mp H
   obtain ⟨⟨t125, t126⟩, A80, H⟩ := H
   replace H : ((substationref01_Same.f k t113 t114 t125 t126).bind fun t129 => (if t129 = true then ((integer_Of.f k (-12)).bind fun bt130 => ((integer_Text.f k bt130.1 bt130.2).bind fun t134 => (some (t134.toList == ([45, 49, 50] : List UInt8))))) else (none))) = some r := H
   have A8 := Aside0.mk A80
   clear A80
   replace H := Option.bind_eq_some_iff.mp H
   obtain ⟨t129, A90, H⟩ := H
   replace H : (if t129 = true then ((integer_Of.f k (-12)).bind fun bt130 => ((integer_Text.f k bt130.1 bt130.2).bind fun t134 => (some (t134.toList == ([45, 49, 50] : List UInt8))))) else (none)) = some r := H
   have A9 := Aside0.mk A90
   clear A90
   by_cases c10 : t129 = true
   ·subst c10
    have H1 : ((integer_Of.f k (-12)).bind fun bt130 => ((integer_Text.f k bt130.1 bt130.2).bind fun t134 => (some (t134.toList == ([45, 49, 50] : List UInt8))))) = some r := by rw [if_pos rfl] at H; exact H
    clear H
    have H := H1
    clear H1
    replace H := Option.bind_eq_some_iff.mp H
    obtain ⟨⟨t130, t131⟩, A110, H⟩ := H
    replace H : ((integer_Text.f k t130 t131).bind fun t134 => (some (t134.toList == ([45, 49, 50] : List UInt8)))) = some r := H
    have A11 := Aside0.mk A110
    clear A110
    replace H := Option.bind_eq_some_iff.mp H
    obtain ⟨t134, A120, H⟩ := H
    replace H : (some (t134.toList == ([45, 49, 50] : List UInt8))) = some r := H
    have A12 := Aside0.mk A120
    clear A120
    obtain rfl := Option.some.inj H
    go_enter Tryd.func13, Tryd.ntmps13
    try go_wp2_with (first | ((with_reducible refine gate_callee (f := 42) rfl ?_); refine goesL_ (some 5) rfl rfl Tryd.func42 (by kernel_rfl) rfl #[.int .i64 (-7)] rfl (by (try simp only [List.map_toArray, List.map_cons, List.map_nil]); first | done | rfl | (simp only [List.length_drop, List.length_take]; rfl)) ?_; (with_reducible refine (integer_Of.calls k (-7) t101 t102 _ A1.out).mono ?_); rintro e w13 ⟨v103, rfl, ho0, hb⟩; refine ⟨_, rfl, ?_⟩; have n0_ := Aside0.mk (Kd.R_lower ho0 (below_size (by repeat (first | (with_reducible first | exact HB.out | apply below_alloc | apply pw_below_drewN | apply below_drew1) | exact HB.out)))); have n1_ := Aside0.mk (below_step (by repeat (first | (with_reducible first | exact HB.out | apply below_alloc | apply pw_below_drewN | apply below_drew1) | exact HB.out)) hb); clear HB; have HO104 := n0_; have HB := n1_; clear n0_ n1_; (try clear hb); (try clear hb2); (try clear hk); (try clear hi); (try clear ho0)) | ((with_reducible refine gate_callee (f := 42) rfl ?_); refine goesL_ (some 6) rfl rfl Tryd.func42 (by kernel_rfl) rfl #[.int .i64 2] rfl (by (try simp only [List.map_toArray, List.map_cons, List.map_nil]); first | done | rfl | (simp only [List.length_drop, List.length_take]; rfl)) ?_; (with_reducible refine (integer_Of.calls k 2 t105 t106 _ A2.out).mono ?_); rintro e w14 ⟨v107, rfl, ho0, hb⟩; refine ⟨_, rfl, ?_⟩; have n0_ := Aside0.mk (Kd.R_elder' (by (with_reducible repeat (first | apply Kd.R_alloc | apply Kd.R_drewN | apply Kd.R_drew)); exact HO104.out) (Kd.R_base ho0) hb); have n1_ := Aside0.mk (Kd.R_lower (Kd.R_new' ho0 (Kd.R_lt (by (with_reducible repeat (first | apply Kd.R_alloc | apply Kd.R_drewN | apply Kd.R_drew)); exact HO104.out))) (below_size (by repeat (first | (with_reducible first | exact HB.out | apply below_alloc | apply pw_below_drewN | apply below_drew1) | exact HB.out)))); have n2_ := Aside0.mk (below_step (by repeat (first | (with_reducible first | exact HB.out | apply below_alloc | apply pw_below_drewN | apply below_drew1) | exact HB.out)) hb); clear HO104; clear HB; have HO104 := n0_; have HO108 := n1_; have HB := n2_; clear n0_ n1_ n2_; (try clear hb); (try clear hb2); (try clear hk); (try clear hi); (try clear ho0); obtain ⟨Ao15, co15, eo15⟩ := Kd.R_slice HO104.out; subst eo15; obtain ⟨Ao16, co16, eo16⟩ := Kd.R_slice HO108.out; subst eo16) | ((with_reducible refine gate_callee (f := 31) rfl ?_); refine goesL_ (some 7) rfl rfl Tryd.func31 (by kernel_rfl) rfl #[.agg #[.bool t101, .slice Ao15 t102.length co15], .agg #[.bool t105, .slice Ao16 t106.length co16]] rfl (by (try simp only [List.map_toArray, List.map_cons, List.map_nil]); first | done | rfl | (simp only [List.length_drop, List.length_take]; rfl)) ?_; (with_reducible refine (integer_Divide.calls k t101 _ _ t102 t105 _ _ t106 t109 t110 t113 t114 t117 _ ?side1 ?side2 ?side3 ?side4 A3.out).mono ?_); (case side1 => repeat (first | exact (Kd.R_reads' HO104.out).2.2 | (with_reducible refine Kd.C_alloc ?_ _) | (with_reducible refine Kd.C_drewN ?_ _) | (with_reducible refine Kd.C_drew ?_))); (case side2 => exact (Kd.R_reads' HO104.out).2.1); (case side3 => repeat (first | exact (Kd.R_reads' HO108.out).2.2 | (with_reducible refine Kd.C_alloc ?_ _) | (with_reducible refine Kd.C_drewN ?_ _) | (with_reducible refine Kd.C_drew ?_))); (case side4 => exact (Kd.R_reads' HO108.out).2.1); rintro e w17 ⟨v111, v115, rfl, ho0, ho1, hb⟩; refine ⟨_, rfl, ?_⟩; have n0_ := Aside0.mk (Kd.R_mono (Kd.R_told (Kd.R_told (Kd.R_old (by (with_reducible repeat (first | apply Kd.R_alloc | apply Kd.R_drewN | apply Kd.R_drew)); exact HO104.out) hb) (Kd.R_base ho0)) (Kd.R_base ho1)) (fun _ h_ => h_.1)); have n1_ := Aside0.mk (Kd.R_mono (Kd.R_told (Kd.R_told (Kd.R_old (by (with_reducible repeat (first | apply Kd.R_alloc | apply Kd.R_drewN | apply Kd.R_drew)); exact HO108.out) hb) (Kd.R_base ho0)) (Kd.R_base ho1)) (fun _ h_ => h_.1)); have n2_ := Aside0.mk (Kd.R_lower (Kd.R_new' (Kd.R_new' ho0 (Kd.R_lt (by (with_reducible repeat (first | apply Kd.R_alloc | apply Kd.R_drewN | apply Kd.R_drew)); exact HO104.out))) (Kd.R_lt (by (with_reducible repeat (first | apply Kd.R_alloc | apply Kd.R_drewN | apply Kd.R_drew)); exact HO108.out))) (below_size (by repeat (first | (with_reducible first | exact HB.out | apply below_alloc | apply pw_below_drewN | apply below_drew1) | exact HB.out)))); have n3_ := Aside0.mk (Kd.R_lower (Kd.R_new' (Kd.R_new' ho1 (Kd.R_lt (by (with_reducible repeat (first | apply Kd.R_alloc | apply Kd.R_drewN | apply Kd.R_drew)); exact HO104.out))) (Kd.R_lt (by (with_reducible repeat (first | apply Kd.R_alloc | apply Kd.R_drewN | apply Kd.R_drew)); exact HO108.out))) (below_size (by repeat (first | (with_reducible first | exact HB.out | apply below_alloc | apply pw_below_drewN | apply below_drew1) | exact HB.out)))); have n4_ := Aside0.mk (below_step (by repeat (first | (with_reducible first | exact HB.out | apply below_alloc | apply pw_below_drewN | apply below_drew1) | exact HB.out)) hb); clear HO104; clear HO108; clear HB; have HO104 := n0_; have HO108 := n1_; have HO112 := n2_; have HO116 := n3_; have HB := n4_; clear n0_ n1_ n2_ n3_ n4_; (try clear hb); (try clear hb2); (try clear hk); (try clear hi); (try clear ho0); (try clear ho1)) | ((with_reducible refine gate_dst (N := 1) rfl ?_); refine box_event ?hg (N := 1) ?hd (cs := #[.bool false, .slice none 0 0]) (t := 27) ?hr ?_; (case hd => rfl); (case hg => rfl); (case hr => first | (go_simp; done) | (go_simp; rfl)); intro gb118 hg w18 hbox hb; have n0_ := Aside0.mk (Kd.R_below (by (with_reducible repeat (first | apply Kd.R_alloc | apply Kd.R_drewN | apply Kd.R_drew)); exact HO104.out) hb); have n1_ := Aside0.mk (Kd.R_below (by (with_reducible repeat (first | apply Kd.R_alloc | apply Kd.R_drewN | apply Kd.R_drew)); exact HO108.out) hb); have n2_ := Aside0.mk (Kd.R_below (by (with_reducible repeat (first | apply Kd.R_alloc | apply Kd.R_drewN | apply Kd.R_drew)); exact HO112.out) hb); have n3_ := Aside0.mk (Kd.R_below (by (with_reducible repeat (first | apply Kd.R_alloc | apply Kd.R_drewN | apply Kd.R_drew)); exact HO116.out) hb); have n4_ := Aside0.mk (below_step (by repeat (first | (with_reducible first | exact HB.out | apply below_alloc | apply pw_below_drewN | apply below_drew1) | exact HB.out)) hb); have n5_ := Aside0.mk (hbox); have n6_ := Aside0.mk ((by rw [hg]; exact (below_size (by repeat (first | (with_reducible first | exact HB.out | apply below_alloc | apply pw_below_drewN | apply below_drew1) | exact HB.out))) : w.heap.size ≤ gb118)); have n7_ := Aside0.mk ((by rw [hg]; exact (below_size (by repeat (first | (with_reducible first | exact HB.out | apply below_alloc | apply pw_below_drewN | apply below_drew1) | exact HB.out))) : w.heap.size ≤ gb118)); clear HO104; clear HO108; clear HO112; clear HO116; clear HB; have HO104 := n0_; have HO108 := n1_; have HO112 := n2_; have HO116 := n3_; have HB := n4_; have BK118 := n5_; have GW118 := n6_; have GE118 := n7_; clear n0_ n1_ n2_ n3_ n4_ n5_ n6_ n7_; clear hb hbox hg) | ((with_reducible refine gate_dst (N := 2) rfl ?_); refine box_event ?hg (N := 2) ?hd (cs := #[.bool false, .slice none 0 0]) (t := 27) ?hr ?_; (case hd => rfl); (case hg => rfl); (case hr => first | (go_simp; done) | (go_simp; rfl)); intro gb119 hg w19 hbox hb; have n0_ := Aside0.mk (Kd.R_below (by (with_reducible repeat (first | apply Kd.R_alloc | apply Kd.R_drewN | apply Kd.R_drew)); exact HO104.out) hb); have n1_ := Aside0.mk (Kd.R_below (by (with_reducible repeat (first | apply Kd.R_alloc | apply Kd.R_drewN | apply Kd.R_drew)); exact HO108.out) hb); have n2_ := Aside0.mk (Kd.R_below (by (with_reducible repeat (first | apply Kd.R_alloc | apply Kd.R_drewN | apply Kd.R_drew)); exact HO112.out) hb); have n3_ := Aside0.mk (Kd.R_below (by (with_reducible repeat (first | apply Kd.R_alloc | apply Kd.R_drewN | apply Kd.R_drew)); exact HO116.out) hb); have n4_ := Aside0.mk (blk_below (g := gb118) (o := .cells #[.bool false, .slice none 0 0] 27 (0, 0)) (by (with_reducible repeat (first | refine blk_drewN ?_ _ | refine blk_drew ?_ | refine blk_alloc ?_ _)); exact BK118.out) hb); have n5_ := Aside0.mk (below_step (by repeat (first | (with_reducible first | exact HB.out | apply below_alloc | apply pw_below_drewN | apply below_drew1 | refine below_set ?_ GE118.out) | exact HB.out)) hb); have n6_ := Aside0.mk (hbox); have n7_ := Aside0.mk ((by rw [hg]; exact (below_size (by repeat (first | (with_reducible first | exact HB.out | apply below_alloc | apply pw_below_drewN | apply below_drew1 | refine below_set ?_ GE118.out) | exact HB.out))) : w.heap.size ≤ gb119)); have n8_ := Aside0.mk ((by rw [hg]; exact (below_size (by repeat (first | (with_reducible first | exact HB.out | apply below_alloc | apply pw_below_drewN | apply below_drew1 | refine below_set ?_ GE118.out) | exact HB.out))) : w.heap.size ≤ gb119)); have n9_ := Aside0.mk ((by rw [hg]; exact Nat.ne_of_lt (blk_lt (g := gb118) (o := .cells #[.bool false, .slice none 0 0] 27 (0, 0)) (by (with_reducible repeat (first | refine blk_drewN ?_ _ | refine blk_drew ?_ | refine blk_alloc ?_ _)); exact BK118.out)) : gb118 ≠ gb119)); have n10_ := Aside0.mk ((by rw [hg]; exact Nat.ne_of_gt (blk_lt (g := gb118) (o := .cells #[.bool false, .slice none 0 0] 27 (0, 0)) (by (with_reducible repeat (first | refine blk_drewN ?_ _ | refine blk_drew ?_ | refine blk_alloc ?_ _)); exact BK118.out)) : gb119 ≠ gb118)); clear HO104; clear HO108; clear HO112; clear HO116; clear BK118; clear HB; have HO104 := n0_; have HO108 := n1_; have HO112 := n2_; have HO116 := n3_; have BK118 := n4_; have HB := n5_; have BK119 := n6_; have GW119 := n7_; have GE119 := n8_; have NB118_119 := n9_; have NB119_118 := n10_; clear n0_ n1_ n2_ n3_ n4_ n5_ n6_ n7_ n8_ n9_ n10_; clear hb hbox hg; have hnb20 := NB118_119.out; have hnc20 := NB119_118.out; have hcz21_0 : w19.cell? ⟨gb118, 0, none⟩ = some (.bool false) := (blk_cell BK118.out 0).trans rfl; have hcz21_1 : w19.cell? ⟨gb118, 1, none⟩ = some (.slice none 0 0) := (blk_cell BK118.out 1).trans rfl; have hfz21_0 := blk_frozen BK118.out 0; have hfz21_1 := blk_frozen BK118.out 1; obtain ⟨Ao22, co22, eo22⟩ := Kd.R_slice HO112.out; subst eo22; have hcz23_0 : w19.cell? ⟨gb119, 0, none⟩ = some (.bool false) := (blk_cell BK119.out 0).trans rfl; have hcz23_1 : w19.cell? ⟨gb119, 1, none⟩ = some (.slice none 0 0) := (blk_cell BK119.out 1).trans rfl; have hfz23_0 := blk_frozen BK119.out 0; have hfz23_1 := blk_frozen BK119.out 1; obtain ⟨Ao24, co24, eo24⟩ := Kd.R_slice HO116.out; subst eo24))
    have n0_ : Aside0 (Kd.R (Kd.int .u32) 22 ((((w19.setCell ⟨gb118, 0, none⟩ (.bool t109)).setCell ⟨gb118, 1, none⟩ (.slice Ao22 t110.length co22)).setCell ⟨gb119, 0, none⟩ (.bool t113)).setCell ⟨gb119, 1, none⟩ (.slice Ao24 t114.length co24)) w.heap.size (fun k_ => some k_ ≠ (.slice Ao16 t106.length co16 : Value).ownBlock ∧ some k_ ≠ (.slice Ao22 t110.length co22 : Value).ownBlock ∧ some k_ ≠ (.slice Ao24 t114.length co24 : Value).ownBlock) (.slice Ao15 t102.length co15) t102) := ⟨by (with_reducible repeat (first | apply Kd.R_alloc | apply Kd.R_drewN | apply Kd.R_drew)); exact Kd.R_mono (Kd.R_far (p := ⟨gb119, 1, none⟩) (Kd.R_far (p := ⟨gb119, 0, none⟩) (Kd.R_far (p := ⟨gb118, 1, none⟩) (Kd.R_far (p := ⟨gb118, 0, none⟩) (Kd.R_types (Kd.R_types HO104.out BK118.out (by decide)) BK119.out (by decide)) (fun _ hk => hk.1.2) (.bool t109)) (fun _ hk => hk.1.2) (.slice Ao22 t110.length co22)) (fun _ hk => hk.2) (.bool t113)) (fun _ hk => hk.2) (.slice Ao24 t114.length co24)) (fun _ hk => ⟨hk.1.1.1.1.2, ⟨hk.1.1.1.2, hk.1.1.2⟩⟩)⟩
    have n1_ : Aside0 (Kd.R (Kd.int .u32) 22 ((((w19.setCell ⟨gb118, 0, none⟩ (.bool t109)).setCell ⟨gb118, 1, none⟩ (.slice Ao22 t110.length co22)).setCell ⟨gb119, 0, none⟩ (.bool t113)).setCell ⟨gb119, 1, none⟩ (.slice Ao24 t114.length co24)) w.heap.size (fun k_ => some k_ ≠ (.slice Ao15 t102.length co15 : Value).ownBlock ∧ some k_ ≠ (.slice Ao22 t110.length co22 : Value).ownBlock ∧ some k_ ≠ (.slice Ao24 t114.length co24 : Value).ownBlock) (.slice Ao16 t106.length co16) t106) := ⟨by (with_reducible repeat (first | apply Kd.R_alloc | apply Kd.R_drewN | apply Kd.R_drew)); exact Kd.R_mono (Kd.R_far (p := ⟨gb119, 1, none⟩) (Kd.R_far (p := ⟨gb119, 0, none⟩) (Kd.R_far (p := ⟨gb118, 1, none⟩) (Kd.R_far (p := ⟨gb118, 0, none⟩) (Kd.R_types (Kd.R_types HO108.out BK118.out (by decide)) BK119.out (by decide)) (fun _ hk => hk.1.2) (.bool t109)) (fun _ hk => hk.1.2) (.slice Ao22 t110.length co22)) (fun _ hk => hk.2) (.bool t113)) (fun _ hk => hk.2) (.slice Ao24 t114.length co24)) (fun _ hk => ⟨hk.1.1.1.1.2, ⟨hk.1.1.1.2, hk.1.1.2⟩⟩)⟩
    have n2_ : Aside0 (Kd.R (Kd.int .u32) 22 ((((w19.setCell ⟨gb118, 0, none⟩ (.bool t109)).setCell ⟨gb118, 1, none⟩ (.slice Ao22 t110.length co22)).setCell ⟨gb119, 0, none⟩ (.bool t113)).setCell ⟨gb119, 1, none⟩ (.slice Ao24 t114.length co24)) w.heap.size (fun k_ => some k_ ≠ (.slice Ao15 t102.length co15 : Value).ownBlock ∧ some k_ ≠ (.slice Ao16 t106.length co16 : Value).ownBlock ∧ some k_ ≠ (.slice Ao24 t114.length co24 : Value).ownBlock) (.slice Ao22 t110.length co22) t110) := ⟨by (with_reducible repeat (first | apply Kd.R_alloc | apply Kd.R_drewN | apply Kd.R_drew)); exact Kd.R_mono (Kd.R_far (p := ⟨gb119, 1, none⟩) (Kd.R_far (p := ⟨gb119, 0, none⟩) (Kd.R_far (p := ⟨gb118, 1, none⟩) (Kd.R_far (p := ⟨gb118, 0, none⟩) (Kd.R_types (Kd.R_types HO112.out BK118.out (by decide)) BK119.out (by decide)) (fun _ hk => hk.1.2) (.bool t109)) (fun _ hk => hk.1.2) (.slice Ao22 t110.length co22)) (fun _ hk => hk.2) (.bool t113)) (fun _ hk => hk.2) (.slice Ao24 t114.length co24)) (fun _ hk => ⟨hk.1.1.1.2, ⟨hk.1.1.2, hk.1.1.1.1⟩⟩)⟩
    have n3_ : Aside0 (Kd.R (Kd.int .u32) 22 ((((w19.setCell ⟨gb118, 0, none⟩ (.bool t109)).setCell ⟨gb118, 1, none⟩ (.slice Ao22 t110.length co22)).setCell ⟨gb119, 0, none⟩ (.bool t113)).setCell ⟨gb119, 1, none⟩ (.slice Ao24 t114.length co24)) w.heap.size (fun k_ => some k_ ≠ (.slice Ao15 t102.length co15 : Value).ownBlock ∧ some k_ ≠ (.slice Ao16 t106.length co16 : Value).ownBlock ∧ some k_ ≠ (.slice Ao22 t110.length co22 : Value).ownBlock) (.slice Ao24 t114.length co24) t114) := ⟨by (with_reducible repeat (first | apply Kd.R_alloc | apply Kd.R_drewN | apply Kd.R_drew)); exact Kd.R_mono (Kd.R_far (p := ⟨gb119, 1, none⟩) (Kd.R_far (p := ⟨gb119, 0, none⟩) (Kd.R_far (p := ⟨gb118, 1, none⟩) (Kd.R_far (p := ⟨gb118, 0, none⟩) (Kd.R_types (Kd.R_types HO116.out BK118.out (by decide)) BK119.out (by decide)) (fun _ hk => hk.1.2) (.bool t109)) (fun _ hk => hk.1.2) (.slice Ao22 t110.length co22)) (fun _ hk => hk.2) (.bool t113)) (fun _ hk => hk.2) (.slice Ao24 t114.length co24)) (fun _ hk => ⟨hk.1.1.1.2, ⟨hk.1.1.2, hk.1.1.1.1⟩⟩)⟩
    have n4_ : Aside0 (((((w19.setCell ⟨gb118, 0, none⟩ (.bool t109)).setCell ⟨gb118, 1, none⟩ (.slice Ao22 t110.length co22)).setCell ⟨gb119, 0, none⟩ (.bool t113)).setCell ⟨gb119, 1, none⟩ (.slice Ao24 t114.length co24)).heap[gb118]? = some (.cells #[.bool t109, .slice Ao22 t110.length co22] 27 (0, 0))) := ⟨by (with_reducible repeat (first | refine blk_drewN ?_ _ | refine blk_drew ?_ | refine blk_alloc ?_ _)); refine blk_far ?_ NB118_119.out _; (with_reducible repeat (first | refine blk_drewN ?_ _ | refine blk_drew ?_ | refine blk_alloc ?_ _)); refine blk_far ?_ NB118_119.out _; (with_reducible repeat (first | refine blk_drewN ?_ _ | refine blk_drew ?_ | refine blk_alloc ?_ _)); refine blk_put (cs := #[.bool t109, .slice none 0 0]) ?_ 1 _ rfl; (with_reducible repeat (first | refine blk_drewN ?_ _ | refine blk_drew ?_ | refine blk_alloc ?_ _)); refine blk_put (cs := #[.bool false, .slice none 0 0]) ?_ 0 _ rfl; (with_reducible repeat (first | refine blk_drewN ?_ _ | refine blk_drew ?_ | refine blk_alloc ?_ _)); exact BK118.out⟩
    have n5_ : Aside0 (((((w19.setCell ⟨gb118, 0, none⟩ (.bool t109)).setCell ⟨gb118, 1, none⟩ (.slice Ao22 t110.length co22)).setCell ⟨gb119, 0, none⟩ (.bool t113)).setCell ⟨gb119, 1, none⟩ (.slice Ao24 t114.length co24)).heap[gb119]? = some (.cells #[.bool t113, .slice Ao24 t114.length co24] 27 (0, 0))) := ⟨by (with_reducible repeat (first | refine blk_drewN ?_ _ | refine blk_drew ?_ | refine blk_alloc ?_ _)); refine blk_put (cs := #[.bool t113, .slice none 0 0]) ?_ 1 _ rfl; (with_reducible repeat (first | refine blk_drewN ?_ _ | refine blk_drew ?_ | refine blk_alloc ?_ _)); refine blk_put (cs := #[.bool false, .slice none 0 0]) ?_ 0 _ rfl; (with_reducible repeat (first | refine blk_drewN ?_ _ | refine blk_drew ?_ | refine blk_alloc ?_ _)); refine blk_far ?_ NB119_118.out _; (with_reducible repeat (first | refine blk_drewN ?_ _ | refine blk_drew ?_ | refine blk_alloc ?_ _)); refine blk_far ?_ NB119_118.out _; (with_reducible repeat (first | refine blk_drewN ?_ _ | refine blk_drew ?_ | refine blk_alloc ?_ _)); exact BK119.out⟩
    have n6_ : Aside0 (Below w.heap.size w ((((w19.setCell ⟨gb118, 0, none⟩ (.bool t109)).setCell ⟨gb118, 1, none⟩ (.slice Ao22 t110.length co22)).setCell ⟨gb119, 0, none⟩ (.bool t113)).setCell ⟨gb119, 1, none⟩ (.slice Ao24 t114.length co24))) := ⟨by repeat (first | (with_reducible first | exact HB.out | apply below_alloc | apply pw_below_drewN | apply below_drew1 | refine below_set ?_ GE118.out | refine below_set ?_ GE119.out) | exact HB.out)⟩
    (try clear HO104)
    (try clear HO108)
    (try clear HO112)
    (try clear HO116)
    (try clear BK118)
    (try clear BK119)
    (try clear HB)
    generalize ((((w19.setCell ⟨gb118, 0, none⟩ (.bool t109)).setCell ⟨gb118, 1, none⟩ (.slice Ao22 t110.length co22)).setCell ⟨gb119, 0, none⟩ (.bool t113)).setCell ⟨gb119, 1, none⟩ (.slice Ao24 t114.length co24)) = w25 at n0_ n1_ n2_ n3_ n4_ n5_ n6_ ⊢
    have HO104 := n0_
    have HO108 := n1_
    have HO112 := n2_
    have HO116 := n3_
    have BK118 := n4_
    have BK119 := n5_
    have HB := n6_
    clear n0_ n1_ n2_ n3_ n4_ n5_ n6_
    have n0_ := Aside0.mk (Kd.R_drew HO104.out)
    have n1_ := Aside0.mk (Kd.R_drew HO108.out)
    have n2_ := Aside0.mk (Kd.R_drew HO112.out)
    have n3_ := Aside0.mk (Kd.R_drew HO116.out)
    have n4_ := Aside0.mk (blk_drew BK118.out)
    have n5_ := Aside0.mk (blk_drew BK119.out)
    have n6_ := Aside0.mk (below_drew1 HB.out)
    clear HO104
    clear HO108
    clear HO112
    clear HO116
    clear BK118
    clear BK119
    clear HB
    have HO104 := n0_
    have HO108 := n1_
    have HO112 := n2_
    have HO116 := n3_
    have BK118 := n4_
    have BK119 := n5_
    have HB := n6_
    clear n0_ n1_ n2_ n3_ n4_ n5_ n6_
    refine start_ (n := 18) (S := fun w' => w'.cell? ⟨gb118, 0, none⟩ = some (.bool t109) ∧ w'.cell? ⟨gb118, 1, none⟩ = some (.slice Ao22 t110.length co22) ∧ w'.cell? ⟨gb119, 0, none⟩ = some (.bool t113) ∧ w'.cell? ⟨gb119, 1, none⟩ = some (.slice Ao24 t114.length co24)) (ds := []) #[false, false, false, false, false, false, false, false, false, false, false, false, false, false, false, false, false, false] (by kernel_rfl) rfl rfl ⟨(blk_cell BK118.out 0).trans rfl, (blk_cell BK118.out 1).trans rfl, (blk_cell BK119.out 0).trans rfl, (blk_cell BK119.out 1).trans rfl⟩ (fun hHeld => ?_); refine with_tabW substationlaw01_known.tab2 substationlaw01_known.bits2 (fun HT_ HW_ => ?_)
    generalize w25.drew = w26 at HO104 HO108 HO112 HO116 BK118 BK119 HB hHeld ⊢
    refine pure_ (i := 0) (N := some 11) (v := ?_) (a' := ?_) #[true, false, false, false, false, false, false, false, false, false, false, false, false, false, false, false, false, false] rfl rfl (any_of HT_.out (by kernel_rfl)) (fun _ _ _ h => h) (Or.inl ⟨by rfl, ?_⟩) ?_ ?_
    rotate_left
    ·intro w'
     go_simp
     with_reducible rfl
    rotate_left
    ·simp only [Act.put, List.setIfInBounds_toArray, List.set_cons_zero, List.set_cons_succ, i64_w, i32_w]
     rfl
    refine pure_ (i := 1) (N := some 12) (v := ?_) (a' := ?_) #[true, true, false, false, false, false, false, false, false, false, false, false, false, false, false, false, false, false] rfl rfl (any_of HT_.out (by kernel_rfl)) (fun _ _ _ h => h) (Or.inl ⟨by rfl, ?_⟩) ?_ ?_
    rotate_left
    ·intro w'
     go_simp
     with_reducible rfl
    rotate_left
    ·simp only [Act.put, List.setIfInBounds_toArray, List.set_cons_zero, List.set_cons_succ, i64_w, i32_w]
     rfl
    refine pure_ (i := 2) (N := some 13) (v := ?_) (a' := ?_) #[true, true, true, false, false, false, false, false, false, false, false, false, false, false, false, false, false, false] rfl rfl (any_of HT_.out (by kernel_rfl)) (fun _ _ _ h => h) (Or.inl ⟨by rfl, ?_⟩) ?_ ?_
    rotate_left
    ·intro w'
     go_simp
     with_reducible rfl
    rotate_left
    ·simp only [Act.put, List.setIfInBounds_toArray, List.set_cons_zero, List.set_cons_succ, i64_w, i32_w]
     rfl
    refine take_ (i := 3) (N := some 14) (v := ?_) (a' := ?_) #[true, true, true, true, false, false, false, false, false, false, false, false, false, false, false, false, false, false] rfl rfl (take_ofW HT_.out HW_.out (by kernel_rfl)) (fun _ _ _ h => h) (Or.inl ⟨by rfl, ?_⟩) hHeld ?_ ?_
    rotate_left
    ·rintro w' ⟨s0, s1, s2, s3⟩
     go_simp
     with_reducible rfl
    rotate_left
    ·simp only [Act.put, List.setIfInBounds_toArray, List.set_cons_zero, List.set_cons_succ, i64_w, i32_w]
     rfl
    refine one_ (i := 4) (N := some 15) #[true, true, true, true, true, false, false, false, false, false, false, false, false, false, false, false, false, false] rfl rfl (one_of HT_.out (by kernel_rfl)) (by decide) (fun K hK => ?_)
    refine goes_ Tryd.func48 (by kernel_rfl) rfl #[.int .i64 (-4)] (by rfl) rfl rfl (by (try simp only [List.map_toArray, List.map_cons, List.map_nil]); first | done | rfl | (simp only [List.length_drop, List.length_take]; rfl)) ?_
    with_reducible refine (substationref01_Of.calls k (-4) t120 t121 _ A5.out).mono ?_
    rintro e w27 ⟨v122, rfl, ho0, hb⟩
    refine ⟨_, rfl, ?_⟩
    have n0_ := Aside0.mk (Kd.R_elder' (by (with_reducible repeat (first | apply Kd.R_alloc | apply Kd.R_drewN | apply Kd.R_drew)); exact HO104.out) (Kd.R_base ho0) hb)
    have n1_ := Aside0.mk (Kd.R_elder' (by (with_reducible repeat (first | apply Kd.R_alloc | apply Kd.R_drewN | apply Kd.R_drew)); exact HO108.out) (Kd.R_base ho0) hb)
    have n2_ := Aside0.mk (Kd.R_elder' (by (with_reducible repeat (first | apply Kd.R_alloc | apply Kd.R_drewN | apply Kd.R_drew)); exact HO112.out) (Kd.R_base ho0) hb)
    have n3_ := Aside0.mk (Kd.R_elder' (by (with_reducible repeat (first | apply Kd.R_alloc | apply Kd.R_drewN | apply Kd.R_drew)); exact HO116.out) (Kd.R_base ho0) hb)
    have n4_ := Aside0.mk (Kd.R_lower (Kd.R_new' (Kd.R_new' (Kd.R_new' (Kd.R_new' ho0 (Kd.R_lt (by (with_reducible repeat (first | apply Kd.R_alloc | apply Kd.R_drewN | apply Kd.R_drew)); exact HO104.out))) (Kd.R_lt (by (with_reducible repeat (first | apply Kd.R_alloc | apply Kd.R_drewN | apply Kd.R_drew)); exact HO108.out))) (Kd.R_lt (by (with_reducible repeat (first | apply Kd.R_alloc | apply Kd.R_drewN | apply Kd.R_drew)); exact HO112.out))) (Kd.R_lt (by (with_reducible repeat (first | apply Kd.R_alloc | apply Kd.R_drewN | apply Kd.R_drew)); exact HO116.out))) (below_size (by repeat (first | (with_reducible first | exact HB.out | apply below_alloc | apply pw_below_drewN | apply below_drew1 | refine below_set ?_ GE118.out | refine below_set ?_ GE119.out) | exact HB.out))))
    have n5_ := Aside0.mk (blk_below (g := gb118) (o := .cells #[.bool t109, .slice Ao22 t110.length co22] 27 (0, 0)) (by (with_reducible repeat (first | refine blk_drewN ?_ _ | refine blk_drew ?_ | refine blk_alloc ?_ _)); exact BK118.out) hb)
    have n6_ := Aside0.mk (blk_below (g := gb119) (o := .cells #[.bool t113, .slice Ao24 t114.length co24] 27 (0, 0)) (by (with_reducible repeat (first | refine blk_drewN ?_ _ | refine blk_drew ?_ | refine blk_alloc ?_ _)); exact BK119.out) hb)
    have n7_ := Aside0.mk (below_step (by repeat (first | (with_reducible first | exact HB.out | apply below_alloc | apply pw_below_drewN | apply below_drew1 | refine below_set ?_ GE118.out | refine below_set ?_ GE119.out) | exact HB.out)) hb)
    clear HO104
    clear HO108
    clear HO112
    clear HO116
    clear BK118
    clear BK119
    clear HB
    have HO104 := n0_
    have HO108 := n1_
    have HO112 := n2_
    have HO116 := n3_
    have HO123 := n4_
    have BK118 := n5_
    have BK119 := n6_
    have HB := n7_
    clear n0_ n1_ n2_ n3_ n4_ n5_ n6_ n7_
    (try clear hb)
    (try clear hb2)
    (try clear hk)
    (try clear hi)
    (try clear ho0)
    obtain ⟨Ao28, co28, eo28⟩ := Kd.R_slice HO123.out
    (first | subst eo28 | (injection eo28 with f1_ f2_ f3_; have f4_ := f1_.symm; have f5_ := f3_.symm; clear f1_ f2_ f3_; subst f4_; subst f5_))
    refine hK.out _ _ ⟨(blk_cell BK118.out 0).trans rfl, (blk_cell BK118.out 1).trans rfl, (blk_cell BK119.out 0).trans rfl, (blk_cell BK119.out 1).trans rfl⟩ (fun hHeld => ?_)
    clear hK K
    refine norm_ (a' := ?_) ?_ ?_
    rotate_left
    ·show Act.put _ (some 15) _ = _
     simp only [Act.put, List.setIfInBounds_toArray, List.set_cons_zero, List.set_cons_succ, i64_w, i32_w]
     rfl
    refine one_ (i := 5) (N := some 16) #[true, true, true, true, true, true, false, false, false, false, false, false, false, false, false, false, false, false] rfl rfl (one_of HT_.out (by kernel_rfl)) (by decide) (fun K hK => ?_)
    refine goes_ Tryd.func33 (by kernel_rfl) rfl #[.agg #[.bool t109, .slice Ao22 t110.length co22], .agg #[.bool t120, .slice Ao28 t121.length co28]] (by rfl) rfl rfl (by (try simp only [List.map_toArray, List.map_cons, List.map_nil]); first | done | rfl | (simp only [List.length_drop, List.length_take]; rfl)) ?_
    with_reducible refine (substationref01_Same.calls k t109 _ _ t110 t120 _ _ t121 true _ ?side1 ?side2 ?side3 ?side4 A6.out).mono ?_
    (case side1 => repeat (first | exact (Kd.R_reads' HO112.out).2.2 | (with_reducible refine Kd.C_alloc ?_ _) | (with_reducible refine Kd.C_drewN ?_ _) | (with_reducible refine Kd.C_drew ?_)))
    (case side2 => exact (Kd.R_reads' HO112.out).2.1)
    (case side3 => repeat (first | exact (Kd.R_reads' HO123.out).2.2 | (with_reducible refine Kd.C_alloc ?_ _) | (with_reducible refine Kd.C_drewN ?_ _) | (with_reducible refine Kd.C_drew ?_)))
    (case side4 => exact (Kd.R_reads' HO123.out).2.1)
    rintro e w29 ⟨rfl, hb⟩
    refine ⟨_, rfl, ?_⟩
    have n0_ := Aside0.mk (Kd.R_below (by (with_reducible repeat (first | apply Kd.R_alloc | apply Kd.R_drewN | apply Kd.R_drew)); exact HO104.out) hb)
    have n1_ := Aside0.mk (Kd.R_below (by (with_reducible repeat (first | apply Kd.R_alloc | apply Kd.R_drewN | apply Kd.R_drew)); exact HO108.out) hb)
    have n2_ := Aside0.mk (Kd.R_below (by (with_reducible repeat (first | apply Kd.R_alloc | apply Kd.R_drewN | apply Kd.R_drew)); exact HO112.out) hb)
    have n3_ := Aside0.mk (Kd.R_below (by (with_reducible repeat (first | apply Kd.R_alloc | apply Kd.R_drewN | apply Kd.R_drew)); exact HO116.out) hb)
    have n4_ := Aside0.mk (Kd.R_below (by (with_reducible repeat (first | apply Kd.R_alloc | apply Kd.R_drewN | apply Kd.R_drew)); exact HO123.out) hb)
    have n5_ := Aside0.mk (blk_below (g := gb118) (o := .cells #[.bool t109, .slice Ao22 t110.length co22] 27 (0, 0)) (by (with_reducible repeat (first | refine blk_drewN ?_ _ | refine blk_drew ?_ | refine blk_alloc ?_ _)); exact BK118.out) hb)
    have n6_ := Aside0.mk (blk_below (g := gb119) (o := .cells #[.bool t113, .slice Ao24 t114.length co24] 27 (0, 0)) (by (with_reducible repeat (first | refine blk_drewN ?_ _ | refine blk_drew ?_ | refine blk_alloc ?_ _)); exact BK119.out) hb)
    have n7_ := Aside0.mk (below_step (by repeat (first | (with_reducible first | exact HB.out | apply below_alloc | apply pw_below_drewN | apply below_drew1 | refine below_set ?_ GE118.out | refine below_set ?_ GE119.out) | exact HB.out)) hb)
    clear HO104
    clear HO108
    clear HO112
    clear HO116
    clear HO123
    clear BK118
    clear BK119
    clear HB
    have HO104 := n0_
    have HO108 := n1_
    have HO112 := n2_
    have HO116 := n3_
    have HO123 := n4_
    have BK118 := n5_
    have BK119 := n6_
    have HB := n7_
    clear n0_ n1_ n2_ n3_ n4_ n5_ n6_ n7_
    (try clear hb)
    (try clear hb2)
    (try clear hk)
    (try clear hi)
    refine hK.out _ _ ⟨(blk_cell BK118.out 0).trans rfl, (blk_cell BK118.out 1).trans rfl, (blk_cell BK119.out 0).trans rfl, (blk_cell BK119.out 1).trans rfl⟩ (fun hHeld => ?_)
    clear hK K
    refine norm_ (a' := ?_) ?_ ?_
    rotate_left
    ·show Act.put _ (some 16) _ = _
     simp only [Act.put, List.setIfInBounds_toArray, List.set_cons_zero, List.set_cons_succ, i64_w, i32_w]
     rfl
    refine pure_ (i := 6) (N := some 17) (v := ?_) (a' := ?_) #[true, true, true, true, true, true, true, false, false, false, false, false, false, false, false, false, false, false] rfl rfl (any_of HT_.out (by kernel_rfl)) (fun _ _ _ h => h) (Or.inl ⟨by rfl, ?_⟩) ?_ ?_
    rotate_left
    ·intro w'
     go_simp
     with_reducible rfl
    rotate_left
    ·simp only [Act.put, List.setIfInBounds_toArray, List.set_cons_zero, List.set_cons_succ, i64_w, i32_w]
     rfl
    refine pure_ (i := 7) (N := some 18) (v := ?_) (a' := ?_) #[true, true, true, true, true, true, true, true, false, false, false, false, false, false, false, false, false, false] rfl rfl (any_of HT_.out (by kernel_rfl)) (fun _ _ _ h => h) (Or.inl ⟨by rfl, ?_⟩) ?_ ?_
    rotate_left
    ·intro w'
     go_simp
     with_reducible rfl
    rotate_left
    ·simp only [Act.put, List.setIfInBounds_toArray, List.set_cons_zero, List.set_cons_succ, i64_w, i32_w]
     rfl
    refine take_ (i := 8) (N := some 19) (v := ?_) (a' := ?_) #[true, true, true, true, true, true, true, true, true, false, false, false, false, false, false, false, false, false] rfl rfl (take_ofW HT_.out HW_.out (by kernel_rfl)) (fun _ _ _ h => h) (Or.inl ⟨by rfl, ?_⟩) hHeld ?_ ?_
    rotate_left
    ·rintro w' ⟨s0, s1, s2, s3⟩
     go_simp
     with_reducible rfl
    rotate_left
    ·simp only [Act.put, List.setIfInBounds_toArray, List.set_cons_zero, List.set_cons_succ, i64_w, i32_w]
     rfl
    refine one_ (i := 9) (N := some 20) #[true, true, true, true, true, true, true, true, true, true, false, false, false, false, false, false, false, false] rfl rfl (one_of HT_.out (by kernel_rfl)) (by decide) (fun K hK => ?_)
    refine goes_ Tryd.func48 (by kernel_rfl) rfl #[.int .i64 1] (by rfl) rfl rfl (by (try simp only [List.map_toArray, List.map_cons, List.map_nil]); first | done | rfl | (simp only [List.length_drop, List.length_take]; rfl)) ?_
    with_reducible refine (substationref01_Of.calls k 1 t125 t126 _ A8.out).mono ?_
    rintro e w30 ⟨v127, rfl, ho0, hb⟩
    refine ⟨_, rfl, ?_⟩
    have n0_ := Aside0.mk (Kd.R_elder' (by (with_reducible repeat (first | apply Kd.R_alloc | apply Kd.R_drewN | apply Kd.R_drew)); exact HO104.out) (Kd.R_base ho0) hb)
    have n1_ := Aside0.mk (Kd.R_elder' (by (with_reducible repeat (first | apply Kd.R_alloc | apply Kd.R_drewN | apply Kd.R_drew)); exact HO108.out) (Kd.R_base ho0) hb)
    have n2_ := Aside0.mk (Kd.R_elder' (by (with_reducible repeat (first | apply Kd.R_alloc | apply Kd.R_drewN | apply Kd.R_drew)); exact HO112.out) (Kd.R_base ho0) hb)
    have n3_ := Aside0.mk (Kd.R_elder' (by (with_reducible repeat (first | apply Kd.R_alloc | apply Kd.R_drewN | apply Kd.R_drew)); exact HO116.out) (Kd.R_base ho0) hb)
    have n4_ := Aside0.mk (Kd.R_elder' (by (with_reducible repeat (first | apply Kd.R_alloc | apply Kd.R_drewN | apply Kd.R_drew)); exact HO123.out) (Kd.R_base ho0) hb)
    have n5_ := Aside0.mk (Kd.R_lower (Kd.R_new' (Kd.R_new' (Kd.R_new' (Kd.R_new' (Kd.R_new' ho0 (Kd.R_lt (by (with_reducible repeat (first | apply Kd.R_alloc | apply Kd.R_drewN | apply Kd.R_drew)); exact HO104.out))) (Kd.R_lt (by (with_reducible repeat (first | apply Kd.R_alloc | apply Kd.R_drewN | apply Kd.R_drew)); exact HO108.out))) (Kd.R_lt (by (with_reducible repeat (first | apply Kd.R_alloc | apply Kd.R_drewN | apply Kd.R_drew)); exact HO112.out))) (Kd.R_lt (by (with_reducible repeat (first | apply Kd.R_alloc | apply Kd.R_drewN | apply Kd.R_drew)); exact HO116.out))) (Kd.R_lt (by (with_reducible repeat (first | apply Kd.R_alloc | apply Kd.R_drewN | apply Kd.R_drew)); exact HO123.out))) (below_size (by repeat (first | (with_reducible first | exact HB.out | apply below_alloc | apply pw_below_drewN | apply below_drew1 | refine below_set ?_ GE118.out | refine below_set ?_ GE119.out) | exact HB.out))))
    have n6_ := Aside0.mk (blk_below (g := gb118) (o := .cells #[.bool t109, .slice Ao22 t110.length co22] 27 (0, 0)) (by (with_reducible repeat (first | refine blk_drewN ?_ _ | refine blk_drew ?_ | refine blk_alloc ?_ _)); exact BK118.out) hb)
    have n7_ := Aside0.mk (blk_below (g := gb119) (o := .cells #[.bool t113, .slice Ao24 t114.length co24] 27 (0, 0)) (by (with_reducible repeat (first | refine blk_drewN ?_ _ | refine blk_drew ?_ | refine blk_alloc ?_ _)); exact BK119.out) hb)
    have n8_ := Aside0.mk (below_step (by repeat (first | (with_reducible first | exact HB.out | apply below_alloc | apply pw_below_drewN | apply below_drew1 | refine below_set ?_ GE118.out | refine below_set ?_ GE119.out) | exact HB.out)) hb)
    clear HO104
    clear HO108
    clear HO112
    clear HO116
    clear HO123
    clear BK118
    clear BK119
    clear HB
    have HO104 := n0_
    have HO108 := n1_
    have HO112 := n2_
    have HO116 := n3_
    have HO123 := n4_
    have HO128 := n5_
    have BK118 := n6_
    have BK119 := n7_
    have HB := n8_
    clear n0_ n1_ n2_ n3_ n4_ n5_ n6_ n7_ n8_
    (try clear hb)
    (try clear hb2)
    (try clear hk)
    (try clear hi)
    (try clear ho0)
    obtain ⟨Ao31, co31, eo31⟩ := Kd.R_slice HO128.out
    (first | subst eo31 | (injection eo31 with f1_ f2_ f3_; have f4_ := f1_.symm; have f5_ := f3_.symm; clear f1_ f2_ f3_; subst f4_; subst f5_))
    refine hK.out _ _ ⟨(blk_cell BK118.out 0).trans rfl, (blk_cell BK118.out 1).trans rfl, (blk_cell BK119.out 0).trans rfl, (blk_cell BK119.out 1).trans rfl⟩ (fun hHeld => ?_)
    clear hK K
    refine norm_ (a' := ?_) ?_ ?_
    rotate_left
    ·show Act.put _ (some 20) _ = _
     simp only [Act.put, List.setIfInBounds_toArray, List.set_cons_zero, List.set_cons_succ, i64_w, i32_w]
     rfl
    refine one_ (i := 10) (N := some 21) #[true, true, true, true, true, true, true, true, true, true, true, false, false, false, false, false, false, false] rfl rfl (one_of HT_.out (by kernel_rfl)) (by decide) (fun K hK => ?_)
    refine goes_ Tryd.func33 (by kernel_rfl) rfl #[.agg #[.bool t113, .slice Ao24 t114.length co24], .agg #[.bool t125, .slice Ao31 t126.length co31]] (by rfl) rfl rfl (by (try simp only [List.map_toArray, List.map_cons, List.map_nil]); first | done | rfl | (simp only [List.length_drop, List.length_take]; rfl)) ?_
    with_reducible refine (substationref01_Same.calls k t113 _ _ t114 t125 _ _ t126 true _ ?side1 ?side2 ?side3 ?side4 A9.out).mono ?_
    (case side1 => repeat (first | exact (Kd.R_reads' HO116.out).2.2 | (with_reducible refine Kd.C_alloc ?_ _) | (with_reducible refine Kd.C_drewN ?_ _) | (with_reducible refine Kd.C_drew ?_)))
    (case side2 => exact (Kd.R_reads' HO116.out).2.1)
    (case side3 => repeat (first | exact (Kd.R_reads' HO128.out).2.2 | (with_reducible refine Kd.C_alloc ?_ _) | (with_reducible refine Kd.C_drewN ?_ _) | (with_reducible refine Kd.C_drew ?_)))
    (case side4 => exact (Kd.R_reads' HO128.out).2.1)
    rintro e w32 ⟨rfl, hb⟩
    refine ⟨_, rfl, ?_⟩
    have n0_ := Aside0.mk (Kd.R_below (by (with_reducible repeat (first | apply Kd.R_alloc | apply Kd.R_drewN | apply Kd.R_drew)); exact HO104.out) hb)
    have n1_ := Aside0.mk (Kd.R_below (by (with_reducible repeat (first | apply Kd.R_alloc | apply Kd.R_drewN | apply Kd.R_drew)); exact HO108.out) hb)
    have n2_ := Aside0.mk (Kd.R_below (by (with_reducible repeat (first | apply Kd.R_alloc | apply Kd.R_drewN | apply Kd.R_drew)); exact HO112.out) hb)
    have n3_ := Aside0.mk (Kd.R_below (by (with_reducible repeat (first | apply Kd.R_alloc | apply Kd.R_drewN | apply Kd.R_drew)); exact HO116.out) hb)
    have n4_ := Aside0.mk (Kd.R_below (by (with_reducible repeat (first | apply Kd.R_alloc | apply Kd.R_drewN | apply Kd.R_drew)); exact HO123.out) hb)
    have n5_ := Aside0.mk (Kd.R_below (by (with_reducible repeat (first | apply Kd.R_alloc | apply Kd.R_drewN | apply Kd.R_drew)); exact HO128.out) hb)
    have n6_ := Aside0.mk (blk_below (g := gb118) (o := .cells #[.bool t109, .slice Ao22 t110.length co22] 27 (0, 0)) (by (with_reducible repeat (first | refine blk_drewN ?_ _ | refine blk_drew ?_ | refine blk_alloc ?_ _)); exact BK118.out) hb)
    have n7_ := Aside0.mk (blk_below (g := gb119) (o := .cells #[.bool t113, .slice Ao24 t114.length co24] 27 (0, 0)) (by (with_reducible repeat (first | refine blk_drewN ?_ _ | refine blk_drew ?_ | refine blk_alloc ?_ _)); exact BK119.out) hb)
    have n8_ := Aside0.mk (below_step (by repeat (first | (with_reducible first | exact HB.out | apply below_alloc | apply pw_below_drewN | apply below_drew1 | refine below_set ?_ GE118.out | refine below_set ?_ GE119.out) | exact HB.out)) hb)
    clear HO104
    clear HO108
    clear HO112
    clear HO116
    clear HO123
    clear HO128
    clear BK118
    clear BK119
    clear HB
    have HO104 := n0_
    have HO108 := n1_
    have HO112 := n2_
    have HO116 := n3_
    have HO123 := n4_
    have HO128 := n5_
    have BK118 := n6_
    have BK119 := n7_
    have HB := n8_
    clear n0_ n1_ n2_ n3_ n4_ n5_ n6_ n7_ n8_
    (try clear hb)
    (try clear hb2)
    (try clear hk)
    (try clear hi)
    refine hK.out _ _ ⟨(blk_cell BK118.out 0).trans rfl, (blk_cell BK118.out 1).trans rfl, (blk_cell BK119.out 0).trans rfl, (blk_cell BK119.out 1).trans rfl⟩ (fun hHeld => ?_)
    clear hK K
    refine norm_ (a' := ?_) ?_ ?_
    rotate_left
    ·show Act.put _ (some 21) _ = _
     simp only [Act.put, List.setIfInBounds_toArray, List.set_cons_zero, List.set_cons_succ, i64_w, i32_w]
     rfl
    refine pure_ (i := 11) (N := some 22) (v := ?_) (a' := ?_) #[true, true, true, true, true, true, true, true, true, true, true, true, false, false, false, false, false, false] rfl rfl (any_of HT_.out (by kernel_rfl)) (fun _ _ _ h => h) (Or.inl ⟨by rfl, ?_⟩) ?_ ?_
    rotate_left
    ·intro w'
     go_simp
     with_reducible rfl
    rotate_left
    ·simp only [Act.put, List.setIfInBounds_toArray, List.set_cons_zero, List.set_cons_succ, i64_w, i32_w]
     rfl
    refine pure_ (i := 12) (N := some 23) (v := ?_) (a' := ?_) #[true, true, true, true, true, true, true, true, true, true, true, true, true, false, false, false, false, false] rfl rfl (any_of HT_.out (by kernel_rfl)) (fun _ _ _ h => h) (Or.inl ⟨by rfl, ?_⟩) ?_ ?_
    rotate_left
    ·intro w'
     go_simp
     with_reducible rfl
    rotate_left
    ·simp only [Act.put, List.setIfInBounds_toArray, List.set_cons_zero, List.set_cons_succ, i64_w, i32_w]
     rfl
    refine one_ (i := 13) (N := some 24) #[true, true, true, true, true, true, true, true, true, true, true, true, true, true, false, false, false, false] rfl rfl (one_of HT_.out (by kernel_rfl)) (by decide) (fun K hK => ?_)
    refine goes_ Tryd.func42 (by kernel_rfl) rfl #[.int .i64 (-12)] (by rfl) rfl rfl (by (try simp only [List.map_toArray, List.map_cons, List.map_nil]); first | done | rfl | (simp only [List.length_drop, List.length_take]; rfl)) ?_
    with_reducible refine (integer_Of.calls k (-12) t130 t131 _ A11.out).mono ?_
    rintro e w33 ⟨v132, rfl, ho0, hb⟩
    refine ⟨_, rfl, ?_⟩
    have n0_ := Aside0.mk (Kd.R_elder' (by (with_reducible repeat (first | apply Kd.R_alloc | apply Kd.R_drewN | apply Kd.R_drew)); exact HO104.out) (Kd.R_base ho0) hb)
    have n1_ := Aside0.mk (Kd.R_elder' (by (with_reducible repeat (first | apply Kd.R_alloc | apply Kd.R_drewN | apply Kd.R_drew)); exact HO108.out) (Kd.R_base ho0) hb)
    have n2_ := Aside0.mk (Kd.R_elder' (by (with_reducible repeat (first | apply Kd.R_alloc | apply Kd.R_drewN | apply Kd.R_drew)); exact HO112.out) (Kd.R_base ho0) hb)
    have n3_ := Aside0.mk (Kd.R_elder' (by (with_reducible repeat (first | apply Kd.R_alloc | apply Kd.R_drewN | apply Kd.R_drew)); exact HO116.out) (Kd.R_base ho0) hb)
    have n4_ := Aside0.mk (Kd.R_elder' (by (with_reducible repeat (first | apply Kd.R_alloc | apply Kd.R_drewN | apply Kd.R_drew)); exact HO123.out) (Kd.R_base ho0) hb)
    have n5_ := Aside0.mk (Kd.R_elder' (by (with_reducible repeat (first | apply Kd.R_alloc | apply Kd.R_drewN | apply Kd.R_drew)); exact HO128.out) (Kd.R_base ho0) hb)
    have n6_ := Aside0.mk (Kd.R_lower (Kd.R_new' (Kd.R_new' (Kd.R_new' (Kd.R_new' (Kd.R_new' (Kd.R_new' ho0 (Kd.R_lt (by (with_reducible repeat (first | apply Kd.R_alloc | apply Kd.R_drewN | apply Kd.R_drew)); exact HO104.out))) (Kd.R_lt (by (with_reducible repeat (first | apply Kd.R_alloc | apply Kd.R_drewN | apply Kd.R_drew)); exact HO108.out))) (Kd.R_lt (by (with_reducible repeat (first | apply Kd.R_alloc | apply Kd.R_drewN | apply Kd.R_drew)); exact HO112.out))) (Kd.R_lt (by (with_reducible repeat (first | apply Kd.R_alloc | apply Kd.R_drewN | apply Kd.R_drew)); exact HO116.out))) (Kd.R_lt (by (with_reducible repeat (first | apply Kd.R_alloc | apply Kd.R_drewN | apply Kd.R_drew)); exact HO123.out))) (Kd.R_lt (by (with_reducible repeat (first | apply Kd.R_alloc | apply Kd.R_drewN | apply Kd.R_drew)); exact HO128.out))) (below_size (by repeat (first | (with_reducible first | exact HB.out | apply below_alloc | apply pw_below_drewN | apply below_drew1 | refine below_set ?_ GE118.out | refine below_set ?_ GE119.out) | exact HB.out))))
    have n7_ := Aside0.mk (blk_below (g := gb118) (o := .cells #[.bool t109, .slice Ao22 t110.length co22] 27 (0, 0)) (by (with_reducible repeat (first | refine blk_drewN ?_ _ | refine blk_drew ?_ | refine blk_alloc ?_ _)); exact BK118.out) hb)
    have n8_ := Aside0.mk (blk_below (g := gb119) (o := .cells #[.bool t113, .slice Ao24 t114.length co24] 27 (0, 0)) (by (with_reducible repeat (first | refine blk_drewN ?_ _ | refine blk_drew ?_ | refine blk_alloc ?_ _)); exact BK119.out) hb)
    have n9_ := Aside0.mk (below_step (by repeat (first | (with_reducible first | exact HB.out | apply below_alloc | apply pw_below_drewN | apply below_drew1 | refine below_set ?_ GE118.out | refine below_set ?_ GE119.out) | exact HB.out)) hb)
    clear HO104
    clear HO108
    clear HO112
    clear HO116
    clear HO123
    clear HO128
    clear BK118
    clear BK119
    clear HB
    have HO104 := n0_
    have HO108 := n1_
    have HO112 := n2_
    have HO116 := n3_
    have HO123 := n4_
    have HO128 := n5_
    have HO133 := n6_
    have BK118 := n7_
    have BK119 := n8_
    have HB := n9_
    clear n0_ n1_ n2_ n3_ n4_ n5_ n6_ n7_ n8_ n9_
    (try clear hb)
    (try clear hb2)
    (try clear hk)
    (try clear hi)
    (try clear ho0)
    obtain ⟨Ao34, co34, eo34⟩ := Kd.R_slice HO133.out
    (first | subst eo34 | (injection eo34 with f1_ f2_ f3_; have f4_ := f1_.symm; have f5_ := f3_.symm; clear f1_ f2_ f3_; subst f4_; subst f5_))
    refine hK.out _ _ ⟨(blk_cell BK118.out 0).trans rfl, (blk_cell BK118.out 1).trans rfl, (blk_cell BK119.out 0).trans rfl, (blk_cell BK119.out 1).trans rfl⟩ (fun hHeld => ?_)
    clear hK K
    refine norm_ (a' := ?_) ?_ ?_
    rotate_left
    ·show Act.put _ (some 24) _ = _
     simp only [Act.put, List.setIfInBounds_toArray, List.set_cons_zero, List.set_cons_succ, i64_w, i32_w]
     rfl
    refine one_ (i := 14) (N := some 25) #[true, true, true, true, true, true, true, true, true, true, true, true, true, true, true, false, false, false] rfl rfl (one_of HT_.out (by kernel_rfl)) (by decide) (fun K hK => ?_)
    refine goes_ Tryd.func29 (by kernel_rfl) rfl #[.agg #[.bool t130, .slice Ao34 t131.length co34]] (by rfl) rfl rfl (by (try simp only [List.map_toArray, List.map_cons, List.map_nil]); first | done | rfl | (simp only [List.length_drop, List.length_take]; rfl)) ?_
    with_reducible refine (integer_Text.calls k t130 _ _ t131 t134 _ ?side1 ?side2 A12.out).mono ?_
    (case side1 => repeat (first | exact (Kd.R_reads' HO133.out).2.2 | (with_reducible refine Kd.C_alloc ?_ _) | (with_reducible refine Kd.C_drewN ?_ _) | (with_reducible refine Kd.C_drew ?_)))
    (case side2 => exact (Kd.R_reads' HO133.out).2.1)
    rintro e w35 ⟨rfl, hb⟩
    refine ⟨_, rfl, ?_⟩
    have n0_ := Aside0.mk (Kd.R_below (by (with_reducible repeat (first | apply Kd.R_alloc | apply Kd.R_drewN | apply Kd.R_drew)); exact HO104.out) hb)
    have n1_ := Aside0.mk (Kd.R_below (by (with_reducible repeat (first | apply Kd.R_alloc | apply Kd.R_drewN | apply Kd.R_drew)); exact HO108.out) hb)
    have n2_ := Aside0.mk (Kd.R_below (by (with_reducible repeat (first | apply Kd.R_alloc | apply Kd.R_drewN | apply Kd.R_drew)); exact HO112.out) hb)
    have n3_ := Aside0.mk (Kd.R_below (by (with_reducible repeat (first | apply Kd.R_alloc | apply Kd.R_drewN | apply Kd.R_drew)); exact HO116.out) hb)
    have n4_ := Aside0.mk (Kd.R_below (by (with_reducible repeat (first | apply Kd.R_alloc | apply Kd.R_drewN | apply Kd.R_drew)); exact HO123.out) hb)
    have n5_ := Aside0.mk (Kd.R_below (by (with_reducible repeat (first | apply Kd.R_alloc | apply Kd.R_drewN | apply Kd.R_drew)); exact HO128.out) hb)
    have n6_ := Aside0.mk (Kd.R_below (by (with_reducible repeat (first | apply Kd.R_alloc | apply Kd.R_drewN | apply Kd.R_drew)); exact HO133.out) hb)
    have n7_ := Aside0.mk (blk_below (g := gb118) (o := .cells #[.bool t109, .slice Ao22 t110.length co22] 27 (0, 0)) (by (with_reducible repeat (first | refine blk_drewN ?_ _ | refine blk_drew ?_ | refine blk_alloc ?_ _)); exact BK118.out) hb)
    have n8_ := Aside0.mk (blk_below (g := gb119) (o := .cells #[.bool t113, .slice Ao24 t114.length co24] 27 (0, 0)) (by (with_reducible repeat (first | refine blk_drewN ?_ _ | refine blk_drew ?_ | refine blk_alloc ?_ _)); exact BK119.out) hb)
    have n9_ := Aside0.mk (below_step (by repeat (first | (with_reducible first | exact HB.out | apply below_alloc | apply pw_below_drewN | apply below_drew1 | refine below_set ?_ GE118.out | refine below_set ?_ GE119.out) | exact HB.out)) hb)
    clear HO104
    clear HO108
    clear HO112
    clear HO116
    clear HO123
    clear HO128
    clear HO133
    clear BK118
    clear BK119
    clear HB
    have HO104 := n0_
    have HO108 := n1_
    have HO112 := n2_
    have HO116 := n3_
    have HO123 := n4_
    have HO128 := n5_
    have HO133 := n6_
    have BK118 := n7_
    have BK119 := n8_
    have HB := n9_
    clear n0_ n1_ n2_ n3_ n4_ n5_ n6_ n7_ n8_ n9_
    (try clear hb)
    (try clear hb2)
    (try clear hk)
    (try clear hi)
    refine hK.out _ _ ⟨(blk_cell BK118.out 0).trans rfl, (blk_cell BK118.out 1).trans rfl, (blk_cell BK119.out 0).trans rfl, (blk_cell BK119.out 1).trans rfl⟩ (fun hHeld => ?_)
    clear hK K
    refine norm_ (a' := ?_) ?_ ?_
    rotate_left
    ·show Act.put _ (some 25) _ = _
     simp only [Act.put, List.setIfInBounds_toArray, List.set_cons_zero, List.set_cons_succ, i64_w, i32_w]
     rfl
    refine pure_ (i := 15) (N := some 26) (v := ?_) (a' := ?_) #[true, true, true, true, true, true, true, true, true, true, true, true, true, true, true, true, false, false] rfl rfl (any_of HT_.out (by kernel_rfl)) (fun _ _ _ h => h) (Or.inl ⟨by rfl, ?_⟩) ?_ ?_
    rotate_left
    ·intro w'
     go_simp
     with_reducible rfl
    rotate_left
    ·simp only [Act.put, List.setIfInBounds_toArray, List.set_cons_zero, List.set_cons_succ, i64_w, i32_w]
     rfl
    refine pure_ (i := 16) (N := some 27) (v := ?_) (a' := ?_) #[true, true, true, true, true, true, true, true, true, true, true, true, true, true, true, true, true, false] rfl rfl (any_of HT_.out (by kernel_rfl)) (fun _ _ _ h => h) (Or.inl ⟨by rfl, ?_⟩) ?_ ?_
    rotate_left
    ·intro w'
     go_simp
     with_reducible rfl
    rotate_left
    ·simp only [Act.put, List.setIfInBounds_toArray, List.set_cons_zero, List.set_cons_succ, i64_w, i32_w]
     rfl
    refine pure_ (i := 17) (N := some 0) (v := ?_) (a' := ?_) #[true, true, true, true, true, true, true, true, true, true, true, true, true, true, true, true, true, true] rfl rfl (any_of HT_.out (by kernel_rfl)) (fun _ _ _ h => h) (Or.inl ⟨by rfl, ?_⟩) ?_ ?_
    rotate_left
    ·intro w'
     go_simp
     with_reducible rfl
    rotate_left
    ·simp only [Act.put, List.setIfInBounds_toArray, List.set_cons_zero, List.set_cons_succ, i64_w, i32_w]
     rfl
    refine done_ (done_of HT_.out (by kernel_rfl)) ?_
    try go_wp2
    go_ret
    exact ⟨by first | rfl | (simp [errW_none, errW_some] <;> rfl) | (simp [*, errW_none, errW_some] <;> rfl), by repeat (first | (with_reducible first | exact HB.out | apply below_alloc | apply pw_below_drewN | apply below_drew1 | refine below_set ?_ GE118.out | refine below_set ?_ GE119.out) | exact HB.out)⟩
   ·replace c10 := Bool.eq_false_iff.mpr c10
    subst c10
    have H1 : (none) = some r := by rw [if_neg (show ¬ (false = true) by decide)] at H; exact H
    exact absurd H1 (by simp)
  ·replace c7 := Bool.eq_false_iff.mpr c7
   subst c7
   have H1 : (none) = some r := by rw [if_neg (show ¬ (false = true) by decide)] at H; exact H
   exact absurd H1 (by simp)
 ·rw [if_neg c4] at H
  exact absurd H (by simp)
end Go.Proofs.YtmjceijbbodbfaaDoor.XA
end
section
namespace Go.Proofs.YtmjceijbbodbfaaDoor.IntA
open Go.RowKit Go.Proofs.YtmjceijbbodbfaaDoorW.PrintWords Go.Proofs.YtmjceijbbodbfaaDoorW.PrintMore Go.Proofs.YtmjceijbbodbfaaDoor.XA Go.Proofs.YtmjceijbbodbfaaDoor.Dig
theorem w64 {x : Int} (h0 : -9223372036854775808 ≤ x) (h1 : x ≤ 9223372036854775807) : wrap64 x = x := by unfold wrap64; omega
theorem u64w (n : Int) : IntKind.u64.wrap n = n % 18446744073709551616 := by simp [IntKind.wrap, IntKind.bits, IntKind.signed]
theorem u64_in {n : Int} (h0 : 0 ≤ n) (h1 : n < 18446744073709551616) : IntKind.u64.wrap n = n := by rw [u64w]; omega
theorem rd_nat (l : List Int) (n : Nat) : rd l (n : Int) = dg l n := rfl
/-! ### trim -/
/-- How many of the first n digits are left without leading zeros. -/
def tl (l : List Int) : Nat → Nat
  | 0 => 0
  | n + 1 => if dg l n = 0 then tl l n else n + 1
theorem tl_le (l : List Int) (n : Nat) : tl l n ≤ n := by
  induction n with
  | zero => exact Nat.le_refl _
  | succ n ih => unfold tl; split <;> omega
theorem tl_pv (l : List Int) (n : Nat) : pv l (tl l n) = pv l n := by
  induction n with
  | zero => rfl
  | succ n ih =>
    unfold tl
    split
    · rename_i h; rw [ih]; simp only [pv]; rw [h]; simp
    · rfl
theorem tl_top (l : List Int) (n : Nat) : tl l n = 0 ∨ dg l (tl l n - 1) ≠ 0 := by
  induction n with
  | zero => exact .inl rfl
  | succ n ih =>
    unfold tl
    split
    · exact ih
    · rename_i h; exact .inr (by simpa using h)
/-- A list without its leading zeros. -/
def dtrim (l : List Int) : List Int := l.take (tl l l.length)
theorem dtrim_ok {l : List Int} (h : Ok l) : Ok (dtrim l) := ok_take h _
theorem dtrim_len (l : List Int) : (dtrim l).length = tl l l.length := by
  have := tl_le l l.length
  unfold dtrim
  rw [List.length_take]
  omega
theorem dtrim_le (l : List Int) : (dtrim l).length ≤ l.length := by rw [dtrim_len]; exact tl_le _ _
theorem dtrim_norm {l : List Int} (h : Ok l) : Norm (dtrim l) := by
  refine ⟨dtrim_ok h, ?_⟩
  rcases tl_top l l.length with h0 | h0
  · left
    exact List.eq_nil_of_length_eq_zero (by rw [dtrim_len]; exact h0)
  · by_cases hz : tl l l.length = 0
    · left
      exact List.eq_nil_of_length_eq_zero (by rw [dtrim_len]; exact hz)
    · right
      rw [dtrim_len]
      unfold dtrim
      rw [dg_take (by omega)]
      exact h0
theorem dtrim_val (l : List Int) : val (dtrim l) = val l := by
  unfold dtrim
  rw [pv_take, tl_pv]
  rfl
theorem trim_l0 (l : List Int) (hl : l.length < 35184372088832) (n : Nat) (hn : n ≤ l.length) : Ev (fun k => integer_trim.l0 k l (n : Int)) (l.take (tl l n)) := by
  have hend : ∀ m : Nat, m ≤ l.length → (if 0 ≤ (m : Int) then (if (m : Int) ≤ (l.length : Int) then (if ([] : List Int).length + (l.take ((m : Int) : Int).toNat).length < 35184372088832 then (some (([] : List Int) ++ (l.take ((m : Int) : Int).toNat))) else (none)) else (none)) else (none)) = some (l.take m) := by
    intro m hm
    rw [if_pos (by omega), if_pos (by omega), if_pos (by simp only [List.length_nil, Int.toNat_natCast, List.length_take]; omega)]
    simp
  induction n with
  | zero =>
    refine Ev.step (f := fun _ => some (l.take 0)) (fun k => ?_) (Ev.now _)
    simp only [integer_trim.l0]
    rw [if_neg (by omega)]
    exact hend 0 (by omega)
  | succ n ih =>
    have e : wrap64 (((n + 1 : Nat) : Int) - 1) = (n : Int) := by rw [w64 (by omega) (by omega)]; omega
    by_cases hz : dg l n = 0
    · refine Ev.step (f := fun k => integer_trim.l0 k l (n : Int)) (fun k => ?_) ?_
      · simp only [integer_trim.l0]
        rw [e, if_pos (by omega), if_pos (by omega), if_pos (by omega), if_pos (by rw [rd_nat]; exact hz)]
      · unfold tl
        rw [if_pos hz]
        exact ih (by omega)
    · refine Ev.step (f := fun _ => some (l.take (tl l (n + 1)))) (fun k => ?_) (Ev.now _)
      simp only [integer_trim.l0]
      rw [e, if_pos (by omega), if_pos (by omega), if_pos (by omega), if_neg (by rw [rd_nat]; exact hz), hend (n + 1) hn]
      unfold tl
      rw [if_neg hz]
theorem trim (l : List Int) (hl : l.length < 35184372088832) : Ev (fun k => integer_trim.f k l) (dtrim l) := trim_l0 l hl l.length (Nat.le_refl _)
theorem rtrim_l0 (l : List Int) (hl : l.length < 35184372088832) (n : Nat) (hn : n ≤ l.length) : Ev (fun k => substationref01_trim.l0 k l (n : Int)) (l.take (tl l n)) := by
  have hend : ∀ m : Nat, m ≤ l.length → ((some (([] : List Int) : List Int)).bind fun y102 => (if 0 ≤ (m : Int) then (if (m : Int) ≤ (l.length : Int) then (if y102.length + (l.take ((m : Int) : Int).toNat).length < 35184372088832 then (some (y102 ++ (l.take ((m : Int) : Int).toNat))) else (none)) else (none)) else (none))) = some (l.take m) := by
    intro m hm
    simp only [Option.bind_some]
    rw [if_pos (by omega), if_pos (by omega), if_pos (by simp only [List.length_nil, Int.toNat_natCast, List.length_take]; omega)]
    simp
  induction n with
  | zero =>
    refine Ev.step (f := fun _ => some (l.take 0)) (fun k => ?_) (Ev.now _)
    simp only [substationref01_trim.l0]
    rw [if_neg (by omega)]
    exact hend 0 (by omega)
  | succ n ih =>
    have e : wrap64 (((n + 1 : Nat) : Int) - 1) = (n : Int) := by rw [w64 (by omega) (by omega)]; omega
    by_cases hz : dg l n = 0
    · refine Ev.step (f := fun k => substationref01_trim.l0 k l (n : Int)) (fun k => ?_) ?_
      · simp only [substationref01_trim.l0]
        rw [e, if_pos (by omega), if_pos (by omega), if_pos (by omega), if_pos (by rw [rd_nat]; exact hz)]
      · unfold tl
        rw [if_pos hz]
        exact ih (by omega)
    · refine Ev.step (f := fun _ => some (l.take (tl l (n + 1)))) (fun k => ?_) (Ev.now _)
      simp only [substationref01_trim.l0]
      rw [e, if_pos (by omega), if_pos (by omega), if_pos (by omega), if_neg (by rw [rd_nat]; exact hz), hend (n + 1) hn]
      unfold tl
      rw [if_neg hz]
theorem rtrim (l : List Int) (hl : l.length < 35184372088832) : Ev (fun k => substationref01_trim.f k l) (dtrim l) := rtrim_l0 l hl l.length (Nat.le_refl _)
/-! ### signs and magnitudes -/
/-- The normal form of a sign and digits. -/
def mk (s : Bool) (l : List Int) : Bool × List Int := (s && decide (0 < (dtrim l).length), dtrim l)
theorem signed (s : Bool) (l : List Int) (hl : l.length < 35184372088832) : Ev (fun k => integer_signed.f k s l) (mk s l) := by
  unfold integer_signed.f
  refine Ev.bind (trim l hl) ?_
  cases s
  · exact Ev.now _
  · exact Ev.now _
theorem made (s : Bool) (l : List Int) (hl : l.length < 35184372088832) : Ev (fun k => substationref01_made.f k s l) (mk s l) := by
  unfold substationref01_made.f
  refine Ev.bind (rtrim l hl) ?_
  cases s
  · exact Ev.now _
  · exact Ev.now _
/-- A valid integer: its digits without leading zeros, at most 400 of them, no negative zero. -/
def Vld (s : Bool) (l : List Int) : Prop := l.length ≤ 400 ∧ Nz l ∧ (l = [] → s = false)
def vld (s : Bool) (l : List Int) : Bool := decide (l.length ≤ 400) && (if l = [] then !s else dg l (l.length - 1) != 0)
theorem vld_iff (s : Bool) (l : List Int) : vld s l = true ↔ Vld s l := by
  unfold vld Vld Nz
  by_cases h : l = []
  · subst h; cases s <;> simp
  · simp [h]
theorem valid (s : Bool) (l : List Int) (hl : l.length ≤ 9223372036854775807) : integer_Valid.f s l = some (vld s l) := by
  unfold integer_Valid.f vld
  by_cases h : l = []
  · subst h; simp
  · have hp : 0 < l.length := List.length_pos_iff.2 h
    rw [if_neg (by omega)]
    by_cases h4 : l.length ≤ 400
    · have e : wrap64 ((l.length : Int) - 1) = ((l.length - 1 : Nat) : Int) := by rw [w64 (by omega) (by omega)]; omega
      rw [if_pos (by omega), e, if_pos (by omega), if_pos (by omega), rd_nat, if_neg h]
      simp [h4]
    · rw [if_neg (by omega)]
      simp [h4]
theorem rvalid (s : Bool) (l : List Int) (hl : l.length ≤ 9223372036854775807) : substationref01_Valid.f s l = some (vld s l) := by
  unfold substationref01_Valid.f vld
  by_cases h4 : l.length ≤ 400
  · rw [if_neg (by omega)]
    by_cases h : l = []
    · subst h; cases s <;> simp
    · have hp : 0 < l.length := List.length_pos_iff.2 h
      have e : wrap64 ((l.length : Int) - 1) = ((l.length - 1 : Nat) : Int) := by rw [w64 (by omega) (by omega)]; omega
      rw [if_neg (by omega), e, if_pos (by omega), if_pos (by omega), rd_nat, if_neg h]
      simp [h4]
  · rw [if_pos (by omega)]
    simp [h4]
/-! ### comparing -/
/-- -1, 0 or 1. -/
def sg (x : Int) : Int := if x < 0 then -1 else if x = 0 then 0 else 1
/-- Comparing two lists of equal length from the top. -/
def cmpN (a b : List Int) : Nat → Int
  | 0 => 0
  | n + 1 => if dg a n < dg b n then -1 else if dg b n < dg a n then 1 else cmpN a b n
theorem cmpN_val {a b : List Int} (ha : Ok a) (hb : Ok b) (n : Nat) : cmpN a b n = sg (pv a n - pv b n) := by
  induction n with
  | zero => rfl
  | succ n ih =>
    have h1 := pv_nonneg ha n
    have h2 := pv_nonneg hb n
    have h3 := pv_lt ha n
    have h4 := pv_lt hb n
    have hp := pow_pos n
    unfold cmpN
    simp only [pv]
    rcases Int.lt_trichotomy (dg a n) (dg b n) with h | h | h
    · rw [if_pos h]
      have : pw n * (dg a n + 1) ≤ pw n * dg b n := Int.mul_le_mul_of_nonneg_left (by omega) (Int.le_of_lt hp)
      rw [Int.mul_add, Int.mul_one] at this
      unfold sg
      rw [if_pos (by omega)]
    · rw [if_neg (by omega), if_neg (by omega), ih, h]
      congr 1
      omega
    · rw [if_neg (by omega), if_pos h]
      have : pw n * (dg b n + 1) ≤ pw n * dg a n := Int.mul_le_mul_of_nonneg_left (by omega) (Int.le_of_lt hp)
      rw [Int.mul_add, Int.mul_one] at this
      unfold sg
      rw [if_neg (by omega), if_neg (by omega)]
/-- As the code compares: the lengths, then the digits from the top. -/
def cmp (a b : List Int) : Int := if a.length = b.length then cmpN a b a.length else if a.length < b.length then -1 else 1
theorem cmp_val {a b : List Int} (ha : Norm a) (hb : Norm b) : cmp a b = sg (val a - val b) := by
  unfold cmp
  by_cases h : a.length = b.length
  · rw [if_pos h, cmpN_val ha.1 hb.1]
    unfold val
    rw [h]
  · rw [if_neg h]
    by_cases h2 : a.length < b.length
    · have := len_lt ha.1 hb h2
      rw [if_pos h2]
      unfold sg
      rw [if_pos (by omega)]
    · have := len_lt hb.1 ha (by omega)
      rw [if_neg h2]
      unfold sg
      rw [if_neg (by omega), if_neg (by omega)]
theorem compare_l0 (a b : List Int) (h : a.length = b.length) (hl : a.length ≤ 9223372036854775807) (n : Nat) (hn : n ≤ a.length) : Ev (fun k => integer_compare.l0 k a b ((n : Int) - 1)) (cmpN a b n) := by
  induction n with
  | zero =>
    refine Ev.step (f := fun _ => some 0) (fun k => ?_) (Ev.now _)
    simp only [integer_compare.l0]
    rw [if_neg (by omega)]
  | succ n ih =>
    have e0 : ((n + 1 : Nat) : Int) - 1 = (n : Int) := by omega
    have e : wrap64 ((n : Int) - 1) = (n : Int) - 1 := w64 (by omega) (by omega)
    rw [e0]
    unfold cmpN
    by_cases h1 : dg a n < dg b n
    · refine Ev.step (f := fun _ => some (-1)) (fun k => ?_) ?_
      · simp only [integer_compare.l0]
        rw [if_pos (by omega), if_pos (by omega), if_pos (by omega), if_pos (by omega), rd_nat, rd_nat, if_pos h1]
      · rw [if_pos h1]; exact Ev.now _
    · by_cases h2 : dg b n < dg a n
      · refine Ev.step (f := fun _ => some 1) (fun k => ?_) ?_
        · simp only [integer_compare.l0]
          rw [if_pos (by omega), if_pos (by omega), if_pos (by omega), if_pos (by omega), rd_nat, rd_nat, if_neg h1, if_pos h2]
        · rw [if_neg h1, if_pos h2]; exact Ev.now _
      · refine Ev.step (f := fun k => integer_compare.l0 k a b ((n : Int) - 1)) (fun k => ?_) ?_
        · simp only [integer_compare.l0]
          rw [if_pos (by omega), if_pos (by omega), if_pos (by omega), if_pos (by omega), rd_nat, rd_nat, if_neg h1, if_neg h2, e]
        · rw [if_neg h1, if_neg h2]; exact ih (by omega)
theorem compare (a b : List Int) (hl : a.length ≤ 9223372036854775807) : Ev (fun k => integer_compare.f k a b) (cmp a b) := by
  unfold integer_compare.f cmp
  by_cases h : a.length = b.length
  · rw [if_pos h]
    have e : wrap64 ((a.length : Int) - 1) = (a.length : Int) - 1 := w64 (by omega) (by omega)
    refine Ev.congr (f := fun k => integer_compare.l0 k a b ((a.length : Int) - 1)) (fun k => ?_) (compare_l0 a b h hl a.length (Nat.le_refl _))
    rw [if_pos (by omega), e]
  · rw [if_neg h]
    by_cases h2 : a.length < b.length
    · rw [if_pos h2]
      refine Ev.congr (f := fun _ => some (-1)) (fun k => ?_) (Ev.now _)
      rw [if_neg (by omega), if_pos (by omega)]
    · rw [if_neg h2]
      refine Ev.congr (f := fun _ => some 1) (fun k => ?_) (Ev.now _)
      rw [if_neg (by omega), if_neg (by omega)]
theorem rcompare_l0 (a b : List Int) (h : a.length = b.length) (hl : a.length ≤ 9223372036854775807) (n : Nat) (hn : n ≤ a.length) : Ev (fun k => substationref01_compare.l0 k a b ((n : Int) - 1)) (cmpN a b n) := by
  induction n with
  | zero =>
    refine Ev.step (f := fun _ => some 0) (fun k => ?_) (Ev.now _)
    simp only [substationref01_compare.l0]
    rw [if_neg (by omega)]
  | succ n ih =>
    have e0 : ((n + 1 : Nat) : Int) - 1 = (n : Int) := by omega
    have e : wrap64 ((n : Int) - 1) = (n : Int) - 1 := w64 (by omega) (by omega)
    rw [e0]
    unfold cmpN
    by_cases h1 : dg a n < dg b n
    · refine Ev.step (f := fun _ => some (-1)) (fun k => ?_) ?_
      · simp only [substationref01_compare.l0]
        rw [if_pos (by omega), if_pos (by omega), if_pos (by omega), if_pos (by omega), rd_nat, rd_nat, if_pos h1]
      · rw [if_pos h1]; exact Ev.now _
    · by_cases h2 : dg b n < dg a n
      · refine Ev.step (f := fun _ => some 1) (fun k => ?_) ?_
        · simp only [substationref01_compare.l0]
          rw [if_pos (by omega), if_pos (by omega), if_pos (by omega), if_pos (by omega), rd_nat, rd_nat, if_neg h1, if_pos h2]
        · rw [if_neg h1, if_pos h2]; exact Ev.now _
      · refine Ev.step (f := fun k => substationref01_compare.l0 k a b ((n : Int) - 1)) (fun k => ?_) ?_
        · simp only [substationref01_compare.l0]
          rw [if_pos (by omega), if_pos (by omega), if_pos (by omega), if_pos (by omega), rd_nat, rd_nat, if_neg h1, if_neg h2, e]
        · rw [if_neg h1, if_neg h2]; exact ih (by omega)
theorem rcompare (a b : List Int) (hl : a.length ≤ 9223372036854775807) : Ev (fun k => substationref01_compare.f k a b) (cmp a b) := by
  unfold substationref01_compare.f cmp
  by_cases h : a.length = b.length
  · rw [if_pos h]
    have e : wrap64 ((a.length : Int) - 1) = (a.length : Int) - 1 := w64 (by omega) (by omega)
    refine Ev.congr (f := fun k => substationref01_compare.l0 k a b ((a.length : Int) - 1)) (fun k => ?_) (rcompare_l0 a b h hl a.length (Nat.le_refl _))
    rw [if_pos (by omega), e]
  · rw [if_neg h]
    by_cases h2 : a.length < b.length
    · rw [if_pos h2]
      refine Ev.congr (f := fun _ => some (-1)) (fun k => ?_) (Ev.now _)
      rw [if_neg (by omega), if_pos (by omega)]
    · rw [if_neg h2]
      refine Ev.congr (f := fun _ => some 1) (fun k => ?_) (Ev.now _)
      rw [if_neg (by omega), if_neg (by omega)]
end Go.Proofs.YtmjceijbbodbfaaDoor.IntA
end
section
namespace Go.Proofs.YtmjceijbbodbfaaDoor.IntB
open Go.RowKit Go.Proofs.YtmjceijbbodbfaaDoorW.PrintWords Go.Proofs.YtmjceijbbodbfaaDoorW.PrintMore Go.Proofs.YtmjceijbbodbfaaDoor.XA Go.Proofs.YtmjceijbbodbfaaDoor.Dig Go.Proofs.YtmjceijbbodbfaaDoor.IntA
/-! ### sums -/
theorem at_ (l : List Int) (n : Nat) (hok : Ok l) : integer_add_1.f l (n : Int) = some (dg l n) := by
  unfold integer_add_1.f
  have h := dg_ok hok n
  by_cases hn : n < l.length
  · rw [if_pos (by omega), if_pos (by omega), rd_nat, u64_in h.1 (by omega)]
  · rw [if_neg (by omega), dg_out (by omega)]
theorem carry_step (P X A B c x y : Int) (hv : X + P * c = A + B) : X + P * ((c + x + y) % 4294967296) + P * 4294967296 * ((c + x + y) / 4294967296) = A + P * x + (B + P * y) := by
  have h5 : (c + x + y) % 4294967296 = (c + x + y) - 4294967296 * ((c + x + y) / 4294967296) := by omega
  rw [h5]
  generalize (c + x + y) / 4294967296 = q
  grind
theorem borrow_step (P X A B c x y q : Int) (hv : X - P * c = A - B) (hq : (x - y - c) % 4294967296 = (x - y - c) + 4294967296 * q) : X + P * ((x - y - c) % 4294967296) - P * 4294967296 * q = A + P * x - (B + P * y) := by
  rw [hq]
  grind
theorem wnext (n : Nat) (h : n < 9223372036854775000) : wrap64 ((n : Int) + 1) = ((n + 1 : Nat) : Int) := by rw [w64 (by omega) (by omega)]; omega
theorem uadd3 (c x y : Int) (h0 : 0 ≤ c) (h1 : c ≤ 4294967296) (hx : 0 ≤ x ∧ x < 4294967296) (hy : 0 ≤ y ∧ y < 4294967296) : IntKind.u64.wrap (c + IntKind.u64.wrap (x + y)) = c + x + y := by
  rw [u64_in (n := x + y) (by omega) (by omega), u64_in (by omega) (by omega)]; omega
theorem add_l0 {a b : List Int} (ha : Ok a) (hb : Ok b) (m : Nat) (hm : m + 1 < 35184372088832) :
    ∀ (d n : Nat) (x : List Int) (c : Int), n + d = m → x.length = m + 1 → Ok x → 0 ≤ c → c ≤ 1 → pv x n + pw n * c = pv a n + pv b n →
      ∃ r : List Int, Ev (fun k => integer_add.l0 k a b (m : Int) x c (m : Int) (n : Int)) (dtrim r) ∧ Ok r ∧ r.length = m + 1 ∧ val r = pv a m + pv b m := by
  intro d
  induction d with
  | zero =>
    intro n x c hn hx hok h0 h1 hv
    obtain rfl : n = m := by omega
    have hc : c % 4294967296 = c := by omega
    refine ⟨x.set n c, ?_, ok_set hok n h0 (by omega), by rw [List.length_set]; exact hx, ?_⟩
    · refine Ev.step (f := fun k => (integer_trim.f k (x.set n c)).bind fun t => some t) (fun k => ?_) (Ev.bind (trim _ (by rw [List.length_set]; omega)) (Ev.now _))
      simp only [integer_add.l0]
      rw [if_neg (by omega), if_pos (by omega), if_pos (by omega), hc, Int.toNat_natCast]
    · unfold val
      rw [List.length_set, hx, pv_set_succ (by omega)]
      exact hv
  | succ d ih =>
    intro n x c hn hx hok h0 h1 hv
    have hda := dg_ok ha n
    have hdb := dg_ok hb n
    have h6 : pv (x.set n ((c + dg a n + dg b n) % 4294967296)) (n + 1) + pw (n + 1) * ((c + dg a n + dg b n) / 4294967296) = pv a (n + 1) + pv b (n + 1) := by
      rw [pv_set_succ (by omega), pw_succ]
      exact carry_step (pw n) _ _ _ c _ _ hv
    have h7 : 0 ≤ (c + dg a n + dg b n) % 4294967296 ∧ (c + dg a n + dg b n) % 4294967296 < 4294967296 := by omega
    have h8 : 0 ≤ (c + dg a n + dg b n) / 4294967296 ∧ (c + dg a n + dg b n) / 4294967296 ≤ 1 := by omega
    have h9 : (x.set n ((c + dg a n + dg b n) % 4294967296)).length = m + 1 := by rw [List.length_set]; exact hx
    obtain ⟨r, hr, hk⟩ := ih (n + 1) _ _ (by omega) h9 (ok_set hok n h7.1 h7.2) h8.1 h8.2 h6
    refine ⟨r, ?_, hk⟩
    refine Ev.step (fun k => ?_) hr
    simp only [integer_add.l0]
    rw [if_pos (by omega), at_ a n ha, at_ b n hb]
    simp only [Option.bind_some]
    rw [if_pos (by omega), if_pos (by omega), uadd3 c _ _ h0 (by omega) hda hdb, wnext n (by omega), Int.toNat_natCast]
theorem mx_nat (a b : Nat) : mx (a : Int) (b : Int) = ((max a b : Nat) : Int) := by
  unfold mx
  split <;> omega
/-- The sum of two magnitudes: without leading zeros. -/
theorem add {a b : List Int} (ha : Ok a) (hb : Ok b) (hla : a.length < 35184372088000) (hlb : b.length < 35184372088000) :
    ∃ r : List Int, Ev (fun k => integer_add.f k a b) r ∧ Norm r ∧ val r = val a + val b ∧ r.length ≤ max a.length b.length + 1 := by
  obtain ⟨r, hr, hok, hl, hv⟩ := add_l0 ha hb (max a.length b.length) (by omega) (max a.length b.length) 0 (List.replicate (max a.length b.length + 1) 0) 0 (by omega) (by simp) (ok_replicate _) (by omega) (by omega) (by simp [pv, pw])
  refine ⟨dtrim r, ?_, dtrim_norm hok, ?_, ?_⟩
  · unfold integer_add.f
    have e : wrap64 (mx (a.length : Int) (b.length : Int) + 1) = ((max a.length b.length + 1 : Nat) : Int) := by rw [mx_nat, w64 (by omega) (by omega)]; omega
    refine Ev.congr (fun k => ?_) hr
    rw [e, if_pos (by omega), if_pos (by rw [Int.toNat_natCast]; omega), mx_nat, Int.toNat_natCast]
    rfl
  · rw [dtrim_val, hv, pv_val (by omega), pv_val (by omega)]
  · have := dtrim_le r
    omega
/-! ### differences -/
/-- The borrow of a subtraction of digits, as the bits tell it: bit 31. -/
theorem bits32 (op : BinOp) (x y : Int) (hx0 : 0 ≤ x) (hx : x < 4294967296) (hy0 : 0 ≤ y) (hy : y < 4294967296) (f : Bool → Bool → Bool) (g : BitVec 32 → BitVec 32 → BitVec 32)
    (hb : ∀ a b : Int, Go.bits op .u32 a b = IntKind.u32.wrap ((g (BitVec.ofInt 32 a) (BitVec.ofInt 32 b)).toNat : Int)) (hg : ∀ a b : BitVec 32, (g a b).getLsbD 31 = f (a.getLsbD 31) (b.getLsbD 31)) :
    0 ≤ Go.bits op .u32 x y ∧ Go.bits op .u32 x y < 4294967296 ∧ decide (Go.bits op .u32 x y ≥ 2147483648) = f (decide (x ≥ 2147483648)) (decide (y ≥ 2147483648)) := by
  have top : ∀ v : BitVec 32, v.getLsbD 31 = decide (v.toNat ≥ 2147483648) := fun v => by
    have h1 := v.isLt
    have h2 : v.getLsbD 31 = v.toNat.testBit 31 := rfl
    rw [h2, Nat.testBit_eq_decide_div_mod_eq]
    have h3 : v.toNat / 2 ^ 31 % 2 = v.toNat / 2147483648 := by omega
    rw [h3]
    by_cases hv : v.toNat ≥ 2147483648
    · simp [hv]; omega
    · simp [hv]; omega
  have ofi : ∀ z : Int, 0 ≤ z → z < 4294967296 → ((BitVec.ofInt 32 z).toNat : Int) = z := fun z h0 h1 => by
    rw [BitVec.toNat_ofInt]
    omega
  have hw := (g (BitVec.ofInt 32 x) (BitVec.ofInt 32 y)).isLt
  have e : Go.bits op .u32 x y = ((g (BitVec.ofInt 32 x) (BitVec.ofInt 32 y)).toNat : Int) := by
    rw [hb, IntKind.wrap_u32]
    omega
  refine ⟨by omega, by omega, ?_⟩
  have h5 := hg (BitVec.ofInt 32 x) (BitVec.ofInt 32 y)
  rw [top, top, top] at h5
  have hx2 := ofi x hx0 hx
  have hy2 := ofi y hy0 hy
  rw [e]
  have d1 : decide (x ≥ 2147483648) = decide ((BitVec.ofInt 32 x).toNat ≥ 2147483648) := by apply decide_eq_decide.2; omega
  have d2 : decide (y ≥ 2147483648) = decide ((BitVec.ofInt 32 y).toNat ≥ 2147483648) := by apply decide_eq_decide.2; omega
  rw [d1, d2, ← h5]
  apply decide_eq_decide.2
  omega
theorem or32 (x y : Int) (hx0 : 0 ≤ x) (hx : x < 4294967296) (hy0 : 0 ≤ y) (hy : y < 4294967296) :
    0 ≤ Go.bits .or .u32 x y ∧ Go.bits .or .u32 x y < 4294967296 ∧ decide (Go.bits .or .u32 x y ≥ 2147483648) = (decide (x ≥ 2147483648) || decide (y ≥ 2147483648)) :=
  bits32 .or x y hx0 hx hy0 hy (fun a b => a || b) (fun a b => a ||| b) (fun _ _ => rfl) (fun _ _ => by simp)
theorem and32 (x y : Int) (hx0 : 0 ≤ x) (hx : x < 4294967296) (hy0 : 0 ≤ y) (hy : y < 4294967296) :
    0 ≤ Go.bits .and .u32 x y ∧ Go.bits .and .u32 x y < 4294967296 ∧ decide (Go.bits .and .u32 x y ≥ 2147483648) = (decide (x ≥ 2147483648) && decide (y ≥ 2147483648)) :=
  bits32 .and x y hx0 hx hy0 hy (fun a b => a && b) (fun a b => a &&& b) (fun _ _ => rfl) (fun _ _ => by simp)
theorem xor32 (x y : Int) (hx0 : 0 ≤ x) (hx : x < 4294967296) (hy0 : 0 ≤ y) (hy : y < 4294967296) :
    0 ≤ Go.bits .xor .u32 x y ∧ Go.bits .xor .u32 x y < 4294967296 ∧ decide (Go.bits .xor .u32 x y ≥ 2147483648) = (decide (x ≥ 2147483648) ^^ decide (y ≥ 2147483648)) :=
  bits32 .xor x y hx0 hx hy0 hy (fun a b => a ^^ b) (fun a b => a ^^^ b) (fun _ _ => rfl) (fun _ _ => by simp)
/-- bits.Sub32: the difference, and the borrow. -/
theorem sub32 (x y b : Int) (hx0 : 0 ≤ x) (hx : x < 4294967296) (hy0 : 0 ≤ y) (hy : y < 4294967296) (hb0 : 0 ≤ b) (hb : b ≤ 1) :
    bits_Sub32.f x y b = some ((x - y - b) % 4294967296, if x < y + b then 1 else 0) := by
  unfold bits_Sub32.f
  have hd : ((x - y) % 4294967296 - b) % 4294967296 = (x - y - b) % 4294967296 := by omega
  rw [hd]
  have n1 := xor32 4294967295 x (by omega) (by omega) hx0 hx
  have n2 := and32 _ y n1.1 n1.2.1 hy0 hy
  have n3 := xor32 x y hx0 hx hy0 hy
  have n4 := xor32 4294967295 _ (by omega) (by omega) n3.1 n3.2.1
  have n5 := and32 _ ((x - y - b) % 4294967296) n4.1 n4.2.1 (by omega) (by omega)
  have n6 := or32 _ _ n2.1 n2.2.1 n5.1 n5.2.1
  have e := n6.2.2
  rw [n2.2.2, n1.2.2, n5.2.2, n4.2.2, n3.2.2] at e
  generalize Go.bits .or .u32 (Go.bits .and .u32 (Go.bits .xor .u32 4294967295 x) y) (Go.bits .and .u32 (Go.bits .xor .u32 4294967295 (Go.bits .xor .u32 x y)) ((x - y - b) % 4294967296)) = z at n6 e ⊢
  have hz : z / 2147483648 = if decide (z ≥ 2147483648) = true then 1 else 0 := by
    by_cases h : z ≥ 2147483648
    · simp only [h, decide_true, if_true]; omega
    · simp only [h, decide_false]; simp; omega
  rw [hz, e]
  congr 2
  have ht : decide ((4294967295 : Int) ≥ 2147483648) = true := by decide
  rw [ht]
  by_cases c1 : x ≥ 2147483648 <;> by_cases c2 : y ≥ 2147483648 <;> by_cases c3 : (x - y - b) % 4294967296 ≥ 2147483648 <;> by_cases c4 : x < y + b <;> simp [c1, c2, c3, c4] <;> omega
theorem sub_l0 {a b : List Int} (ha : Ok a) (hb : Ok b) (hl : a.length < 35184372088832) :
    ∀ (d n : Nat) (x : List Int) (c : Int), n + d = a.length → x.length = a.length → Ok x → 0 ≤ c → c ≤ 1 → pv x n - pw n * c = pv a n - pv b n →
      ∃ r : List Int, Ev (fun k => integer_sub.l0 k a b x c (a.length : Int) (n : Int)) (dtrim r) ∧ Ok r ∧ r.length = a.length ∧ ∃ c', 0 ≤ c' ∧ c' ≤ 1 ∧ val r - pw a.length * c' = val a - pv b a.length := by
  intro d
  induction d with
  | zero =>
    intro n x c hn hx hok h0 h1 hv
    obtain rfl : n = a.length := by omega
    refine ⟨x, ?_, hok, hx, c, h0, h1, by unfold val; rw [hx]; exact hv⟩
    refine Ev.step (f := fun k => (integer_trim.f k x).bind fun t => some t) (fun k => ?_) (Ev.bind (trim _ (by omega)) (Ev.now _))
    simp only [integer_sub.l0]
    rw [if_neg (by omega)]
  | succ d ih =>
    intro n x c hn hx hok h0 h1 hv
    have hda := dg_ok ha n
    have hdb := dg_ok hb n
    have h5 : (dg a n - dg b n - c) % 4294967296 = (dg a n - dg b n - c) + 4294967296 * (if dg a n < dg b n + c then 1 else 0) := by split <;> omega
    have h6 : pv (x.set n ((dg a n - dg b n - c) % 4294967296)) (n + 1) - pw (n + 1) * (if dg a n < dg b n + c then 1 else 0) = pv a (n + 1) - pv b (n + 1) := by
      rw [pv_set_succ (by omega), pw_succ]
      exact borrow_step (pw n) _ _ _ c _ _ _ hv h5
    have h7 : 0 ≤ (dg a n - dg b n - c) % 4294967296 ∧ (dg a n - dg b n - c) % 4294967296 < 4294967296 := by omega
    have h8 : 0 ≤ (if dg a n < dg b n + c then (1 : Int) else 0) ∧ (if dg a n < dg b n + c then (1 : Int) else 0) ≤ 1 := by split <;> omega
    have h9 : (x.set n ((dg a n - dg b n - c) % 4294967296)).length = a.length := by rw [List.length_set]; exact hx
    obtain ⟨r, hr, hk⟩ := ih (n + 1) _ _ (by omega) h9 (ok_set hok n h7.1 h7.2) h8.1 h8.2 h6
    refine ⟨r, ?_, hk⟩
    refine Ev.step (fun k => ?_) hr
    simp only [integer_sub.l0]
    rw [if_pos (by omega)]
    by_cases hnb : n < b.length
    · rw [if_pos (by omega), if_pos (by omega), if_pos (by omega), rd_nat, rd_nat, sub32 _ _ _ hda.1 hda.2 hdb.1 hdb.2 h0 h1]
      simp only [Option.bind_some]
      rw [if_pos (by omega), wnext n (by omega), Int.toNat_natCast]
    · have hz : dg b n = 0 := dg_out (by omega)
      rw [if_neg (by omega), if_pos (by omega), if_pos (by omega), rd_nat, sub32 _ 0 _ hda.1 hda.2 (by omega) (by omega) h0 h1, hz]
      simp only [Option.bind_some]
      rw [if_pos (by omega), wnext n (by omega), Int.toNat_natCast]
/-- The difference of two magnitudes, the first of which is not the smaller one. -/
theorem sub {a b : List Int} (ha : Ok a) (hb : Ok b) (hla : a.length < 35184372088832) (hlb : b.length ≤ a.length) (hab : val b ≤ val a) :
    ∃ r : List Int, Ev (fun k => integer_sub.f k a b) r ∧ Norm r ∧ val r = val a - val b ∧ r.length ≤ a.length := by
  obtain ⟨r, hr, hok, hl, c, hc0, hc1, hv⟩ := sub_l0 ha hb hla a.length 0 (List.replicate a.length 0) 0 (by omega) (by simp) (ok_replicate _) (by omega) (by omega) (by simp [pv, pw])
  rw [pv_val hlb] at hv
  have hc : c = 0 := by
    have h1 := val_lt hok
    have h2 := pow_pos a.length
    rw [hl] at h1
    by_cases h : c = 0
    · exact h
    · have : c = 1 := by omega
      subst this
      omega
  subst hc
  refine ⟨dtrim r, ?_, dtrim_norm hok, ?_, ?_⟩
  · unfold integer_sub.f
    refine Ev.congr (fun k => ?_) hr
    rw [if_pos (by omega), if_pos (by rw [Int.toNat_natCast]; omega), Int.toNat_natCast]
    rfl
  · rw [dtrim_val]; omega
  · have := dtrim_le r
    omega
end Go.Proofs.YtmjceijbbodbfaaDoor.IntB
end
section
namespace Go.Proofs.YtmjceijbbodbfaaDoor.IntC
open Go.RowKit Go.Proofs.YtmjceijbbodbfaaDoorW.PrintWords Go.Proofs.YtmjceijbbodbfaaDoorW.PrintMore Go.Proofs.YtmjceijbbodbfaaDoor.XA Go.Proofs.YtmjceijbbodbfaaDoor.Dig Go.Proofs.YtmjceijbbodbfaaDoor.IntA Go.Proofs.YtmjceijbbodbfaaDoor.IntB
/-! ### an integer's sign and digits -/
def sn (z : Int) : Bool := decide (z < 0)
def dl (z : Int) : List Int := digs z.natAbs
theorem dl_norm (z : Int) : Norm (dl z) := digs_norm _
theorem dl_ok (z : Int) : Ok (dl z) := (dl_norm z).1
theorem dl_val (z : Int) : val (dl z) = (z.natAbs : Int) := digs_val _
theorem dl_nil (z : Int) : dl z = [] ↔ z = 0 := by
  constructor
  · intro h
    have := dl_val z
    rw [h, val_nil] at this
    omega
  · intro h; subst h; exact digs_zero
theorem rep_of {s : Bool} {l : List Int} (hn : Norm l) (h0 : l = [] → s = false) : s = sn (sval s l) ∧ l = dl (sval s l) := by
  have h1 := val_nonneg hn.1
  cases s with
  | false =>
    have e : sval false l = val l := by simp [sval]
    rw [e]
    refine ⟨?_, ?_⟩
    · unfold sn
      simp; omega
    · have := digs_of hn
      unfold dl
      rw [show (val l).natAbs = (val l).toNat from by omega]
      exact this
  | true =>
    have hne : l ≠ [] := fun h => absurd (h0 h) (by simp)
    have h2 := (norm_pos hn).2 hne
    have e : sval true l = - val l := by simp [sval]
    rw [e]
    refine ⟨?_, ?_⟩
    · unfold sn
      simp; omega
    · have := digs_of hn
      unfold dl
      rw [show (-(val l)).natAbs = (val l).toNat from by omega]
      exact this
theorem mk_rep (s : Bool) {l : List Int} (h : Ok l) : mk s l = (sn (sval s l), dl (sval s l)) := by
  have hv := dtrim_val l
  have e : sval (s && decide (0 < (dtrim l).length)) (dtrim l) = sval s l := by
    unfold sval
    rw [hv]
    by_cases hz : dtrim l = []
    · have h0 : val l = 0 := by rw [← hv, hz]; rfl
      rw [h0]; simp
    · have : 0 < (dtrim l).length := List.length_pos_iff.2 hz
      simp [this]
  have h2 := rep_of (s := s && decide (0 < (dtrim l).length)) (dtrim_norm h) (fun hz => by simp [hz])
  rw [e] at h2
  unfold mk
  rw [← h2.1, ← h2.2]
theorem vld_rep (z : Int) : vld (sn z) (dl z) = decide ((dl z).length ≤ 400) := by
  by_cases h : (dl z).length ≤ 400
  · rw [decide_eq_true h]
    refine (vld_iff _ _).2 ⟨h, (dl_norm z).2, fun hz => ?_⟩
    have := (dl_nil z).1 hz
    subst this
    rfl
  · unfold vld
    simp [h]
theorem of_vld {s : Bool} {l : List Int} (ho : Ok l) (h : Vld s l) : s = sn (sval s l) ∧ l = dl (sval s l) := rep_of ⟨ho, h.2.1⟩ h.2.2
/-! ### Of -/
/-! ### comparing -/
theorem sg_neg (x : Int) : sg (-x) = - sg x := by unfold sg; split <;> split <;> (try split) <;> (try split) <;> omega
theorem sg_abs (x : Int) : -1 ≤ sg x ∧ sg x ≤ 1 := by unfold sg; split <;> (try split) <;> omega
theorem Compare (x y : Int) (hx : (dl x).length ≤ 400) (hy : (dl y).length ≤ 400) : Ev (fun k => integer_Compare.f k (sn x) (dl x) (sn y) (dl y)) (sg (x - y)) := by
  unfold integer_Compare.f
  have vx := valid (sn x) (dl x) (by omega)
  have vy := valid (sn y) (dl y) (by omega)
  rw [vld_rep, decide_eq_true hx] at vx
  rw [vld_rep, decide_eq_true hy] at vy
  rw [vx, vy]
  simp only [Option.bind_some, if_true, Bool.not_true]
  have ex := dl_val x
  have ey := dl_val y
  by_cases hs : sn x = sn y
  · by_cases hl : (dl x).length = (dl y).length
    · have hc := compare (dl x) (dl y) (by omega)
      rw [cmp_val (dl_norm x) (dl_norm y), ex, ey] at hc
      refine Ev.step (f := fun k => (integer_compare.f k (dl x) (dl y)).bind fun t111 => (if sn x = true then (some (wrap64 (-t111))) else (some t111))) (fun k => ?_) (Ev.bind hc ?_)
      · simp only [integer_Compare.j0, integer_of.f, Option.bind_some]
        rw [if_neg (by simp), if_pos (by rw [hs, hl]; simp)]
      · by_cases h : x < 0
        · have hsx : sn x = true := by simp [sn, h]
          have h2 : y < 0 := by rw [hsx] at hs; simpa [sn] using hs.symm
          have e : wrap64 (-(sg ((x.natAbs : Int) - (y.natAbs : Int)))) = sg (x - y) := by
            have hb := sg_abs ((x.natAbs : Int) - (y.natAbs : Int))
            rw [w64 (by omega) (by omega), ← sg_neg]
            congr 1
            omega
          simp only [hsx, if_true, e]
          exact Ev.now _
        · have hsx : sn x = false := by simp [sn, h]
          have h2 : ¬ y < 0 := by rw [hsx] at hs; simpa [sn] using hs.symm
          have e : sg ((x.natAbs : Int) - (y.natAbs : Int)) = sg (x - y) := by
            congr 1
            omega
          simp only [hsx, e]
          exact Ev.now _
    · by_cases hlt : (dl x).length < (dl y).length
      · have h3 := len_lt (dl_ok x) (dl_norm y) hlt
        rw [ex, ey] at h3
        refine Ev.step (f := fun _ => some (sg (x - y))) (fun k => ?_) (Ev.now _)
        simp only [integer_Compare.j0, integer_of.f, Option.bind_some]
        rw [if_neg (by simp), if_neg (by rw [hs]; simp; omega), if_neg (by rw [hs]; simp), if_pos (by omega)]
        by_cases h : x < 0
        · have hsx : sn x = true := by simp [sn, h]
          have h2 : y < 0 := by rw [hsx] at hs; simpa [sn] using hs.symm
          rw [if_pos hsx]
          unfold sg
          rw [if_neg (by omega), if_neg (by omega)]
          rfl
        · have hsx : sn x = false := by simp [sn, h]
          have h2 : ¬ y < 0 := by rw [hsx] at hs; simpa [sn] using hs.symm
          rw [if_neg (by simp [hsx])]
          unfold sg
          rw [if_pos (by omega)]
      · have h3 := len_lt (dl_ok y) (dl_norm x) (by omega)
        rw [ex, ey] at h3
        refine Ev.step (f := fun _ => some (sg (x - y))) (fun k => ?_) (Ev.now _)
        simp only [integer_Compare.j0, integer_of.f, Option.bind_some]
        rw [if_neg (by simp), if_neg (by rw [hs]; simp; omega), if_neg (by rw [hs]; simp), if_neg (by omega)]
        by_cases h : x < 0
        · have hsx : sn x = true := by simp [sn, h]
          have h2 : y < 0 := by rw [hsx] at hs; simpa [sn] using hs.symm
          rw [if_pos hsx]
          unfold sg
          rw [if_pos (by omega)]
        · have hsx : sn x = false := by simp [sn, h]
          have h2 : ¬ y < 0 := by rw [hsx] at hs; simpa [sn] using hs.symm
          rw [if_neg (by simp [hsx])]
          unfold sg
          rw [if_neg (by omega), if_neg (by omega)]
  · refine Ev.step (f := fun _ => some (sg (x - y))) (fun k => ?_) (Ev.now _)
    simp only [integer_Compare.j0, integer_of.f, Option.bind_some]
    rw [if_neg (by simp), if_neg (by simp [hs]), if_pos (by simp [hs])]
    by_cases h : x < 0
    · have hsx : sn x = true := by simp [sn, h]
      have h2 : ¬ y < 0 := fun h2 => hs (by simp [sn, h, h2])
      rw [if_pos hsx]
      unfold sg
      rw [if_pos (by omega)]
    · have hsx : sn x = false := by simp [sn, h]
      have h2 : y < 0 := Decidable.byContradiction fun h2 => hs (by simp [sn, h, h2])
      rw [if_neg (by simp [hsx])]
      unfold sg
      rw [if_neg (by omega), if_neg (by omega)]
end Go.Proofs.YtmjceijbbodbfaaDoor.IntC
end
section
namespace Go.Proofs.YtmjceijbbodbfaaDoor.IntD
open Go.RowKit Go.Proofs.YtmjceijbbodbfaaDoorW.PrintWords Go.Proofs.YtmjceijbbodbfaaDoorW.PrintMore Go.Proofs.YtmjceijbbodbfaaDoor.XA Go.Proofs.YtmjceijbbodbfaaDoor.Dig Go.Proofs.YtmjceijbbodbfaaDoor.IntA Go.Proofs.YtmjceijbbodbfaaDoor.IntB Go.Proofs.YtmjceijbbodbfaaDoor.IntC
theorem sn_eq {x : Int} : sn x = true ↔ x < 0 := by simp [sn]
theorem sn_ne {x : Int} : sn x = false ↔ ¬ x < 0 := by simp [sn]
/-- The sum of two integers. -/
theorem sum (x y : Int) (hx : (dl x).length < 35184372088000) (hy : (dl y).length < 35184372088000) : Ev (fun k => integer_sum.f k (sn x) (dl x) (sn y) (dl y)) (sn (x + y), dl (x + y)) := by
  unfold integer_sum.f
  have ex := dl_val x
  have ey := dl_val y
  by_cases hs : sn x = sn y
  · obtain ⟨r, hr, hn, hv, hl⟩ := add (dl_ok x) (dl_ok y) hx hy
    have e := mk_rep (sn x) hn.1
    have e2 : sval (sn x) r = x + y := by
      unfold sval
      rw [hv, ex, ey]
      by_cases h : x < 0
      · have h2 : y < 0 := sn_eq.1 (hs ▸ sn_eq.2 h)
        rw [if_pos (sn_eq.2 h)]; omega
      · have h2 : ¬ y < 0 := sn_ne.1 (hs ▸ sn_ne.2 h)
        rw [if_neg (by simp [sn_ne.2 h])]; omega
    rw [e2] at e
    have hsg := signed (sn x) r (by omega)
    rw [e] at hsg
    simp only [hs, beq_self_eq_true, if_true]
    rw [hs] at hsg
    exact Ev.bind hr (Ev.bind hsg (Ev.now _))
  · have hb : (sn x == sn y) = true ↔ False := by simp [hs]
    simp only [hb, if_false]
    refine Ev.bind (compare (dl x) (dl y) (by omega)) ?_
    have hc := cmp_val (dl_norm x) (dl_norm y)
    rw [ex, ey] at hc
    by_cases hge : cmp (dl x) (dl y) ≥ 0
    · have hle : (y.natAbs : Int) ≤ (x.natAbs : Int) := by
        rw [hc] at hge
        unfold sg at hge
        split at hge <;> omega
      have hll : (dl y).length ≤ (dl x).length := Decidable.byContradiction fun h => by
        have := len_lt (dl_ok x) (dl_norm y) (by omega)
        rw [ex, ey] at this
        omega
      obtain ⟨r, hr, hn, hv, hl⟩ := sub (dl_ok x) (dl_ok y) (by omega) hll (by rw [ex, ey]; exact hle)
      have e := mk_rep (sn x) hn.1
      have e2 : sval (sn x) r = x + y := by
        unfold sval
        rw [hv, ex, ey]
        by_cases h : x < 0
        · have h2 : ¬ y < 0 := fun h2 => hs (by rw [sn_eq.2 h, sn_eq.2 h2])
          rw [if_pos (sn_eq.2 h)]; omega
        · have h2 : y < 0 := Decidable.byContradiction fun h2 => hs (by rw [sn_ne.2 h, sn_ne.2 h2])
          rw [if_neg (by simp [sn_ne.2 h])]; omega
      rw [e2] at e
      have hsg := signed (sn x) r (by omega)
      rw [e] at hsg
      simp only [hge, if_true]
      exact Ev.bind hr (Ev.bind hsg (Ev.now _))
    · have hle : (x.natAbs : Int) < (y.natAbs : Int) := by
        rw [hc] at hge
        unfold sg at hge
        split at hge
        · omega
        · split at hge <;> omega
      have hll : (dl x).length ≤ (dl y).length := Decidable.byContradiction fun h => by
        have := len_lt (dl_ok y) (dl_norm x) (by omega)
        rw [ex, ey] at this
        omega
      obtain ⟨r, hr, hn, hv, hl⟩ := sub (dl_ok y) (dl_ok x) (by omega) hll (by rw [ex, ey]; omega)
      have e := mk_rep (sn y) hn.1
      have e2 : sval (sn y) r = x + y := by
        unfold sval
        rw [hv, ex, ey]
        by_cases h : x < 0
        · have h2 : ¬ y < 0 := fun h2 => hs (by rw [sn_eq.2 h, sn_eq.2 h2])
          rw [if_neg (by simp [sn_ne.2 h2])]; omega
        · have h2 : y < 0 := Decidable.byContradiction fun h2 => hs (by rw [sn_ne.2 h, sn_ne.2 h2])
          rw [if_pos (sn_eq.2 h2)]; omega
      rw [e2] at e
      have hsg := signed (sn y) r (by omega)
      rw [e] at hsg
      simp only [hge, if_false]
      exact Ev.bind hr (Ev.bind hsg (Ev.now _))
/-- Add: the sum, or error 2 if it has more than 400 digits. -/
theorem Add (x y : Int) (hx : (dl x).length ≤ 400) (hy : (dl y).length ≤ 400) :
    Ev (fun k => integer_Add.f k (sn x) (dl x) (sn y) (dl y)) (if (dl (x + y)).length > 400 then (false, [], 2) else (sn (x + y), dl (x + y), 0)) := by
  unfold integer_Add.f
  have vx := valid (sn x) (dl x) (by omega)
  have vy := valid (sn y) (dl y) (by omega)
  rw [vld_rep, decide_eq_true hx] at vx
  rw [vld_rep, decide_eq_true hy] at vy
  rw [vx, vy]
  simp only [Option.bind_some, if_true, Bool.not_true]
  refine Ev.step (f := fun k => (integer_sum.f k (sn x) (dl x) (sn y) (dl y)).bind fun bt106 => ((integer_bounded.f bt106.1 bt106.2).bind fun bt110 => (some (bt110.1, bt110.2.1, bt110.2.2)))) (fun k => ?_) (Ev.bind (sum x y (by omega) (by omega)) ?_)
  · simp only [integer_Add.j0]
    rw [if_neg (by simp)]
  · unfold integer_bounded.f
    by_cases h : (dl (x + y)).length > 400
    · rw [if_pos h]
      simp only [show ((dl (x + y)).length : Int) > 400 from by omega, if_true]
      exact Ev.now _
    · rw [if_neg h]
      simp only [show ¬ ((dl (x + y)).length : Int) > 400 from by omega, if_false]
      exact Ev.now _
theorem lsum (x y : Int) (hx : (dl x).length ≤ 400) (hy : (dl y).length ≤ 400) (h : (dl (x + y)).length ≤ 400) :
    Ev (fun k => substationlaw01_sum.f k (sn x) (dl x) (sn y) (dl y)) (sn (x + y), dl (x + y)) := by
  unfold substationlaw01_sum.f
  have := Add x y hx hy
  rw [if_neg (by omega)] at this
  exact Ev.bind this (Ev.now _)
/-! ### Small -/
theorem k1 : wrap64 (32 * 1) = 32 := by rw [w64 (by omega) (by omega)]; rfl
theorem n1 : wrap64 (0 + 1) = 1 := by rw [w64 (by omega) (by omega)]; rfl
theorem n2 : wrap64 (1 + 1) = 2 := by rw [w64 (by omega) (by omega)]; rfl
/-! ### known -/
theorem known : Ev (fun k => substationlaw01_known.f k) true := Ev.of substationlaw01_known.mono (k := 40) (by decide +kernel)
end Go.Proofs.YtmjceijbbodbfaaDoor.IntD
end
section
namespace Go.Proofs.YtmjceijbbodbfaaDoor.IntE
open Go.RowKit Go.Proofs.YtmjceijbbodbfaaDoorW.PrintWords Go.Proofs.YtmjceijbbodbfaaDoorW.PrintMore Go.Proofs.YtmjceijbbodbfaaDoor.XA Go.Proofs.YtmjceijbbodbfaaDoor.Dig Go.Proofs.YtmjceijbbodbfaaDoor.IntA Go.Proofs.YtmjceijbbodbfaaDoor.IntB Go.Proofs.YtmjceijbbodbfaaDoor.IntC Go.Proofs.YtmjceijbbodbfaaDoor.IntD
theorem pv_set_gt {l : List Int} {i : Nat} (h : i < l.length) (v : Int) : ∀ d, pv (l.set i v) (i + 1 + d) = pv l (i + 1 + d) + pw i * (v - dg l i)
  | 0 => by
    have h1 := pv_set_succ h v
    have h2 : pv l (i + 1) = pv l i + pw i * dg l i := rfl
    show pv (l.set i v) (i + 1) = pv l (i + 1) + pw i * (v - dg l i)
    rw [h1, h2]
    grind
  | d + 1 => by
    have ih := pv_set_gt h v d
    have h1 : pv (l.set i v) (i + 1 + (d + 1)) = pv (l.set i v) (i + 1 + d) + pw (i + 1 + d) * dg (l.set i v) (i + 1 + d) := rfl
    have h2 : pv l (i + 1 + (d + 1)) = pv l (i + 1 + d) + pw (i + 1 + d) * dg l (i + 1 + d) := rfl
    rw [h1, h2, ih, dg_set_ne (by omega)]
    grind
theorem val_set {l : List Int} {i : Nat} (h : i < l.length) (v : Int) : val (l.set i v) = val l + pw i * (v - dg l i) := by
  have := pv_set_gt h v (l.length - (i + 1))
  rw [show i + 1 + (l.length - (i + 1)) = l.length from by omega] at this
  unfold val
  rw [List.length_set]
  exact this
theorem mul_u64 (c x d e : Int) (hc : 0 ≤ c ∧ c < 4294967296) (hx : 0 ≤ x ∧ x < 4294967296) (hd : 0 ≤ d ∧ d < 4294967296) (he : 0 ≤ e ∧ e < 4294967296) :
    0 ≤ x * d ∧ c + x * d + e < 18446744073709551616 ∧ IntKind.u64.wrap (c + IntKind.u64.wrap (IntKind.u64.wrap (IntKind.u64.wrap x * IntKind.u64.wrap d) + IntKind.u64.wrap e)) = c + x * d + e := by
  have h1 : 0 ≤ x * d := Int.mul_nonneg hx.1 hd.1
  have h2 : x * d ≤ 4294967295 * 4294967295 := Int.mul_le_mul (by omega) (by omega) hd.1 (by omega)
  rw [u64_in hx.1 (by omega), u64_in hd.1 (by omega), u64_in he.1 (by omega)]
  generalize x * d = p at h1 h2
  refine ⟨h1, by omega, ?_⟩
  rw [u64_in (n := p) h1 (by omega), u64_in (n := p + e) (by omega) (by omega), u64_in (by omega) (by omega)]
  omega
theorem mul_step (V V0 P Q c x e d pj : Int) (hv : V + P * Q * c = V0 + P * x * pj) :
    V + P * Q * ((c + x * d + e) % 4294967296 - e) + P * Q * 4294967296 * ((c + x * d + e) / 4294967296) = V0 + P * x * (pj + Q * d) := by
  have h5 : (c + x * d + e) % 4294967296 = (c + x * d + e) - 4294967296 * ((c + x * d + e) / 4294967296) := by omega
  rw [h5]
  generalize (c + x * d + e) / 4294967296 = q
  grind
theorem mul_bd (c x d e : Int) (hc : 0 ≤ c ∧ c < 4294967296) (hx : 0 ≤ x ∧ x < 4294967296) (hd : 0 ≤ d ∧ d < 4294967296) (he : 0 ≤ e ∧ e < 4294967296) : 0 ≤ c + x * d + e ∧ c + x * d + e < 18446744073709551616 := by
  have h := mul_u64 c x d e hc hx hd he
  have h1 := h.1
  have h2 := h.2.1
  clear h
  omega
theorem wadd (i j : Nat) (h : i + j < 9223372036854775000) : wrap64 ((i : Int) + (j : Int)) = ((i + j : Nat) : Int) := by rw [w64 (by omega) (by omega)]; omega
theorem dm_bd (t : Int) (h0 : 0 ≤ t) (h1 : t < 18446744073709551616) : (0 ≤ t % 4294967296 ∧ t % 4294967296 < 4294967296) ∧ 0 ≤ t / 4294967296 ∧ t / 4294967296 < 4294967296 := by omega
/-- The inner rounds of a product: one digit by a number. -/
theorem mul_l1 (a b : List Int) (hb : Ok b) (N : Nat) (hN : N < 70368744177664) (i : Nat) (x7 : Int) (hx : 0 ≤ x7 ∧ x7 < 4294967296) (hi : i + b.length < N) (V0 : Int) (R : List Int)
    (next : ∀ x5 : List Int, x5.length = N → Ok x5 → (∀ n, i + 1 + b.length ≤ n → dg x5 n = 0) → val x5 = V0 + pw i * x7 * val b → Ev (fun k => integer_mul.l0 k b x5 a (a.length : Int) ((i + 1 : Nat) : Int)) R) :
    ∀ (d j : Nat) (x5 : List Int) (c : Int), j + d = b.length → x5.length = N → Ok x5 → (∀ n, i + b.length ≤ n → dg x5 n = 0) → 0 ≤ c → c < 4294967296 → val x5 + pw i * pw j * c = V0 + pw i * x7 * pv b j →
      Ev (fun k => integer_mul.l1 k b x5 (i : Int) x7 c a (a.length : Int) (i : Int) b (b.length : Int) (j : Int)) R := by
  intro d
  induction d with
  | zero =>
    intro j x5 c hj hl hok hz h0 h1 hv
    obtain rfl : j = b.length := by omega
    have hq := next (x5.set (i + b.length) c) (by rw [List.length_set]; exact hl) (ok_set hok _ h0 h1) (fun n hn => by rw [dg_set_ne (by omega)]; exact hz n (by omega)) (by
      rw [val_set (by omega), hz _ (Nat.le_refl _), pw_add, show c - 0 = c from by omega]
      exact hv)
    refine Ev.step (fun k => ?_) hq
    simp only [integer_mul.l1]
    rw [if_neg (by omega), wadd i b.length (by omega), if_pos (by omega), if_pos (by omega), wnext i (by omega), Int.toNat_natCast, show c % 4294967296 = c from by omega]
  | succ d ih =>
    intro j x5 c hj hl hok hz h0 h1 hv
    have hd := dg_ok hb j
    have he := dg_ok hok (i + j)
    have hm := mul_bd c x7 (dg b j) (dg x5 (i + j)) ⟨h0, h1⟩ hx hd he
    have hb2 := dm_bd _ hm.1 hm.2
    have hs := mul_step (val x5) V0 (pw i) (pw j) c x7 (dg x5 (i + j)) (dg b j) (pv b j) hv
    have hq := ih (j + 1) (x5.set (i + j) ((c + x7 * dg b j + dg x5 (i + j)) % 4294967296)) ((c + x7 * dg b j + dg x5 (i + j)) / 4294967296) (by omega) (by rw [List.length_set]; exact hl)
      (ok_set hok _ hb2.1.1 hb2.1.2) (fun n hn => by rw [dg_set_ne (by omega)]; exact hz n hn) hb2.2.1 hb2.2.2 (by
        rw [val_set (by omega), pw_add, pw_succ]
        have h6 : pv b (j + 1) = pv b j + pw j * dg b j := rfl
        rw [h6, ← hs]
        grind)
    refine Ev.step (fun k => ?_) hq
    simp only [integer_mul.l1]
    rw [if_pos (by omega), if_pos (by omega), if_pos (by omega), wadd i j (by omega), if_pos (by omega), if_pos (by omega), rd_nat, rd_nat, (mul_u64 c x7 (dg b j) (dg x5 (i + j)) ⟨h0, h1⟩ hx hd he).2.2, wnext j (by omega), Int.toNat_natCast]
theorem pv_snoc (a : List Int) (i : Nat) (b : Int) : pv a (i + 1) * b = pv a i * b + pw i * dg a i * b := by
  have h : pv a (i + 1) = pv a i + pw i * dg a i := rfl
  rw [h]
  grind
/-- The outer rounds of a product. -/
theorem mul_l0 (a b : List Int) (ha : Ok a) (hb : Ok b) (hN : a.length + b.length < 35184372088832) :
    ∀ (d i : Nat) (x5 : List Int), i + d = a.length → x5.length = a.length + b.length → Ok x5 → (∀ n, i + b.length ≤ n → dg x5 n = 0) → val x5 = pv a i * val b →
      ∃ r : List Int, Ev (fun k => integer_mul.l0 k b x5 a (a.length : Int) (i : Int)) (dtrim r) ∧ Ok r ∧ r.length = a.length + b.length ∧ val r = val a * val b := by
  intro d
  induction d with
  | zero =>
    intro i x5 hi hl hok hz hv
    obtain rfl : i = a.length := by omega
    refine ⟨x5, ?_, hok, hl, hv⟩
    refine Ev.step (f := fun k => (integer_trim.f k x5).bind fun t => some t) (fun k => ?_) (Ev.bind (trim _ (by omega)) (Ev.now _))
    simp only [integer_mul.l0]
    rw [if_neg (by omega)]
  | succ d ih =>
    intro i x5 hi hl hok hz hv
    have hx := dg_ok ha i
    have hrec : ∃ r : List Int, Ev (fun k => integer_mul.l1 k b x5 (i : Int) (dg a i) 0 a (a.length : Int) (i : Int) b (b.length : Int) ((0 : Nat) : Int)) (dtrim r) ∧ Ok r ∧ r.length = a.length + b.length ∧ val r = val a * val b := by
      -- the list that the inner rounds leave is not named: take it from the rounds
      have key : ∀ y : List Int, y.length = a.length + b.length → Ok y → (∀ n, i + 1 + b.length ≤ n → dg y n = 0) → val y = pv a i * val b + pw i * dg a i * val b → ∃ r : List Int, Ev (fun k => integer_mul.l0 k b y a (a.length : Int) ((i + 1 : Nat) : Int)) (dtrim r) ∧ Ok r ∧ r.length = a.length + b.length ∧ val r = val a * val b := fun y h1 h2 h3 h4 =>
        ih (i + 1) y (by omega) h1 h2 h3 (by rw [h4, pv_snoc])
      -- the result is one and the same for every such list: the product's digits
      refine ⟨digs (val a * val b).toNat ++ List.replicate (a.length + b.length - (digs (val a * val b).toNat).length) 0, ?_, ?_⟩
      · refine mul_l1 a b hb (a.length + b.length) (by omega) i (dg a i) hx (by omega) (pv a i * val b) _ (fun y h1 h2 h3 h4 => ?_) b.length 0 x5 0 (by omega) hl hok hz (by omega) (by omega) (by rw [hv]; simp [pv])
        obtain ⟨r, hr, hok2, hl2, hv2⟩ := key y h1 h2 h3 h4
        have e : dtrim r = dtrim (digs (val a * val b).toNat ++ List.replicate (a.length + b.length - (digs (val a * val b).toNat).length) 0) := by
          refine uniq (dtrim_norm hok2) (dtrim_norm (ok_append (digs_norm _).1 (ok_replicate _))) ?_
          rw [dtrim_val, dtrim_val, hv2, val_append, val_replicate, digs_val]
          have h0 := Int.mul_nonneg (val_nonneg ha) (val_nonneg hb)
          omega
        rw [← e]
        exact hr
      · have h0 := Int.mul_nonneg (val_nonneg ha) (val_nonneg hb)
        have hle : (digs (val a * val b).toNat).length ≤ a.length + b.length := by
          refine len_le (digs_norm _) ?_
          rw [digs_val, pw_add, Int.toNat_of_nonneg h0]
          have q1 := val_lt ha
          have q2 := val_lt hb
          have q3 := val_nonneg ha
          have q4 := val_nonneg hb
          have q5 := pow_pos b.length
          exact Int.lt_of_le_of_lt (Int.mul_le_mul_of_nonneg_left (Int.le_of_lt q2) q3) (Int.mul_lt_mul_of_pos_right q1 q5)
        refine ⟨ok_append (digs_norm _).1 (ok_replicate _), by rw [List.length_append, List.length_replicate]; omega, ?_⟩
        rw [val_append, val_replicate, digs_val]
        omega
    obtain ⟨r, hr, hk⟩ := hrec
    refine ⟨r, Ev.step (fun k => ?_) hr, hk⟩
    simp only [integer_mul.l0]
    rw [if_pos (by omega), if_pos (by omega), if_pos (by omega), rd_nat]
    rfl
/-- The product of two magnitudes: without leading zeros. -/
theorem mul {a b : List Int} (ha : Ok a) (hb : Ok b) (hN : a.length + b.length < 35184372088000) :
    ∃ r : List Int, Ev (fun k => integer_mul.f k a b) r ∧ Norm r ∧ val r = val a * val b ∧ r.length ≤ a.length + b.length := by
  obtain ⟨r, hr, hok, hl, hv⟩ := mul_l0 a b ha hb (by omega) a.length 0 (List.replicate (a.length + b.length) 0) (by omega) (by simp) (ok_replicate _) (fun n _ => dg_replicate _ n) (by rw [val_replicate]; simp [pv])
  refine ⟨dtrim r, ?_, dtrim_norm hok, by rw [dtrim_val, hv], by have := dtrim_le r; omega⟩
  unfold integer_mul.f
  refine Ev.congr (fun k => ?_) hr
  rw [wadd a.length b.length (by omega), if_pos (by omega), if_pos (by rw [Int.toNat_natCast]; omega), Int.toNat_natCast]
  rfl
end Go.Proofs.YtmjceijbbodbfaaDoor.IntE
end
section
namespace Go.Proofs.YtmjceijbbodbfaaDoor.IntF
open Go.RowKit Go.Proofs.YtmjceijbbodbfaaDoorW.PrintWords Go.Proofs.YtmjceijbbodbfaaDoorW.PrintMore Go.Proofs.YtmjceijbbodbfaaDoor.XA Go.Proofs.YtmjceijbbodbfaaDoor.Dig Go.Proofs.YtmjceijbbodbfaaDoor.IntA Go.Proofs.YtmjceijbbodbfaaDoor.IntB Go.Proofs.YtmjceijbbodbfaaDoor.IntC Go.Proofs.YtmjceijbbodbfaaDoor.IntD Go.Proofs.YtmjceijbbodbfaaDoor.IntE
/-- An integer with an error: the integer itself, or error 2 if it has more than 400 digits. -/
def lim (z : Int) : Bool × List Int × Int := if (dl z).length > 400 then (false, [], 2) else (sn z, dl z, 0)
theorem bounded (z : Int) : integer_bounded.f (sn z) (dl z) = some (lim z) := by
  unfold integer_bounded.f lim
  by_cases h : (dl z).length > 400
  · rw [if_pos h, if_pos (by omega)]
  · rw [if_neg h, if_neg (by omega)]
theorem dl_neg (z : Int) : dl (-z) = dl z := by
  unfold dl
  rw [Int.natAbs_neg]
theorem sn_neg (z : Int) : sn (-z) = if sn z = true then false else decide (0 < (dl z).length) := by
  by_cases h : z < 0
  · rw [if_pos (sn_eq.2 h), sn_ne.2 (by omega)]
  · rw [if_neg (by simp [sn_ne.2 h])]
    by_cases h0 : z = 0
    · subst h0
      simp [(dl_nil 0).2 rfl, sn]
    · have : 0 < (dl z).length := List.length_pos_iff.2 fun q => h0 ((dl_nil z).1 q)
      simp [this, sn]
      omega
theorem Sub (x y : Int) (hx : (dl x).length ≤ 400) (hy : (dl y).length ≤ 400) : Ev (fun k => integer_Sub.f k (sn x) (dl x) (sn y) (dl y)) (lim (x - y)) := by
  unfold integer_Sub.f
  have vx := valid (sn x) (dl x) (by omega)
  have vy := valid (sn y) (dl y) (by omega)
  rw [vld_rep, decide_eq_true hx] at vx
  rw [vld_rep, decide_eq_true hy] at vy
  rw [vx, vy]
  simp only [Option.bind_some, if_true, Bool.not_true]
  have hs := sum x (-y) (by omega) (by rw [dl_neg]; omega)
  rw [dl_neg, sn_neg, show x + -y = x - y from by omega] at hs
  refine Ev.step (f := fun k => (integer_sum.f k (sn x) (dl x) (if sn y = true then false else decide (0 < (dl y).length)) (dl y)).bind fun bt106 => ((integer_bounded.f bt106.1 bt106.2).bind fun bt110 => (some (bt110.1, bt110.2.1, bt110.2.2)))) (fun k => ?_) (Ev.bind hs ?_)
  · simp only [integer_Sub.j0]
    rw [if_neg (by simp)]
    by_cases h : sn y = true
    · rw [if_pos h, if_pos h]
    · rw [if_neg h, if_neg h]
  · simp only [bounded, Option.bind_some]
    exact Ev.now _
theorem Mul (x y : Int) (hx : (dl x).length ≤ 400) (hy : (dl y).length ≤ 400) : Ev (fun k => integer_Mul.f k (sn x) (dl x) (sn y) (dl y)) (lim (x * y)) := by
  unfold integer_Mul.f
  have vx := valid (sn x) (dl x) (by omega)
  have vy := valid (sn y) (dl y) (by omega)
  rw [vld_rep, decide_eq_true hx] at vx
  rw [vld_rep, decide_eq_true hy] at vy
  rw [vx, vy]
  simp only [Option.bind_some, if_true, Bool.not_true]
  obtain ⟨r, hr, hn, hv, hl⟩ := mul (dl_ok x) (dl_ok y) (by omega)
  have e := mk_rep (sn x != sn y) hn.1
  have e2 : sval (sn x != sn y) r = x * y := by
    unfold sval
    rw [hv, dl_val, dl_val]
    by_cases h : x < 0 <;> by_cases h2 : y < 0
    · have q : (sn x != sn y) = false := by rw [sn_eq.2 h, sn_eq.2 h2]; rfl
      rw [q, if_neg (by simp), show ((x.natAbs : Nat) : Int) = -x from by omega, show ((y.natAbs : Nat) : Int) = -y from by omega]; grind
    · have q : (sn x != sn y) = true := by rw [sn_eq.2 h, sn_ne.2 h2]; rfl
      rw [q, if_pos rfl, show ((x.natAbs : Nat) : Int) = -x from by omega, show ((y.natAbs : Nat) : Int) = y from by omega]; grind
    · have q : (sn x != sn y) = true := by rw [sn_ne.2 h, sn_eq.2 h2]; rfl
      rw [q, if_pos rfl, show ((x.natAbs : Nat) : Int) = x from by omega, show ((y.natAbs : Nat) : Int) = -y from by omega]; grind
    · have q : (sn x != sn y) = false := by rw [sn_ne.2 h, sn_ne.2 h2]; rfl
      rw [q, if_neg (by simp), show ((x.natAbs : Nat) : Int) = x from by omega, show ((y.natAbs : Nat) : Int) = y from by omega]
  rw [e2] at e
  have hsg := signed (sn x != sn y) r (by omega)
  rw [e] at hsg
  refine Ev.step (f := fun k => (integer_mul.f k (dl x) (dl y)).bind fun t106 => ((integer_signed.f k (sn x != sn y) t106).bind fun bt109 => ((integer_bounded.f bt109.1 bt109.2).bind fun bt113 => (some (bt113.1, bt113.2.1, bt113.2.2))))) (fun k => ?_) (Ev.bind hr (Ev.bind hsg ?_))
  · simp only [integer_Mul.j0]
    rw [if_neg (by simp)]
  · simp only [bounded, Option.bind_some]
    exact Ev.now _
theorem product (x y : Int) (hx : (dl x).length ≤ 400) (hy : (dl y).length ≤ 400) (h : (dl (x * y)).length ≤ 400) : Ev (fun k => substationlaw01_product.f k (sn x) (dl x) (sn y) (dl y)) (sn (x * y), dl (x * y)) := by
  unfold substationlaw01_product.f
  have := Mul x y hx hy
  unfold lim at this
  rw [if_neg (by omega)] at this
  exact Ev.bind this (Ev.now _)
theorem Size (x : Int) (hx : (dl x).length ≤ 400) : Ev (fun k => substationref01_Size.f k (sn x) (dl x)) (sn (x.natAbs : Int), dl (x.natAbs : Int)) := by
  unfold substationref01_Size.f
  have hm := made false (dl x) (by omega)
  have e := mk_rep false (dl_ok x)
  have e2 : sval false (dl x) = (x.natAbs : Int) := by simp [sval, dl_val]
  rw [e2] at e
  rw [e] at hm
  exact Ev.bind hm (Ev.now _)
theorem Same (x y : Int) (hx : (dl x).length ≤ 9223372036854775807) : Ev (fun k => substationref01_Same.f k (sn x) (dl x) (sn y) (dl y)) (decide (x = y)) := by
  unfold substationref01_Same.f
  by_cases hs : sn x = sn y
  · have hb : (sn x == sn y) = true := by simp [hs]
    simp only [hb, if_true]
    have hc := rcompare (dl x) (dl y) hx
    rw [cmp_val (dl_norm x) (dl_norm y), dl_val, dl_val] at hc
    have e : (sg ((x.natAbs : Int) - (y.natAbs : Int)) == 0) = decide (x = y) := by
      have h1 : x < 0 ↔ y < 0 := by rw [← sn_eq, ← sn_eq, hs]
      unfold sg
      by_cases h : x = y
      · subst h; simp
      · by_cases h2 : x < 0
        · have h3 := h1.1 h2
          by_cases h4 : ((x.natAbs : Int) - (y.natAbs : Int)) < 0
          · simp [h, h4]
          · rw [if_neg h4, if_neg (by omega)]; simp [h]
        · have h3 : ¬ y < 0 := fun q => h2 (h1.2 q)
          by_cases h4 : ((x.natAbs : Int) - (y.natAbs : Int)) < 0
          · simp [h, h4]
          · rw [if_neg h4, if_neg (by omega)]; simp [h]
    rw [← e]
    exact Ev.bind hc (Ev.now _)
  · have hb : ¬ (sn x == sn y) = true := by simp [hs]
    simp only [if_neg hb]
    have h : ¬ x = y := fun h => hs (by rw [h])
    simp only [h, decide_false]
    exact Ev.now _
end Go.Proofs.YtmjceijbbodbfaaDoor.IntF
end
