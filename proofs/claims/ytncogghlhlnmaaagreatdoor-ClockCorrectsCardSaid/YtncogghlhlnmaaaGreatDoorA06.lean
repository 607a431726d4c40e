/-
  Part 6: lemmas, and walks through the functions that the laws of chapter 26 call. Each theorem states its own conditions.
-/
import Derived.ChangeSame
import Derived.OpenShut
import Derived.RowKit3
import Derived.ProofKit
import Derived.Deep.Slices
import Derived.Carry
import Derived.Test.YtncogghlhlnmaaaGreatDoorCards
import Derived.Test.YtncogghlhlnmaaaGreatDoorTie
import Derived.WalkKit
import Derived.Deep.DeepHandedRow
import Derived.Lib.LaidTab
import Derived.Test.YtncogghlhlnmaaaGreatDoorA03
import Derived.Test.YtncogghlhlnmaaaGreatDoorA04
import Derived.Test.YtncogghlhlnmaaaGreatDoorA05
set_option linter.unusedVariables false
set_option linter.unusedVariables false
set_option linter.unusedSimpArgs false
namespace Go.Via
open Go Go.RowKit
/-- the denominator as it is written: 0 for 1 -/
def dz (q : Rat) : Int := if q.den = 1 then 0 else q.den
theorem dz_eq (q : Rat) : Value.agg #[.bool false, .string (dm q)] = I (dz q) := by
  unfold dz dm I
  by_cases h : q.den = 1
  · simp only [if_pos h]
    rw [show (0 : Int).natAbs = 0 from rfl, mag_zero]; rfl
  · simp only [if_neg h, Int.natAbs_natCast]
    rw [show decide (((q.den : Nat) : Int) < 0) = false from decide_eq_false (by omega)]
theorem nb_one : nb 1 = 1 := by have h1 := nb_le (n := 1) (k := 1) (by omega); have h2 := nb_pos (u := 1) (by omega); omega
theorem dz_T {q : Rat} (h : ((nb (dz q).natAbs : Nat) : Int) = 0) : q.den = 1 := by
  unfold dz at h
  by_cases e : q.den = 1
  · exact e
  · rw [if_neg e, Int.natAbs_natCast] at h
    have := nb_pos (u := q.den) (by have := q.den_nz; omega)
    omega
theorem dz_F {q : Rat} (h : ¬ ((nb (dz q).natAbs : Nat) : Int) = 0) : (dz q).natAbs = q.den := by
  unfold dz at *
  by_cases e : q.den = 1
  · rw [if_pos e] at h; exact absurd (by rw [show (0 : Int).natAbs = 0 from rfl, nb_zero]; rfl) h
  · rw [if_neg e, Int.natAbs_natCast]
theorem dz_sz (q : Rat) : szI (dz q) ≤ szQ q := by
  unfold dz szI szQ
  split
  · rw [show (0 : Int).natAbs = 0 from rfl, nb_zero]; omega
  · rw [Int.natAbs_natCast]; omega
theorem D8_one : D8 1 = [1] := by
  have h := D8_row 1
  rw [nb_one] at h
  rw [← h]
  simp [row, dg8]
/-- the canonical form of two magnitudes and a sign -/
def sg (neg : Bool) (n : Nat) : Int := if neg = true then -(n : Int) else (n : Int)
theorem sg_natAbs (neg : Bool) (n : Nat) : (sg neg n).natAbs = n := by unfold sg; split <;> simp
theorem sg_gcd (neg : Bool) (n d : Nat) : Int.gcd (sg neg n) d = Nat.gcd n d := by rw [Int.gcd, sg_natAbs, Int.natAbs_natCast]
theorem sg_div (neg : Bool) (n d : Nat) : sg neg n / (Int.gcd (sg neg n) d : Int) = sg neg (n / Nat.gcd n d) := by
  rw [sg_gcd]
  unfold sg
  split
  · rw [Int.neg_ediv_of_dvd (Int.natCast_dvd_natCast.2 (Nat.gcd_dvd_left n d))]; rfl
  · rfl
theorem canon8_1 {n d : Nat} (neg : Bool) (hd : 0 < d) (h1 : d / Nat.gcd n d = 1) : Value.agg #[.bool (decide (sg neg (n / Nat.gcd n d) < 0)), .string (mag (sg neg (n / Nat.gcd n d)).natAbs), .bool false, .string ⟨#[]⟩] = Q (Rat.divInt (sg neg n) d) := by
  have := canon_1 (n := sg neg n) (d := d) (by omega) (by rw [sg_gcd]; exact_mod_cast h1)
  rw [sg_div] at this
  exact this
theorem canon8_2 {n d : Nat} (neg : Bool) (hd : 0 < d) (h1 : d / Nat.gcd n d ≠ 1) : Value.agg #[.bool (decide (sg neg (n / Nat.gcd n d) < 0)), .string (mag (sg neg (n / Nat.gcd n d)).natAbs), .bool (decide (((d / Nat.gcd n d : Nat) : Int) < 0)), .string (mag (((d / Nat.gcd n d : Nat) : Int)).natAbs)] = Q (Rat.divInt (sg neg n) d) := by
  have := canon_2 (n := sg neg n) (d := d) (by omega) (by rw [sg_gcd]; exact_mod_cast h1)
  rw [sg_div, sg_gcd] at this
  exact this
theorem dig_one {m : Nat} (h : nb m = 1) : m / 256 ^ 0 % 256 = m := by
  have := lt_nb m
  rw [h] at this
  rw [Nat.pow_zero, Nat.div_one, Nat.mod_eq_of_lt (by omega)]
theorem not_one_of_nb {m : Nat} (h : ¬ ((nb m : Nat) : Int) = 1) : m ≠ 1 := fun e => h (by rw [e, nb_one]; rfl)
theorem sg_Make (n d : Int) (h : d ≠ 0) : Rat.divInt (sg (decide (n < 0) != decide (d < 0)) n.natAbs) (d.natAbs : Int) = Rat.divInt n d := by
  unfold sg
  by_cases hd : d < 0
  · have e : (d.natAbs : Int) = -d := by omega
    rw [e]
    by_cases hn : n < 0
    · rw [decide_eq_true hd, decide_eq_true hn]
      simp only [bne_self_eq_false, Bool.false_eq_true, if_false]
      rw [show (n.natAbs : Int) = -n by omega, Rat.neg_divInt_neg]
    · rw [decide_eq_true hd, decide_eq_false hn]
      simp only [Bool.bne_true, Bool.not_false, if_true]
      rw [show (n.natAbs : Int) = n by omega, Rat.neg_divInt_neg]
  · have e : (d.natAbs : Int) = d := by omega
    rw [e]
    by_cases hn : n < 0
    · rw [decide_eq_false hd, decide_eq_true hn]
      simp only [Bool.bne_false, if_true]
      rw [show -(n.natAbs : Int) = n by omega]
    · rw [decide_eq_false hd, decide_eq_false hn]
      simp only [bne_self_eq_false, Bool.false_eq_true, if_false]
      rw [show (n.natAbs : Int) = n by omega]
theorem mul_lt_dec (a : Int) (d : Nat) (h : d ≠ 0) : decide (a * (d : Int) < 0) = decide (a < 0) := by
  refine decide_eq_decide.2 ⟨fun h2 => ?_, fun h2 => Int.mul_neg_of_neg_of_pos h2 (by omega)⟩
  refine Int.not_le.1 fun h3 => ?_
  have := Int.mul_nonneg h3 (show (0 : Int) ≤ d by omega)
  omega
theorem add_divInt8 (p q : Rat) : Rat.divInt (p.num * q.den + q.num * p.den) ((p.den * q.den : Nat) : Int) = p + q := by
  have h1 : (p.den : Int) ≠ 0 := den_ne p
  have h2 : (q.den : Int) ≠ 0 := den_ne q
  conv => rhs; rw [← Rat.num_divInt_den p, ← Rat.num_divInt_den q]
  rw [Rat.divInt_add_divInt _ _ h1 h2, Int.natCast_mul]
theorem sg_add1 (p q : Rat) (h : (decide (p.num < 0) == decide (q.num < 0)) = true) : Rat.divInt (sg (decide (p.num < 0)) (p.num.natAbs * q.den + q.num.natAbs * p.den)) ((p.den * q.den : Nat) : Int) = p + q := by
  rw [← add_divInt8 p q]
  congr 1
  have h1 := add_same (p.num * q.den) (q.num * p.den) (by rw [mul_lt_dec _ _ q.den_nz, mul_lt_dec _ _ p.den_nz]; exact h)
  rw [mul_lt_dec _ _ q.den_nz, Int.natAbs_mul, Int.natAbs_mul, Int.natAbs_natCast, Int.natAbs_natCast] at h1
  exact h1
theorem sg_add2 (p q : Rat) (h : (decide (p.num < 0) == decide (q.num < 0)) = false) (hle : q.num.natAbs * p.den ≤ p.num.natAbs * q.den) : Rat.divInt (sg (decide (p.num < 0)) (p.num.natAbs * q.den - q.num.natAbs * p.den)) ((p.den * q.den : Nat) : Int) = p + q := by
  rw [← add_divInt8 p q]
  congr 1
  have h1 := add_diff1 (p.num * q.den) (q.num * p.den) (by rw [mul_lt_dec _ _ q.den_nz, mul_lt_dec _ _ p.den_nz]; exact h) (by rw [Int.natAbs_mul, Int.natAbs_mul, Int.natAbs_natCast, Int.natAbs_natCast]; exact hle)
  rw [mul_lt_dec _ _ q.den_nz, Int.natAbs_mul, Int.natAbs_mul, Int.natAbs_natCast, Int.natAbs_natCast] at h1
  exact h1
theorem sg_add3 (p q : Rat) (h : (decide (p.num < 0) == decide (q.num < 0)) = false) (hle : p.num.natAbs * q.den ≤ q.num.natAbs * p.den) : Rat.divInt (sg (decide (q.num < 0)) (q.num.natAbs * p.den - p.num.natAbs * q.den)) ((p.den * q.den : Nat) : Int) = p + q := by
  rw [← add_divInt8 p q]
  congr 1
  have h1 := add_diff2 (p.num * q.den) (q.num * p.den) (by rw [mul_lt_dec _ _ q.den_nz, mul_lt_dec _ _ p.den_nz]; exact h) (by rw [Int.natAbs_mul, Int.natAbs_mul, Int.natAbs_natCast, Int.natAbs_natCast]; exact hle)
  rw [mul_lt_dec _ _ p.den_nz, Int.natAbs_mul, Int.natAbs_mul, Int.natAbs_natCast, Int.natAbs_natCast] at h1
  exact h1
end Go.Via
set_option linter.unusedVariables false
set_option linter.unusedSimpArgs false
namespace Go.Via
open Go Go.RowKit
theorem own2 {q : Rat} : ∀ (z : SR (nb q.num.natAbs) × SR (nb q.den)), ∀ c ∈ ([⟨z.1.b, 3, NV .i64 (D8 q.num.natAbs), z.1.n, true⟩, ⟨z.2.b, 3, NV .i64 (D8 q.den), z.2.n, true⟩] : List Blk), c.own = true := by
  intro z c hc
  simp only [List.mem_cons, List.mem_nil_iff, or_false] at hc
  rcases hc with rfl | rfl <;> rfl
/-- an int, shifted to the right -/
def im (z : Int) (i : Nat) : Int := if z < 0 then -((z.natAbs / 256 ^ i : Nat) : Int) else ((z.natAbs / 256 ^ i : Nat) : Int)
def imR (z : Int) (i : Nat) : Int := if z < 0 then -((dg8 z.natAbs i : Nat) : Int) else ((dg8 z.natAbs i : Nat) : Int)
theorem im_zero (z : Int) : im z 0 = z := by unfold im; rw [Nat.pow_zero, Nat.div_one]; split <;> omega
theorem imR_rem (z : Int) (i : Nat) : (im z i).tmod 256 = imR z i := by
  unfold im imR dg8
  split
  · rw [Int.neg_tmod, show (256 : Int) = ((256 : Nat) : Int) from rfl, ← Int.ofNat_tmod]
  · rw [show (256 : Int) = ((256 : Nat) : Int) from rfl, ← Int.ofNat_tmod]
theorem imR_neg {z : Int} {i : Nat} (h : imR z i < 0) : IntKind.i64.wrap (0 - imR z i) = ((dg8 z.natAbs i : Nat) : Int) := by
  have hd := dg8_lt z.natAbs i
  unfold imR at *
  by_cases hz : z < 0
  · rw [if_pos hz] at *; exact wi (by omega) (by omega) (by omega)
  · rw [if_neg hz] at *; omega
theorem imR_pos {z : Int} {i : Nat} (h : ¬ imR z i < 0) : imR z i = ((dg8 z.natAbs i : Nat) : Int) := by
  unfold imR at *
  by_cases hz : z < 0
  · rw [if_pos hz] at *; omega
  · rw [if_neg hz] at *
theorem im_bound {z : Int} {i : Nat} (h1 : -9223372036854775808 ≤ z) (h2 : z ≤ 9223372036854775807) : -9223372036854775808 ≤ im z i ∧ im z i ≤ 9223372036854775807 := by
  have h3 : z.natAbs / 256 ^ i ≤ z.natAbs := Nat.div_le_self _ _
  unfold im
  generalize z.natAbs / 256 ^ i = k at *
  split <;> omega
theorem imR_quo (z : Int) (i : Nat) (h1 : -9223372036854775808 ≤ z) (h2 : z ≤ 9223372036854775807) : IntKind.i64.wrap ((im z i).tdiv 256) = im z (i + 1) := by
  have e : (im z i).tdiv 256 = im z (i + 1) := by
    unfold im
    split
    · rw [Int.neg_tdiv, show (256 : Int) = ((256 : Nat) : Int) from rfl, ← Int.ofNat_tdiv, div256]
    · rw [show (256 : Int) = ((256 : Nat) : Int) from rfl, ← Int.ofNat_tdiv, div256]
  have := im_bound (i := i + 1) h1 h2
  exact wi (by rw [e]; omega) (by rw [e]; omega) e
theorem im_lt {z : Int} {i : Nat} (h : (im z i != 0) = true) : i < nb z.natAbs := by
  have h1 : im z i ≠ 0 := by simpa using h
  refine div_le_nb (Nat.pos_of_ne_zero fun e => h1 ?_)
  unfold im; rw [e]; split <;> rfl
theorem im_end {z : Int} {i : Nat} (h : (im z i != 0) = false) (hi : i ≤ nb z.natAbs) : i = nb z.natAbs := by
  have h1 : im z i = 0 := by simpa using h
  refine nb_of_div (n := z.natAbs) ?_ hi
  unfold im at h1
  split at h1 <;> omega
theorem szI64 {a : Int} (h1 : -9223372036854775808 ≤ a) (h2 : a ≤ 9223372036854775807) : szI a ≤ 8388608 := by
  have : szI a ≤ 8 := nb_le (by omega)
  omega
theorem szQ_cast (z : Int) : szQ (z : Rat) ≤ nb z.natAbs + 1 := by
  show max (nb z.natAbs) (nb 1) ≤ _
  rw [nb_one]; omega
theorem dm_neg (q : Rat) : dm (-q) = dm q := by unfold dm; rw [Rat.neg_den]
theorem Q_neg (q : Rat) : Q (-q) = .agg #[.bool (decide (-q.num < 0)), .string (mag q.num.natAbs), .bool false, .string (dm q)] := by
  unfold Q; rw [dm_neg, Rat.neg_num, Int.natAbs_neg]
theorem mag_ne (n : Nat) : (mag n != ⟨#[]⟩) = decide (n ≠ 0) := by
  rw [bne_empty]
theorem neg8_T {q : Rat} (h : (!decide (q.num < 0)) = true) : Value.agg #[.bool (mag q.num.natAbs != ⟨#[]⟩), .string (mag q.num.natAbs), .bool false, .string (dm q)] = Q (-q) := by
  rw [Q_neg, mag_ne]
  have h1 : ¬ q.num < 0 := by simpa using h
  rw [show decide (q.num.natAbs ≠ 0) = decide (-q.num < 0) from decide_eq_decide.2 ⟨fun _ => by omega, fun _ => by omega⟩]
theorem neg8_F {q : Rat} (h : (!decide (q.num < 0)) = false) : Value.agg #[.bool false, .string (mag q.num.natAbs), .bool false, .string (dm q)] = Q (-q) := by
  rw [Q_neg]
  have h1 : q.num < 0 := by simpa using h
  rw [decide_eq_false (show ¬ -q.num < 0 by omega)]
end Go.Via
set_option linter.unusedVariables false
namespace Go.Via
open Go Go.RowKit
theorem szOfC {i n : Int} (hi : -9223372036854775808 ≤ i ∧ i ≤ 9223372036854775807) (hn : -9223372036854775808 ≤ n ∧ n ≤ 9223372036854775807) : szQ (Rat.divInt i n) ≤ 20 := by
  have h1 : nb i.natAbs ≤ 8 := nb_le (by omega)
  have h2 : nb n.natAbs ≤ 8 := nb_le (by omega)
  have := szQ_divInt (n := i) (d := n) (a := 8) (b := 8) h1 h2 (by omega)
  omega
theorem szC {z : Int} (hi : -9223372036854775808 ≤ z ∧ z ≤ 9223372036854775807) : szQ (z : Rat) ≤ 20 := by
  have h1 : nb z.natAbs ≤ 8 := nb_le (by omega)
  have := szQ_cast z
  omega
/-- the zero of a rational number's type -/
def RZ : Value := .agg #[.bool false, .string ⟨#[]⟩, .bool false, .string ⟨#[]⟩]
/-- what Correct returns -/
def midA (l : List Ex) (d : Int) : Rat := Rat.divInt (ofLo l d + ofHi l d) 2
noncomputable def corA (l : List Ex) (d t : Int) : Value := if chE l d = 0 then Q ((t : Rat) - midA l d) else RZ
theorem of_bnd {l : List Ex} (hok : ∀ x ∈ l, okX x) (hn : l.length ≤ 1000) (d : Int) : -12884901888000000 ≤ ofLo l d ∧ ofLo l d ≤ 12884901888000000 ∧ -12884901888000000 ≤ ofHi l d ∧ ofHi l d ≤ 12884901888000000 := by
  have h1 := loA_bnd hok hn d
  have h2 := hiA_bnd hok hn d
  by_cases hg : goA l d
  · rw [(of_go hg).1, (of_go hg).2]; omega
  · rw [(of_no hg).1, (of_no hg).2]; omega
end Go.Via
set_option linter.unusedVariables false
namespace Go.Via
open Go Go.RowKit
/-! ### the example with which the laws begin -/
def ex0 : List Ex := [⟨0, 1, 10, 17, 2⟩, ⟨1, 0, 20, 16, 1⟩]
theorem ex0_ok : ∀ x ∈ ex0, okX x := fun x hx => by
  simp only [ex0, List.mem_cons, List.not_mem_nil, or_false] at hx
  rcases hx with rfl | rfl <;> exact ⟨by decide, by decide, by decide, by decide, by decide, by decide, by decide, by decide, by decide, by decide, by decide⟩
theorem ex0_go : ofLo ex0 1 = 5 ∧ ofHi ex0 1 = 5 ∧ chE ex0 1 = 0 := by decide +kernel
theorem ex0_sum : sumN ex0 [0, 1] 0 0 = 0 ∧ sumE ex0 [0, 1] 0 0 = 0 := by decide +kernel
theorem ex0_cor : corA ex0 1 30 = Q (Rat.divInt 25 1) := by
  unfold corA midA
  rw [if_pos ex0_go.2.2, ex0_go.1, ex0_go.2.1]
  exact congrArg Q (by decide +kernel)
theorem ChQ.sums {l : List Ex} {d : Int} {u v : List Int} (h : ChQ l d u v) : (sumM l u 0 = hiA l d ∧ sumO l u 0 d = true) ∧ (sumM l v d = loA l d ∧ sumO l v d 0 = true) := by
  have h1 := sum_some h.2.1 (b := d)
  have h2 := sum_some h.2.2 (b := 0)
  exact ⟨⟨h1.2.2.1, by rw [h1.2.2.2]; simp⟩, ⟨h2.2.2.1, by rw [h2.2.2.2]; simp⟩⟩
end Go.Via
set_option linter.unusedVariables false
namespace Go.Proofs.YtncogghlhlnmaaaGreatDoor
open Go Go.RowKit Go.Via Go.ChangeShapes Go.WideShapes Go.Deep
theorem below_kept {w w' : World} (h : Below w.heap.size w w') (may : MemPlace → Prop) : w.keptBut w' may := by
  have hb : ∀ b, b < w.heap.size → w'.heap[b]? = w.heap[b]? := h.block
  refine ⟨h.os, h.output, fun i hi => ?_⟩
  rw [hb i hi]
  split
  · rename_i e1 e2
    rw [e1] at e2; cases e2
    exact ⟨rfl, rfl, rfl, fun _ _ => rfl⟩
  · rename_i e1 e2
    rw [e1] at e2; cases e2
    exact Or.inr ⟨rfl, rfl⟩
  · rfl
/-! known blocks that came in -/
theorem relF_nil (w : World) : LRel w [] w := ⟨Below.refl _ _, fun k b hk => by simp at hk, fun i j g bi bj _ hi => by simp at hi⟩
theorem relF_cons {w : World} {b : Blk} {L : List Blk} (ho : b.own = false) (hb : ∀ g, b.base = some g → BlkAt w w b g) (hn : b.base = none → b.cs = [] ∧ b.n = 0) (hL : LRel w L w) (hLo : ∀ c ∈ L, c.own = false) : LRel w (b :: L) w := by
  refine ⟨Below.refl _ _, fun k c hk => ?_, fun i j g bi bj hij hi hj hio => ?_⟩
  · cases k with
    | zero => simp at hk; subst hk; exact ⟨hb, hn⟩
    | succ k => exact hL.blk k c (by simpa using hk)
  · exfalso
    cases i with
    | zero => simp at hi; subst hi; rw [ho] at hio; cases hio
    | succ i =>
      have := hLo bi (List.mem_of_getElem? (by simpa using hi))
      rw [this] at hio; cases hio
/-- cells that are there: a known block -/
theorem blk_flat {w : World} {a : Addr} {cs : List Value} (e : TypeId) (he : e < mapMark) (hne : cs ≠ []) (h : ∀ (j : Nat) (v : Value), cs[j]? = some v → w.cell? (a.add j) = some v) :
    ∃ (g : Nat) (pre : List Value) (N : Nat), a = ⟨g, pre.length, none⟩ ∧ BlkAt w w ⟨some g, e, pre ++ cs, N, false⟩ g := by
  obtain ⟨c0, l, rfl⟩ := List.exists_cons_of_ne_nil hne
  have h0 := h 0 c0 rfl
  rw [show a.add 0 = a by simp [Addr.add]] at h0
  obtain ⟨g, off, spot⟩ := a
  have h0' := h0
  unfold World.cell? at h0'
  split at h0'
  · rename_i cur e0 fr heq
    split at h0'
    · cases h0'
    · rename_i hsp
      have hsn : spot = none := by cases spot with | none => rfl | some z => simp at hsp
      subst hsn
      have hoff : off < cur.size := (Array.getElem?_eq_some_iff.1 h0').1
      have hpl : (cur.toList.take off).length = off := by simp; omega
      refine ⟨g, cur.toList.take off, cur.size, by rw [hpl], ?_⟩
      refine ⟨.inl ⟨cur, ⟨e0, fr, heq, (fun h => by cases h), he⟩, rfl, ?_⟩, fun h => by cases h⟩
      refine List.ext_getElem? fun j => ?_
      show (cur.toList.take (cur.toList.take off ++ c0 :: l).length)[j]? = _
      rw [List.length_append, hpl]
      by_cases hj : j < off
      · rw [List.getElem?_append_left (by rw [hpl]; exact hj), List.getElem?_take, List.getElem?_take, if_pos (by omega), if_pos hj]
      · rw [List.getElem?_append_right (by rw [hpl]; omega), hpl, List.getElem?_take]
        split
        · rename_i hj2
          obtain ⟨v, hv⟩ : ∃ v, (c0 :: l)[j - off]? = some v := ⟨_, List.getElem?_eq_getElem (by omega)⟩
          have k2 := h _ _ hv
          rw [add_lit] at k2
          unfold World.cell? at k2
          simp only [heq] at k2
          rw [show off + (j - off) = j by omega] at k2
          rw [hv, ← k2]
          simp
        · rename_i hj2
          rw [List.getElem?_eq_none (by omega)]
  · cases h0'
theorem cells_flat {w : World} {a : Addr} {k n : Nat} {f : Nat → List Value} (hf : ∀ i, i < n → w.cells? 0 (a.add (i * k)) k = some (f i)) (hk : ∀ i, i < n → (f i).length = k) (h0 : 0 < k) :
    ∀ (j : Nat) (v : Value), ((List.range n).flatMap f)[j]? = some v → w.cell? (a.add j) = some v := by
  induction n with
  | zero => intro j v h; simp at h
  | succ n ih =>
    have hlen : ∀ m, m ≤ n + 1 → ((List.range m).flatMap f).length = m * k := by
      intro m hm
      induction m with
      | zero => simp
      | succ m ihm => rw [List.range_succ, List.flatMap_append, List.length_append, ihm (by omega)]; simp [hk m (by omega)]; rw [Nat.succ_mul]
    intro j v h
    rw [List.range_succ, List.flatMap_append] at h
    by_cases hj : j < n * k
    · rw [List.getElem?_append_left (by rw [hlen n (by omega)]; exact hj)] at h
      exact ih (fun i hi => hf i (by omega)) (fun i hi => hk i (by omega)) j v h
    · rw [List.getElem?_append_right (by rw [hlen n (by omega)]; omega), hlen n (by omega)] at h
      simp only [List.flatMap_cons, List.flatMap_nil, List.append_nil] at h
      have hjl : j - n * k < k := by
        have := (List.getElem?_eq_some_iff.1 h).1
        rwa [hk n (by omega)] at this
      obtain ⟨_, _, hc⟩ := World.cells?_some (hf n (by omega))
      have := hc (j - n * k) hjl
      rw [h, Addr.add_add] at this
      rw [← this]
      congr 2
      omega
set_option maxRecDepth 20000 in
/-- a slice's cell, opened: where its cells lie -/
theorem slice_flatC {H : Type} {enc : TypeId × Value → H} {w : World} {α : Type} [Inhabited α] {T e k : Nat} {v : Value} {x : DataW H × List MemPlace} {fuel : Nat} {cells : α → List Value} {ok : α → Prop}
    (hT : Tryz.prog.underlying T = some (.slice e)) (hce : Tryz.prog.cellsOf e = k) (hk : 0 < k) (he : e < mapMark) (hlen : ∀ x, (cells x).length = k)
    (ho : ∀ (base : Nat) (sp : Nat → Bool) (hd : Bool) (fuel : Nat) (cs : List Value) (x : DataW H × List MemPlace), DataW.trod enc Tryz.prog w base sp hd fuel e cs = some x → ∃ y, cs = cells y ∧ ok y)
    (hf : DataW.trod enc Tryz.prog w 0 (fun _ => true) true fuel T [v] = some x) :
    ∃ (l : List α) (a : Option Addr) (b : Option Nat) (pre : List Value) (N cap : Nat), v = .slice a l.length cap ∧ l.length ≤ cap ∧ (l ≠ [] → a = b.map fun g => ⟨g, pre.length, none⟩) ∧ (∀ x ∈ l, ok x) ∧
      (∀ g, b = some g → BlkAt w w ⟨b, e, pre ++ l.flatMap cells, N, false⟩ g) ∧ (b = none → pre ++ l.flatMap cells = [] ∧ N = 0) := by
  rcases open_slice hT hf with ⟨h1, h2⟩ | ⟨a, len, cap, m, n, D, Pl, h1, _, hl, _, hm, h2, hx⟩
  · have h1' : v = .slice none 0 0 := List.head_eq_of_cons_eq h1
    subst h1'
    exact ⟨[], none, none, [], 0, 0, rfl, Nat.le_refl _, fun h => absurd rfl h, (fun x hx => by cases hx), (fun g hg => by cases hg), fun _ => ⟨rfl, rfl⟩⟩
  · have h1' : v = .slice (some a) len cap := List.head_eq_of_cons_eq h1
    subst h1'
    have hm' : m = cap := by rw [hm]; rfl
    rw [hce] at hx
    obtain ⟨f, hf⟩ := choose_lt (α := α) (n := len) (p := fun i p => w.cells? 0 (a.add (i * k)) k = some (cells p) ∧ ok p) (fun i hi => by
      obtain ⟨cs', k1, k2⟩ := hx i (by omega)
      obtain ⟨p, k3, k4⟩ := ho _ _ _ _ _ _ k2
      exact ⟨p, by rw [k1, k3], k4⟩)
    have hlen' : ((List.range len).map f).length = len := by simp
    have hok : ∀ x ∈ (List.range len).map f, ok x := fun x hx => by
      obtain ⟨i, hi, rfl⟩ := List.mem_map.1 hx
      exact (hf i (List.mem_range.1 hi)).2
    by_cases h0 : len = 0
    · subst h0
      exact ⟨[], some a, none, [], 0, cap, rfl, Nat.zero_le _, fun h => absurd rfl h, (fun x hx => by cases hx), (fun g hg => by cases hg), fun _ => ⟨rfl, rfl⟩⟩
    · have hfl : ((List.range len).map f).flatMap cells = (List.range len).flatMap fun i => cells (f i) := by rw [List.flatMap_map]
      have hne : ((List.range len).map f).flatMap cells ≠ [] := fun e => by
        have h1 := List.flatMap_eq_nil_iff.1 e (f 0) (List.mem_map.2 ⟨0, List.mem_range.2 (by omega), rfl⟩)
        have := hlen (f 0)
        rw [h1] at this
        simp at this
        omega
      obtain ⟨g, pre, N, rfl, hB⟩ := blk_flat (w := w) (a := a) (cs := ((List.range len).map f).flatMap cells) e he hne (by
        rw [hfl]
        exact cells_flat (fun i hi => (hf i hi).1) (fun i hi => hlen _) hk)
      exact ⟨(List.range len).map f, some ⟨g, pre.length, none⟩, some g, pre, N, cap, by rw [hlen'], by rw [hlen']; exact hl, fun _ => rfl, hok, (fun g' hg' => by cases hg'; exact hB), fun h => by cases h⟩
set_option maxRecDepth 20000 in
/-- a slice, opened -/
theorem slice_flat {H : Type} {enc : TypeId × Value → H} {w : World} {α : Type} [Inhabited α] {T e k : Nat} {r : Reach} {b0 : Nat} {v : Value} {d : DataW H} {ps : List MemPlace} {cells : α → List Value} {ok : α → Prop}
    (hT : Tryz.prog.underlying T = some (.slice e)) (hce : Tryz.prog.cellsOf e = k) (hk : 0 < k) (he : e < mapMark) (hlen : ∀ x, (cells x).length = k)
    (ho : ∀ (base : Nat) (sp : Nat → Bool) (hd : Bool) (fuel : Nat) (cs : List Value) (x : DataW H × List MemPlace), DataW.trod enc Tryz.prog w base sp hd fuel e cs = some x → ∃ y, cs = cells y ∧ ok y)
    (hval : Value.okWide Tryz.prog w r b0 T v) (hd : DataW.Trod enc Tryz.prog w 0 (fun _ => true) true T v d ps) :
    ∃ (l : List α) (a : Option Addr) (b : Option Nat) (pre : List Value) (N cap : Nat), v = .slice a l.length cap ∧ l.length ≤ cap ∧ (l ≠ [] → a = b.map fun g => ⟨g, pre.length, none⟩) ∧ (∀ x ∈ l, ok x) ∧
      (∀ g, b = some g → BlkAt w w ⟨b, e, pre ++ l.flatMap cells, N, false⟩ g) ∧ (b = none → pre ++ l.flatMap cells = [] ∧ N = 0) := by
  obtain ⟨a0, len0, cap0, rfl⟩ := okWide_slice hT hval
  obtain ⟨fuel, hf⟩ := hd
  exact slice_flatC hT hce hk he hlen ho hf
section
variable {H : Type} {enc : TypeId × Value → H} {w : World} {base : Nat} {spare : Nat → Bool} {held : Bool}
theorem inI_of {n : Int} (h : (Lit.int .i64 n).wf = true) : -9223372036854775808 ≤ n ∧ n ≤ 9223372036854775807 := by
  simp only [Lit.wf, Bool.and_eq_true, decide_eq_true_eq] at h
  exact h
theorem oInt {fuel : Nat} {cs : List Value} {x : DataW H × List MemPlace} (h : DataW.trod enc Tryz.prog w base spare held fuel 3 cs = some x) : ∃ n, cs = [.int .i64 n] ∧ (-9223372036854775808 ≤ n ∧ n ≤ 9223372036854775807) := by
  obtain ⟨n, h1, _, h2⟩ := DataW.trod_int Tryz.underlying3 h
  exact ⟨n, h1, inI_of h2⟩
end
end Go.Proofs.YtncogghlhlnmaaaGreatDoor
set_option linter.unusedVariables false
namespace Go.Proofs.YtncogghlhlnmaaaGreatDoor
open Go Go.RowKit Go.Via Go.ChangeShapes Go.WideShapes Go.Deep
theorem ce3 : Tryz.prog.cellsOf 3 = 1 := by kernel_rfl
theorem ce4 : Tryz.prog.cellsOf 4 = 1 := by kernel_rfl
theorem ce49 : Tryz.prog.cellsOf 49 = 5 := by kernel_rfl
theorem ce40 : Tryz.prog.cellsOf 40 = 2 := by kernel_rfl
theorem ce59 : Tryz.prog.cellsOf 59 = 8 := by kernel_rfl
instance : Inhabited Ex := ⟨⟨0, 0, 0, 0, 0⟩⟩
theorem XLc_flat (l : List Ex) : l.flatMap exC = XLc l := by
  induction l with
  | nil => rfl
  | cons x l ih => rw [List.flatMap_cons, ih]; rfl
section
variable {H : Type} {enc : TypeId × Value → H} {w : World} {base : Nat} {spare : Nat → Bool} {held : Bool}
set_option maxRecDepth 20000 in
theorem oEx {fuel : Nat} {cs : List Value} {x : DataW H × List MemPlace} (h : DataW.trod enc Tryz.prog w base spare held fuel 49 cs = some x) : ∃ e : Ex, cs = exC e := by
  obtain ⟨xs, n, _, rfl, hl, hlen, hf⟩ := DataW.trod_struct Tryz.underlying49 h
  rw [ce49] at hl
  match cs, hl, xs, hlen with
  | [c0, c1, c2, c3, c4], _, [y0, y1, y2, y3, y4], _ =>
    have f0 : DataW.trod enc Tryz.prog w base spare held n 3 ((([c0, c1, c2, c3, c4] : List Value).drop 0).take (Tryz.prog.cellsOf 3)) = some y0 := hf 0 _ rfl
    have f1 : DataW.trod enc Tryz.prog w base spare held n 3 ((([c0, c1, c2, c3, c4] : List Value).drop 1).take (Tryz.prog.cellsOf 3)) = some y1 := hf 1 _ rfl
    have f2 : DataW.trod enc Tryz.prog w base spare held n 3 ((([c0, c1, c2, c3, c4] : List Value).drop 2).take (Tryz.prog.cellsOf 3)) = some y2 := hf 2 _ rfl
    have f3 : DataW.trod enc Tryz.prog w base spare held n 3 ((([c0, c1, c2, c3, c4] : List Value).drop 3).take (Tryz.prog.cellsOf 3)) = some y3 := hf 3 _ rfl
    have f4 : DataW.trod enc Tryz.prog w base spare held n 3 ((([c0, c1, c2, c3, c4] : List Value).drop 4).take (Tryz.prog.cellsOf 3)) = some y4 := hf 4 _ rfl
    simp only [ce3] at f0 f1 f2 f3 f4
    obtain ⟨n0, e0, _⟩ := oInt f0
    obtain ⟨n1, e1, _⟩ := oInt f1
    obtain ⟨n2, e2, _⟩ := oInt f2
    obtain ⟨n3, e3, _⟩ := oInt f3
    obtain ⟨n4, e4, _⟩ := oInt f4
    simp at e0 e1 e2 e3 e4
    exact ⟨⟨n0, n1, n2, n3, n4⟩, by simp [exC, e0, e1, e2, e3, e4]⟩
set_option maxRecDepth 20000 in
theorem openXs {r : Reach} {b0 : Nat} {v : Value} {d : DataW H} {ps : List MemPlace} (hval : Value.okWide Tryz.prog w r b0 22 v) (hd : DataW.Trod enc Tryz.prog w 0 (fun _ => true) true 22 v d ps) :
    ∃ (l : List Ex) (a : Option Addr) (b : Option Nat) (pre : List Value) (N cap : Nat), v = .slice a l.length cap ∧ l.length ≤ cap ∧ (l ≠ [] → a = b.map fun g => ⟨g, pre.length, none⟩) ∧
      (∀ g, b = some g → BlkAt w w ⟨b, 49, pre ++ XLc l, N, false⟩ g) ∧ (b = none → pre ++ XLc l = [] ∧ N = 0) := by
  obtain ⟨l, a, b, pre, N, cap, h1, h2, h3, _, h5, h6⟩ := slice_flat (cells := exC) (ok := fun _ => True) Tryz.underlying22 ce49 (by decide) (by decide) (fun x => rfl) (fun base sp hd fuel cs x h => by
    obtain ⟨e, he⟩ := oEx h
    exact ⟨e, he, trivial⟩) hval hd
  rw [XLc_flat] at h5 h6
  exact ⟨l, a, b, pre, N, cap, h1, h2, h3, h5, h6⟩
theorem okWide_array {P : Program} {r : Reach} {t : TypeId} {v : Value} {b n : Nat} {e : TypeId} (ht : P.underlying t = some (.array n e)) (h : Value.okWide P w r b t v) : ∃ cs, v = .agg cs ∧ cs.size = P.cellsOf t := by
  simp only [Value.okWide, ht] at h
  obtain ⟨cs, h1, h2, _⟩ := h
  exact ⟨cs, h1, h2⟩
set_option maxRecDepth 20000 in
theorem openI2 {r : Reach} {b0 : Nat} {v : Value} {d : DataW H} {ps : List MemPlace} (hval : Value.okWide Tryz.prog w r b0 40 v) (hd : DataW.Trod enc Tryz.prog w base spare held 40 v d ps) :
    ∃ e0 e1 : Int, v = .agg #[.int .i64 e0, .int .i64 e1] ∧ (-9223372036854775808 ≤ e0 ∧ e0 ≤ 9223372036854775807) ∧ (-9223372036854775808 ≤ e1 ∧ e1 ≤ 9223372036854775807) := by
  obtain ⟨cs, rfl, _⟩ := okWide_array Tryz.underlying40 hval
  obtain ⟨fuel, hf⟩ := hd
  obtain ⟨xs, m, _, _, hl, hlen, hx⟩ := DataW.trod_array Tryz.underlying40 hf
  obtain ⟨l⟩ := cs
  have hl' : l.length = 2 := by rw [ce40] at hl; exact hl
  match l, hl', xs, hlen with
  | [c0, c1], _, [y0, y1], _ =>
    have f0 := hx 0 (by decide)
    have f1 := hx 1 (by decide)
    simp only [ce3] at f0 f1
    obtain ⟨n0, e0, z0⟩ := oInt f0
    obtain ⟨n1, e1, z1⟩ := oInt f1
    simp [Value.cells] at e0 e1
    exact ⟨n0, n1, by rw [e0, e1], z0, z1⟩
set_option maxRecDepth 20000 in
theorem openR {r : Reach} {b0 : Nat} {v : Value} {d : DataW H} {ps : List MemPlace} (hval : Value.okWide Tryz.prog w r b0 59 v) (hd : DataW.Trod enc Tryz.prog w base spare held 59 v d ps) :
    ∃ (ro rs rv rd rt rx ry : Int) (rc : Bool), v = .agg #[.int .i64 ro, .int .i64 rs, .int .i64 rv, .int .i64 rd, .int .i64 rt, .int .i64 rx, .int .i64 ry, .bool rc] ∧ (-9223372036854775808 ≤ rd ∧ rd ≤ 9223372036854775807) ∧ (-9223372036854775808 ≤ rt ∧ rt ≤ 9223372036854775807) := by
  obtain ⟨cs, rfl, _⟩ := okWide_struct Tryz.underlying59 hval
  obtain ⟨fuel, hf⟩ := hd
  obtain ⟨xs, m, _, _, hl, hlen, hx⟩ := DataW.trod_struct Tryz.underlying59 hf
  obtain ⟨l⟩ := cs
  have hl' : l.length = 8 := by rw [ce59] at hl; exact hl
  match l, hl', xs, hlen with
  | [c0, c1, c2, c3, c4, c5, c6, c7], _, [y0, y1, y2, y3, y4, y5, y6, y7], _ =>
    have f0 : DataW.trod enc Tryz.prog w base spare held m 3 ((([c0, c1, c2, c3, c4, c5, c6, c7] : List Value).drop 0).take (Tryz.prog.cellsOf 3)) = some y0 := hx 0 _ rfl
    have f1 : DataW.trod enc Tryz.prog w base spare held m 3 ((([c0, c1, c2, c3, c4, c5, c6, c7] : List Value).drop 1).take (Tryz.prog.cellsOf 3)) = some y1 := hx 1 _ rfl
    have f2 : DataW.trod enc Tryz.prog w base spare held m 3 ((([c0, c1, c2, c3, c4, c5, c6, c7] : List Value).drop 2).take (Tryz.prog.cellsOf 3)) = some y2 := hx 2 _ rfl
    have f3 : DataW.trod enc Tryz.prog w base spare held m 3 ((([c0, c1, c2, c3, c4, c5, c6, c7] : List Value).drop 3).take (Tryz.prog.cellsOf 3)) = some y3 := hx 3 _ rfl
    have f4 : DataW.trod enc Tryz.prog w base spare held m 3 ((([c0, c1, c2, c3, c4, c5, c6, c7] : List Value).drop 4).take (Tryz.prog.cellsOf 3)) = some y4 := hx 4 _ rfl
    have f5 : DataW.trod enc Tryz.prog w base spare held m 3 ((([c0, c1, c2, c3, c4, c5, c6, c7] : List Value).drop 5).take (Tryz.prog.cellsOf 3)) = some y5 := hx 5 _ rfl
    have f6 : DataW.trod enc Tryz.prog w base spare held m 3 ((([c0, c1, c2, c3, c4, c5, c6, c7] : List Value).drop 6).take (Tryz.prog.cellsOf 3)) = some y6 := hx 6 _ rfl
    have f7 : DataW.trod enc Tryz.prog w base spare held m 4 ((([c0, c1, c2, c3, c4, c5, c6, c7] : List Value).drop 7).take (Tryz.prog.cellsOf 4)) = some y7 := hx 7 _ rfl
    simp only [ce3, ce4] at f0 f1 f2 f3 f4 f5 f6 f7
    obtain ⟨n0, e0, _⟩ := oInt f0
    obtain ⟨n1, e1, _⟩ := oInt f1
    obtain ⟨n2, e2, _⟩ := oInt f2
    obtain ⟨n3, e3, z3⟩ := oInt f3
    obtain ⟨n4, e4, z4⟩ := oInt f4
    obtain ⟨n5, e5, _⟩ := oInt f5
    obtain ⟨n6, e6, _⟩ := oInt f6
    obtain ⟨c, e7, _⟩ := DataW.trod_bool Tryz.underlying4 f7
    simp at e0 e1 e2 e3 e4 e5 e6 e7
    exact ⟨n0, n1, n2, n3, n4, n5, n6, c, by rw [e0, e1, e2, e3, e4, e5, e6, e7], z3, z4⟩
end
end Go.Proofs.YtncogghlhlnmaaaGreatDoor
set_option linter.unusedVariables false
namespace Go.Proofs.YtncogghlhlnmaaaGreatDoor
open Go.ChangeShapes Go.WideShapes Go.ChangeAt Go.RowKit
theorem own : ownKnob Tryz.prog.godebug = none := by kernel_rfl
/-- A WORLD FOR THE WITNESS: the settled one, the two listed tables holding what their initialisers lay. -/
noncomputable def laidWorld (os : Os) : World :=
  let w0 := World.holding Tryz.prog os ⟨#[], #[], []⟩
  { w0 with heap := (w0.heap.modify 2 fun
      | .cells _ t frozen => .cells (List.map (Value.int .u8) ([128, 191, 160, 191, 128, 159, 144, 191, 128, 143] ++ List.replicate 22 0)).toArray t frozen
      | o => o).modify 1 fun
      | .cells _ t frozen => .cells (List.map (fun (z : Nat) => Value.int .u8 z) Go.Pinned.utf8FirstZ).toArray t frozen
      | o => o }
set_option maxRecDepth 100000 in
theorem laid_met (os : Os) (args : Array Value) : laidMet Tryz.prog [("unicode/utf8.acceptRanges", Rows.laid_unicode_utf8_acceptRanges), ("unicode/utf8.first", Rows.laid_unicode_utf8_first)] ((laidWorld os).forCall (fun _ _ => 0) ⟨#[], args, []⟩).memory :=
  laidMet_of_run' 8 (by kernel_rfl) (by kernel_rfl)
end Go.Proofs.YtncogghlhlnmaaaGreatDoor
namespace Go.Proofs.YtncogghlhlnmaaaGreatDoor
open Go Go.RowKit Go.Via
theorem zz4 : (Tryz.prog.info? 4).bind (·.zero) = some (.bool false) := by kernel_rfl
theorem zz3 : (Tryz.prog.info? 3).bind (·.zero) = some (.int .i64 0) := by kernel_rfl
end Go.Proofs.YtncogghlhlnmaaaGreatDoor
set_option linter.unusedVariables false
namespace Go.Proofs.YtncogghlhlnmaaaGreatDoor
open Go Go.RowKit Go.Via
set_option maxRecDepth 20000 in
theorem c_integer_word (n : Nat) : PCall Tryz.prog 124 #[.string (mag n)] (.tuple #[.int .u64 (if nb n ≤ 8 then (n : Int) else 0), .bool (decide (nb n ≤ 8))]) := by
 refine ⟨by kernel_rfl, fun w => ?_⟩
 refine calls_at (args := [.string (mag n)]) Tryz.func124 rfl (Nat.le_of_ble_eq_true rfl) (LRel.nil w) ?_
 show At w ⟨23, [(0, .string (mag n))], []⟩ _
 refine at_seq (at_region (r_assign rfl rfl rfl (r_assign rfl rfl rfl (run_nil (at_tn (at_seq (at_seq (at_region (r_move rfl rfl rfl (r_len rfl u9 rfl rfl ?_))))))))))
 refine r_know 7 (.int .i64 (nb n : Nat)) rfl (by rw [mag_size]) ?_
 refine r_cmpInt rfl rfl rfl rfl rfl (run_nil (at_tn ?_))
 refine at_cond rfl (fun hb0 => ?_) (fun hb0 => ?_)
 ·
  have h8 : ¬ nb n ≤ 8 := (by have := of_decide_eq_true hb0; omega)
  refine at_seq (at_region (r_assign rfl rfl rfl (r_assign rfl rfl rfl (run_nil (at_tn (at_ret (at_tr ?_)))))))
  refine at_end2 rfl (res_tmp rfl) (res_tmp rfl) (fun w hL => ⟨?_, hL.below⟩)
  rw [if_neg h8, decide_eq_false h8]
 ·
  have h8 : nb n ≤ 8 := (by have := of_decide_eq_false hb0; omega)
  refine at_skip (at_tn (at_seq (at_region (r_assign rfl rfl rfl (run_nil (at_tn (at_seq (at_seq (at_region (r_move rfl rfl rfl (r_len rfl u9 rfl rfl ?_)))))))))))
  refine r_know 10 (.int .i64 (nb n : Nat)) rfl (by rw [mag_size]) ?_
  refine r_move rfl rfl rfl (run_nil (at_tn (at_block ?_)))
  refine enterL (nt := 23) (ι := {i : Nat // i ≤ nb n}) (fun ⟨i, hi⟩ => [(0, .string (mag n)), (4, .int .u64 (n / 256 ^ (nb n - i) : Nat)), (10, .int .i64 (nb n : Nat)), (11, .int .i64 (i : Nat))]) (fun ⟨i, hi⟩ => []) (fun ⟨i, hi⟩ => nb n - i) ⟨0, Nat.zero_le _⟩ ⟨rfl, (look_val rfl (word_zero n)), rfl, rfl, trivial⟩ (Weak.refl _) ?_
  rintro ⟨i, hi⟩
  show At _ ⟨23, [(0, .string (mag n)), (4, .int .u64 (n / 256 ^ (nb n - i) : Nat)), (10, .int .i64 (nb n : Nat)), (11, .int .i64 (i : Nat))], []⟩ _
  refine at_seq (at_region (r_cmpInt rfl rfl rfl rfl rfl (run_nil (at_tn (at_seq ?_)))))
  refine at_cond rfl (fun hb2 => ?_) (fun hb2 => ?_)
  ·
   have hlt : i < nb n := (by have := of_decide_eq_true hb2; omega)
   refine at_skip (at_tn (at_seq (at_block (at_seq (at_region (r_move rfl rfl rfl (r_assign rfl rfl rfl (run_nil (at_tn (at_region (r_move rfl rfl rfl ?_)))))))))))
   refine r_shift (r := ((n / 256 ^ (nb n - i) * 2 ^ 8 : Nat) : Int)) rfl rfl rfl rfl (by omega) (congrArg some (shl_u _ 8 rfl rfl (by omega) (word_shl n i hi hlt h8))) ?_
   refine r_move rfl rfl rfl (r_move rfl rfl rfl ?_)
   refine r_idxS (r := ((n / 256 ^ (nb n - 1 - i) % 256 : Nat) : Int)) u9 rfl rfl rfl rfl (by omega) (mag_at n i hlt) (u8_nat _) ?_
   refine r_conv (r := ((n / 256 ^ (nb n - 1 - i) % 256 : Nat) : Int)) u5 u116 rfl rfl rfl (c64 _ rfl (by omega)) ?_
   refine r_or (r := ((n / 256 ^ (nb n - (i + 1)) : Nat) : Int)) rfl rfl rfl rfl (word_or n i hi hlt h8) ?_
   refine r_assign rfl rfl rfl (run_nil (at_bn (at_tn (at_region ?_))))
   refine r_arith (r := ((i + 1 : Nat) : Int)) rfl rfl rfl rfl (congrArg some (wi (by omega) (by omega) (by omega))) ?_
   refine r_move rfl rfl rfl (run_nil (at_tn ?_))
   exact nextL ⟨i + 1, hlt⟩ (by simp only []; omega) ⟨rfl, rfl, rfl, rfl, trivial⟩ (Weak.refl _)
  ·
   have hge : i = nb n := (by have := of_decide_eq_false hb2; omega)
   refine at_exit (at_te (at_te (at_be (at_tn (at_seq (at_region (r_move rfl rfl rfl (r_assign rfl rfl rfl (r_assign rfl rfl rfl (run_nil (at_tn (at_ret ?_))))))))))))
   refine at_end2 rfl (res_tmp rfl) (res_tmp rfl) (fun w hL => ⟨?_, hL.below⟩)
   subst hge; rw [if_pos h8, decide_eq_true h8]; simp
set_option maxRecDepth 20000 in
theorem c_integer_words (m n : Nat) : PCall Tryz.prog 113 #[.string (mag m), .string (mag n)] (.tuple #[.int .u64 (if nb m ≤ 8 then (m : Int) else 0), .int .u64 (if nb n ≤ 8 then (n : Int) else 0), .bool (decide (nb m ≤ 8) && decide (nb n ≤ 8))]) := by
 refine ⟨by kernel_rfl, fun w => ?_⟩
 refine calls_at (args := [.string (mag m), .string (mag n)]) Tryz.func113 rfl (Nat.le_of_ble_eq_true rfl) (LRel.nil w) ?_
 show At w ⟨24, [(0, .string (mag m)), (1, .string (mag n))], []⟩ _
 refine at_seq (at_region (r_assign rfl rfl rfl (r_assign rfl rfl rfl (r_assign rfl rfl rfl (run_nil (at_tn (at_seq (at_region (r_move rfl rfl rfl ?_)))))))))
 refine r_pcall [_] rfl rfl rfl (c_integer_word _) ?_
 refine r_move rfl rfl rfl ?_
 refine r_extract (vs := [_, _]) rfl rfl rfl rfl ?_
 refine r_extract (vs := [_, _]) rfl rfl rfl rfl ?_
 refine r_assign rfl rfl rfl (r_assign rfl rfl rfl (run_nil (at_tn (at_seq (at_region (r_move rfl rfl rfl ?_))))))
 refine r_pcall [_] rfl rfl rfl (c_integer_word _) ?_
 refine r_move rfl rfl rfl ?_
 refine r_extract (vs := [_, _]) rfl rfl rfl rfl ?_
 refine r_extract (vs := [_, _]) rfl rfl rfl rfl ?_
 refine r_assign rfl rfl rfl (r_assign rfl rfl rfl (run_nil (at_tn (at_seq (at_region (r_move rfl rfl rfl (r_move rfl rfl rfl (r_move rfl rfl rfl (r_move rfl rfl rfl ?_)))))))))
 refine r_split 21 rfl (fun hb0 => ?_) (fun hb0 => ?_)
 ·
  refine r_move rfl rfl rfl (r_pickT rfl rfl rfl rfl (r_assign rfl rfl rfl (r_assign rfl rfl rfl (r_assign rfl rfl rfl (run_nil (at_tn (at_ret ?_)))))))
  refine at_end3 rfl (res_tmp rfl) (res_tmp rfl) (res_tmp rfl) (fun w hL => ⟨?_, hL.below⟩)
  rw [hb0]; rfl
 ·
  refine r_no rfl rfl rfl (r_pickF rfl rfl rfl rfl (r_assign rfl rfl rfl (r_assign rfl rfl rfl (r_assign rfl rfl rfl (run_nil (at_tn (at_ret ?_)))))))
  refine at_end3 rfl (res_tmp rfl) (res_tmp rfl) (res_tmp rfl) (fun w hL => ⟨?_, hL.below⟩)
  rw [hb0]; rfl
set_option maxRecDepth 20000 in
theorem c_cmp_isNaN (x : Int) : PCall Tryz.prog 71 #[.int .i64 x] (.bool false) := by
 refine ⟨by kernel_rfl, fun w => ?_⟩
 refine calls_at (args := [.int .i64 x]) Tryz.func71 rfl (Nat.le_of_ble_eq_true rfl) (LRel.nil w) ?_
 show At w ⟨6, [(0, .int .i64 x)], []⟩ _
 refine at_seq (at_region (r_assign rfl rfl rfl (run_nil (at_tn (at_seq (at_region (r_move rfl rfl rfl (r_move rfl rfl rfl (r_cmpInt rfl rfl rfl rfl rfl (r_assign rfl rfl rfl (run_nil (at_tn (at_ret ?_)))))))))))))
 refine at_end1 rfl (res_tmp rfl) (fun w hL => ⟨?_, hL.below⟩)
 rw [bne_self_eq_false]
set_option maxRecDepth 20000 in
theorem c_cmp_Compare (x y : Int) : PCall Tryz.prog 121 #[.int .i64 x, .int .i64 y] (.int .i64 (if x < y then -1 else if y < x then 1 else 0)) := by
 refine ⟨by kernel_rfl, fun w => ?_⟩
 refine calls_at (args := [.int .i64 x, .int .i64 y]) Tryz.func121 rfl (Nat.le_of_ble_eq_true rfl) (LRel.nil w) ?_
 show At w ⟨20, [(0, .int .i64 x), (1, .int .i64 y)], []⟩ _
 refine at_seq (at_region (r_assign rfl rfl rfl (run_nil (at_tn (at_seq (at_region (r_move rfl rfl rfl ?_)))))))
 refine r_pcall [_] rfl rfl rfl (c_cmp_isNaN _) ?_
 refine r_assign rfl rfl rfl (run_nil (at_tn (at_seq (at_region (r_move rfl rfl rfl ?_)))))
 refine r_pcall [_] rfl rfl rfl (c_cmp_isNaN _) ?_
 refine r_assign rfl rfl rfl (run_nil (at_tn (at_seq (at_seq (at_region (r_move rfl rfl rfl (run_nil (at_tn (at_condF rfl (at_skip (at_tn (at_seq (at_seq (at_region (r_move rfl rfl rfl (run_nil (at_tn (at_condF rfl (at_skip (at_tn (at_seq (at_seq (at_region (r_move rfl rfl rfl (r_move rfl rfl rfl (r_cmpInt rfl rfl rfl rfl rfl (run_nil (at_tn ?_))))))))))))))))))))))))))))
 refine at_cond rfl (fun hb0 => ?_) (fun hb0 => ?_)
 ·
  refine at_seq (at_region (r_assign rfl rfl rfl (run_nil (at_tn (at_ret (at_tr ?_))))))
  refine at_end1 rfl (res_tmp rfl) (fun w hL => ⟨?_, hL.below⟩)
  rw [if_pos (of_decide_eq_true hb0)]
 ·
  refine at_skip (at_tn (at_seq (at_seq (at_region (r_move rfl rfl rfl (r_move rfl rfl rfl (r_cmpInt rfl rfl rfl rfl rfl (run_nil (at_tn ?_)))))))))
  refine at_cond rfl (fun hb1 => ?_) (fun hb1 => ?_)
  ·
   refine at_seq (at_region (r_assign rfl rfl rfl (run_nil (at_tn (at_ret (at_tr ?_))))))
   refine at_end1 rfl (res_tmp rfl) (fun w hL => ⟨?_, hL.below⟩)
   rw [if_neg (of_decide_eq_false hb0), if_pos (of_decide_eq_true hb1)]
  ·
   refine at_skip (at_tn (at_seq (at_region (r_assign rfl rfl rfl (run_nil (at_tn (at_ret ?_)))))))
   refine at_end1 rfl (res_tmp rfl) (fun w hL => ⟨?_, hL.below⟩)
   rw [if_neg (of_decide_eq_false hb0), if_neg (of_decide_eq_false hb1)]
set_option maxRecDepth 20000 in
theorem c_integer_magnitude (n : Nat) (h : n < 18446744073709551616) : PCall Tryz.prog 78 #[.int .u64 (n : Nat)] (.string (mag n)) := by
 refine ⟨by kernel_rfl, fun w => ?_⟩
 refine calls_at (args := [.int .u64 (n : Nat)]) Tryz.func78 rfl (Nat.le_of_ble_eq_true rfl) (LRel.nil w) ?_
 show At w ⟨30, [(0, .int .u64 (n : Nat))], []⟩ _
 refine at_seq (at_region (r_assign rfl rfl rfl (run_nil (at_tn (at_seq (at_seq (at_region (r_move rfl rfl rfl (r_cmpInt rfl rfl rfl rfl rfl (run_nil (at_tn ?_)))))))))))
 refine at_cond rfl (fun hb0 => ?_) (fun hb0 => ?_)
 ·
  have h0 : n = 0 := by have := eq_of_beq hb0; omega
  refine at_seq (at_region (r_assign rfl rfl rfl (run_nil (at_tn (at_ret (at_tr ?_))))))
  refine at_end1 rfl (res_tmp rfl) (fun w hL => ⟨?_, hL.below⟩)
  subst h0; rw [mag_zero]
 ·
  have h0 : n ≠ 0 := by have := ne_of_beq_false hb0; omega
  have h8 := nb_le8 h
  have hp := nb_pos h0
  refine at_skip (at_tn (at_seq (at_region (r_move rfl rfl rfl ?_))))
  refine r_pcall [_] rfl rfl rfl (c_math_bits_Len64 _ h) ?_
  refine r_arith (r := ((Lib.bitLen n + 7 : Nat) : Int)) rfl rfl rfl rfl (congrArg some (wi (by omega) (by have := Lib.bitLen_le n 64 (by omega) (by omega); omega) (by omega))) ?_
  refine r_div (r := ((nb n : Nat) : Int)) rfl rfl rfl rfl (by omega) (congrArg some ((quo_i _ 8 rfl rfl (by have := Lib.bitLen_le n 64 (by omega) (by omega); omega)).trans (by rw [bitLen_nb h h0]))) ?_
  refine r_assign rfl rfl rfl (run_nil (at_tn (at_seq (at_region ?_))))
  refine r_alloc [_, _, _, _, _, _, _, _] 8 (fun g => [⟨some g, 139, _, 8, true⟩]) rfl rfl z139 rfl rfl (fun _ => rfl) (fun g0 => ?_)
  refine run_nil (at_tn (at_seq (at_seq (at_region (r_move rfl rfl rfl (r_move rfl rfl rfl (run_nil (at_tn (at_block ?_)))))))))
  refine enterL (nt := 30) (ι := {i : Nat // i ≤ nb n}) (fun ⟨i, hi⟩ => [(0, .int .u64 (n : Nat)), (3, .int .i64 (nb n : Nat)), (4, .pointer (some ⟨g0, 0, none⟩)), (12, .int .i64 (nb n : Nat)), (13, .int .i64 (i : Nat))]) (fun ⟨i, hi⟩ => [⟨some g0, 139, NV .u8 (row 8 (magT n i)), 8, true⟩]) (fun ⟨i, hi⟩ => nb n - i) ⟨0, Nat.zero_le _⟩ ⟨rfl, rfl, rfl, rfl, rfl, trivial⟩ (weak_eq (congrArg (fun c => [(⟨some g0, 139, c, 8, true⟩ : Blk)]) (magT_zero n).symm)) ?_
  rintro ⟨i, hi⟩
  show At _ ⟨30, [(0, .int .u64 (n : Nat)), (3, .int .i64 (nb n : Nat)), (4, .pointer (some ⟨g0, 0, none⟩)), (12, .int .i64 (nb n : Nat)), (13, .int .i64 (i : Nat))], [⟨some g0, 139, NV .u8 (row 8 (magT n i)), 8, true⟩]⟩ _
  refine at_seq (at_region (r_cmpInt rfl rfl rfl rfl rfl (run_nil (at_tn (at_seq ?_)))))
  refine at_cond rfl (fun hb2 => ?_) (fun hb2 => ?_)
  ·
   have hlt : i < nb n := (by have := of_decide_eq_true hb2; omega)
   refine at_skip (at_tn (at_seq (at_block (at_seq (at_region (r_move rfl rfl rfl (r_assign rfl rfl rfl (run_nil (at_tn (at_region (r_move rfl rfl rfl ?_)))))))))))
   refine r_arith (r := ((nb n - 1 : Nat) : Int)) rfl rfl rfl rfl (congrArg some (wi (by omega) (by omega) (by omega))) ?_
   refine r_move rfl rfl rfl ?_
   refine r_arith (r := ((nb n - 1 - i : Nat) : Int)) rfl rfl rfl rfl (congrArg some (wi (by omega) (by omega) (by omega))) ?_
   refine r_move rfl rfl rfl (r_move rfl rfl rfl ?_)
   refine r_arith (r := ((8 * i : Nat) : Int)) rfl rfl rfl rfl (congrArg some (wi (by omega) (by omega) (by omega))) ?_
   refine r_shift (r := ((n / 2 ^ (8 * i) : Nat) : Int)) rfl rfl rfl rfl (by omega) (congrArg some (shr_u _ _ rfl rfl (by omega))) ?_
   refine r_conv (r := ((n / 2 ^ (8 * i) % 256 : Nat) : Int)) u116 u5 rfl rfl rfl (c8 _ rfl) ?_
   refine r_indexAddrA (nb n - 1 - i) u139 ti5 rfl rfl rfl rfl (by omega) (by omega) (by show 0 + Int.toNat _ * 1 = _; omega) ?_
   refine r_store1 rfl 0 (nb n - 1 - i) [⟨some g0, 139, _, 8, true⟩] (NV .u8 (row 8 (magT n (i + 1)))) ti5 rfl rfl rfl rfl rfl rfl rfl rfl (by rw [NV_length, row_length]; omega) (magT_step n i hlt) rfl ?_
   refine run_nil (at_bn (at_tn (at_region ?_)))
   refine r_arith (r := ((i + 1 : Nat) : Int)) rfl rfl rfl rfl (congrArg some (wi (by omega) (by omega) (by omega))) ?_
   refine r_move rfl rfl rfl (run_nil (at_tn ?_))
   exact nextL ⟨i + 1, hlt⟩ (by simp only []; omega) ⟨rfl, rfl, rfl, rfl, rfl, trivial⟩ (Weak.refl _)
  ·
   have hge : i = nb n := (by have := of_decide_eq_false hb2; omega)
   subst hge
   refine at_exit (at_te (at_te (at_be (at_tn (at_seq (at_region (r_move rfl rfl rfl ?_)))))))
   refine r_sliceA (nb n) u139 ti5 rfl rfl rfl rfl (by omega) (by omega) (by omega) ?_
   refine r_convBS 0 u122 u5 u9 rfl rfl rfl rfl rfl (magT_end n h8) (by rw [List.length_reverse]; rfl) (strN_mag n) ?_
   refine r_assign rfl rfl rfl (run_nil (at_tn (at_ret ?_)))
   refine at_end1 rfl (res_tmp rfl) (fun w hL => ⟨?_, hL.below⟩)
   exact rfl
end Go.Proofs.YtncogghlhlnmaaaGreatDoor
set_option linter.unusedVariables false
namespace Go.Proofs.YtncogghlhlnmaaaGreatDoor
open Go Go.RowKit Go.Via
set_option maxRecDepth 20000 in
theorem c_cmp_Or (a b : Int) (g : Nat) : SCall Tryz.prog 120 [⟨some g, 3, [.int .i64 a, .int .i64 b], 2, false⟩] [slv (some g) 0 2 2] Unit (fun _ => .int .i64 (if a = 0 then b else a)) (fun _ => []) := by
 refine ⟨by kernel_rfl, fun w hL0 => ?_⟩
 refine calls_at (args := [slv (some g) 0 2 2]) Tryz.func120 rfl (Nat.le_of_ble_eq_true rfl) hL0 ?_
 show At w ⟨18, [(0, slv (some g) 0 2 2)], [⟨some g, 3, [.int .i64 a, .int .i64 b], 2, false⟩]⟩ _
 refine at_seq (at_region (r_assign rfl rfl rfl (run_nil (at_tn (at_seq (at_region (r_assign rfl rfl rfl (run_nil (at_tn (at_seq (at_seq (at_region (r_move rfl rfl rfl (r_lenS u33 rfl rfl rfl (r_move rfl rfl rfl (run_nil (at_tn (at_block ?_))))))))))))))))))
 refine enterL (nt := 18) (ι := {i : Nat // i ≤ 2 ∧ (0 < i → a = 0) ∧ (1 < i → b = 0)}) (fun ⟨i, hi, ha, hb⟩ => [(3, .int .i64 0), (6, slv (some g) 0 2 2), (7, .int .i64 2), (8, .int .i64 (i : Nat))]) (fun ⟨i, hi, ha, hb⟩ => [⟨some g, 3, [.int .i64 a, .int .i64 b], 2, false⟩]) (fun ⟨i, hi, ha, hb⟩ => 2 - i) ⟨0, by omega, fun h => absurd h (by omega), fun h => absurd h (by omega)⟩ ⟨rfl, rfl, rfl, rfl, trivial⟩ (Weak.refl _) ?_
 rintro ⟨i, hi, ha, hb⟩
 show At _ ⟨18, [(3, .int .i64 0), (6, slv (some g) 0 2 2), (7, .int .i64 2), (8, .int .i64 (i : Nat))], [⟨some g, 3, [.int .i64 a, .int .i64 b], 2, false⟩]⟩ _
 refine at_seq (at_region (r_cmpInt rfl rfl rfl rfl rfl (run_nil (at_tn (at_seq ?_)))))
 refine at_cond rfl (fun hb1 => ?_) (fun hb1 => ?_)
 ·
  have hlt : i < 2 := (by have := of_decide_eq_true hb1; omega)
  refine at_skip (at_tn (at_seq (at_block (at_seq (at_region ?_)))))
  refine r_indexAddr 0 i u33 ti3 rfl rfl rfl rfl rfl (by omega) (by omega) (List.cons_ne_nil _ _) (by show 0 + Int.toNat _ * 1 = _; omega) ?_
  refine r_load1 (v := .int .i64 (if i = 0 then a else b)) 0 i ti3 rfl rfl rfl rfl (or_get a b i hlt) ?_
  refine r_assign rfl rfl rfl (run_nil (at_tn (at_seq (at_region (r_move rfl rfl rfl (r_move rfl rfl rfl (r_cmpInt rfl rfl rfl rfl rfl (run_nil (at_tn ?_)))))))))
  refine at_cond rfl (fun hb2 => ?_) (fun hb2 => ?_)
  ·
   have hne : (if i = 0 then a else b) ≠ 0 := by simpa using hb2
   refine at_seq (at_region (r_move rfl rfl rfl (r_assign rfl rfl rfl (run_nil (at_tn (at_ret (at_br (at_tr (at_tr (at_br (at_tr ?_)))))))))))
   refine at_end1 rfl (res_tmp rfl) (fun w hL => ⟨(), ?_, hL.picks [] trivial rfl rfl⟩)
   rw [or_end1 a b i ha hne]
  ·
   have he : (if i = 0 then a else b) = 0 := by simpa using hb2
   refine at_skip (at_bn (at_tn (at_region ?_)))
   refine r_arith (r := ((i + 1 : Nat) : Int)) rfl rfl rfl rfl (congrArg some (wi (by omega) (by omega) (by omega))) ?_
   refine r_move rfl rfl rfl (run_nil (at_tn ?_))
   exact nextL ⟨i + 1, hlt, or_a a b i ha he, or_b a b i he⟩ (by simp only []; omega) ⟨rfl, rfl, rfl, rfl, trivial⟩ (Weak.refl _)
 ·
  have hge : i = 2 := (by have := of_decide_eq_false hb1; omega)
  subst hge
  refine at_exit (at_te (at_te (at_be (at_tn (at_seq (at_region (r_move rfl rfl rfl (r_assign rfl rfl rfl (run_nil (at_tn (at_ret ?_)))))))))))
  refine at_end1 rfl (res_tmp rfl) (fun w hL => ⟨(), ?_, hL.picks [] trivial rfl rfl⟩)
  rw [if_pos (ha (by omega)), hb (by omega)]
set_option maxRecDepth 20000 in
theorem c_integer_compare (m n : Nat) : PCall Tryz.prog 105 #[.string (mag m), .string (mag n)] (.int .i64 (cmpN m n)) := by
 refine ⟨by kernel_rfl, fun w => ?_⟩
 refine calls_at (args := [.string (mag m), .string (mag n)]) Tryz.func105 rfl (Nat.le_of_ble_eq_true rfl) (LRel.nil w) ?_
 show At w ⟨15, [(0, .string (mag m)), (1, .string (mag n))], []⟩ _
 refine at_seq (at_region (r_assign rfl rfl rfl (run_nil (at_tn (at_seq (at_region (r_move rfl rfl rfl (r_len rfl u9 rfl rfl ?_))))))))
 refine r_know 6 (.int .i64 (nb m : Nat)) rfl (by rw [mag_size]) ?_
 refine r_move rfl rfl rfl (r_len rfl u9 rfl rfl ?_)
 refine r_know 8 (.int .i64 (nb n : Nat)) rfl (by rw [mag_size]) ?_
 refine r_pcall [_, _] rfl rfl rfl (c_cmp_Compare _ _) ?_
 refine r_move rfl rfl rfl (r_move rfl rfl rfl ?_)
 refine r_pcall [_, _] rfl rfl rfl (c_strings_Compare _ _) ?_
 refine r_buildSlice [(0, _), (1, _)] (fun g => [⟨some g, 3, _, 2, true⟩]) rfl rfl rfl (bs33_2) rfl (fun _ => rfl) (fun g0 => ?_)
 refine r_scall0 [_] [0] rfl rfl rfl (c_cmp_Or _ _ _) ⟨⟨_, rfl, le_share⟩, trivial⟩ rfl ?_
 refine r_assign rfl rfl rfl (run_nil (at_tn (at_ret ?_)))
 refine at_end1 rfl (res_tmp rfl) (fun w hL => ⟨?_, hL.below⟩)
 rw [compare_all]
set_option maxRecDepth 20000 in
theorem c_trimLeftByte (l : List UInt8) (c : UInt8) : PCall Tryz.prog 132 #[.string (strU l), .int .u8 (c.toNat : Nat)] (.string (strU (l.dropWhile (· == c)))) := by
 refine ⟨by kernel_rfl, fun w => ?_⟩
 refine calls_at (args := [.string (strU l), .int .u8 (c.toNat : Nat)]) Tryz.func132 rfl (Nat.le_of_ble_eq_true rfl) (LRel.nil w) ?_
 show At w ⟨17, [(0, .string (strU l)), (1, .int .u8 (c.toNat : Nat))], []⟩ _
 refine at_seq (at_region (r_assign rfl rfl rfl (run_nil (at_tn (at_seq (at_block ?_))))))
 refine enterL (nt := 17) (ι := {r : List UInt8 // r.dropWhile (· == c) = l.dropWhile (· == c)}) (fun ⟨r, hr⟩ => [(0, .string (strU r)), (1, .int .u8 (c.toNat : Nat))]) (fun ⟨r, hr⟩ => []) (fun ⟨r, hr⟩ => r.length) ⟨l, rfl⟩ ⟨rfl, rfl, trivial⟩ (Weak.refl _) ?_
 rintro ⟨r, hr⟩
 show At _ ⟨17, [(0, .string (strU r)), (1, .int .u8 (c.toNat : Nat))], []⟩ _
 refine at_seq (at_seq (at_region (r_move rfl rfl rfl (r_len rfl u9 rfl rfl ?_))))
 refine r_know 6 (.int .i64 (r.length : Nat)) rfl (by rw [strU_size]) ?_
 refine r_cmpInt rfl rfl rfl rfl rfl (r_move rfl rfl rfl ?_)
 refine r_split 8 rfl (fun hb1 => ?_) (fun hb1 => ?_)
 ·
  have h0 : 0 < r.length := (by have := of_decide_eq_true hb1; omega)
  obtain ⟨x, r, rfl⟩ := pos_cons h0
  refine r_move rfl rfl rfl ?_
  refine r_idxS (b := x) (r := (x.toNat : Int)) u9 rfl rfl rfl rfl (by omega) rfl rfl ?_
  refine r_move rfl rfl rfl (r_cmpInt rfl rfl rfl rfl rfl (r_pickT rfl rfl rfl rfl (run_nil (at_tn ?_))))
  refine at_cond rfl (fun hb2 => ?_) (fun hb2 => ?_)
  ·
   have hx : x = c := by have := eq_of_beq hb2; exact UInt8.toNat_inj.1 (by omega)
   refine at_skip (at_tn (at_block (at_region (r_move rfl rfl rfl ?_))))
   refine r_sliceStr (r := strU r) u9 rfl rfl rfl rfl (by omega) (by rw [strU_size, List.length_cons]; omega) (strU_tail x r) ?_
   refine r_assign rfl rfl rfl (run_nil (at_bn (at_tn ?_)))
   exact nextL ⟨r, by rw [← hr, hx, List.dropWhile_cons_of_pos (by simp)]⟩ (by simp) ⟨rfl, rfl, trivial⟩ (Weak.refl _)
  ·
   have hx : x ≠ c := fun e => by subst e; simp at hb2
   refine at_exit (at_te (at_te (at_be (at_tn (at_seq (at_region (r_move rfl rfl rfl (r_assign rfl rfl rfl (run_nil (at_tn (at_ret ?_)))))))))))
   refine at_end1 rfl (res_tmp rfl) (fun w hL => ⟨?_, hL.below⟩)
   rw [← hr, List.dropWhile_cons_of_neg (by simpa using hx)]
 ·
  have h0 : r = [] := List.eq_nil_of_length_eq_zero (by have := of_decide_eq_false hb1; omega)
  refine r_no rfl rfl rfl (r_no rfl rfl rfl (r_no rfl rfl rfl (r_no rfl rfl rfl (r_pickF rfl rfl rfl rfl (run_nil (at_tn (at_condF rfl (at_exit (at_te (at_te (at_be (at_tn (at_seq (at_region (r_move rfl rfl rfl (r_assign rfl rfl rfl (run_nil (at_tn (at_ret ?_)))))))))))))))))))
  refine at_end1 rfl (res_tmp rfl) (fun w hL => ⟨?_, hL.below⟩)
  rw [← hr, h0]; rfl
set_option maxRecDepth 20000 in
theorem c_strings_TrimLeft (l : List UInt8) : PCall Tryz.prog 130 #[.string (strU l), .string ⟨#[0]⟩] (.string (strU (l.dropWhile (· == 0)))) := by
 refine ⟨by kernel_rfl, fun w => ?_⟩
 refine calls_at (args := [.string (strU l), .string ⟨#[0]⟩]) Tryz.func130 rfl (Nat.le_of_ble_eq_true rfl) (LRel.nil w) ?_
 show At w ⟨37, [(0, .string (strU l)), (1, .string ⟨#[0]⟩)], []⟩ _
 refine at_seq (at_region (r_assign rfl rfl rfl (run_nil (at_tn (at_seq (at_seq (at_region (r_move rfl rfl rfl (r_eqlStr rfl rfl rfl rfl (r_move rfl rfl rfl ?_))))))))))
 refine r_split 9 rfl (fun hb0 => ?_) (fun hb0 => ?_)
 ·
  refine r_no rfl rfl rfl (r_no rfl rfl rfl (r_pickT rfl rfl rfl rfl (run_nil (at_tn (at_condT rfl (at_seq (at_region (r_move rfl rfl rfl (r_assign rfl rfl rfl (run_nil (at_tn (at_ret (at_tr ?_)))))))))))))
  refine at_end1 rfl (res_tmp rfl) (fun w hL => ⟨?_, hL.below⟩)
  rw [strU_empty hb0]; rfl
 ·
  refine r_move rfl rfl rfl (r_eqlStr rfl rfl rfl rfl ?_)
  refine r_know 11 (.bool false) rfl rfl ?_
  refine r_pickF rfl rfl rfl rfl (run_nil (at_tn (at_condF rfl (at_skip (at_tn (at_seq (at_seq (at_region (r_move rfl rfl rfl (r_len rfl u9 rfl rfl (r_cmpInt rfl rfl rfl rfl rfl ?_)))))))))))
  refine r_know 16 (.bool true) rfl rfl ?_
  refine r_move rfl rfl rfl (r_move rfl rfl rfl ?_)
  refine r_idxS (b := 0) (r := 0) u9 rfl rfl rfl rfl (by omega) rfl rfl ?_
  refine r_cmpInt rfl rfl rfl rfl rfl ?_
  refine r_know 20 (.bool true) rfl rfl ?_
  refine r_pickT rfl rfl rfl rfl (run_nil (at_tn (at_condT rfl (at_seq (at_region (r_move rfl rfl rfl (r_move rfl rfl rfl ?_)))))))
  refine r_idxS (b := 0) (r := 0) u9 rfl rfl rfl rfl (by omega) rfl rfl ?_
  refine r_pcall [_, _] rfl rfl rfl (c_trimLeftByte l 0) ?_
  refine r_assign rfl rfl rfl (run_nil (at_tn (at_ret (at_tr ?_))))
  refine at_end1 rfl (res_tmp rfl) (fun w hL => ⟨?_, hL.below⟩)
  exact rfl
set_option maxRecDepth 20000 in
theorem c_nat_trim (l : List Nat) (hl : ∀ d ∈ l, d < B32) (hn : l.length ≤ 1073741824) {len : Nat} (hlen : l.length = len) (x : SR len) : SCall Tryz.prog 129 [⟨x.b, 136, NV .u32 l, x.n, false⟩] [x.v] Unit (fun _ => slv x.b 0 (digs B32 (val B32 l)).length x.cap) (fun _ => []) := by
 refine ⟨by kernel_rfl, fun w hL0 => ?_⟩
 subst hlen
 refine calls_at (args := [x.v]) Tryz.func129 rfl (Nat.le_of_ble_eq_true rfl) hL0 ?_
 show At w ⟨21, [(0, x.v)], [⟨x.b, 136, NV .u32 l, x.n, false⟩]⟩ _
 refine at_seq (at_region (r_assign rfl rfl rfl (run_nil (at_tn (at_seq (at_block ?_))))))
 refine enterL (nt := 21) (ι := {m : Nat // m ≤ l.length ∧ val B32 (l.take m) = val B32 l}) (fun ⟨m, hm, hv⟩ => [(0, slv x.b 0 m x.cap)]) (fun ⟨m, hm, hv⟩ => [⟨x.b, 136, NV .u32 l, x.n, false⟩]) (fun ⟨m, hm, hv⟩ => m) ⟨l.length, Nat.le_refl _, by rw [List.take_of_length_le (Nat.le_refl _)]⟩ ⟨rfl, trivial⟩ (Weak.refl _) ?_
 rintro ⟨m, hm, hv⟩
 show At _ ⟨21, [(0, slv x.b 0 m x.cap)], [⟨x.b, 136, NV .u32 l, x.n, false⟩]⟩ _
 refine at_seq (at_seq (at_region (r_move rfl rfl rfl (r_lenS u161 rfl rfl rfl (r_cmpInt rfl rfl rfl rfl rfl (r_move rfl rfl rfl ?_))))))
 refine r_split 6 rfl (fun hb1 => ?_) (fun hb1 => ?_)
 ·
  have h0 : 0 < m := (by have := of_decide_eq_true hb1; omega)
  refine r_move rfl rfl rfl (r_move rfl rfl rfl (r_lenS u161 rfl rfl rfl ?_))
  refine r_arith (r := ((m - 1 : Nat) : Int)) rfl rfl rfl rfl (congrArg some (wi (by omega) (by omega) (by omega))) ?_
  refine r_indexAddr 0 (m - 1) u161 ti136 rfl rfl rfl rfl rfl (by omega) (by omega) (NV_ne (by omega)) (by show 0 + Int.toNat _ * 1 = _; omega) ?_
  refine r_load1 0 (m - 1) ti136 rfl rfl rfl rfl (NV_get (l := l) (List.getElem?_eq_getElem (by omega))) ?_
  refine r_cmpInt rfl rfl rfl rfl rfl (r_pickT rfl rfl rfl rfl (run_nil (at_tn ?_)))
  refine at_cond rfl (fun hb2 => ?_) (fun hb2 => ?_)
  ·
   have hz : l[m - 1] = 0 := (by have := eq_of_beq hb2; omega)
   refine at_skip (at_tn (at_block (at_region (r_move rfl rfl rfl (r_move rfl rfl rfl (r_lenS u161 rfl rfl rfl ?_))))))
   refine r_arith (r := ((m - 1 : Nat) : Int)) rfl rfl rfl rfl (congrArg some (wi (by omega) (by omega) (by omega))) ?_
   refine r_sliceH (m - 1) u161 ti136 rfl rfl rfl rfl (by omega) (by have := x.h; omega) (by omega) ?_
   refine r_assign rfl rfl rfl (run_nil (at_bn (at_tn ?_)))
   exact nextL ⟨m - 1, by omega, trim_step' h0 hm hv (by omega) hz⟩ (by simp only []; omega) ⟨rfl, trivial⟩ (Weak.refl _)
  ·
   have hz : l[m - 1] ≠ 0 := (by have := ne_of_beq_false hb2; omega)
   refine at_exit (at_te (at_te (at_be (at_tn (at_seq (at_region (r_move rfl rfl rfl (r_assign rfl rfl rfl (run_nil (at_tn (at_ret ?_)))))))))))
   refine at_end1 rfl (res_tmp rfl) (fun w hL => ⟨(), ?_, hL.picks [] trivial rfl rfl⟩)
   rw [trim_len (B := B32) (by decide) hl hm hv (.inr ⟨by omega, hz⟩)]
 ·
  have h0 : m = 0 := (by have := of_decide_eq_false hb1; omega)
  refine r_no rfl rfl rfl (r_no rfl rfl rfl (r_no rfl rfl rfl (r_no rfl rfl rfl (r_no rfl rfl rfl (r_no rfl rfl rfl (r_no rfl rfl rfl (r_pickF rfl rfl rfl rfl (run_nil (at_tn (at_condF rfl (at_exit (at_te (at_te (at_be (at_tn (at_seq (at_region (r_move rfl rfl rfl (r_assign rfl rfl rfl (run_nil (at_tn (at_ret ?_))))))))))))))))))))))
  refine at_end1 rfl (res_tmp rfl) (fun w hL => ⟨(), ?_, hL.picks [] trivial rfl rfl⟩)
  rw [trim_len (B := B32) (by decide) hl hm hv (.inl h0)]
set_option maxRecDepth 20000 in
theorem c_integer_digits (n : Nat) (hn : nb n ≤ 67108872) : SCall Tryz.prog 118 [] [.string (mag n)] Nat (fun g => slv (some g) 0 (digs B32 n).length (digs B32 n).length) (fun g => [⟨some g, 136, NV .u32 (digs B32 n), (digs B32 n).length, true⟩]) := by
 refine ⟨by kernel_rfl, fun w hL0 => ?_⟩
 refine calls_at (args := [.string (mag n)]) Tryz.func118 rfl (Nat.le_of_ble_eq_true rfl) hL0 ?_
 show At w ⟨38, [(0, .string (mag n))], []⟩ _
 refine at_seq (at_region (r_assign rfl rfl rfl (run_nil (at_tn (at_seq (at_region (r_move rfl rfl rfl (r_len rfl u9 rfl rfl ?_))))))))
 refine r_know 7 (.int .i64 (nb n : Nat)) rfl (by rw [mag_size]) ?_
 refine r_arith (r := ((nb n + 3 : Nat) : Int)) rfl rfl rfl rfl (congrArg some (wi (by omega) (by omega) (by omega))) ?_
 refine r_div (r := (((nb n + 3) / 4 : Nat) : Int)) rfl rfl rfl rfl (by omega) (congrArg some (quo_i _ 4 rfl rfl (by omega))) ?_
 refine q_makeSlice (c := (nb n + 3) / 4) (NV .u32 (row ((nb n + 3) / 4) (digT n 0))) (fun g => [⟨some g, 136, _, _, true⟩]) u161 el136 rfl rfl rfl rfl rfl rfl (by omega) (by rw [row_congr (g := fun _ => 0) (fun j _ => digT_zero n j), row_zero, NV_replicate]) (fun _ => rfl) (fun g0 => ?_)
 refine r_assign rfl rfl rfl (run_nil (at_tn (at_seq (at_seq (at_region (r_move rfl rfl rfl (r_len rfl u9 rfl rfl ?_)))))))
 refine r_know 12 (.int .i64 (nb n : Nat)) rfl (by rw [mag_size]) ?_
 refine r_move rfl rfl rfl (run_nil (at_tn (at_block ?_)))
 refine enterL (nt := 38) (ι := {i : Nat // i ≤ nb n}) (fun ⟨i, hi⟩ => [(0, .string (mag n)), (3, slv (some g0) 0 ((nb n + 3) / 4) ((nb n + 3) / 4)), (12, .int .i64 (nb n : Nat)), (13, .int .i64 (i : Nat))]) (fun ⟨i, hi⟩ => [⟨some g0, 136, NV .u32 (row ((nb n + 3) / 4) (digT n i)), (nb n + 3) / 4, true⟩]) (fun ⟨i, hi⟩ => nb n - i) ⟨0, Nat.zero_le _⟩ ⟨rfl, rfl, rfl, rfl, trivial⟩ (Weak.refl _) ?_
 rintro ⟨i, hi⟩
 show At _ ⟨38, [(0, .string (mag n)), (3, slv (some g0) 0 ((nb n + 3) / 4) ((nb n + 3) / 4)), (12, .int .i64 (nb n : Nat)), (13, .int .i64 (i : Nat))], [⟨some g0, 136, NV .u32 (row ((nb n + 3) / 4) (digT n i)), (nb n + 3) / 4, true⟩]⟩ _
 refine at_seq (at_region (r_cmpInt rfl rfl rfl rfl rfl (run_nil (at_tn (at_seq ?_)))))
 refine at_cond rfl (fun hb1 => ?_) (fun hb1 => ?_)
 ·
  have hlt : i < nb n := (by have := of_decide_eq_true hb1; omega)
  refine at_skip (at_tn (at_seq (at_block (at_seq (at_region (r_move rfl rfl rfl (r_assign rfl rfl rfl (run_nil (at_tn (at_seq (at_region (r_move rfl rfl rfl (r_len rfl u9 rfl rfl ?_)))))))))))))
  refine r_know 17 (.int .i64 (nb n : Nat)) rfl (by rw [mag_size]) ?_
  refine r_arith (r := ((nb n - 1 : Nat) : Int)) rfl rfl rfl rfl (congrArg some (wi (by omega) (by omega) (by omega))) ?_
  refine r_move rfl rfl rfl ?_
  refine r_arith (r := ((nb n - 1 - i : Nat) : Int)) rfl rfl rfl rfl (congrArg some (wi (by omega) (by omega) (by omega))) ?_
  refine r_assign rfl rfl rfl (run_nil (at_tn ?_))
  refine at_drawn (l' := [⟨_,_,_,_,_,_⟩, ⟨_,_,_,_,_,_⟩, ⟨_,_,_,_,_,_⟩, ⟨_,_,_,_,_,_⟩, ⟨_,_,_,_,_,_⟩, ⟨_,_,_,_,_,_⟩, ⟨_,_,_,_,_,_⟩, ⟨_,_,_,_,_,_⟩, ⟨_,_,_,_,_,_⟩, ⟨_,_,_,_,_,_⟩, ⟨_,_,_,_,_,_⟩, ⟨_,_,_,_,_,_⟩, ⟨_,_,_,_,_,_⟩, ⟨_,_,_,_,_,_⟩, ⟨_,_,_,_,_,_⟩, ⟨_,_,_,_,_,_⟩]) [] [0, 1, 2, 3, 4, 5, 6, 7, 8, 9, 10, 11, 12, 13, 14, 15] mixed (by kernel_rfl) rfl (by kernel_rfl) ?_
  refine r_move rfl rfl rfl (r_move rfl rfl rfl ?_)
  refine r_div (r := ((i / 4 : Nat) : Int)) rfl rfl rfl rfl (by omega) (congrArg some (quo_i _ 4 rfl rfl (by omega))) ?_
  refine r_indexAddr 0 (i / 4) u161 ti136 rfl rfl rfl rfl rfl (by omega) (by omega) (NV_ne (by rw [row_length]; omega)) (by show 0 + Int.toNat _ * 1 = _; omega) ?_
  refine r_load1 0 (i / 4) ti136 rfl rfl rfl rfl (NV_get (row_get (by omega))) ?_
  refine r_move rfl rfl rfl (r_move rfl rfl rfl ?_)
  refine r_idxS (b := UInt8.ofNat (n / 256 ^ i % 256)) (r := ((n / 256 ^ i % 256 : Nat) : Int)) u9 rfl rfl rfl rfl (by omega) (mag_at' n i hlt) (u8_nat _) ?_
  refine r_conv (r := ((n / 256 ^ i % 256 : Nat) : Int)) u5 u136 rfl rfl rfl (c32 _ rfl |>.trans (by rw [Nat.mod_eq_of_lt (by omega)])) ?_
  refine r_move rfl rfl rfl ?_
  refine r_div (r := ((i % 4 : Nat) : Int)) rfl rfl rfl rfl (by omega) (congrArg some (rem_n _ 4 rfl rfl)) ?_
  refine r_arith (r := ((8 * (i % 4) : Nat) : Int)) rfl rfl rfl rfl (congrArg some (wi (by omega) (by omega) (by omega))) ?_
  refine r_shift (r := ((2 ^ (8 * (i % 4)) * (n / 256 ^ i % 256) : Nat) : Int)) rfl rfl rfl rfl (by omega) (congrArg some ((shl_u32 _ _ rfl rfl (by omega) (by rw [Nat.mul_comm]; have := digT_sum n i; omega)).trans (by rw [Nat.mul_comm]))) ?_
  refine r_or (r := ((digT n i (i / 4) + 2 ^ (8 * (i % 4)) * (n / 256 ^ i % 256) : Nat) : Int)) rfl rfl rfl rfl (or_u32' (8 * (i % 4)) (digT_low n i) rfl (digT_sum n i) rfl rfl) ?_
  refine r_indexAddr 0 (i / 4) u161 ti136 rfl rfl rfl rfl rfl (by omega) (by omega) (NV_ne (by rw [row_length]; omega)) (by show 0 + Int.toNat _ * 1 = _; omega) ?_
  refine r_store1 rfl 0 (i / 4) [⟨some g0, 136, _, _, true⟩] (NV .u32 (row ((nb n + 3) / 4) (digT n (i + 1)))) ti136 rfl rfl rfl rfl rfl rfl rfl rfl (by rw [NV_length, row_length]; omega) (by rw [NV_set, row_set (fun j _ => digT_step' n i j)]) rfl ?_
  refine run_nil (at_bn (at_tn (at_region ?_)))
  refine r_arith (r := ((i + 1 : Nat) : Int)) rfl rfl rfl rfl (congrArg some (wi (by omega) (by omega) (by omega))) ?_
  refine r_move rfl rfl rfl (run_nil (at_tn ?_))
  exact nextL ⟨i + 1, hlt⟩ (by simp only []; omega) ⟨rfl, rfl, rfl, rfl, trivial⟩ (Weak.refl _)
 ·
  have hge : i = nb n := (by have := of_decide_eq_false hb1; omega)
  subst hge
  refine at_exit (at_te (at_te (at_be (at_tn (at_seq (at_region (r_move rfl rfl rfl (r_assign rfl rfl rfl (run_nil (at_tn (at_ret ?_)))))))))))
  refine at_end1 rfl (res_tmp rfl) (fun w hL => ⟨g0, ?_, ?_⟩)
  · rw [digB_len]
  · rw [digT_end] at hL; rw [digB_len]; exact hL
set_option maxRecDepth 20000 in
theorem c_nat_bytes (l : List Nat) (hl : ∀ d ∈ l, d < B32) (hn : l.length ≤ 67108872) {len : Nat} (hlen0 : l.length = len) (x : SR len) : SCall Tryz.prog 119 [⟨x.b, 136, NV .u32 l, x.n, false⟩] [x.v] Unit (fun _ => .string (mag (val B32 l))) (fun _ => []) := by
 refine ⟨by kernel_rfl, fun w hL0 => ?_⟩
 subst hlen0
 have hlen : (digs B32 (val B32 l)).length ≤ l.length := digs_length_le B32_two (val_lt (by decide) hl)
 generalize hN : val B32 l = N at *
 generalize hM : (digs B32 N).length = M at *
 have hx := x.h
 refine calls_at (args := [x.v]) Tryz.func119 rfl (Nat.le_of_ble_eq_true rfl) hL0 ?_
 show At w ⟨46, [(0, x.v)], [⟨x.b, 136, NV .u32 l, x.n, false⟩]⟩ _
 refine at_seq (at_region (r_assign rfl rfl rfl (run_nil (at_tn (at_seq (at_region (r_move rfl rfl rfl ?_)))))))
 refine r_scall0 [_] [0] rfl rfl rfl (c_nat_trim l hl (by omega) rfl x) ⟨⟨_, rfl, le_share⟩, trivial⟩ rfl ?_
 refine r_know 8 (slv x.b 0 M x.cap) rfl (by rw [hN, hM]) ?_
 refine r_assign rfl rfl rfl (run_nil (at_tn (at_seq (at_seq (at_region (r_move rfl rfl rfl (r_lenS u161 rfl rfl rfl (r_cmpInt rfl rfl rfl rfl rfl (run_nil (at_tn ?_))))))))))
 refine at_cond rfl (fun hb0 => ?_) (fun hb0 => ?_)
 ·
  have h0 : M = 0 := by have := eq_of_beq hb0; omega
  refine at_seq (at_region (r_assign rfl rfl rfl (run_nil (at_tn (at_ret (at_tr ?_))))))
  refine at_end1 rfl (res_tmp rfl) (fun w hL => ⟨(), ?_, hL.picks [] trivial rfl rfl⟩)
  rw [bytes_zero hN hM h0]
 ·
  have h0 : M ≠ 0 := by have := ne_of_beq_false hb0; omega
  refine at_skip (at_tn (at_seq (at_region (r_move rfl rfl rfl (r_lenS u161 rfl rfl rfl ?_)))))
  refine r_arith (r := ((4 * M : Nat) : Int)) rfl rfl rfl rfl (congrArg some (wi (by omega) (by omega) (by omega))) ?_
  refine q_makeSlice (c := 4 * M) (NV .u8 (row (4 * M) (bytT N (4 * M) 0))) (fun g => [_, ⟨some g, 5, _, _, true⟩]) u122 el5 rfl rfl rfl rfl rfl rfl (by omega) (by rw [row_congr (g := fun _ => 0) (fun j _ => bytT_zero N _ j), row_zero, NV_replicate]) (fun _ => rfl) (fun g0 => ?_)
  refine r_assign rfl rfl rfl (run_nil (at_tn (at_seq (at_seq (at_region (r_move rfl rfl rfl (r_lenS u161 rfl rfl rfl (r_move rfl rfl rfl (run_nil (at_tn (at_block ?_)))))))))))
  refine enterL (nt := 46) (ι := {i : Nat // i ≤ M}) (fun ⟨i, hi⟩ => [(3, slv (some g0) 0 (4 * M) (4 * M)), (16, slv x.b 0 M x.cap), (17, .int .i64 (M : Nat)), (18, .int .i64 (i : Nat))]) (fun ⟨i, hi⟩ => [⟨x.b, 136, NV .u32 l, x.n, false⟩, ⟨some g0, 5, NV .u8 (row (4 * M) (bytT N (4 * M) (4 * i))), 4 * M, true⟩]) (fun ⟨i, hi⟩ => M - i) ⟨0, Nat.zero_le _⟩ ⟨rfl, rfl, rfl, rfl, trivial⟩ (Weak.refl _) ?_
  rintro ⟨i, hi⟩
  show At _ ⟨46, [(3, slv (some g0) 0 (4 * M) (4 * M)), (16, slv x.b 0 M x.cap), (17, .int .i64 (M : Nat)), (18, .int .i64 (i : Nat))], [⟨x.b, 136, NV .u32 l, x.n, false⟩, ⟨some g0, 5, NV .u8 (row (4 * M) (bytT N (4 * M) (4 * i))), 4 * M, true⟩]⟩ _
  refine at_seq (at_region (r_cmpInt rfl rfl rfl rfl rfl (run_nil (at_tn (at_seq ?_)))))
  refine at_cond rfl (fun hb2 => ?_) (fun hb2 => ?_)
  ·
   have hlt : i < M := (by have := of_decide_eq_true hb2; omega)
   refine at_skip (at_tn (at_seq (at_block (at_seq (at_region (r_move rfl rfl rfl ?_))))))
   refine r_indexAddr 0 (i) u161 ti136 rfl rfl rfl rfl rfl (by omega) (by omega) (NV_ne (by omega)) (by show 0 + Int.toNat _ * 1 = _; omega) ?_
   refine r_load1 0 (i) ti136 rfl rfl rfl rfl (NV_get (trim_get hl hN hM hlt)) ?_
   refine r_assign rfl rfl rfl (r_assign rfl rfl rfl (run_nil (at_tn (at_seq (at_region (r_move rfl rfl rfl (run_nil (at_tn (at_block ?_)))))))))
   refine enterL (nt := 46) (ι := {k : Nat // k ≤ 4}) (fun ⟨k, hk5⟩ => [(3, slv (some g0) 0 (4 * M) (4 * M)), (16, slv x.b 0 M x.cap), (17, .int .i64 (M : Nat)), (18, .int .i64 (i : Nat)), (4, .int .i64 (i : Nat)), (5, .int .u32 (N / B32 ^ i % B32 : Nat)), (23, .int .i64 (k : Nat))]) (fun ⟨k, hk5⟩ => [⟨x.b, 136, NV .u32 l, x.n, false⟩, ⟨some g0, 5, NV .u8 (row (4 * M) (bytT N (4 * M) (4 * i + k))), 4 * M, true⟩]) (fun ⟨k, hk5⟩ => 4 - k) ⟨0, Nat.zero_le _⟩ ⟨rfl, rfl, rfl, rfl, rfl, rfl, rfl, trivial⟩ (Weak.refl _) ?_
   rintro ⟨k, hk5⟩
   show At _ ⟨46, [(3, slv (some g0) 0 (4 * M) (4 * M)), (16, slv x.b 0 M x.cap), (17, .int .i64 (M : Nat)), (18, .int .i64 (i : Nat)), (4, .int .i64 (i : Nat)), (5, .int .u32 (N / B32 ^ i % B32 : Nat)), (23, .int .i64 (k : Nat))], [⟨x.b, 136, NV .u32 l, x.n, false⟩, ⟨some g0, 5, NV .u8 (row (4 * M) (bytT N (4 * M) (4 * i + k))), 4 * M, true⟩]⟩ _
   refine at_seq (at_region (r_cmpInt rfl rfl rfl rfl rfl (run_nil (at_tn (at_seq ?_)))))
   refine at_cond rfl (fun hb4 => ?_) (fun hb4 => ?_)
   ·
    have hk : k < 4 := (by have := of_decide_eq_true hb4; omega)
    refine at_skip (at_tn (at_seq (at_block (at_seq (at_region (r_move rfl rfl rfl (r_assign rfl rfl rfl (run_nil (at_tn (at_region (r_move rfl rfl rfl (r_move rfl rfl rfl (r_lenS u122 rfl rfl rfl ?_)))))))))))))
    refine r_arith (r := ((4 * M - 1 : Nat) : Int)) rfl rfl rfl rfl (congrArg some (wi (by omega) (by omega) (by omega))) ?_
    refine r_move rfl rfl rfl ?_
    refine r_arith (r := ((4 * i : Nat) : Int)) rfl rfl rfl rfl (congrArg some (wi (by omega) (by omega) (by omega))) ?_
    refine r_arith (r := ((4 * M - 1 - 4 * i : Nat) : Int)) rfl rfl rfl rfl (congrArg some (wi (by omega) (by omega) (by omega))) ?_
    refine r_move rfl rfl rfl ?_
    refine r_arith (r := ((4 * M - 1 - (4 * i + k) : Nat) : Int)) rfl rfl rfl rfl (congrArg some (wi (by omega) (by omega) (by omega))) ?_
    refine r_move rfl rfl rfl (r_move rfl rfl rfl ?_)
    refine r_arith (r := ((8 * k : Nat) : Int)) rfl rfl rfl rfl (congrArg some (wi (by omega) (by omega) (by omega))) ?_
    refine r_shift (r := ((N / B32 ^ i % B32 / 2 ^ (8 * k) : Nat) : Int)) rfl rfl rfl rfl (by omega) (congrArg some (shr_u32 _ _ rfl rfl (by omega))) ?_
    refine r_conv (r := ((N / B32 ^ i % B32 / 2 ^ (8 * k) % 256 : Nat) : Int)) u136 u5 rfl rfl rfl (c8 _ rfl) ?_
    refine r_indexAddr 1 (4 * M - 1 - (4 * i + k)) u122 ti5 rfl rfl rfl rfl rfl (by omega) (by omega) (NV_ne (by rw [row_length]; omega)) (by show 0 + Int.toNat _ * 1 = _; omega) ?_
    refine r_store1 rfl 1 (4 * M - 1 - (4 * i + k)) [_, ⟨some g0, 5, _, _, true⟩] (NV .u8 (row (4 * M) (bytT N (4 * M) (4 * i + k + 1)))) ti5 rfl rfl rfl rfl rfl rfl rfl rfl (by rw [NV_length, row_length]; omega) (bytT_step N (4 * M) (4 * i + k) _ (by omega) (digit_byte N i k hk)) rfl ?_
    refine run_nil (at_bn (at_tn (at_region ?_)))
    refine r_arith (r := ((k + 1 : Nat) : Int)) rfl rfl rfl rfl (congrArg some (wi (by omega) (by omega) (by omega))) ?_
    refine r_move rfl rfl rfl (run_nil (at_tn ?_))
    exact nextL ⟨k + 1, hk⟩ (by simp only []; omega) ⟨rfl, rfl, rfl, rfl, rfl, rfl, rfl, trivial⟩ (Weak.refl _)
   ·
    have hk4 : k = 4 := (by have := of_decide_eq_false hb4; omega)
    subst hk4
    refine at_exit (at_te (at_te (at_be (at_bn (at_tn (at_region ?_))))))
    refine r_arith (r := ((i + 1 : Nat) : Int)) rfl rfl rfl rfl (congrArg some (wi (by omega) (by omega) (by omega))) ?_
    refine r_move rfl rfl rfl (run_nil (at_tn ?_))
    exact nextL ⟨i + 1, hlt⟩ (by simp only []; omega) ⟨rfl, rfl, rfl, rfl, trivial⟩ (Weak.refl _)
  ·
   have hge : i = M := (by have := of_decide_eq_false hb2; omega)
   subst hge
   refine at_exit (at_te (at_te (at_be (at_tn (at_seq (at_region (r_move rfl rfl rfl ?_)))))))
   refine r_convBS 1 u122 u5 u9 rfl rfl rfl rfl rfl (by rw [List.take_of_length_le (by rw [NV_length, row_length]; exact Nat.le_refl _)]) (row_length _ _) (strN_eq _) ?_
   refine r_pcall [_, _] rfl rfl rfl (c_strings_TrimLeft _) ?_
   refine r_assign rfl rfl rfl (run_nil (at_tn (at_ret ?_)))
   refine at_end1 rfl (res_tmp rfl) (fun w hL => ⟨(), ?_, hL.picks [] trivial rfl rfl⟩)
   rw [bytT_trim N (4 * i) (bytes_lt4 hM)]
end Go.Proofs.YtncogghlhlnmaaaGreatDoor
set_option linter.unusedVariables false
namespace Go.Proofs.YtncogghlhlnmaaaGreatDoor
open Go Go.RowKit Go.Via
set_option maxRecDepth 20000 in
theorem c_nat_short (m y : Nat) (hm : nb m ≤ 67108872) (hy : 0 < y) (hy2 : y < 4294967296) (g N cap : Nat) : MCall Tryz.prog 125 ⟨some g, 136, NV .u32 (digs B32 m), N, true⟩ [slv (some g) 0 (digs B32 m).length cap, .int .u32 (y : Nat)] (.int .u32 (m % y : Nat)) ⟨some g, 136, NV .u32 (row (digs B32 m).length (shoQ m y)), N, true⟩ := by
 refine ⟨by kernel_rfl, fun B w R hL0 => ?_⟩
 have hdm := dig_len_le hm
 refine calls_atB (args := [slv (some g) 0 (digs B32 m).length cap, .int .u32 (y : Nat)]) Tryz.func125 rfl (Nat.le_of_ble_eq_true rfl) hL0 ?_
 show At B ⟨36, [(0, slv (some g) 0 (digs B32 m).length cap), (1, .int .u32 (y : Nat))], (⟨some g, 136, NV .u32 (digs B32 m), N, true⟩ :: R)⟩ _
 refine at_seq (at_region (r_assign rfl rfl rfl (run_nil (at_tn (at_seq (at_region (r_assign rfl rfl rfl (run_nil (at_tn (at_seq (at_seq (at_region (r_move rfl rfl rfl (r_lenS u161 rfl rfl rfl ?_))))))))))))))
 refine r_arith (r := (((digs B32 m).length : Nat) : Int) - 1) rfl rfl rfl rfl (congrArg some (wi (by omega) (by omega) (by omega))) ?_
 refine r_assign rfl rfl rfl (run_nil (at_tn (at_block ?_)))
 refine enterL (nt := 36) (ι := {p : Nat // p ≤ (digs B32 m).length}) (fun ⟨p, hp⟩ => [(0, slv (some g) 0 (digs B32 m).length cap), (1, .int .u32 (y : Nat)), (5, .int .u64 (m / B32 ^ p % y : Nat)), (6, .int .i64 ((p : Nat) - 1))]) (fun ⟨p, hp⟩ => (⟨some g, 136, NV .u32 (row (digs B32 m).length (shoT m y p)), N, true⟩ :: R)) (fun ⟨p, hp⟩ => p) ⟨(digs B32 m).length, Nat.le_refl _⟩ ⟨rfl, rfl, (look_val rfl (by rw [shoR_start]; rfl)), rfl, trivial⟩ (weak_eq (congrArg (fun c => (⟨some g, 136, NV .u32 c, N, true⟩ : Blk) :: R) (shoT_start m y))) ?_
 rintro ⟨p, hp⟩
 show At _ ⟨36, [(0, slv (some g) 0 (digs B32 m).length cap), (1, .int .u32 (y : Nat)), (5, .int .u64 (m / B32 ^ p % y : Nat)), (6, .int .i64 ((p : Nat) - 1))], (⟨some g, 136, NV .u32 (row (digs B32 m).length (shoT m y p)), N, true⟩ :: R)⟩ _
 refine at_seq (at_seq (at_region (r_move rfl rfl rfl (r_cmpInt rfl rfl rfl rfl rfl (run_nil (at_tn ?_))))))
 refine at_cond rfl (fun hb1 => ?_) (fun hb1 => ?_)
 ·
  obtain ⟨q, rfl⟩ : ∃ q, p = q + 1 := ⟨p - 1, by have := of_decide_eq_true hb1; omega⟩
  refine at_know 6 (.int .i64 (q : Nat)) rfl (congrArg (Value.int .i64) (by omega)) ?_
  have hr1 := Nat.mod_lt (m / B32 ^ (q + 1)) hy
  have hx1 := B32_mod (m / B32 ^ q)
  have hw := shoW_lt64 m y q hy hy2
  refine at_skip (at_tn (at_seq (at_block (at_seq (at_region (r_move rfl rfl rfl ?_))))))
  refine r_shift (r := ((m / B32 ^ (q + 1) % y * 2 ^ 32 : Nat) : Int)) rfl rfl rfl rfl (by omega) (congrArg some (shl_u _ 32 rfl rfl (by omega) (by omega))) ?_
  refine r_move rfl rfl rfl ?_
  refine r_know 16 (slv (some g) 0 (digs B32 m).length cap) rfl rfl ?_
  refine r_move rfl rfl rfl ?_
  refine r_indexAddr 0 q u161 ti136 rfl rfl rfl rfl rfl (by omega) (by omega) (NV_ne (by rw [row_length]; omega)) (by show 0 + Int.toNat _ * 1 = _; omega) ?_
  refine r_load1 0 (q) ti136 rfl rfl rfl rfl (NV_get ((row_get (by omega)).trans (by rw [shoT_at]))) ?_
  refine r_conv (r := ((m / B32 ^ q % B32 : Nat) : Int)) u136 u116 rfl rfl rfl (c64 _ rfl (by omega)) ?_
  refine r_or (r := ((shoW m y q : Nat) : Int)) rfl rfl rfl rfl (or_u64 32 (B32_mod _) (by rw [Nat.mul_comm]; rfl) hw (by rw [Nat.mul_comm]) rfl) ?_
  refine r_assign rfl rfl rfl (run_nil (at_tn ?_))
  refine at_drawn (l' := [⟨_,_,_,_,_,_⟩, ⟨_,_,_,_,_,_⟩, ⟨_,_,_,_,_,_⟩, ⟨_,_,_,_,_,_⟩, ⟨_,_,_,_,_,_⟩, ⟨_,_,_,_,_,_⟩, ⟨_,_,_,_,_,_⟩, ⟨_,_,_,_,_,_⟩, ⟨_,_,_,_,_,_⟩, ⟨_,_,_,_,_,_⟩, ⟨_,_,_,_,_,_⟩, ⟨_,_,_,_,_,_⟩, ⟨_,_,_,_,_,_⟩, ⟨_,_,_,_,_,_⟩]) [0] [0, 1, 2, 3, 4, 5, 6, 7, 8, 9, 10, 11, 12, 13] mixed (by kernel_rfl) rfl (by kernel_rfl) ?_
  refine r_move rfl rfl rfl (r_move rfl rfl rfl (r_move rfl rfl rfl (r_move rfl rfl rfl ?_)))
  refine r_conv (r := ((y : Nat) : Int)) u136 u116 rfl rfl rfl (c64 _ rfl (by omega)) ?_
  refine r_div (r := ((shoW m y q / y : Nat) : Int)) rfl rfl rfl rfl (by omega) (congrArg some (quo_u _ _ rfl rfl (Nat.lt_of_le_of_lt (Nat.div_le_self _ _) hw))) ?_
  refine r_conv (r := ((shoW m y q / y % 4294967296 : Nat) : Int)) u116 u136 rfl rfl rfl (c32 _ rfl) ?_
  refine r_move rfl rfl rfl (r_move rfl rfl rfl ?_)
  refine r_conv (r := ((y : Nat) : Int)) u136 u116 rfl rfl rfl (c64 _ rfl (by omega)) ?_
  refine r_div (r := ((m / B32 ^ q % y : Nat) : Int)) rfl rfl rfl rfl (by omega) (congrArg some ((rem_n _ _ rfl rfl).trans (by rw [shoW_rem m y q hy]))) ?_
  refine r_indexAddrG (q) u161 ti136 rfl rfl rfl rfl (by omega) (by omega) (by show 0 + Int.toNat _ * 1 = _; omega) ?_
  refine r_store1E 0 (q) (⟨some g, 136, _, N, true⟩ :: R) (NV .u32 (row (digs B32 m).length (shoT m y q))) ti136 rfl rfl rfl rfl rfl rfl rfl rfl (by rw [NV_length, row_length]; omega) (by rw [NV_set, row_set (fun j _ => shoT_step m y q j hy)]) rfl rfl ?_
  refine r_assign rfl rfl rfl (run_nil (at_bn (at_tn (at_region (r_move rfl rfl rfl ?_)))))
  refine r_arith (r := ((q : Nat) : Int) - 1) rfl rfl rfl rfl (congrArg some (wi (by omega) (by omega) (by omega))) ?_
  refine r_assign rfl rfl rfl (run_nil (at_tn ?_))
  exact nextL ⟨q, by omega⟩ (by simp only []; omega) ⟨rfl, rfl, rfl, rfl, trivial⟩ (Weak.refl _)
 ·
  have hp0 : p = 0 := by have := of_decide_eq_false hb1; omega
  subst hp0
  refine at_exit (at_te (at_te (at_be (at_tn (at_seq (at_region (r_move rfl rfl rfl ?_)))))))
  refine r_conv (r := ((m % y : Nat) : Int)) u116 u136 rfl rfl rfl ((c32 _ (by rw [Nat.pow_zero, Nat.div_one])).trans (by rw [Nat.mod_eq_of_lt (Nat.lt_trans (Nat.mod_lt _ hy) hy2)])) ?_
  refine r_assign rfl rfl rfl (run_nil (at_tn (at_ret ?_)))
  refine at_end1 rfl (res_tmp rfl) (fun w hL => ⟨?_, hL⟩)
  exact rfl
set_option maxRecDepth 20000 in
theorem c_nat_shifted (m s : Nat) (hm : nb m ≤ 67108872) (hs : s < 32) (x : SR (digs B32 m).length) : SCall Tryz.prog 127 [⟨x.b, 136, NV .u32 (digs B32 m), x.n, false⟩] [x.v, .int .i64 (s : Nat)] Nat (fun g => slv (some g) 0 ((digs B32 m).length + 1) ((digs B32 m).length + 1)) (fun g => [⟨some g, 136, NV .u32 (row ((digs B32 m).length + 1) (shR (m * 2 ^ s))), (digs B32 m).length + 1, true⟩]) := by
 refine ⟨by kernel_rfl, fun w hL0 => ?_⟩
 have hdm := dig_len_le hm
 refine calls_at (args := [x.v, .int .i64 (s : Nat)]) Tryz.func127 rfl (Nat.le_of_ble_eq_true rfl) hL0 ?_
 show At w ⟨41, [(0, x.v), (1, .int .i64 (s : Nat))], [⟨x.b, 136, NV .u32 (digs B32 m), x.n, false⟩]⟩ _
 refine at_seq (at_region (r_assign rfl rfl rfl (run_nil (at_tn (at_seq (at_region (r_move rfl rfl rfl (r_lenS u161 rfl rfl rfl ?_))))))))
 refine r_arith (r := (((digs B32 m).length + 1 : Nat) : Int)) rfl rfl rfl rfl (congrArg some (wi (by omega) (by omega) (by omega))) ?_
 refine q_makeSlice (c := (digs B32 m).length + 1) (NV .u32 (row ((digs B32 m).length + 1) (shT m s 0))) (fun g => [_, ⟨some g, 136, _, _, true⟩]) u161 el136 rfl rfl rfl rfl rfl rfl (by omega) (by rw [row_congr (g := fun _ => 0) (fun j _ => shT_zero m s j), row_zero, NV_replicate]) (fun _ => rfl) (fun g0 => ?_)
 refine r_assign rfl rfl rfl (run_nil (at_tn (at_seq (at_seq (at_region (r_move rfl rfl rfl (r_lenS u161 rfl rfl rfl (r_move rfl rfl rfl (run_nil (at_tn (at_block ?_)))))))))))
 refine enterL (nt := 41) (ι := {i : Nat // i ≤ (digs B32 m).length}) (fun ⟨i, hi⟩ => [(1, .int .i64 (s : Nat)), (5, slv (some g0) 0 ((digs B32 m).length + 1) ((digs B32 m).length + 1)), (13, x.v), (14, .int .i64 ((digs B32 m).length : Nat)), (15, .int .i64 (i : Nat))]) (fun ⟨i, hi⟩ => [⟨x.b, 136, NV .u32 (digs B32 m), x.n, false⟩, ⟨some g0, 136, NV .u32 (row ((digs B32 m).length + 1) (shT m s i)), (digs B32 m).length + 1, true⟩]) (fun ⟨i, hi⟩ => (digs B32 m).length - i) ⟨0, Nat.zero_le _⟩ ⟨rfl, rfl, rfl, rfl, rfl, trivial⟩ (Weak.refl _) ?_
 rintro ⟨i, hi⟩
 show At _ ⟨41, [(1, .int .i64 (s : Nat)), (5, slv (some g0) 0 ((digs B32 m).length + 1) ((digs B32 m).length + 1)), (13, x.v), (14, .int .i64 ((digs B32 m).length : Nat)), (15, .int .i64 (i : Nat))], [⟨x.b, 136, NV .u32 (digs B32 m), x.n, false⟩, ⟨some g0, 136, NV .u32 (row ((digs B32 m).length + 1) (shT m s i)), (digs B32 m).length + 1, true⟩]⟩ _
 refine at_seq (at_region (r_cmpInt rfl rfl rfl rfl rfl (run_nil (at_tn (at_seq ?_)))))
 refine at_cond rfl (fun hb1 => ?_) (fun hb1 => ?_)
 ·
  have hlt : i < (digs B32 m).length := (by have := of_decide_eq_true hb1; omega)
  have hx1 := B32_mod (m / B32 ^ i)
  refine at_skip (at_tn (at_seq (at_block (at_seq (at_region (r_move rfl rfl rfl ?_))))))
  refine r_indexAddr 0 (i) u161 ti136 rfl rfl rfl rfl rfl (by omega) (by omega) (NV_ne (by omega)) (by show 0 + Int.toNat _ * 1 = _; omega) ?_
  refine r_load1 0 (i) ti136 rfl rfl rfl rfl (NV_get (digs_get B32_two hlt)) ?_
  refine r_assign rfl rfl rfl (r_assign rfl rfl rfl (run_nil (at_tn (at_seq (at_region (r_move rfl rfl rfl ?_))))))
  refine r_conv (r := ((m / B32 ^ i % B32 : Nat) : Int)) u136 u116 rfl rfl rfl (c64 _ rfl (by omega)) ?_
  refine r_move rfl rfl rfl ?_
  refine r_shift (r := ((shW m s i : Nat) : Int)) rfl rfl rfl rfl (by omega) (congrArg some (shl_u _ _ rfl rfl (by omega) (shW_lt m s i hs))) ?_
  refine r_assign rfl rfl rfl (run_nil (at_tn (at_seq (at_region (r_move rfl rfl rfl (r_move rfl rfl rfl ?_))))))
  refine r_indexAddr 1 (i) u161 ti136 rfl rfl rfl rfl rfl (by omega) (by omega) (NV_ne (by rw [row_length]; omega)) (by show 0 + Int.toNat _ * 1 = _; omega) ?_
  refine r_load1 1 (i) ti136 rfl rfl rfl rfl (NV_get (row_get (by omega))) ?_
  refine r_move rfl rfl rfl ?_
  refine r_conv (r := ((shW m s i % 4294967296 : Nat) : Int)) u116 u136 rfl rfl rfl (c32 _ rfl) ?_
  refine r_or (r := ((shT m s (i + 1) i : Nat) : Int)) rfl rfl rfl rfl (sh_or m s i hs) ?_
  refine r_indexAddr 1 (i) u161 ti136 rfl rfl rfl rfl rfl (by omega) (by omega) (NV_ne (by rw [row_length]; omega)) (by show 0 + Int.toNat _ * 1 = _; omega) ?_
  refine r_store1 rfl 1 (i) [_, ⟨some g0, 136, _, _, true⟩] (NV .u32 (row ((digs B32 m).length + 1) (shM m s i))) ti136 rfl rfl rfl rfl rfl rfl rfl rfl (by rw [NV_length, row_length]; omega) (by rw [NV_set, row_set (g := shM m s i) (fun j _ => rfl)]) rfl ?_
  refine run_nil (at_tn (at_region (r_move rfl rfl rfl (r_move rfl rfl rfl ?_))))
  refine r_arith (r := ((i + 1 : Nat) : Int)) rfl rfl rfl rfl (congrArg some (wi (by omega) (by omega) (by omega))) ?_
  refine r_move rfl rfl rfl ?_
  refine r_shift (r := ((shW m s i / 2 ^ 32 : Nat) : Int)) rfl rfl rfl rfl (by omega) (congrArg some (shr_u _ 32 rfl rfl (by omega))) ?_
  refine r_conv (r := ((shW m s i / 2 ^ 32 % 4294967296 : Nat) : Int)) u116 u136 rfl rfl rfl (c32 _ rfl) ?_
  refine r_indexAddr 1 (i + 1) u161 ti136 rfl rfl rfl rfl rfl (by omega) (by omega) (NV_ne (by rw [row_length]; omega)) (by show 0 + Int.toNat _ * 1 = _; omega) ?_
  refine r_store1 rfl 1 (i + 1) [_, ⟨some g0, 136, _, _, true⟩] (NV .u32 (row ((digs B32 m).length + 1) (shT m s (i + 1)))) ti136 rfl rfl rfl rfl rfl rfl rfl rfl (by rw [NV_length, row_length]; omega) (by rw [NV_set, row_set (fun j _ => shT_step m s i j hs)]) rfl ?_
  refine run_nil (at_bn (at_tn (at_region ?_)))
  refine r_arith (r := ((i + 1 : Nat) : Int)) rfl rfl rfl rfl (congrArg some (wi (by omega) (by omega) (by omega))) ?_
  refine r_move rfl rfl rfl (run_nil (at_tn ?_))
  exact nextL ⟨i + 1, hlt⟩ (by simp only []; omega) ⟨rfl, rfl, rfl, rfl, rfl, trivial⟩ (Weak.refl _)
 ·
  have hge : i = (digs B32 m).length := (by have := of_decide_eq_false hb1; omega)
  subst hge
  refine at_exit (at_te (at_te (at_be (at_tn (at_seq (at_region (r_move rfl rfl rfl (r_assign rfl rfl rfl (run_nil (at_tn (at_ret ?_)))))))))))
  refine at_end1 rfl (res_tmp rfl) (fun w hL => ⟨g0, ?_, ?_⟩)
  · rfl
  · rw [row_congr (fun j _ => shT_end m s j)] at hL; exact hL.picks [some 1] ⟨⟨_, rfl, Blk.le_refl _⟩, trivial⟩ rfl rfl
end Go.Proofs.YtncogghlhlnmaaaGreatDoor
