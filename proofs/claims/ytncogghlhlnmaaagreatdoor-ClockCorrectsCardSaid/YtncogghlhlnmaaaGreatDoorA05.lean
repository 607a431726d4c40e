/-
  Part 5: lemmas, and walks through the functions that the laws of chapter 26 call. Each theorem states its own conditions.
-/
import Derived.Test.YtncogghlhlnmaaaGreatDoorProg
import Derived.Shelf.Small.Bits
import Derived.Shelf.Small.Strs
import Derived.Shelf.Strconv.Itoa0
import Derived.Shelf.Bits.Mul64
import Derived.Laws.Externs
import Derived.Lib.ItoaNum
import Derived.Test.YtncogghlhlnmaaaGreatDoorA02
import Derived.Test.YtncogghlhlnmaaaGreatDoorA03
import Derived.Test.YtncogghlhlnmaaaGreatDoorA04
set_option linter.unusedVariables false
set_option linter.unusedVariables false
set_option linter.unusedSimpArgs false
set_option maxRecDepth 20000
namespace Go.Proofs.YtncogghlhlnmaaaGreatDoor
open Go Go.RowKit Go.Via
theorem mixed : Tryz.prog.follows .mixedOrders = true := by kernel_rfl
theorem ti3 : tiOK Tryz.prog 3 ⟨false, 1, []⟩ = true := by kernel_rfl
theorem ti4 : tiOK Tryz.prog 4 ⟨false, 1, []⟩ = true := by kernel_rfl
theorem ti5 : tiOK Tryz.prog 5 ⟨false, 1, []⟩ = true := by kernel_rfl
theorem ti9 : tiOK Tryz.prog 9 ⟨false, 1, []⟩ = true := by kernel_rfl
theorem ti22 : tiOK Tryz.prog 22 ⟨false, 1, []⟩ = true := by kernel_rfl
theorem ti26 : tiOK Tryz.prog 26 ⟨true, 2, [(0, 1), (1, 1)]⟩ = true := by kernel_rfl
theorem ti33 : tiOK Tryz.prog 33 ⟨false, 1, []⟩ = true := by kernel_rfl
theorem ti49 : tiOK Tryz.prog 49 ⟨true, 5, [(0, 1), (1, 1), (2, 1), (3, 1), (4, 1)]⟩ = true := by kernel_rfl
theorem ti59 : tiOK Tryz.prog 59 ⟨true, 8, [(0, 1), (1, 1), (2, 1), (3, 1), (4, 1), (5, 1), (6, 1), (7, 1)]⟩ = true := by kernel_rfl
theorem ti61 : tiOK Tryz.prog 61 ⟨true, 2, [(0, 1), (1, 1)]⟩ = true := by kernel_rfl
theorem ti63 : tiOK Tryz.prog 63 ⟨true, 4, [(0, 2), (2, 2)]⟩ = true := by kernel_rfl
theorem ti76 : tiOK Tryz.prog 76 ⟨true, 3, [(0, 1), (1, 1), (2, 1)]⟩ = true := by kernel_rfl
theorem ti78 : tiOK Tryz.prog 78 ⟨false, 1, []⟩ = true := by kernel_rfl
theorem ti80 : tiOK Tryz.prog 80 ⟨true, 2, [(0, 1), (1, 1)]⟩ = true := by kernel_rfl
theorem ti106 : tiOK Tryz.prog 106 ⟨true, 3, [(0, 1), (1, 1), (2, 1)]⟩ = true := by kernel_rfl
theorem ti136 : tiOK Tryz.prog 136 ⟨false, 1, []⟩ = true := by kernel_rfl
theorem z3 : (Tryz.prog.info? 3).bind (·.zero) = some (.int .i64 0) := by kernel_rfl
theorem z4 : (Tryz.prog.info? 4).bind (·.zero) = some (.bool false) := by kernel_rfl
theorem z26 : (Tryz.prog.info? 26).bind (·.zero) = some (.agg #[.int .i64 0, .int .i64 0]) := by kernel_rfl
theorem z49 : (Tryz.prog.info? 49).bind (·.zero) = some (.agg #[.int .i64 0, .int .i64 0, .int .i64 0, .int .i64 0, .int .i64 0]) := by kernel_rfl
theorem z61 : (Tryz.prog.info? 61).bind (·.zero) = some (.agg #[.bool false, .string ⟨#[]⟩]) := by kernel_rfl
theorem z63 : (Tryz.prog.info? 63).bind (·.zero) = some (.agg #[.bool false, .string ⟨#[]⟩, .bool false, .string ⟨#[]⟩]) := by kernel_rfl
theorem z76 : (Tryz.prog.info? 76).bind (·.zero) = some (.agg #[.slice none 0 0, .slice none 0 0, .int .i64 0]) := by kernel_rfl
theorem z80 : (Tryz.prog.info? 80).bind (·.zero) = some (.agg #[.map none, .map none]) := by kernel_rfl
theorem z106 : (Tryz.prog.info? 106).bind (·.zero) = some (.agg #[.bool false, .slice none 0 0, .slice none 0 0]) := by kernel_rfl
theorem z139 : (Tryz.prog.info? 139).bind (·.zero) = some (.agg #[.int .u8 0, .int .u8 0, .int .u8 0, .int .u8 0, .int .u8 0, .int .u8 0, .int .u8 0, .int .u8 0]) := by kernel_rfl
theorem bd26_0  (w : World) : (Instr.build 26 [].toArray).run Tryz.prog w = .ok (.agg #[.int .i64 0, .int .i64 0]) w := by kernel_rfl
theorem bd26_2 {a0 : Int} {b0 : Int} (w : World) : (Instr.build 26 [(0, .int .i64 a0), (1, .int .i64 b0)].toArray).run Tryz.prog w = .ok (.agg #[.int .i64 a0, .int .i64 b0]) w := by kernel_rfl
theorem bd49_5 {a0 : Int} {b0 : Int} {c0 : Int} {d0 : Int} {e0 : Int} (w : World) : (Instr.build 49 [(0, .int .i64 a0), (1, .int .i64 b0), (2, .int .i64 c0), (3, .int .i64 d0), (4, .int .i64 e0)].toArray).run Tryz.prog w = .ok (.agg #[.int .i64 a0, .int .i64 b0, .int .i64 c0, .int .i64 d0, .int .i64 e0]) w := by kernel_rfl
theorem bd59_3_4x {a0 : Int} {b0 : Int} (w : World) : (Instr.build 59 [(3, .int .i64 a0), (4, .int .i64 b0)].toArray).run Tryz.prog w = .ok (.agg #[.int .i64 0, .int .i64 0, .int .i64 0, .int .i64 a0, .int .i64 b0, .int .i64 0, .int .i64 0, .bool false]) w := by kernel_rfl
theorem bd61_0  (w : World) : (Instr.build 61 [].toArray).run Tryz.prog w = .ok (.agg #[.bool false, .string ⟨#[]⟩]) w := by kernel_rfl
theorem bd61_2 {a0 : Bool} {b0 : ByteArray} (w : World) : (Instr.build 61 [(0, .bool a0), (1, .string b0)].toArray).run Tryz.prog w = .ok (.agg #[.bool a0, .string b0]) w := by kernel_rfl
theorem bd63_0  (w : World) : (Instr.build 63 [].toArray).run Tryz.prog w = .ok (.agg #[.bool false, .string ⟨#[]⟩, .bool false, .string ⟨#[]⟩]) w := by kernel_rfl
theorem bd63_1 {a0 : Bool} {a1 : ByteArray} (w : World) : (Instr.build 63 [(0, .agg #[.bool a0, .string a1])].toArray).run Tryz.prog w = .ok (.agg #[.bool a0, .string a1, .bool false, .string ⟨#[]⟩]) w := by kernel_rfl
theorem bd63_2 {a0 : Bool} {a1 : ByteArray} {b0 : Bool} {b1 : ByteArray} (w : World) : (Instr.build 63 [(0, .agg #[.bool a0, .string a1]), (1, .agg #[.bool b0, .string b1])].toArray).run Tryz.prog w = .ok (.agg #[.bool a0, .string a1, .bool b0, .string b1]) w := by kernel_rfl
theorem bd76_0_2x {a0 : Option Addr} {a0n a0c : Nat} {b0 : Int} (w : World) : (Instr.build 76 [(0, .slice a0 a0n a0c), (2, .int .i64 b0)].toArray).run Tryz.prog w = .ok (.agg #[.slice a0 a0n a0c, .slice none 0 0, .int .i64 b0]) w := by kernel_rfl
theorem bd80_2 {a0 : Option Nat} {b0 : Option Nat} (w : World) : (Instr.build 80 [(0, .map a0), (1, .map b0)].toArray).run Tryz.prog w = .ok (.agg #[.map a0, .map b0]) w := by kernel_rfl
theorem bd106_3 {a0 : Bool} {b0 : Option Addr} {b0n b0c : Nat} {c0 : Option Addr} {c0n c0c : Nat} (w : World) : (Instr.build 106 [(0, .bool a0), (1, .slice b0 b0n b0c), (2, .slice c0 c0n c0c)].toArray).run Tryz.prog w = .ok (.agg #[.bool a0, .slice b0 b0n b0c, .slice c0 c0n c0c]) w := by kernel_rfl
theorem bs22_2 {a0 : Int} {a1 : Int} {a2 : Int} {a3 : Int} {a4 : Int} {b0 : Int} {b1 : Int} {b2 : Int} {b3 : Int} {b4 : Int} (w : World) : (Instr.buildSlice 22 2 [(0, .agg #[.int .i64 a0, .int .i64 a1, .int .i64 a2, .int .i64 a3, .int .i64 a4]), (1, .agg #[.int .i64 b0, .int .i64 b1, .int .i64 b2, .int .i64 b3, .int .i64 b4])].toArray).run Tryz.prog w = .ok (.slice (some ⟨w.heap.size, 0, none⟩) 2 2) (w.alloc (.cells [.int .i64 a0, .int .i64 a1, .int .i64 a2, .int .i64 a3, .int .i64 a4, .int .i64 b0, .int .i64 b1, .int .i64 b2, .int .i64 b3, .int .i64 b4].toArray 49)) := by kernel_rfl
theorem bs33_0  (w : World) : (Instr.buildSlice 33 0 [].toArray).run Tryz.prog w = .ok (.slice (some ⟨w.heap.size, 0, none⟩) 0 0) (w.alloc (.cells [].toArray 3)) := by kernel_rfl
theorem bs33_1 {a0 : Int} (w : World) : (Instr.buildSlice 33 1 [(0, .int .i64 a0)].toArray).run Tryz.prog w = .ok (.slice (some ⟨w.heap.size, 0, none⟩) 1 1) (w.alloc (.cells [.int .i64 a0].toArray 3)) := by kernel_rfl
theorem bs33_2 {a0 : Int} {b0 : Int} (w : World) : (Instr.buildSlice 33 2 [(0, .int .i64 a0), (1, .int .i64 b0)].toArray).run Tryz.prog w = .ok (.slice (some ⟨w.heap.size, 0, none⟩) 2 2) (w.alloc (.cells [.int .i64 a0, .int .i64 b0].toArray 3)) := by kernel_rfl
theorem el3 : elB Tryz.prog 3 1 (.int .i64 0) := by exact ⟨by kernel_rfl, by decide⟩
theorem el5 : elB Tryz.prog 5 1 (.int .u8 0) := by exact ⟨by kernel_rfl, by decide⟩
theorem el136 : elB Tryz.prog 136 1 (.int .u32 0) := by exact ⟨by kernel_rfl, by decide⟩
theorem gd26 : Tryz.prog.eqGuardType Tryz.prog.depth 26 = false := by kernel_rfl
theorem gd61 : Tryz.prog.eqGuardType Tryz.prog.depth 61 = false := by kernel_rfl
theorem gd63 : Tryz.prog.eqGuardType Tryz.prog.depth 63 = false := by kernel_rfl
theorem u2 : Tryz.prog.underlying 2 = some (.int .i64) := by kernel_rfl
theorem u3 : Tryz.prog.underlying 3 = some (.int .i64) := by kernel_rfl
theorem u4 : Tryz.prog.underlying 4 = some .bool := by kernel_rfl
theorem u5 : Tryz.prog.underlying 5 = some (.int .u8) := by kernel_rfl
theorem u9 : Tryz.prog.underlying 9 = some .string := by kernel_rfl
theorem u22 : Tryz.prog.underlying 22 = some (.slice 49) := by kernel_rfl
theorem u33 : Tryz.prog.underlying 33 = some (.slice 3) := by kernel_rfl
theorem u40 : Tryz.prog.underlying 40 = some (.array 2 3) := by kernel_rfl
theorem u78 : Tryz.prog.underlying 78 = some (.map 3 3) := by kernel_rfl
theorem u88 : Tryz.prog.underlying 88 = some (.map 3 4) := by kernel_rfl
theorem u116 : Tryz.prog.underlying 116 = some (.int .u64) := by kernel_rfl
theorem u122 : Tryz.prog.underlying 122 = some (.slice 5) := by kernel_rfl
theorem u136 : Tryz.prog.underlying 136 = some (.int .u32) := by kernel_rfl
theorem u139 : Tryz.prog.underlying 139 = some (.array 8 5) := by kernel_rfl
theorem u161 : Tryz.prog.underlying 161 = some (.slice 136) := by kernel_rfl
theorem eq61r (a a' : Bool) (b b' : ByteArray) (w : World) : (Op.equalIn 10000 61 (.agg #[.bool a, .string b]) (.agg #[.bool a', .string b'])).run Tryz.prog w = .ok ((a == a') && (b == b')) w := by
  simp only [beq_toListBytes]
  simp [go_sem]
  (repeat' split) <;> simp_all
theorem eq63r (a a' c c' : Bool) (b b' d d' : ByteArray) (w : World) : (Op.equalIn 10000 63 (.agg #[.bool a, .string b, .bool c, .string d]) (.agg #[.bool a', .string b', .bool c', .string d'])).run Tryz.prog w =
    .ok ((a == a') && ((b == b') && ((c == c') && (d == d')))) w := by
  simp only [beq_toListBytes]
  simp [go_sem]
  (repeat' split) <;> simp_all
theorem eq61 (x y : Int) (w : World) : (Op.equalIn 10000 61 (I x) (I y)).run Tryz.prog w = .ok (decide (x = y)) w := by
  rw [← I_eq]; exact eq61r _ _ _ _ w
theorem eq63 (p q : Rat) (w : World) : (Op.equalIn 10000 63 (Q p) (Q q)).run Tryz.prog w = .ok (decide (p = q)) w := by
  refine (eq63r _ _ _ _ _ _ _ _ w).trans ?_
  rw [← Q_eq]
  congr 1
  simp [Bool.and_assoc]
end Go.Proofs.YtncogghlhlnmaaaGreatDoor
set_option linter.unusedVariables false
namespace Go.Via
open Go
theorem mag_at (n i : Nat) (h : i < nb n) : (mag n).data.toList[((i : Int)).toNat]? = some (UInt8.ofNat (n / 256 ^ (nb n - 1 - i) % 256)) := by
  rw [Int.toNat_natCast, mag_list]; exact magL_getElem? n i h
theorem u8_nat (n : Nat) : (((UInt8.ofNat (n % 256)).toNat : Nat) : Int) = ((n % 256 : Nat) : Int) := by
  simp
theorem word_zero (n : Nat) : Value.int .u64 0 = .int .u64 ((n / 256 ^ (nb n - 0) : Nat) : Int) := by
  rw [Nat.sub_zero, Nat.div_eq_of_lt (lt_nb n)]; rfl
theorem word_lt (n i : Nat) (hi : i ≤ nb n) : n / 256 ^ (nb n - i) < 256 ^ i := by
  rw [Nat.div_lt_iff_lt_mul (Nat.pow_pos (by omega)), ← Nat.pow_add, show i + (nb n - i) = nb n by omega]; exact lt_nb n
theorem pow256_le {i k : Nat} (h : i ≤ k) : 256 ^ i ≤ 256 ^ k := Nat.pow_le_pow_right (by omega) h
theorem word_shl (n i : Nat) (hi : i ≤ nb n) (hlt : i < nb n) (h8 : nb n ≤ 8) : n / 256 ^ (nb n - i) * 2 ^ 8 < 18446744073709551616 := by
  have h1 := word_lt n i hi
  have h2 : 256 ^ i ≤ 256 ^ 7 := pow256_le (by omega)
  omega
theorem word_step (n i : Nat) (hlt : i < nb n) : n / 256 ^ (nb n - (i + 1)) = n / 256 ^ (nb n - i) * 256 + n / 256 ^ (nb n - 1 - i) % 256 := by
  have e : nb n - i = (nb n - (i + 1)) + 1 := by omega
  have e2 : nb n - 1 - i = nb n - (i + 1) := by omega
  rw [e, e2, Nat.pow_succ, ← Nat.div_div_eq_div_mul]
  omega
theorem word_or (n i : Nat) (hi : i ≤ nb n) (hlt : i < nb n) (h8 : nb n ≤ 8) :
    IntKind.u64.wrap ((BitVec.ofInt IntKind.u64.bits ((n / 256 ^ (nb n - i) * 2 ^ 8 : Nat) : Int) ||| BitVec.ofInt IntKind.u64.bits ((n / 256 ^ (nb n - 1 - i) % 256 : Nat) : Int)).toNat) = ((n / 256 ^ (nb n - (i + 1)) : Nat) : Int) := by
  have h1 := word_step n i hlt
  have h2 := word_lt n (i + 1) hlt
  have h3 : 256 ^ (i + 1) ≤ 256 ^ 8 := pow256_le (by omega)
  exact or_u64 (m := n / 256 ^ (nb n - i)) 8 (by omega) (by omega) (by omega) (by rw [Nat.mul_comm]) rfl
/-! ### rows given digit by digit -/
def row (n : Nat) (f : Nat → Nat) : List Nat := (List.range n).map f
theorem row_length (n : Nat) (f : Nat → Nat) : (row n f).length = n := by simp [row]
theorem row_get {n : Nat} {f : Nat → Nat} {i : Nat} (h : i < n) : (row n f)[i]? = some (f i) := by simp [row, h]
theorem row_congr {n : Nat} {f g : Nat → Nat} (h : ∀ j, j < n → f j = g j) : row n f = row n g := by
  unfold row; exact List.map_congr_left fun j hj => h j (List.mem_range.1 hj)
theorem row_set {n : Nat} {f g : Nat → Nat} {i v : Nat} (h : ∀ j, j < n → g j = if j = i then v else f j) : (row n f).set i v = row n g := by
  apply List.ext_getElem?
  intro j
  by_cases hj : j < n
  · rw [row_get hj, h j hj]
    by_cases e : i = j
    · subst e; rw [List.getElem?_set_self (by rw [row_length]; exact hj)]; simp
    · rw [List.getElem?_set_ne e, row_get hj, if_neg (Ne.symm e)]
  · rw [List.getElem?_eq_none (by simp [row_length]; omega), List.getElem?_eq_none (by rw [row_length]; omega)]
theorem digs_row {B : Nat} (hB : 2 ≤ B) (n : Nat) : digs B n = row (digs B n).length (fun j => n / B ^ j % B) := by
  apply List.ext_getElem?
  intro j
  by_cases hj : j < (digs B n).length
  · rw [row_get hj, digs_getElem? hB n j hj]
  · rw [List.getElem?_eq_none (by omega), List.getElem?_eq_none (by rw [row_length]; omega)]
theorem val_row (B : Nat) (hB : 1 ≤ B) (n : Nat) : ∀ k, val B (row k (fun j => n / B ^ j % B)) = n % B ^ k
  | 0 => by simp [row, val, Nat.mod_one]
  | k + 1 => by
    have e : row (k + 1) (fun j => n / B ^ j % B) = row k (fun j => n / B ^ j % B) ++ [n / B ^ k % B] := by simp [row, List.range_succ]
    rw [e, val_snoc, row_length, val_row B hB n k, Nat.pow_succ, Nat.mod_mul]
theorem row_lt {B n : Nat} {f : Nat → Nat} (h : ∀ j, f j < B) : ∀ d ∈ row n f, d < B := by
  intro d hd; obtain ⟨j, _, rfl⟩ := List.mem_map.1 hd; exact h j
theorem row_zero (n : Nat) : row n (fun _ => 0) = List.replicate n 0 := by
  apply List.ext_getElem?
  intro j
  by_cases hj : j < n
  · rw [row_get hj]; simp [hj]
  · rw [List.getElem?_eq_none (by rw [row_length]; omega), List.getElem?_eq_none (by simp; omega)]
theorem weak_eq {L L' : List Blk} (h : L = L') : Weak L L' := h ▸ Weak.refl _
/-! ### magnitude -/
def magT (u i j : Nat) : Nat := if j < nb u ∧ nb u - 1 - j < i then u / 256 ^ (nb u - 1 - j) % 256 else 0
theorem magT_zero (u : Nat) : NV .u8 (row 8 (magT u 0)) = [.int .u8 0, .int .u8 0, .int .u8 0, .int .u8 0, .int .u8 0, .int .u8 0, .int .u8 0, .int .u8 0] := by
  rw [row_congr (g := fun _ => 0) (fun j _ => by simp [magT]), row_zero]; rfl
theorem magT_step (u i : Nat) (hi : i < nb u) : (NV .u8 (row 8 (magT u i))).set (nb u - 1 - i) (.int .u8 ((u / 2 ^ (8 * i) % 256 : Nat) : Int)) = NV .u8 (row 8 (magT u (i + 1))) := by
  rw [NV_set, row_set (g := magT u (i + 1))]
  intro j _
  unfold magT
  by_cases e : j = nb u - 1 - i
  · subst e
    rw [if_pos rfl, if_pos (by omega), show nb u - 1 - (nb u - 1 - i) = i by omega, Nat.pow_mul]
  · rw [if_neg e]
    by_cases c : j < nb u ∧ nb u - 1 - j < i
    · rw [if_pos c, if_pos (by omega)]
    · rw [if_neg c, if_neg (by omega)]
theorem magT_end (u : Nat) (h8 : nb u ≤ 8) : (NV .u8 (row 8 (magT u (nb u)))).take (nb u) = NV .u8 (digs 256 u).reverse := by
  rw [NV_take]
  congr 1
  apply List.ext_getElem?
  intro j
  by_cases hj : j < nb u
  · rw [List.getElem?_take, if_pos hj, row_get (by omega)]
    rw [List.getElem?_reverse (by exact hj)]
    have e := digs_getElem? (B := 256) (by omega) u (nb u - 1 - j) (by unfold nb at *; omega)
    unfold nb at e hj ⊢
    rw [e]
    unfold magT
    rw [if_pos (by unfold nb; omega)]; rfl
  · rw [List.getElem?_eq_none (by simp; omega), List.getElem?_eq_none (by simp; unfold nb at hj; omega)]
theorem strN_mag (u : Nat) : strN (digs 256 u).reverse = mag u := rfl
theorem nb_le8 {u : Nat} (h : u < 18446744073709551616) : nb u ≤ 8 := nb_le (by omega)
theorem nb_pos {u : Nat} (h : u ≠ 0) : 0 < nb u := by have := nb_eq_zero (n := u); omega
end Go.Via
set_option linter.unusedVariables false
set_option linter.unusedSimpArgs false
namespace Go.Via
open Go
theorem or_u32' {m n r : Nat} (i : Nat) (hn : n < 2 ^ i) (hr : n + 2 ^ i * m = r) (hb : r < 4294967296) {x y : Int} (hx : x = (n : Int)) (hy : y = ((2 ^ i * m : Nat) : Int)) :
    IntKind.u32.wrap ((BitVec.ofInt IntKind.u32.bits x ||| BitVec.ofInt IntKind.u32.bits y).toNat) = (r : Int) := by
  rw [BitVec.or_comm]; exact or_u32 i hn (by omega) hb hy hx
/-! ### digits to the base 2^32 -/
def B32 : Nat := 4294967296
theorem B32_two : 2 ≤ B32 := by decide
theorem B32_pow (j : Nat) : B32 ^ j = 256 ^ (4 * j) := by rw [show B32 = 256 ^ 4 from rfl, ← Nat.pow_mul]
theorem digB_len (n : Nat) : (digs B32 n).length = (nb n + 3) / 4 := by
  have e1 : (digs B32 n).length ≤ (nb n + 3) / 4 := digs_length_le B32_two (by
    rw [B32_pow]; exact Nat.lt_of_lt_of_le (lt_nb n) (pow256_le (by omega)))
  have e2 : (nb n + 3) / 4 ≤ (digs B32 n).length := by
    by_cases h0 : nb n = 0
    · rw [h0]; omega
    · have hn : nb n ≤ 4 * (digs B32 n).length := nb_le (by rw [← B32_pow]; exact lt_pow_digs B32_two n)
      omega
  omega
def digT (n i j : Nat) : Nat := n % 256 ^ i / 256 ^ (4 * j) % B32
theorem digT_zero (n j : Nat) : digT n 0 j = 0 := by simp [digT, Nat.mod_one]
theorem digT_end (n : Nat) : row ((nb n + 3) / 4) (digT n (nb n)) = digs B32 n := by
  rw [digs_row B32_two n, digB_len]
  refine row_congr fun j _ => ?_
  unfold digT
  rw [Nat.mod_eq_of_lt (lt_nb n), B32_pow]
theorem mod_succ256 (n i : Nat) : n % 256 ^ (i + 1) = n % 256 ^ i + 256 ^ i * (n / 256 ^ i % 256) := by rw [Nat.pow_succ, Nat.mod_mul]
theorem digT_low (n i : Nat) : digT n i (i / 4) < 2 ^ (8 * (i % 4)) := by
  unfold digT
  have h1 : n % 256 ^ i / 256 ^ (4 * (i / 4)) < 256 ^ (i % 4) := by
    rw [Nat.div_lt_iff_lt_mul (Nat.pow_pos (by omega)), ← Nat.pow_add, show i % 4 + 4 * (i / 4) = i by omega]
    exact Nat.mod_lt _ (Nat.pow_pos (by omega))
  have e2 : 2 ^ (8 * (i % 4)) = 256 ^ (i % 4) := by rw [Nat.pow_mul]
  rw [e2]
  exact Nat.lt_of_le_of_lt (Nat.mod_le _ _) h1
theorem digT_sum (n i : Nat) : digT n i (i / 4) + 2 ^ (8 * (i % 4)) * (n / 256 ^ i % 256) < 4294967296 := by
  have h1 := digT_low n i
  have h2 : n / 256 ^ i % 256 < 256 := Nat.mod_lt _ (by omega)
  have h3 : 2 ^ (8 * (i % 4)) * (n / 256 ^ i % 256 + 1) ≤ 2 ^ (8 * (i % 4)) * 256 := Nat.mul_le_mul_left _ h2
  have h4 : 2 ^ (8 * (i % 4)) * 256 ≤ 4294967296 := by
    have : i % 4 = 0 ∨ i % 4 = 1 ∨ i % 4 = 2 ∨ i % 4 = 3 := by omega
    rcases this with e | e | e | e <;> rw [e] <;> decide
  rw [Nat.mul_add] at h3
  omega
theorem digT_step (n i j : Nat) : digT n (i + 1) j = if j = i / 4 then digT n i j + 2 ^ (8 * (i % 4)) * (n / 256 ^ i % 256) else digT n i j := by
  have hb : n / 256 ^ i % 256 < 256 := Nat.mod_lt _ (by omega)
  have hA : n % 256 ^ i < 256 ^ i := Nat.mod_lt _ (Nat.pow_pos (by omega))
  split
  · rename_i e
    subst e
    have hs := digT_sum n i
    have hl := digT_low n i
    unfold digT at *
    rw [mod_succ256]
    generalize n / 256 ^ i % 256 = b at *
    have e1 : 256 ^ i * b = 256 ^ (4 * (i / 4)) * (256 ^ (i % 4) * b) := by
      rw [← Nat.mul_assoc, ← Nat.pow_add, show 4 * (i / 4) + i % 4 = i by omega]
    rw [e1, Nat.add_mul_div_left _ _ (Nat.pow_pos (by omega))]
    have e2 : 2 ^ (8 * (i % 4)) = 256 ^ (i % 4) := by rw [Nat.pow_mul]
    rw [e2] at hs hl ⊢
    have h1 : n % 256 ^ i / 256 ^ (4 * (i / 4)) < 256 ^ (i % 4) := by
      rw [Nat.div_lt_iff_lt_mul (Nat.pow_pos (by omega)), ← Nat.pow_add, show i % 4 + 4 * (i / 4) = i by omega]; exact hA
    have h2 : 256 ^ (i % 4) ≤ B32 := by
      have : 256 ^ (i % 4) ≤ 256 ^ 4 := pow256_le (by omega)
      exact this
    have h3 : n % 256 ^ i / 256 ^ (4 * (i / 4)) % B32 = n % 256 ^ i / 256 ^ (4 * (i / 4)) := Nat.mod_eq_of_lt (by omega)
    rw [h3] at hs ⊢
    exact Nat.mod_eq_of_lt hs
  · rename_i e
    unfold digT
    rw [mod_succ256]
    generalize n / 256 ^ i % 256 = b at *
    by_cases h : j < i / 4
    · have e1 : 256 ^ i * b = 256 ^ (4 * j) * (B32 * (256 ^ (i - 4 * j - 4) * b)) := by
        rw [show B32 = 256 ^ 4 from rfl, ← Nat.mul_assoc, ← Nat.mul_assoc, ← Nat.pow_add, ← Nat.pow_add, show 4 * j + 4 + (i - 4 * j - 4) = i by omega]
      rw [e1, Nat.add_mul_div_left _ _ (Nat.pow_pos (by omega)), Nat.add_mul_mod_self_left]
    · have h1 : i + 1 ≤ 4 * j := by omega
      have h2 : 256 ^ (i + 1) ≤ 256 ^ (4 * j) := pow256_le h1
      have h3 : n % 256 ^ i + 256 ^ i * b < 256 ^ (4 * j) := by
        have : 256 ^ i * (b + 1) ≤ 256 ^ i * 256 := Nat.mul_le_mul_left _ hb
        rw [Nat.mul_add] at this
        rw [Nat.pow_succ] at h2
        omega
      rw [Nat.div_eq_of_lt h3, Nat.div_eq_of_lt (by omega)]
/-! ### the bytes of a number, the highest first, with zeros ahead -/
def bytT (n M p j : Nat) : Nat := if M - 1 - j < p then n / 256 ^ (M - 1 - j) % 256 else 0
theorem bytT_zero (n M j : Nat) : bytT n M 0 j = 0 := by simp [bytT]
theorem bytT_step (n M p v : Nat) (hp : p < M) (hv : v = n / 256 ^ p % 256) : (NV .u8 (row M (bytT n M p))).set (M - 1 - p) (.int .u8 (v : Int)) = NV .u8 (row M (bytT n M (p + 1))) := by
  rw [NV_set, row_set (g := bytT n M (p + 1))]
  intro j hj
  unfold bytT
  by_cases e : j = M - 1 - p
  · subst e; rw [if_pos rfl, if_pos (by omega), show M - 1 - (M - 1 - p) = p by omega, hv]
  · rw [if_neg e]
    by_cases c : M - 1 - j < p
    · rw [if_pos c, if_pos (by omega)]
    · rw [if_neg c, if_neg (by omega)]
theorem natL_zero_cons (l : List UInt8) : natL (0 :: l) = natL l := by
  unfold natL; rw [List.reverse_cons, List.map_append, val_append]; simp [val]
theorem natL_dropWhile : ∀ l : List UInt8, natL (l.dropWhile (· == 0)) = natL l
  | [] => rfl
  | x :: l => by
    by_cases h : x = 0
    · subst h; rw [List.dropWhile_cons_of_pos (by rfl), natL_zero_cons]; exact natL_dropWhile l
    · rw [List.dropWhile_cons_of_neg (by simpa using h)]
theorem head_dropWhile : ∀ l : List UInt8, (l.dropWhile (· == 0)).head? ≠ some 0
  | [] => by simp
  | x :: l => by
    by_cases h : x = 0
    · subst h; rw [List.dropWhile_cons_of_pos (by rfl)]; exact head_dropWhile l
    · rw [List.dropWhile_cons_of_neg (by simpa using h)]; simpa using h
def strU (l : List UInt8) : ByteArray := ⟨l.toArray⟩
theorem strU_size (l : List UInt8) : (strU l).size = l.length := by show l.toArray.size = _; simp
theorem bytT_trim (n M : Nat) (h : n < 256 ^ M) : strU (((row M (bytT n M M)).map UInt8.ofNat).dropWhile (· == 0)) = mag n := by
  have e1 : natL ((row M (bytT n M M)).map UInt8.ofNat) = n := by
    unfold natL
    have e2 : ((row M (bytT n M M)).map UInt8.ofNat).reverse.map UInt8.toNat = row M (fun j => n / 256 ^ j % 256) := by
      rw [← List.map_reverse, map_toNat_ofNat]
      · apply List.ext_getElem?
        intro j
        by_cases hj : j < M
        · rw [List.getElem?_reverse (by rw [row_length]; exact hj), row_length, row_get (by omega), row_get hj]
          unfold bytT
          rw [if_pos (by omega), show M - 1 - (M - 1 - j) = j by omega]
        · rw [List.getElem?_eq_none (by simp [row_length]; omega), List.getElem?_eq_none (by rw [row_length]; omega)]
      · intro d hd
        rw [List.mem_reverse] at hd
        exact row_lt (B := 256) (fun j => by unfold bytT; split <;> omega) d hd
    rw [e2, val_row 256 (by omega), Nat.mod_eq_of_lt h]
  have e3 := magL_natL (head_dropWhile ((row M (bytT n M M)).map UInt8.ofNat))
  rw [natL_dropWhile, e1] at e3
  unfold strU mag
  rw [e3]
theorem strN_eq (l : List Nat) : strN l = strU (l.map UInt8.ofNat) := rfl
theorem digs_get {B n i : Nat} (hB : 2 ≤ B) (h : i < (digs B n).length) : (digs B n)[i]? = some (n / B ^ i % B) := digs_getElem? hB n i h
/-- byte k of digit i -/
theorem digit_byte (n i k : Nat) (hk : k < 4) : n / B32 ^ i % B32 / 2 ^ (8 * k) % 256 = n / 256 ^ (4 * i + k) % 256 := by
  have e : B32 = 256 ^ k * 256 ^ (4 - k) := by rw [← Nat.pow_add, show k + (4 - k) = 4 by omega]; rfl
  have e8 : 2 ^ (8 * k) = 256 ^ k := by rw [Nat.pow_mul]
  rw [B32_pow, e, Nat.mod_mul, e8, Nat.add_mul_div_left _ _ (Nat.pow_pos (by omega)), Nat.div_eq_of_lt (Nat.mod_lt _ (Nat.pow_pos (by omega))), Nat.zero_add, Nat.div_div_eq_div_mul, ← Nat.pow_add]
  have e2 : 256 ^ (4 - k) = 256 * 256 ^ (3 - k) := by rw [show 4 - k = (3 - k) + 1 by omega, Nat.pow_succ, Nat.mul_comm]
  rw [e2, Nat.mod_mul, Nat.add_mul_mod_self_left, Nat.mod_mod]
theorem trim_len {B : Nat} (hB : 2 ≤ B) {l : List Nat} (hl : ∀ d ∈ l, d < B) {m : Nat} (hm : m ≤ l.length) (hv : val B (l.take m) = val B l) (hz : m = 0 ∨ ∃ h : m - 1 < l.length, l[m - 1] ≠ 0) : m = (digs B (val B l)).length := by
  rw [← trim_end hB hl hm hv hz, List.length_take]; omega
theorem trim_step' {B : Nat} {l : List Nat} {m : Nat} (h0 : 0 < m) (hm : m ≤ l.length) (hv : val B (l.take m) = val B l) (h : m - 1 < l.length) (hz : l[m - 1] = 0) : val B (l.take (m - 1)) = val B l := by
  obtain ⟨k, rfl⟩ : ∃ k, m = k + 1 := ⟨m - 1, by omega⟩
  exact trim_step hm hv (by simpa using hz)
/-- what is left over of a row when it is trimmed -/
theorem trim_take {B : Nat} (hB : 2 ≤ B) : ∀ {l : List Nat}, (∀ d ∈ l, d < B) → l.take (digs B (val B l)).length = digs B (val B l) := by
  have key : ∀ (n : Nat) (l : List Nat), l.length = n → (∀ d ∈ l, d < B) → ∃ m, m ≤ l.length ∧ l.take m = digs B (val B l) := by
    intro n
    induction n with
    | zero => intro l hl h; have : l = [] := List.eq_nil_of_length_eq_zero hl; subst this; exact ⟨0, by simp, by simp [val, digs_zero]⟩
    | succ n ih =>
      intro l hl h
      by_cases hz : l[n]'(by omega) = 0
      · have e : l = l.take n ++ [0] := by
          conv => lhs; rw [← List.take_append_drop n l]
          rw [List.drop_eq_getElem_cons (by omega), hz, List.drop_eq_nil_of_le (by omega)]
        obtain ⟨m, h1, h2⟩ := ih (l.take n) (by simp; omega) (all_take h n)
        have hv : val B l = val B (l.take n) := by
          conv => lhs; rw [e]
          rw [val_snoc]; omega
        refine ⟨m, by simp at h1; omega, ?_⟩
        rw [hv, ← h2, List.take_take]; congr 1; simp at h1; omega
      · exact ⟨n + 1, by omega, trim_end hB h (by omega) (by rw [List.take_of_length_le (by omega)]) (.inr ⟨by omega, by simpa using hz⟩)⟩
  intro l h
  obtain ⟨m, h1, h2⟩ := key _ l rfl h
  have : m = (digs B (val B l)).length := by rw [← h2, List.length_take]; omega
  rw [← this]; exact h2
end Go.Via
/-
  DERIVED: THE SHELF's CONTRACTS AT THIS DUMP, IN PLAIN WORDS (tools/lay-plain.mjs out of 'TryzShelf.lean', which tools/lay-shelf.mjs wrote): THE SAME DECLARATIONS UNDER THE SAME NAMES: 'import', 'namespace', 'open', 'def', 'theorem' AND NOTHING ELSE: no command of the shelf's: FOR A HAND-IN. Each laying: the table of numbers ('.._ren') and one theorem, a field a fact of the dump's own or the kernel's comparison; each contract: ONE APPLICATION.
-/
namespace Go.Proofs
open Go.Shelf
def Tryz.lays133_ren : Go.Shelf.Ren := ⟨fun | 133 => 126 | 128 => 95 | n => n, fun | 51 => 136 | 3 => 3 | 4 => 4 | 46 => 99 | 5 => 5 | 9 => 9 | n => n, fun | n => n⟩
theorem Tryz.lays133 : Go.Proofs.Lays.n133 Tryz.prog Tryz.lays133_ren := {
  mixed := by kernel_rfl
  f128 := Tryz.func95.trans (congrArg some (by kernel_rfl))
  f133 := Tryz.func126.trans (congrArg some (by kernel_rfl))
  t3 := Tryz.underlying3
  a3 := Tryz.isAgg3
  z3 := Tryz.sizeOf3
  v3 := Tryz.zeroValue3
  t4 := Tryz.underlying4
  a4 := Tryz.isAgg4
  z4 := Tryz.sizeOf4
  v4 := Tryz.zeroValue4
  t5 := Tryz.underlying5
  a5 := Tryz.isAgg5
  z5 := Tryz.sizeOf5
  v5 := Tryz.zeroValue5
  t9 := Tryz.underlying9
  a9 := Tryz.isAgg9
  z9 := Tryz.sizeOf9
  v9 := Tryz.zeroValue9
  t46 := Tryz.underlying99
  a46 := Tryz.isAgg99
  z46 := Tryz.sizeOf99
  v46 := Tryz.zeroValue99
  t51 := Tryz.underlying136
  a51 := Tryz.isAgg136
  z51 := Tryz.sizeOf136
  v51 := Tryz.zeroValue136 }
/-- bits.LeadingZeros32: "LeadingZeros32 returns the number of leading zero bits in x; the result is 32 for x == 0.": IT RETURNS '32 - Lib.bitLen x'; the world is as it was. ITS CALLEE bits.Len32 IS MET BY ITS OWN CONTRACT OFF THE SHELF (lay that first): entered in place it sends the kernel out of memory. (LAID: no walk: one application.) -/
theorem Tryz.bits_LeadingZeros32 (x : Int) (w : World) (h0 : 0 ≤ x) (h1 : x ≤ 4294967295) :
    Calls Tryz.prog 126 #[.int .u32 x] w fun e w' => e = .returned (.int .i64 (32 - (Lib.bitLen x.toNat : Int))) ∧ w' = w := Any.bits_LeadingZeros32 Tryz.lays133 x w h0 h1
def Tryz.lays106_ren : Go.Shelf.Ren := ⟨fun | 106 => 122 | 213 => 131 | 265 => 136 | n => n, fun | 9 => 9 | 3 => 3 | n => n, fun | n => n⟩
theorem Tryz.lays106 : Go.Proofs.Lays.n106 Tryz.prog Tryz.lays106_ren := {
  mixed := by kernel_rfl
  f106 := Tryz.func122.trans (congrArg some (by kernel_rfl))
  f213 := Tryz.func131.trans (congrArg some (by kernel_rfl))
  f265 := Tryz.func136.trans (congrArg some (by kernel_rfl))
  t3 := Tryz.underlying3
  a3 := Tryz.isAgg3
  z3 := Tryz.sizeOf3
  v3 := Tryz.zeroValue3
  t9 := Tryz.underlying9
  a9 := Tryz.isAgg9
  z9 := Tryz.sizeOf9
  v9 := Tryz.zeroValue9 }
open Go.RowKit in
/-- strings.Compare: "Compare returns an integer comparing two strings lexicographically. The result will be 0 if a == b, -1 if a < b, and +1 if a > b.": IT RETURNS 'Lib.compareBytes a b'; the world is as it was. (LAID: no walk: one application.) -/
theorem Tryz.strings_Compare (a b : ByteArray) (w : World) :
    Calls Tryz.prog 122 #[.string a, .string b] w fun e w' => e = .returned (.int .i64 (Lib.compareBytes a.data.toList b.data.toList)) ∧ w' = w := Any.strings_Compare Tryz.lays106 a b w
def Tryz.lays129_ren : Go.Shelf.Ren := ⟨fun | 129 => 96 | n => n, fun | 53 => 116 | 3 => 3 | 4 => 4 | 46 => 99 | 5 => 5 | 9 => 9 | n => n, fun | n => n⟩
theorem Tryz.lays129 : Go.Proofs.Lays.n129 Tryz.prog Tryz.lays129_ren := {
  mixed := by kernel_rfl
  f129 := Tryz.func96.trans (congrArg some (by kernel_rfl))
  t3 := Tryz.underlying3
  a3 := Tryz.isAgg3
  z3 := Tryz.sizeOf3
  v3 := Tryz.zeroValue3
  t4 := Tryz.underlying4
  a4 := Tryz.isAgg4
  z4 := Tryz.sizeOf4
  v4 := Tryz.zeroValue4
  t5 := Tryz.underlying5
  a5 := Tryz.isAgg5
  z5 := Tryz.sizeOf5
  v5 := Tryz.zeroValue5
  t9 := Tryz.underlying9
  a9 := Tryz.isAgg9
  z9 := Tryz.sizeOf9
  v9 := Tryz.zeroValue9
  t46 := Tryz.underlying99
  a46 := Tryz.isAgg99
  z46 := Tryz.sizeOf99
  v46 := Tryz.zeroValue99
  t53 := Tryz.underlying116
  a53 := Tryz.isAgg116
  z53 := Tryz.sizeOf116
  v53 := Tryz.zeroValue116 }
/-- bits.Len64: "Len64 returns the minimum number of bits required to represent x; the result is 0 for x == 0.": IT RETURNS 'Lib.bitLen x'; the world is as it was. ('h0', 'h1': x is a uint64.) (LAID: no walk: one application.) -/
theorem Tryz.bits_Len64 (x : Int) (w : World) (h0 : 0 ≤ x) (h1 : x ≤ 18446744073709551615) :
    Calls Tryz.prog 96 #[.int .u64 x] w fun e w' => e = .returned (.int .i64 (Lib.bitLen x.toNat)) ∧ w' = w := Any.bits_Len64 Tryz.lays129 x w h0 h1
def Tryz.lays264_ren : Go.Shelf.Ren := ⟨fun | 264 => 128 | n => n, fun | 53 => 116 | 46 => 99 | n => n, fun | n => n⟩
theorem Tryz.lays264 : Go.Proofs.Lays.n264 Tryz.prog Tryz.lays264_ren := {
  mixed := by kernel_rfl
  f264 := Tryz.func128.trans (congrArg some (by kernel_rfl))
  t46 := Tryz.underlying99
  a46 := Tryz.isAgg99
  z46 := Tryz.sizeOf99
  v46 := Tryz.zeroValue99
  t53 := Tryz.underlying116
  a53 := Tryz.isAgg116
  z53 := Tryz.sizeOf116
  v53 := Tryz.zeroValue116 }
open Go.RowKit Go.Lib in
theorem Tryz.bits_Mul64 (x y : Nat) (hx : x < 18446744073709551616) (hy : y < 18446744073709551616) (w : World) :
    Calls Tryz.prog 128 #[.int .u64 x, .int .u64 y] w fun e w' => e = .returned (.tuple #[.int .u64 ((x * y / 18446744073709551616 : Nat) : Int), .int .u64 ((x * y % 18446744073709551616 : Nat) : Int)]) ∧ w' = w := Any.bits_Mul64 Tryz.lays264 x y hx hy w
end Go.Proofs
set_option linter.unusedVariables false
namespace Go.Via
open Go Go.RowKit
theorem pcall_of {P : Program} {f : Nat} {args : Array Value} {v : Value} (hp : plainF P f = true) (h : ∀ w, Calls P f args w fun e w' => e = .returned v ∧ w' = w) : PCall P f args v :=
  ⟨hp, fun w => (h w).mono (by rintro e w' ⟨h1, rfl⟩; exact ⟨h1, Below.refl _ _⟩)⟩
theorem bitLen_bounds {x : Nat} (h : x < 2 ^ 64) (h0 : x ≠ 0) : 1 ≤ Lib.bitLen x ∧ 2 ^ (Lib.bitLen x - 1) ≤ x ∧ x < 2 ^ Lib.bitLen x := Lib.bitLenAux_bounds 64 x h h0
theorem bitLen_nb {x : Nat} (h : x < 18446744073709551616) (h0 : x ≠ 0) : (Lib.bitLen x + 7) / 8 = nb x := by
  obtain ⟨h1, h2, h3⟩ := bitLen_bounds (by omega) h0
  generalize hb : Lib.bitLen x = b at *
  have e1 : nb x ≤ (b + 7) / 8 := nb_le (by
    have : (256 : Nat) ^ ((b + 7) / 8) = 2 ^ (8 * ((b + 7) / 8)) := by rw [Nat.pow_mul]
    rw [this]
    exact Nat.lt_of_lt_of_le h3 (Nat.pow_le_pow_right (by omega) (by omega)))
  have e2 : (b + 7) / 8 ≤ nb x := by
    have : (b - 1) / 8 < nb x := le_of_pow_le (by omega) (by
      have : (256 : Nat) ^ ((b - 1) / 8) = 2 ^ (8 * ((b - 1) / 8)) := by rw [Nat.pow_mul]
      rw [this]
      exact Nat.le_trans (Nat.pow_le_pow_right (by omega) (by omega)) h2)
    omega
  omega
/-- two lists of bytes of one length -/
theorem compareBytes_val : ∀ (a b : List Nat), a.length = b.length → (∀ d ∈ a, d < 256) → (∀ d ∈ b, d < 256) →
    Lib.compareBytes (a.reverse.map UInt8.ofNat) (b.reverse.map UInt8.ofNat) = if val 256 a < val 256 b then -1 else if val 256 b < val 256 a then 1 else 0 := by
  have key : ∀ (a b : List UInt8), a.length = b.length → Lib.compareBytes a b = if natL a < natL b then -1 else if natL b < natL a then 1 else 0 := by
    intro a
    induction a with
    | nil => intro b h; cases b with
      | nil => simp [Lib.compareBytes]
      | cons y b => simp at h
    | cons x a ih =>
      intro b h
      cases b with
      | nil => simp at h
      | cons y b =>
        have hl : a.length = b.length := by simpa using h
        have ea : natL (x :: a) = natL a + 256 ^ a.length * x.toNat := by
          unfold natL; rw [List.reverse_cons, List.map_append, val_append]; simp [val]
        have eb : natL (y :: b) = natL b + 256 ^ a.length * y.toNat := by
          unfold natL; rw [List.reverse_cons, List.map_append, val_append]; simp [val, hl]
        have la : natL a < 256 ^ a.length := by
          have := val_lt (B := 256) (by omega) (bytes_lt a); simpa [natL] using this
        have lb : natL b < 256 ^ a.length := by
          have := val_lt (B := 256) (by omega) (bytes_lt b); rw [hl]; simpa [natL] using this
        have hx : ∀ {p q r s M : Nat}, p < M → q < M → r < s → p + M * r < q + M * s := by
          intro p q r s M h1 h2 h3
          have : M * (r + 1) ≤ M * s := Nat.mul_le_mul_left M h3
          rw [Nat.mul_add] at this; omega
        rw [Lib.compareBytes, ea, eb]
        by_cases h1 : x < y
        · have := hx la lb (UInt8.lt_iff_toNat_lt.1 h1)
          rw [if_pos h1, if_pos this]
        · by_cases h2 : y < x
          · have := hx lb la (UInt8.lt_iff_toNat_lt.1 h2)
            rw [if_neg h1, if_pos h2, if_neg (by omega), if_pos this]
          · have e : x = y := by
              apply UInt8.toNat_inj.1
              have := mt UInt8.lt_iff_toNat_lt.2 h1; have := mt UInt8.lt_iff_toNat_lt.2 h2; omega
            subst e
            rw [if_neg h1, if_neg h2, ih b hl]
            simp only [Nat.add_lt_add_iff_right]
  intro a b hl ha hb
  rw [key _ _ (by simp [hl])]
  unfold natL
  simp only [List.map_reverse, List.reverse_reverse]
  rw [map_toNat_ofNat ha, map_toNat_ofNat hb]
theorem compare_mag {m n : Nat} (h : nb m = nb n) : Lib.compareBytes (mag m).data.toList (mag n).data.toList = if m < n then -1 else if n < m then 1 else 0 := by
  rw [mag_list, mag_list]
  have := compareBytes_val (digs 256 m) (digs 256 n) h (digs_lt (by omega)) (digs_lt (by omega))
  rw [val_digs (by omega), val_digs (by omega)] at this
  exact this
end Go.Via
namespace Go.Proofs.YtncogghlhlnmaaaGreatDoor
open Go Go.RowKit Go.Via
theorem c_math_bits_Len64 (x : Nat) (h : x < 18446744073709551616) : PCall Tryz.prog 96 #[.int .u64 x] (.int .i64 (Lib.bitLen x : Nat)) :=
  pcall_of (by kernel_rfl) fun w => by have := Tryz.bits_Len64 x w (by omega) (by omega); simpa using this
theorem c_math_bits_LeadingZeros32 (x : Nat) (h : x < 4294967296) : PCall Tryz.prog 126 #[.int .u32 x] (.int .i64 (32 - (Lib.bitLen x : Int))) :=
  pcall_of (by kernel_rfl) fun w => by have := Tryz.bits_LeadingZeros32 x w (by omega) (by omega); simpa using this
theorem c_math_bits_Mul64 (x y : Nat) (hx : x < 18446744073709551616) (hy : y < 18446744073709551616) : PCall Tryz.prog 128 #[.int .u64 x, .int .u64 y] (.tuple #[.int .u64 ((x * y / 18446744073709551616 : Nat) : Int), .int .u64 ((x * y % 18446744073709551616 : Nat) : Int)]) :=
  pcall_of (by kernel_rfl) fun w => Tryz.bits_Mul64 x y hx hy w
theorem c_strings_Compare (a b : ByteArray) : PCall Tryz.prog 122 #[.string a, .string b] (.int .i64 (Lib.compareBytes a.data.toList b.data.toList)) :=
  pcall_of (by kernel_rfl) fun w => Tryz.strings_Compare a b w
theorem r_add64 {bl : List Nat} {ops : Array Oper} {K : St → Prop} {rest : List Oper} {nt : Nat} {t : List (Nat × Value)} {L : List Blk} {d : Nat} {ty : TypeId} {pos : String} {af : Array Edge} {g : Option (Nat × Bool)} {x y z : Operand} {ts : Array TypeId} (m n : Nat) (hd : Nat.blt d nt = true) (hg : wantedS ops ⟨some d, .call { callee := .value (.func 117), args := #[x, y, z], argTypes := ts }, ty, pos, af, g⟩ t = some true)
    (hx : ev t x = some (.int .u64 (m : Int))) (hy : ev t y = some (.int .u64 (n : Int))) (hz : ev t z = some (.int .u64 0)) (h : Run Tryz.prog bl ops rest ⟨nt, (d, .tuple #[.int .u64 (((m + n) % 18446744073709551616 : Nat) : Int), .int .u64 (((m + n) / 18446744073709551616 : Nat) : Int)]) :: t, L⟩ K) :
    Run Tryz.prog bl ops (⟨some d, .call { callee := .value (.func 117), args := #[x, y, z], argTypes := ts }, ty, pos, af, g⟩ :: rest) ⟨nt, t, L⟩ K :=
  run_qc hd hg rfl (fun B a w hrel => by
    have h1 : (callFunc 117 #[.int .u64 (m : Int), .int .u64 (n : Int), .int .u64 0]).run Tryz.prog w = .ok (.value (.tuple #[.int .u64 (((m + n) % 18446744073709551616 : Nat) : Int), .int .u64 (((m + n) / 18446744073709551616 : Nat) : Int)])) w := by
      rw [run_callFunc_extern Tryz.func117 (by kernel_rfl) (by kernel_rfl) (by kernel_rfl) (e := add64Entry) (by kernel_rfl), run_add64 m n 0 (by omega) (by omega) (by omega) (by omega)]
      simp only [Result.andThen]
      congr 5 <;> omega
    have hv : (#[x, y, z] : Array Operand).map a.eval = #[.int .u64 (m : Int), .int .u64 (n : Int), .int .u64 0] := by
      show (([x, y, z] : List Operand).toArray).map a.eval = _
      rw [List.map_toArray, List.map_cons, List.map_cons, List.map_cons, List.map_nil, hrel.ev hx, hrel.ev hy, hrel.ev hz]
    have hf : a.eval (.func 117) = .func (.func 117) #[] #[] := rfl
    simp only [execOp, resolve, hf, hv, Deferred.ofValue, invoke, Sem.run_bind, Sem.run_pure, Result.andThen_ok]
    simpa using h1) h
end Go.Proofs.YtncogghlhlnmaaaGreatDoor
set_option linter.unusedVariables false
namespace Go.Via
open Go
theorem or_get (a b : Int) (i : Nat) (h : i < 2) : ([.int .i64 a, .int .i64 b] : List Value)[i]? = some (.int .i64 (if i = 0 then a else b)) := by
  have : i = 0 ∨ i = 1 := by omega
  rcases this with rfl | rfl <;> rfl
theorem or_a (a b : Int) (i : Nat) (ha : 0 < i → a = 0) (he : (if i = 0 then a else b) = 0) : 0 < i + 1 → a = 0 := fun _ => by
  by_cases h : i = 0
  · rwa [if_pos h] at he
  · exact ha (by omega)
theorem or_b (a b : Int) (i : Nat) (he : (if i = 0 then a else b) = 0) : 1 < i + 1 → b = 0 := fun h => by
  rwa [if_neg (by omega)] at he
theorem or_end1 (a b : Int) (i : Nat) (ha : 0 < i → a = 0) (hne : (if i = 0 then a else b) ≠ 0) : (if i = 0 then a else b) = (if a = 0 then b else a) := by
  by_cases h : i = 0
  · rw [if_pos h] at hne ⊢; rw [if_neg hne]
  · rw [if_neg h] at hne ⊢; rw [if_pos (ha (by omega))]
theorem nb_lt {m n : Nat} (h : nb m < nb n) : m < n := canon_lt_of_length (by omega) h
theorem compare_all (m n : Nat) : (if (if (nb m : Int) < (nb n : Int) then (-1 : Int) else if (nb n : Int) < (nb m : Int) then 1 else 0) = 0 then Lib.compareBytes (mag m).data.toList (mag n).data.toList
    else (if (nb m : Int) < (nb n : Int) then (-1 : Int) else if (nb n : Int) < (nb m : Int) then 1 else 0)) = cmpN m n := by
  unfold cmpN
  rcases Nat.lt_trichotomy (nb m) (nb n) with h | h | h
  · have := nb_lt h
    rw [if_pos (by omega : (nb m : Int) < nb n), if_neg (by decide), if_pos this]
  · rw [if_neg (by omega : ¬ (nb m : Int) < nb n), if_neg (by omega : ¬ (nb n : Int) < nb m), if_pos rfl, compare_mag h]
  · have := nb_lt h
    rw [if_neg (by omega : ¬ (nb m : Int) < nb n), if_pos (by omega : (nb n : Int) < nb m), if_neg (by decide), if_neg (by omega), if_pos this]
theorem fromInt_T (z : Int) (h : decide (z < 0) = true) : (if decide (z < 0) = true then -(z.natAbs : Int) else (z.natAbs : Int)) = z := by
  rw [if_pos h]; have := of_decide_eq_true h; omega
theorem fromInt_F (z : Int) (h : decide (z < 0) = false) : (if decide (z < 0) = true then -(z.natAbs : Int) else (z.natAbs : Int)) = z := by
  rw [if_neg (by rw [h]; decide)]; have := of_decide_eq_false h; omega
theorem pos_cons {l : List UInt8} (h : 0 < l.length) : ∃ x r, l = x :: r := by cases l with
  | nil => simp at h
  | cons x r => exact ⟨x, r, rfl⟩
theorem strU_tail (x : UInt8) (r : List UInt8) : (strU (x :: r)).extract (1 : Int).toNat (strU (x :: r)).size = strU r := by
  rw [strU_size]
  show ByteArray.extract _ 1 _ = _
  apply ByteArray.ext
  rw [ByteArray.data_extract]
  simp [strU]
theorem strU_empty {l : List UInt8} (h : (strU l == ⟨#[]⟩) = true) : l = [] := by
  rw [beq_ba] at h
  simpa [strU] using h
end Go.Via
set_option linter.unusedVariables false
namespace Go.Via
open Go
theorem mag_at' (n i : Nat) (h : i < nb n) : (mag n).data.toList[((nb n - 1 - i : Nat) : Int).toNat]? = some (UInt8.ofNat (n / 256 ^ i % 256)) := by
  have := mag_at n (nb n - 1 - i) (by omega)
  rwa [show nb n - 1 - (nb n - 1 - i) = i by omega] at this
theorem digT_step' (n i j : Nat) : digT n (i + 1) j = if j = i / 4 then digT n i (i / 4) + 2 ^ (8 * (i % 4)) * (n / 256 ^ i % 256) else digT n i j := by
  rw [digT_step]; split
  · rename_i e; rw [← e]
  · rfl
theorem shr_u32 {x s : Int} (m k : Nat) (hx : x = (m : Int)) (hs : s = (k : Int)) (hk : k ≤ 32) : x.fdiv (2 ^ (min s.toNat IntKind.u32.bits)) = ((m / 2 ^ k : Nat) : Int) := by
  subst hx; subst hs
  have : min (k : Int).toNat IntKind.u32.bits = k := by rw [bits32]; omega
  rw [this, Int.fdiv_eq_ediv_of_nonneg _ (Int.pow_nonneg (by omega))]
  simp
theorem trim_get {l : List Nat} {N M i : Nat} (hl : ∀ d ∈ l, d < B32) (hN : val B32 l = N) (hM : (digs B32 N).length = M) (hi : i < M) : l[i]? = some (N / B32 ^ i % B32) := by
  subst hN; subst hM
  have h1 := trim_take B32_two hl
  have h2 := digs_get (B := B32) B32_two hi
  rw [← h1, List.getElem?_take] at h2
  rw [if_pos hi] at h2
  exact h2
theorem bytes_zero {l : List Nat} {N M : Nat} (hN : val B32 l = N) (hM : (digs B32 N).length = M) (h0 : M = 0) : (⟨#[]⟩ : ByteArray) = mag N := by
  subst h0
  have : N = 0 := (digs_eq_nil B32_two).1 (List.eq_nil_of_length_eq_zero hM)
  rw [this, mag_zero]
theorem bytes_lt4 {N M : Nat} (hM : (digs B32 N).length = M) : N < 256 ^ (4 * M) := by
  rw [← B32_pow, ← hM]; exact lt_pow_digs B32_two N
end Go.Via
set_option linter.unusedVariables false
namespace Go.Via
open Go
theorem words_T {m n : Nat} (h : (decide (nb m ≤ 8) && decide (nb n ≤ 8)) = true) : m < 18446744073709551616 ∧ n < 18446744073709551616 ∧ nb m ≤ 8 ∧ nb n ≤ 8 := by
  simp only [Bool.and_eq_true, decide_eq_true_eq] at h
  have h1 := lt_of_nb_le h.1
  have h2 := lt_of_nb_le h.2
  exact ⟨by omega, by omega, h.1, h.2⟩
/-! ### addition -/
def addS (X Y i : Nat) : Nat := (X % B32 ^ i + Y % B32 ^ i) / B32 ^ i + X / B32 ^ i % B32 + Y / B32 ^ i % B32
def addC (X Y i : Nat) : Nat := (X % B32 ^ i + Y % B32 ^ i) / B32 ^ i
def addT (X Y i j : Nat) : Nat := if j < i then (X + Y) / B32 ^ j % B32 else X / B32 ^ j % B32
theorem B32_pos (i : Nat) : 0 < B32 ^ i := Nat.pow_pos (by decide)
theorem B32_mod (n : Nat) : n % B32 < 4294967296 := Nat.mod_lt _ (by decide)
theorem addC_le (X Y i : Nat) : addC X Y i ≤ 1 := by
  unfold addC
  have h1 := Nat.mod_lt X (B32_pos i)
  have h2 := Nat.mod_lt Y (B32_pos i)
  have : (X % B32 ^ i + Y % B32 ^ i) / B32 ^ i < 2 := by rw [Nat.div_lt_iff_lt_mul (B32_pos i)]; omega
  omega
theorem addC_zero (X Y : Nat) : addC X Y 0 = 0 := by simp [addC, Nat.mod_one]
theorem addS_eq (X Y i : Nat) : addS X Y i = addC X Y i + X / B32 ^ i % B32 + Y / B32 ^ i % B32 := rfl
theorem addS_lt (X Y i : Nat) : addS X Y i < 8589934592 := by
  have := addC_le X Y i
  have h1 := B32_mod (X / B32 ^ i)
  have h2 := B32_mod (Y / B32 ^ i)
  rw [addS_eq]; omega
theorem addS_carry (X Y i : Nat) : addS X Y i / 2 ^ 32 = addC X Y (i + 1) := by
  show _ / B32 = _
  unfold addS addC
  rw [Nat.pow_succ, Nat.mod_mul, Nat.mod_mul, ← Nat.div_div_eq_div_mul]
  congr 1
  have e : X % B32 ^ i + B32 ^ i * (X / B32 ^ i % B32) + (Y % B32 ^ i + B32 ^ i * (Y / B32 ^ i % B32)) = (X % B32 ^ i + Y % B32 ^ i) + B32 ^ i * (X / B32 ^ i % B32 + Y / B32 ^ i % B32) := by rw [Nat.mul_add]; omega
  rw [e, Nat.add_mul_div_left _ _ (B32_pos i)]
  omega
theorem addS_low (X Y i : Nat) : addS X Y i % 4294967296 = (X + Y) / B32 ^ i % B32 := by
  show _ % B32 = _
  have e : X + Y = (X % B32 ^ i + Y % B32 ^ i) + B32 ^ i * (X / B32 ^ i + Y / B32 ^ i) := by
    have h1 := Nat.mod_add_div X (B32 ^ i)
    have h2 := Nat.mod_add_div Y (B32 ^ i)
    rw [Nat.mul_add]; omega
  conv => rhs; rw [e]
  rw [Nat.add_mul_div_left _ _ (B32_pos i)]
  unfold addS
  generalize (X % B32 ^ i + Y % B32 ^ i) / B32 ^ i = c
  generalize X / B32 ^ i = p
  generalize Y / B32 ^ i = q
  rw [Nat.add_assoc, Nat.add_mod, ← Nat.add_mod p q, ← Nat.add_mod]
theorem addT_step (X Y i j : Nat) : addT X Y (i + 1) j = if j = i then addS X Y i % 4294967296 else addT X Y i j := by
  rw [addS_low]
  unfold addT
  by_cases e : j = i
  · subst e; rw [if_pos (by omega), if_pos rfl]
  · rw [if_neg e]
    by_cases c : j < i
    · rw [if_pos c, if_pos (by omega)]
    · rw [if_neg c, if_neg (by omega)]
theorem addT_at (X Y i : Nat) : addT X Y i i = X / B32 ^ i % B32 := by unfold addT; rw [if_neg (by omega)]
theorem digs_above {Y i : Nat} (h : (digs B32 Y).length ≤ i) : Y / B32 ^ i % B32 = 0 := by
  rw [Nat.div_eq_of_lt (Nat.lt_of_lt_of_le (lt_pow_digs B32_two Y) (Nat.pow_le_pow_right (by decide) h))]; rfl
theorem addT_zero (X Y : Nat) : NV .u32 (digs B32 X) ++ (NV .u32 (List.replicate ((digs B32 X).length + 1) 0)).drop (digs B32 X).length = NV .u32 (row ((digs B32 X).length + 1) (addT X Y 0)) := by
  rw [NV_drop, NV_append]
  congr 1
  have e : row ((digs B32 X).length + 1) (addT X Y 0) = row (digs B32 X).length (fun j => X / B32 ^ j % B32) ++ [0] := by
    unfold row
    rw [List.range_succ, List.map_append]
    congr 1
    simp only [List.map_cons, List.map_nil, addT]
    rw [if_neg (by omega), digs_above (Nat.le_refl _)]
  rw [e, ← digs_row B32_two X]
  congr 1
  simp
theorem addT_end {X Y : Nat} (h : (digs B32 Y).length ≤ (digs B32 X).length) : val B32 (row ((digs B32 X).length + 1) (addT X Y ((digs B32 X).length + 1))) = X + Y := by
  rw [row_congr (g := fun j => (X + Y) / B32 ^ j % B32) (fun j hj => by unfold addT; rw [if_pos hj]), val_row B32 (by decide), Nat.mod_eq_of_lt]
  have h1 := lt_pow_digs B32_two X
  have h2 := Nat.lt_of_lt_of_le (lt_pow_digs B32_two Y) (Nat.pow_le_pow_right (by decide) h)
  rw [Nat.pow_succ]
  have : B32 ^ (digs B32 X).length * 2 ≤ B32 ^ (digs B32 X).length * B32 := Nat.mul_le_mul_left _ (by decide)
  omega
theorem addT_lt (X Y i j : Nat) : addT X Y i j < B32 := by unfold addT; split <;> exact B32_mod _
theorem dig_len_le {n k : Nat} (h : nb n ≤ k) : (digs B32 n).length ≤ (k + 3) / 4 := by rw [digB_len]; omega
end Go.Via
set_option linter.unusedVariables false
namespace Go.Via
open Go
/-! ### subtraction -/
def subB (m n i : Nat) : Nat := if m % B32 ^ i < n % B32 ^ i then 1 else 0
def subT (m n i j : Nat) : Nat := if j < i then (m - n) / B32 ^ j % B32 else m / B32 ^ j % B32
theorem subB_zero (m n : Nat) : subB m n 0 = 0 := by simp [subB, Nat.mod_one]
theorem subB_le (m n i : Nat) : subB m n i ≤ 1 := by unfold subB; split <;> omega
theorem sub_div {m n i : Nat} (h : n ≤ m) : (m - n) / B32 ^ i + n / B32 ^ i + subB m n i = m / B32 ^ i := by
  have h1 := Nat.mod_add_div m (B32 ^ i)
  have h2 := Nat.mod_add_div n (B32 ^ i)
  have h3 := Nat.mod_lt m (B32_pos i)
  have h4 := Nat.mod_lt n (B32_pos i)
  have hp := B32_pos i
  generalize hP : B32 ^ i = P at *
  generalize m / P = M at *
  generalize n / P = N at *
  unfold subB
  rw [hP]
  split
  · rename_i hlt
    have hMN : N + 1 ≤ M := by
      by_cases c : M ≤ N
      · have := Nat.mul_le_mul_left P c; omega
      · omega
    obtain ⟨k, rfl⟩ : ∃ k, M = N + 1 + k := ⟨M - (N + 1), by omega⟩
    have e : m - n = (m % P + P - n % P) + P * k := by
      rw [Nat.mul_add, Nat.mul_add] at h1; omega
    rw [e, Nat.add_mul_div_left _ _ hp, Nat.div_eq_of_lt (by omega)]; omega
  · rename_i hge
    have hMN : N ≤ M := by
      by_cases c : M < N
      · have := Nat.mul_le_mul_left P c; rw [Nat.mul_succ] at this; omega
      · omega
    obtain ⟨k, rfl⟩ : ∃ k, M = N + k := ⟨M - N, by omega⟩
    have e : m - n = (m % P - n % P) + P * k := by
      rw [Nat.mul_add] at h1; omega
    rw [e, Nat.add_mul_div_left _ _ hp, Nat.div_eq_of_lt (by omega)]; omega
theorem subB_succ (m n i : Nat) : subB m n (i + 1) = if m / B32 ^ i % B32 < n / B32 ^ i % B32 + subB m n i then 1 else 0 := by
  unfold subB
  rw [Nat.pow_succ, Nat.mod_mul, Nat.mod_mul]
  have h3 := Nat.mod_lt m (B32_pos i)
  have h4 := Nat.mod_lt n (B32_pos i)
  generalize m / B32 ^ i % B32 = x
  generalize n / B32 ^ i % B32 = y
  generalize hP : B32 ^ i = P at *
  have key : (m % P + P * x < n % P + P * y) ↔ x < y + (if m % P < n % P then 1 else 0) := by
    rcases Nat.lt_trichotomy x y with c | c | c
    · have := Nat.mul_le_mul_left P c; rw [Nat.mul_succ] at this
      constructor <;> intro _ <;> omega
    · subst c; split <;> constructor <;> intro _ <;> omega
    · have := Nat.mul_le_mul_left P c; rw [Nat.mul_succ] at this
      split <;> constructor <;> intro _ <;> omega
  simp only [key]
theorem sub_neg {m n i : Nat} (h : n ≤ m) (hd : m / B32 ^ i % B32 < n / B32 ^ i % B32 + subB m n i) : m / B32 ^ i % B32 + 4294967296 = (m - n) / B32 ^ i % B32 + n / B32 ^ i % B32 + subB m n i ∧ subB m n (i + 1) = 1 := by
  refine ⟨?_, by rw [subB_succ, if_pos hd]⟩
  have h1 := sub_div (i := i) h
  have h2 := subB_le m n i
  unfold B32 at *
  omega
theorem sub_pos {m n i : Nat} (h : n ≤ m) (hd : ¬ m / B32 ^ i % B32 < n / B32 ^ i % B32 + subB m n i) : m / B32 ^ i % B32 = (m - n) / B32 ^ i % B32 + n / B32 ^ i % B32 + subB m n i ∧ subB m n (i + 1) = 0 := by
  refine ⟨?_, by rw [subB_succ, if_neg hd]⟩
  have h1 := sub_div (i := i) h
  have h2 := subB_le m n i
  unfold B32 at *
  omega
theorem subT_step (m n i j : Nat) : subT m n (i + 1) j = if j = i then (m - n) / B32 ^ i % B32 else subT m n i j := by
  unfold subT
  by_cases e : j = i
  · subst e; rw [if_pos (by omega), if_pos rfl]
  · rw [if_neg e]
    by_cases c : j < i
    · rw [if_pos c, if_pos (by omega)]
    · rw [if_neg c, if_neg (by omega)]
theorem subT_at (m n i : Nat) : subT m n i i = m / B32 ^ i % B32 := by unfold subT; rw [if_neg (by omega)]
theorem subT_zero (m n : Nat) : NV .u32 (digs B32 m) ++ (NV .u32 (List.replicate (digs B32 m).length 0)).drop (digs B32 m).length = NV .u32 (row (digs B32 m).length (subT m n 0)) := by
  rw [NV_drop, NV_append]
  congr 1
  rw [row_congr (g := fun j => m / B32 ^ j % B32) (fun j _ => by unfold subT; rw [if_neg (by omega)]), ← digs_row B32_two m]
  simp
theorem subT_end {m n : Nat} (h : n ≤ m) : val B32 (row (digs B32 m).length (subT m n (digs B32 m).length)) = m - n := by
  rw [row_congr (g := fun j => (m - n) / B32 ^ j % B32) (fun j hj => by unfold subT; rw [if_pos hj]), val_row B32 (by decide), Nat.mod_eq_of_lt]
  have h1 := lt_pow_digs B32_two m
  omega
theorem subT_lt (m n i j : Nat) : subT m n i j < B32 := by unfold subT; split <;> exact B32_mod _
end Go.Via
set_option linter.unusedVariables false
namespace Go.Via
open Go
/-! ### multiplication -/
def mulV (m n i : Nat) : Nat := m % B32 ^ i * n
def mulC (m n i k : Nat) : Nat := (mulV m n i / B32 ^ i % B32 ^ k + m / B32 ^ i % B32 * (n % B32 ^ k)) / B32 ^ k
def mulS (m n i k : Nat) : Nat := mulC m n i k + mulV m n i / B32 ^ (i + k) % B32 + m / B32 ^ i % B32 * (n / B32 ^ k % B32)
def mulT (m n i k j : Nat) : Nat := if j < i + k then mulV m n (i + 1) / B32 ^ j % B32 else mulV m n i / B32 ^ j % B32
def mulR (m n i j : Nat) : Nat := mulV m n i / B32 ^ j % B32
theorem mulV_succ (m n i : Nat) : mulV m n (i + 1) = mulV m n i + B32 ^ i * (m / B32 ^ i % B32 * n) := by
  unfold mulV; rw [Nat.pow_succ, Nat.mod_mul, Nat.add_mul, Nat.mul_assoc]
theorem mulC_zero (m n i : Nat) : mulC m n i 0 = 0 := by simp [mulC, Nat.mod_one]
theorem mulC_lt (m n i k : Nat) : mulC m n i k < B32 := by
  unfold mulC
  rw [Nat.div_lt_iff_lt_mul (B32_pos k)]
  have h1 := Nat.mod_lt (mulV m n i / B32 ^ i) (B32_pos k)
  have h2 := Nat.mod_lt n (B32_pos k)
  have h3 : m / B32 ^ i % B32 + 1 ≤ B32 := Nat.mod_lt _ (by decide)
  have h4 : (m / B32 ^ i % B32) * (n % B32 ^ k) ≤ (m / B32 ^ i % B32) * (B32 ^ k) := Nat.mul_le_mul_left _ (by omega)
  have h5 : (m / B32 ^ i % B32 + 1) * B32 ^ k ≤ B32 * B32 ^ k := Nat.mul_le_mul_right _ h3
  rw [Nat.add_mul] at h5
  omega
theorem dmul_le (p q : Nat) : p % B32 * (q % B32) ≤ 18446744065119617025 := by
  have h1 : p % B32 ≤ 4294967295 := by have := B32_mod p; omega
  have h2 : q % B32 ≤ 4294967295 := by have := B32_mod q; omega
  exact Nat.mul_le_mul h1 h2
theorem mulS_lt (m n i k : Nat) : mulS m n i k < 18446744073709551616 := by
  have h1 := mulC_lt m n i k
  have h2 := B32_mod (mulV m n i / B32 ^ (i + k))
  have h3 := dmul_le (m / B32 ^ i) (n / B32 ^ k)
  unfold mulS B32 at *
  omega
theorem div_pow_add (V i k : Nat) : V / B32 ^ (i + k) = V / B32 ^ i / B32 ^ k := by rw [Nat.pow_add, Nat.div_div_eq_div_mul]
theorem mulS_carry (m n i k : Nat) : mulS m n i k / 2 ^ 32 = mulC m n i (k + 1) := by
  show _ / B32 = _
  unfold mulS mulC
  rw [div_pow_add, Nat.pow_succ, Nat.mod_mul, Nat.mod_mul, ← Nat.div_div_eq_div_mul]
  congr 1
  generalize m / B32 ^ i % B32 = dd
  generalize mulV m n i / B32 ^ i = A
  have e : A % B32 ^ k + B32 ^ k * (A / B32 ^ k % B32) + dd * (n % B32 ^ k + B32 ^ k * (n / B32 ^ k % B32)) = (A % B32 ^ k + dd * (n % B32 ^ k)) + B32 ^ k * (A / B32 ^ k % B32 + dd * (n / B32 ^ k % B32)) := by grind
  rw [e, Nat.add_mul_div_left _ _ (B32_pos k)]
  omega
theorem mulS_low (m n i k : Nat) : mulS m n i k % 4294967296 = mulV m n (i + 1) / B32 ^ (i + k) % B32 := by
  show _ % B32 = _
  unfold mulS mulC
  rw [div_pow_add, div_pow_add, mulV_succ, Nat.add_mul_div_left _ _ (B32_pos i)]
  generalize m / B32 ^ i % B32 = dd
  generalize mulV m n i / B32 ^ i = A
  have e : A + dd * n = (A % B32 ^ k + dd * (n % B32 ^ k)) + B32 ^ k * (A / B32 ^ k + dd * (n / B32 ^ k)) := by
    have h1 := Nat.mod_add_div A (B32 ^ k)
    have h2 := Nat.mod_add_div n (B32 ^ k)
    conv => lhs; rw [← h1, ← h2]
    grind
  conv => rhs; rw [e]
  rw [Nat.add_mul_div_left _ _ (B32_pos k)]
  generalize (A % B32 ^ k + dd * (n % B32 ^ k)) / B32 ^ k = c
  generalize A / B32 ^ k = p
  generalize n / B32 ^ k = q
  have e2 : ∀ x y z w : Nat, (x + y % B32 + z * (w % B32)) % B32 = (x + (y + z * w)) % B32 := by
    intro x y z w
    have h1 := Nat.mod_add_div y B32
    have h2 := Nat.mod_add_div w B32
    have : x + (y + z * w) = (x + y % B32 + z * (w % B32)) + B32 * (y / B32 + z * (w / B32)) := by
      conv => lhs; rw [← h1, ← h2]
      grind
    rw [this, Nat.add_mul_mod_self_left]
  exact e2 c p dd q
theorem mulT_at (m n i k : Nat) : mulT m n i k (i + k) = mulV m n i / B32 ^ (i + k) % B32 := by unfold mulT; rw [if_neg (by omega)]
theorem mulT_step (m n i k j : Nat) : mulT m n i (k + 1) j = if j = i + k then mulS m n i k % 4294967296 else mulT m n i k j := by
  rw [mulS_low]
  unfold mulT
  by_cases e : j = i + k
  · subst e; rw [if_pos (by omega), if_pos rfl]
  · rw [if_neg e]
    by_cases c : j < i + k
    · rw [if_pos c, if_pos (by omega)]
    · rw [if_neg c, if_neg (by omega)]
theorem mulT_zero (m n i j : Nat) : mulT m n i 0 j = mulR m n i j := by
  unfold mulT mulR
  split
  · rename_i h
    rw [mulV_succ]
    have e0 : B32 ^ i = B32 ^ j * (B32 * B32 ^ (i - j - 1)) := by
      rw [← Nat.mul_assoc, ← Nat.pow_succ, ← Nat.pow_add, show j + 1 + (i - j - 1) = i by omega]
    have e : B32 ^ i * (m / B32 ^ i % B32 * n) = B32 ^ j * (B32 * (B32 ^ (i - j - 1) * (m / B32 ^ i % B32 * n))) := by
      generalize m / B32 ^ i % B32 * n = r
      rw [e0, Nat.mul_assoc, Nat.mul_assoc]
    rw [e, Nat.add_mul_div_left _ _ (B32_pos j), Nat.add_mul_mod_self_left]
  · rfl
theorem mulV_lt (m n i : Nat) : mulV m n i < B32 ^ (i + (digs B32 n).length) := by
  unfold mulV
  rw [Nat.pow_add]
  have h1 := Nat.mod_lt m (B32_pos i)
  have h2 := lt_pow_digs B32_two n
  calc m % B32 ^ i * n ≤ B32 ^ i * n := Nat.mul_le_mul_right _ (by omega)
    _ < B32 ^ i * B32 ^ (digs B32 n).length := (Nat.mul_lt_mul_left (B32_pos i)).2 h2
theorem mul_last (m n i : Nat) : mulC m n i (digs B32 n).length % 4294967296 = mulV m n (i + 1) / B32 ^ (i + (digs B32 n).length) % B32 := by
  have h := mulS_low m n i (digs B32 n).length
  unfold mulS at h
  rw [digs_above (Nat.le_refl _), Nat.div_eq_of_lt (mulV_lt m n i)] at h
  simpa using h
theorem mulT_last (m n i j : Nat) : mulR m n (i + 1) j = if j = i + (digs B32 n).length then mulC m n i (digs B32 n).length % 4294967296 else mulT m n i (digs B32 n).length j := by
  rw [mul_last]
  unfold mulT mulR
  by_cases e : j = i + (digs B32 n).length
  · subst e; rw [if_pos rfl]
  · rw [if_neg e]
    by_cases c : j < i + (digs B32 n).length
    · rw [if_pos c]
    · rw [if_neg c]
      have h1 : B32 ^ (i + (digs B32 n).length) ≤ B32 ^ j := Nat.pow_le_pow_right (by decide) (by omega)
      have h2 : B32 ^ (i + 1 + (digs B32 n).length) ≤ B32 ^ j := Nat.pow_le_pow_right (by decide) (by omega)
      rw [Nat.div_eq_of_lt (Nat.lt_of_lt_of_le (mulV_lt m n i) h1), Nat.div_eq_of_lt (Nat.lt_of_lt_of_le (mulV_lt m n (i + 1)) h2)]
theorem mulR_zero (m n j : Nat) : mulR m n 0 j = 0 := by simp [mulR, mulV, Nat.mod_one]
theorem mulR_end (m n : Nat) : val B32 (row ((digs B32 m).length + (digs B32 n).length + 1) (mulR m n (digs B32 m).length)) = m * n := by
  have e : mulV m n (digs B32 m).length = m * n := by unfold mulV; rw [Nat.mod_eq_of_lt (lt_pow_digs B32_two m)]
  have h := mulV_lt m n (digs B32 m).length
  rw [row_congr (g := fun j => m * n / B32 ^ j % B32) (fun j hj => by unfold mulR; rw [e]), val_row B32 (by decide), Nat.mod_eq_of_lt]
  rw [e] at h
  exact Nat.lt_of_lt_of_le h (Nat.pow_le_pow_right (by decide) (by omega))
theorem mulR_lt (m n i j : Nat) : mulR m n i j < B32 := B32_mod _
theorem mul_small {m n : Nat} (h : ((m * n / 18446744073709551616 : Nat) : Int) = 0) : m * n % 18446744073709551616 = m * n := by omega
end Go.Via
namespace Go.Via
open Go
theorem mulS_lt1 (m n i k : Nat) : mulV m n i / B32 ^ (i + k) % B32 + m / B32 ^ i % B32 * (n / B32 ^ k % B32) < 18446744073709551616 := by
  have := mulS_lt m n i k; unfold mulS at this; omega
theorem mulS_cast (m n i k : Nat) : ((mulC m n i k : Nat) : Int) + ((mulV m n i / B32 ^ (i + k) % B32 + m / B32 ^ i % B32 * (n / B32 ^ k % B32) : Nat) : Int) = ((mulS m n i k : Nat) : Int) := by
  unfold mulS; rw [← Int.natCast_add, Nat.add_assoc]
end Go.Via
set_option linter.unusedVariables false
namespace Go.Via
open Go
/-! ### division by one digit -/
def shoT (m y p j : Nat) : Nat := if j < p then m / B32 ^ j % B32 else m / y / B32 ^ j % B32
theorem shoT_at (m y q : Nat) : shoT m y (q + 1) q = m / B32 ^ q % B32 := by unfold shoT; rw [if_pos (by omega)]
theorem sho_w (m q : Nat) : m / B32 ^ q = m / B32 ^ (q + 1) * B32 + m / B32 ^ q % B32 := by
  rw [Nat.pow_succ, ← Nat.div_div_eq_div_mul]
  have := Nat.div_add_mod (m / B32 ^ q) B32
  rw [Nat.mul_comm] at this; omega
/-- the remainder so far with the next digit -/
def shoW (m y q : Nat) : Nat := m / B32 ^ (q + 1) % y * B32 + m / B32 ^ q % B32
theorem shoW_eq (m y q : Nat) (hy : 0 < y) : m / B32 ^ q = y * (m / B32 ^ (q + 1) / y * B32) + shoW m y q := by
  have h1 := sho_w m q
  have h2 := Nat.div_add_mod (m / B32 ^ (q + 1)) y
  unfold shoW
  conv => lhs; rw [h1, ← h2]
  rw [Nat.add_mul, Nat.mul_assoc, Nat.add_assoc]
theorem shoW_lt (m y q : Nat) (hy : 0 < y) : shoW m y q < y * B32 := by
  unfold shoW
  have h1 : m / B32 ^ (q + 1) % y + 1 ≤ y := Nat.mod_lt _ hy
  have h2 : m / B32 ^ q % B32 < B32 := Nat.mod_lt _ (by decide)
  have h3 := Nat.mul_le_mul_right B32 h1
  rw [Nat.add_mul] at h3
  omega
theorem shoW_lt64 (m y q : Nat) (hy : 0 < y) (hy2 : y < 4294967296) : shoW m y q < 18446744073709551616 := by
  have h1 := shoW_lt m y q hy
  have h2 : y * B32 ≤ 4294967295 * B32 := Nat.mul_le_mul_right _ (by omega)
  have e : (B32 : Nat) = 4294967296 := rfl
  rw [e] at h1 h2
  omega
theorem shoW_quo (m y q : Nat) (hy : 0 < y) : shoW m y q / y = m / y / B32 ^ q % B32 := by
  have h1 := shoW_eq m y q hy
  have h2 : shoW m y q / y < B32 := by rw [Nat.div_lt_iff_lt_mul hy, Nat.mul_comm]; exact shoW_lt m y q hy
  have e : m / y / B32 ^ q = m / B32 ^ q / y := by rw [Nat.div_div_eq_div_mul, Nat.div_div_eq_div_mul, Nat.mul_comm]
  rw [e, h1, Nat.mul_add_div hy, Nat.mul_comm _ B32, Nat.mul_add_mod, Nat.mod_eq_of_lt h2]
theorem shoW_rem (m y q : Nat) (hy : 0 < y) : shoW m y q % y = m / B32 ^ q % y := by
  have h1 := shoW_eq m y q hy
  conv => rhs; rw [h1]
  rw [Nat.mul_add_mod]
theorem shoT_step (m y q j : Nat) (hy : 0 < y) : shoT m y q j = if j = q then shoW m y q / y % 4294967296 else shoT m y (q + 1) j := by
  rw [shoW_quo m y q hy]
  show _ = if j = q then _ % B32 else _
  rw [Nat.mod_mod]
  unfold shoT
  by_cases e : j = q
  · subst e; rw [if_neg (by omega), if_pos rfl]
  · rw [if_neg e]
    by_cases c : j < q
    · rw [if_pos c, if_pos (by omega)]
    · rw [if_neg c, if_neg (by omega)]
theorem shoT_start (m y : Nat) : digs B32 m = row (digs B32 m).length (shoT m y (digs B32 m).length) := by
  conv => lhs; rw [digs_row B32_two m]
  exact row_congr fun j hj => by unfold shoT; rw [if_pos hj]
theorem shoR_start (m y : Nat) : m / B32 ^ (digs B32 m).length % y = 0 := by
  rw [Nat.div_eq_of_lt (lt_pow_digs B32_two m)]; simp
def shoQ (m y j : Nat) : Nat := m / y / B32 ^ j % B32
theorem shoQ_val (m y : Nat) : val B32 (row (digs B32 m).length (shoQ m y)) = m / y := by
  unfold shoQ
  rw [val_row B32 (by decide), Nat.mod_eq_of_lt]
  exact Nat.lt_of_le_of_lt (Nat.div_le_self _ _) (lt_pow_digs B32_two m)
/-! ### digits moved to the left -/
def shV (m s i : Nat) : Nat := m % B32 ^ i * 2 ^ s
def shT (m s i j : Nat) : Nat := shV m s i / B32 ^ j % B32
def shW (m s i : Nat) : Nat := m / B32 ^ i % B32 * 2 ^ s
theorem shV_succ (m s i : Nat) : shV m s (i + 1) = shV m s i + B32 ^ i * shW m s i := by
  unfold shV shW; rw [Nat.pow_succ, Nat.mod_mul, Nat.add_mul, Nat.mul_assoc]
theorem two_pow_le {s : Nat} (hs : s < 32) : 2 ^ s ≤ 2147483648 := Nat.pow_le_pow_right (n := 2) (by omega) (show s ≤ 31 by omega)
theorem shW_lt (m s i : Nat) (hs : s < 32) : shW m s i < 18446744073709551616 := by
  unfold shW
  have h1 := B32_mod (m / B32 ^ i)
  have h2 := two_pow_le hs
  have : m / B32 ^ i % B32 * 2 ^ s ≤ 4294967295 * 2147483648 := Nat.mul_le_mul (by omega) h2
  omega
theorem shV_low (m s i : Nat) : shV m s i / B32 ^ i < 2 ^ s := by
  rw [Nat.div_lt_iff_lt_mul (B32_pos i)]
  unfold shV
  rw [Nat.mul_comm]
  exact (Nat.mul_lt_mul_left (Nat.pow_pos (by omega))).2 (Nat.mod_lt _ (B32_pos i))
theorem B32_two_pow {s : Nat} (hs : s < 32) : B32 = 2 ^ s * 2 ^ (32 - s) := by rw [← Nat.pow_add, show s + (32 - s) = 32 by omega]; rfl
theorem shW_mod (m s i : Nat) (hs : s < 32) : shW m s i % 4294967296 = 2 ^ s * (m / B32 ^ i % B32 % 2 ^ (32 - s)) := by
  show _ % B32 = _
  unfold shW
  conv => lhs; rw [B32_two_pow hs]
  rw [Nat.mul_comm _ (2 ^ s), Nat.mul_mod_mul_left]
  congr 1
  rw [← B32_two_pow hs]
theorem shT_at (m s i : Nat) (hs : s < 32) : shT m s i i = shV m s i / B32 ^ i := by
  unfold shT
  have h1 := shV_low m s i
  have h2 := two_pow_le hs
  exact Nat.mod_eq_of_lt (by unfold B32 at *; omega)
theorem sh_sum (m s i : Nat) (hs : s < 32) : shV m s i / B32 ^ i + shW m s i % 4294967296 < 4294967296 ∧ shT m s (i + 1) i = shV m s i / B32 ^ i + shW m s i % 4294967296 := by
  have h1 := shV_low m s i
  have e := shW_mod m s i hs
  have h3 : m / B32 ^ i % B32 % 2 ^ (32 - s) + 1 ≤ 2 ^ (32 - s) := Nat.mod_lt _ (Nat.pow_pos (by omega))
  have h4 := Nat.mul_le_mul_left (2 ^ s) h3
  have hB := B32_two_pow hs
  rw [← hB, Nat.mul_add] at h4
  have hlt : shV m s i / B32 ^ i + shW m s i % 4294967296 < 4294967296 := by rw [e]; unfold B32 at *; omega
  refine ⟨hlt, ?_⟩
  unfold shT
  rw [shV_succ, Nat.add_mul_div_left _ _ (B32_pos i)]
  have : shV m s i / B32 ^ i + shW m s i = (shV m s i / B32 ^ i + shW m s i % B32) + B32 * (shW m s i / B32) := by
    have := Nat.mod_add_div (shW m s i) B32; omega
  rw [this, Nat.add_mul_mod_self_left]
  exact Nat.mod_eq_of_lt hlt
theorem sh_high (m s i : Nat) (hs : s < 32) : shT m s (i + 1) (i + 1) = shW m s i / 2 ^ 32 % 4294967296 := by
  have h0 := (sh_sum m s i hs).1
  unfold shT
  rw [shV_succ, Nat.pow_succ, ← Nat.div_div_eq_div_mul, Nat.add_mul_div_left _ _ (B32_pos i)]
  have : shV m s i / B32 ^ i + shW m s i = (shV m s i / B32 ^ i + shW m s i % B32) + B32 * (shW m s i / B32) := by
    have := Nat.mod_add_div (shW m s i) B32; omega
  have h0' : shV m s i / B32 ^ i + shW m s i % B32 < B32 := h0
  rw [this, Nat.add_mul_div_left _ _ (by decide), Nat.div_eq_of_lt h0', Nat.zero_add]
  rfl
theorem shV_lt (m s i : Nat) : shV m s i < B32 ^ i * 2 ^ s := (Nat.mul_lt_mul_right (Nat.pow_pos (by omega))).2 (Nat.mod_lt _ (B32_pos i))
/-- between the two stores -/
def shM (m s i j : Nat) : Nat := if j = i then shT m s (i + 1) i else shT m s i j
theorem shT_step (m s i j : Nat) (hs : s < 32) : shT m s (i + 1) j = if j = i + 1 then shW m s i / 2 ^ 32 % 4294967296 else shM m s i j := by
  by_cases e : j = i + 1
  · subst e; rw [if_pos rfl, sh_high m s i hs]
  · rw [if_neg e]
    unfold shM
    by_cases e2 : j = i
    · subst e2; rw [if_pos rfl]
    · rw [if_neg e2]
      unfold shT
      by_cases c : j < i
      · rw [shV_succ]
        have e0 : B32 ^ i = B32 ^ j * (B32 * B32 ^ (i - j - 1)) := by
          rw [← Nat.mul_assoc, ← Nat.pow_succ, ← Nat.pow_add, show j + 1 + (i - j - 1) = i by omega]
        rw [e0, Nat.mul_assoc, Nat.add_mul_div_left _ _ (B32_pos j), Nat.mul_assoc, Nat.add_mul_mod_self_left]
      · have h2 := two_pow_le hs
        have h3 : B32 ^ (i + 2) ≤ B32 ^ j := Nat.pow_le_pow_right (by decide) (by omega)
        have key : ∀ k, k ≤ i + 1 → shV m s k / B32 ^ j = 0 := fun k hk => Nat.div_eq_of_lt (by
          have h4 := shV_lt m s k
          have h5 : B32 ^ k * 2 ^ s ≤ B32 ^ (i + 1) * B32 := Nat.mul_le_mul (Nat.pow_le_pow_right (by decide) hk) (by unfold B32; omega)
          rw [← Nat.pow_succ] at h5
          have h6 : B32 ^ (i + 1).succ = B32 ^ (i + 2) := rfl
          omega)
        rw [key (i + 1) (by omega), key i (by omega)]
theorem shT_zero (m s j : Nat) : shT m s 0 j = 0 := by simp [shT, shV, Nat.mod_one]
def shR (N j : Nat) : Nat := N / B32 ^ j % B32
theorem shT_end (m s j : Nat) : shT m s (digs B32 m).length j = shR (m * 2 ^ s) j := by
  unfold shT shR shV; rw [Nat.mod_eq_of_lt (lt_pow_digs B32_two m)]
end Go.Via
namespace Go.Via
open Go
theorem sh_or (m s i : Nat) (hs : s < 32) : IntKind.u32.wrap ((BitVec.ofInt IntKind.u32.bits ((shT m s i i : Nat) : Int) ||| BitVec.ofInt IntKind.u32.bits ((shW m s i % 4294967296 : Nat) : Int)).toNat) = ((shT m s (i + 1) i : Nat) : Int) := by
  obtain ⟨h1, h2⟩ := sh_sum m s i hs
  rw [← shT_at m s i hs] at h1 h2
  have e := shW_mod m s i hs
  rw [e] at h1 h2 ⊢
  exact or_u32' s (by rw [shT_at m s i hs]; exact shV_low m s i) h2.symm (by rw [h2]; exact h1) rfl rfl
end Go.Via
set_option linter.unusedVariables false
namespace Go.Via
open Go
/-! ### division: one digit of the quotient -/
theorem B32_succ (k : Nat) : B32 ^ (k + 1) = B32 ^ k * B32 := Nat.pow_succ ..
/-- the guess so far -/
def GOK (Y W L g r : Nat) : Prop := g * (Y / B32 ^ (L - 1)) + r = W / B32 ^ (L - 1) ∧ r < 4294967296 ∧ W / Y ≤ g ∧ g ≤ 4294967297
/-- the parts of the divisor and of the window -/
theorem split3 (V L : Nat) (hL : 2 ≤ L) : V = (V / B32 ^ (L - 1) * B32 + V / B32 ^ (L - 2) % B32) * B32 ^ (L - 2) + V % B32 ^ (L - 2) := by
  have h1 := Nat.div_add_mod V (B32 ^ (L - 2))
  have h2 := sho_w V (L - 2)
  rw [show L - 2 + 1 = L - 1 by omega] at h2
  rw [← h2, Nat.mul_comm]; exact h1.symm
structure DvH (Y W L : Nat) : Prop where
  hL : 2 ≤ L
  lo : B32 ^ L ≤ 2 * Y
  hi : Y < B32 ^ L
  w : W < Y * B32
theorem DvH.y1 {Y W L : Nat} (h : DvH Y W L) : 2147483648 ≤ Y / B32 ^ (L - 1) ∧ Y / B32 ^ (L - 1) < 4294967296 := by
  have hp := B32_pos (L - 1)
  have e : B32 ^ L = B32 ^ (L - 1) * B32 := by rw [← B32_succ, show L - 1 + 1 = L by have := h.hL; omega]
  have h1 := h.lo
  have h2 := h.hi
  rw [e] at h1 h2
  refine ⟨?_, ?_⟩
  · rw [Nat.le_div_iff_mul_le hp]
    have : B32 ^ (L - 1) * B32 = 2 * (2147483648 * B32 ^ (L - 1)) := by unfold B32; omega
    omega
  · rw [Nat.div_lt_iff_lt_mul hp]; rw [Nat.mul_comm] at h2; exact h2
theorem DvH.pos {Y W L : Nat} (h : DvH Y W L) : 0 < Y := by have := h.lo; have := B32_pos L; omega
theorem DvH.wlt {Y W L : Nat} (h : DvH Y W L) : W < B32 ^ (L + 1) := by
  have := Nat.mul_le_mul_right B32 (Nat.le_of_lt h.hi)
  rw [B32_succ]; exact Nat.lt_of_lt_of_le h.w this
theorem DvH.high {Y W L : Nat} (h : DvH Y W L) : W / B32 ^ (L - 1) < (Y / B32 ^ (L - 1) + 1) * B32 := by
  refine high_le (B := B32) (split3 Y L h.hL) (split3 W L h.hL) (Nat.mod_lt _ (B32_pos _)) (Nat.mod_lt _ (by decide)) (by rw [Nat.mul_comm]; exact h.w)
theorem DvH.high64 {Y W L : Nat} (h : DvH Y W L) : W / B32 ^ (L - 1) < 18446744073709551616 := by
  have h1 := h.wlt
  rw [Nat.div_lt_iff_lt_mul (B32_pos _)]
  have : B32 ^ (L + 1) = 18446744073709551616 * B32 ^ (L - 1) := by
    rw [show L + 1 = 2 + (L - 1) by have := h.hL; omega, Nat.pow_add]; rfl
  omega
theorem DvH.q {Y W L : Nat} (h : DvH Y W L) : W / Y < 4294967296 := by
  rw [Nat.div_lt_iff_lt_mul h.pos, Nat.mul_comm]; exact h.w
theorem g_start {Y W L : Nat} (h : DvH Y W L) : GOK Y W L (W / B32 ^ (L - 1) / (Y / B32 ^ (L - 1))) (W / B32 ^ (L - 1) % (Y / B32 ^ (L - 1))) := by
  obtain ⟨a1, a2⟩ := h.y1
  have a3 := Nat.mod_lt (W / B32 ^ (L - 1)) (show 0 < Y / B32 ^ (L - 1) by omega)
  refine ⟨by rw [Nat.mul_comm]; exact Nat.div_add_mod _ _, by omega, ?_, ?_⟩
  · exact guess_start (B := B32) (B32_pos (L - 2)) (split3 Y L h.hL) (split3 W L h.hL) (Nat.mod_lt _ (B32_pos _)) (Nat.mod_lt _ (by decide)) (by omega) h.pos
  · have h1 := h.high
    have : W / B32 ^ (L - 1) / (Y / B32 ^ (L - 1)) < 4294967298 := by
      rw [Nat.div_lt_iff_lt_mul (by omega)]
      unfold B32 at *
      omega
    omega
theorem g_test {Y W L g r : Nat} (h : DvH Y W L) (hg : GOK Y W L g r) (ht : 4294967296 ≤ g ∨ r * 2 ^ 32 + W / B32 ^ (L - 2) % B32 < g * (Y / B32 ^ (L - 2) % B32)) :
    W / Y < g := by
  rcases ht with ht | ht
  · have := h.q; omega
  · exact guess_down (B := B32) (B32_pos (L - 2)) (split3 Y L h.hL) (split3 W L h.hL) (Nat.mod_lt _ (B32_pos _)) hg.1 h.pos ht
theorem g_dec {Y W L g r : Nat} (h : DvH Y W L) (hg : GOK Y W L g r) (hq : W / Y < g) : (g - 1) * (Y / B32 ^ (L - 1)) + (r + Y / B32 ^ (L - 1)) = W / B32 ^ (L - 1) := by
  have h0 : 0 < g := Nat.lt_of_le_of_lt (Nat.zero_le _) hq
  obtain ⟨k, rfl⟩ : ∃ k, g = k + 1 := ⟨g - 1, by omega⟩
  have := hg.1
  rw [Nat.add_mul] at this
  simp only [Nat.add_sub_cancel]
  omega
theorem g_next {Y W L g r : Nat} (h : DvH Y W L) (hg : GOK Y W L g r) (hq : W / Y < g) (hr : r + Y / B32 ^ (L - 1) < 4294967296) : GOK Y W L (g - 1) (r + Y / B32 ^ (L - 1)) :=
  ⟨g_dec h hg hq, hr, by omega, by have := hg.2.2.2; omega⟩
theorem g_end1 {Y W L g r : Nat} (h : DvH Y W L) (hg : GOK Y W L g r) (hB : g < 4294967296) (ht : g * (Y / B32 ^ (L - 2) % B32) ≤ r * 2 ^ 32 + W / B32 ^ (L - 2) % B32) : g ≤ W / Y + 1 := by
  obtain ⟨a1, a2⟩ := h.y1
  exact guess_end (B := B32) (split3 Y L h.hL) (split3 W L h.hL) (Nat.mod_lt _ (B32_pos _)) (by omega) (Nat.mod_lt _ (by decide)) hg.1 h.pos (by unfold B32; omega) (.inl ht)
theorem g_end2 {Y W L g r : Nat} (h : DvH Y W L) (hg : GOK Y W L g r) (hq : W / Y < g) (hr : 4294967296 ≤ r + Y / B32 ^ (L - 1)) : g - 1 ≤ W / Y + 1 := by
  obtain ⟨a1, a2⟩ := h.y1
  have := hg.2.2.2
  exact guess_end (B := B32) (split3 Y L h.hL) (split3 W L h.hL) (Nat.mod_lt _ (B32_pos _)) (by omega) (Nat.mod_lt _ (by decide)) (g_dec h hg hq) h.pos (by unfold B32; omega) (.inr hr)
/-! the product is taken away -/
def gC (Y g i : Nat) : Nat := g * (Y % B32 ^ i) / B32 ^ i
def gS (Y g i : Nat) : Nat := gC Y g i + g * (Y / B32 ^ i % B32)
theorem gC_zero (Y g : Nat) : gC Y g 0 = 0 := by simp [gC, Nat.mod_one]
theorem gC_le (Y g i : Nat) (hg : g ≤ 4294967296) : gC Y g i ≤ 4294967295 := by
  unfold gC
  have h1 := Nat.mod_lt Y (B32_pos i)
  have : g * (Y % B32 ^ i) / B32 ^ i < 4294967296 := by
    rw [Nat.div_lt_iff_lt_mul (B32_pos i)]
    have h2 : g * (Y % B32 ^ i) ≤ 4294967296 * (Y % B32 ^ i) := Nat.mul_le_mul_right _ hg
    omega
  omega
theorem gS_lt (Y g i : Nat) (hg : g ≤ 4294967296) : gS Y g i < 18446744073709551616 ∧ g * (Y / B32 ^ i % B32) < 18446744073709551616 := by
  unfold gS
  have h1 := gC_le Y g i hg
  have h2 := B32_mod (Y / B32 ^ i)
  have h3 : g * (Y / B32 ^ i % B32) ≤ 4294967296 * 4294967295 := Nat.mul_le_mul hg (by omega)
  omega
theorem gS_carry (Y g i : Nat) : gS Y g i / 2 ^ 32 = gC Y g (i + 1) := by
  show _ / B32 = _
  unfold gS gC
  rw [B32_succ, Nat.mod_mul, ← Nat.div_div_eq_div_mul]
  congr 1
  have e : g * (Y % B32 ^ i + B32 ^ i * (Y / B32 ^ i % B32)) = g * (Y % B32 ^ i) + B32 ^ i * (g * (Y / B32 ^ i % B32)) := by grind
  rw [e, Nat.add_mul_div_left _ _ (B32_pos i)]
theorem gS_low (Y g i : Nat) : gS Y g i % 4294967296 = g * Y / B32 ^ i % B32 := by
  show _ % B32 = _
  have e : g * Y = g * (Y % B32 ^ i) + B32 ^ i * (g * (Y / B32 ^ i)) := by
    have h1 := Nat.mod_add_div Y (B32 ^ i)
    conv => lhs; rw [← h1]
    grind
  rw [e, Nat.add_mul_div_left _ _ (B32_pos i)]
  unfold gS gC
  generalize g * (Y % B32 ^ i) / B32 ^ i = c
  generalize Y / B32 ^ i = p
  rw [Nat.add_mod, ← Nat.mul_mod_mod, Nat.mod_mod, Nat.mul_mod_mod, ← Nat.add_mod]
/-- the window without the product, modulo the next power -/
def dvD (Y W L g : Nat) : Nat := W + B32 ^ (L + 1) - g * Y
theorem dv_le {Y W L g : Nat} (h : DvH Y W L) (hg1 : g ≤ W / Y + 1) : g * Y ≤ W + B32 ^ (L + 1) := by
  have h1 := Nat.mul_le_mul_right Y hg1
  have h2 := Nat.div_mul_le_self W Y
  rw [Nat.add_mul] at h1
  have h3 := h.hi
  have h4 : B32 ^ L ≤ B32 ^ (L + 1) := Nat.pow_le_pow_right (by decide) (by omega)
  omega
theorem dv_dig {W L i : Nat} (hi : i ≤ L) : (W + B32 ^ (L + 1)) / B32 ^ i % B32 = W / B32 ^ i % B32 := by
  have e : B32 ^ (L + 1) = B32 ^ i * (B32 * B32 ^ (L - i)) := by
    rw [← Nat.mul_assoc, ← B32_succ, ← Nat.pow_add, show i + 1 + (L - i) = L + 1 by omega]
  rw [e, Nat.add_mul_div_left _ _ (B32_pos i), Nat.add_mul_mod_self_left]
def msT (X W D j i k : Nat) : Nat := if k < j then X / B32 ^ k % B32 else if k < j + i then D / B32 ^ (k - j) % B32 else W / B32 ^ (k - j) % B32
theorem msT_at (X W D j i : Nat) : msT X W D j i (i + j) = W / B32 ^ i % B32 := by
  unfold msT; rw [if_neg (by omega), if_neg (by omega), show i + j - j = i by omega]
theorem msT_step (X W D j i k : Nat) : msT X W D j (i + 1) k = if k = i + j then D / B32 ^ i % B32 else msT X W D j i k := by
  unfold msT
  by_cases e : k = i + j
  · subst e; rw [if_neg (by omega), if_pos (by omega), if_pos rfl, show i + j - j = i by omega]
  · rw [if_neg e]
    by_cases c : k < j
    · rw [if_pos c, if_pos c]
    · rw [if_neg c, if_neg c]
      by_cases c2 : k < j + i
      · rw [if_pos c2, if_pos (by omega)]
      · rw [if_neg c2, if_neg (by omega)]
def xw (X j V k : Nat) : Nat := if k < j then X / B32 ^ k % B32 else V / B32 ^ (k - j) % B32
def dvW (X Y j : Nat) : Nat := X / B32 ^ (j + 1) % Y * B32 + X / B32 ^ j % B32
theorem dvW_lt (X Y j : Nat) (hy : 0 < Y) : dvW X Y j < Y * B32 := shoW_lt X Y j hy
theorem xw_start (X Y D j k : Nat) : xw X (j + 1) (X / B32 ^ (j + 1) % Y) k = msT X (dvW X Y j) D j 0 k := by
  unfold xw msT dvW
  by_cases c : k < j
  · rw [if_pos (by omega), if_pos c]
  · rw [if_neg c, if_neg (by omega : ¬ k < j + 0)]
    by_cases e : k = j
    · subst e
      rw [if_pos (by omega), Nat.sub_self, Nat.pow_zero, Nat.div_one, Nat.mul_comm, Nat.mul_add_mod, Nat.mod_mod]
    · rw [if_neg (by omega)]
      obtain ⟨q, rfl⟩ : ∃ q, k = j + 1 + q := ⟨k - j - 1, by omega⟩
      rw [show j + 1 + q - (j + 1) = q by omega, show j + 1 + q - j = q + 1 by omega]
      have : (X / B32 ^ (j + 1) % Y * B32 + X / B32 ^ j % B32) / B32 = X / B32 ^ (j + 1) % Y := by
        rw [Nat.mul_comm, Nat.mul_add_div (by decide), Nat.div_eq_of_lt (Nat.mod_lt _ (by decide))]; omega
      have e2 : B32 ^ (q + 1) = B32 * B32 ^ q := Nat.pow_succ'
      rw [e2, ← Nat.div_div_eq_div_mul (X / B32 ^ (j + 1) % Y * B32 + X / B32 ^ j % B32), this]
theorem dvW_quo (X Y j : Nat) (hy : 0 < Y) : dvW X Y j / Y = X / Y / B32 ^ j % B32 := shoW_quo X Y j hy
theorem dvW_rem (X Y j : Nat) (hy : 0 < Y) : dvW X Y j % Y = X / B32 ^ j % Y := shoW_rem X Y j hy
/-- what is left, in digits -/
theorem ms_end {X Y W L g j k : Nat} (h : DvH Y W L) (hg : g = W / Y) : msT X W (dvD Y W L g) j (L + 1) k = xw X j (W % Y) k := by
  unfold msT xw
  by_cases c : k < j
  · rw [if_pos c, if_pos c]
  · rw [if_neg c, if_neg c]
    have hD : dvD Y W L g = W % Y + B32 ^ (L + 1) := by
      unfold dvD; subst hg
      have := Nat.div_add_mod W Y
      rw [Nat.mul_comm] at this; omega
    have hr := Nat.mod_lt W h.pos
    by_cases c2 : k < j + (L + 1)
    · rw [if_pos c2, hD, dv_dig (by omega)]
    · rw [if_neg c2]
      have h1 : B32 ^ (L + 1) ≤ B32 ^ (k - j) := Nat.pow_le_pow_right (by decide) (by omega)
      have h2 := h.wlt
      have h3 := h.hi
      have h4 : B32 ^ L ≤ B32 ^ (L + 1) := Nat.pow_le_pow_right (by decide) (by omega)
      rw [Nat.div_eq_of_lt (by omega), Nat.div_eq_of_lt (by omega)]
/-! added back -/
def abT (X Y W D L j i k : Nat) : Nat := if k < j then X / B32 ^ k % B32 else if k < j + i then (D + Y) / B32 ^ (k - j) % B32 else if k < j + (L + 1) then D / B32 ^ (k - j) % B32 else W / B32 ^ (k - j) % B32
theorem abT_zero (X Y W D L j k : Nat) : msT X W D j (L + 1) k = abT X Y W D L j 0 k := by
  unfold msT abT
  by_cases c : k < j
  · rw [if_pos c, if_pos c]
  · rw [if_neg c, if_neg c, if_neg (by omega : ¬ k < j + 0)]
theorem abT_at (X Y W D L j i : Nat) (hi : i ≤ L) : abT X Y W D L j i (i + j) = D / B32 ^ i % B32 := by
  unfold abT; rw [if_neg (by omega), if_neg (by omega), if_pos (by omega), show i + j - j = i by omega]
theorem abT_step (X Y W D L j i k : Nat) : abT X Y W D L j (i + 1) k = if k = i + j then addS D Y i % 4294967296 else abT X Y W D L j i k := by
  rw [addS_low]
  unfold abT
  by_cases e : k = i + j
  · subst e; rw [if_neg (by omega), if_pos (by omega), if_pos rfl, show i + j - j = i by omega]
  · rw [if_neg e]
    by_cases c : k < j
    · rw [if_pos c, if_pos c]
    · rw [if_neg c, if_neg c]
      by_cases c2 : k < j + i
      · rw [if_pos c2, if_pos (by omega)]
      · rw [if_neg c2, if_neg (by omega)]
theorem ab_end {X Y W L g j k : Nat} (h : DvH Y W L) (hg : g = W / Y + 1) : abT X Y W (dvD Y W L g) L j (L + 1) k = xw X j (W % Y) k := by
  have e : dvD Y W L g + Y = dvD Y W L (W / Y) := by
    have h1 := dv_le h (g := g) (by omega)
    unfold dvD; subst hg
    rw [Nat.add_mul] at h1 ⊢; omega
  rw [← ms_end (X := X) (j := j) (k := k) h rfl, ← e]
  unfold abT msT
  by_cases c : k < j
  · rw [if_pos c, if_pos c]
  · rw [if_neg c, if_neg c]
    by_cases c2 : k < j + (L + 1)
    · rw [if_pos c2, if_pos c2]
    · rw [if_neg c2, if_neg c2, if_neg c2]
theorem ab_low (D Y L : Nat) (hY : Y < B32 ^ L) : (D / B32 ^ L % B32 + addC D Y L % 4294967296) % 4294967296 = addS D Y L % 4294967296 := by
  rw [addS_eq, show Y / B32 ^ L % B32 = 0 by rw [Nat.div_eq_of_lt hY]; rfl]
  omega
/-- is the guess too great? -/
theorem dv_neg {Y W L g : Nat} (h : DvH Y W L) (h1 : g ≤ W / Y + 1) (h2 : W / Y ≤ g) (hb : subB (W + B32 ^ (L + 1)) (g * Y) (L + 1) = 1) : g = W / Y + 1 := by
  rcases Nat.lt_or_ge (W / Y) g with c | c
  · omega
  · exfalso
    have e : g = W / Y := by omega
    subst e
    unfold subB at hb
    have h3 := Nat.div_mul_le_self W Y
    have h4 := h.wlt
    rw [Nat.add_mod_right, Nat.mod_eq_of_lt h4, Nat.mod_eq_of_lt (by omega), if_neg (by omega)] at hb
    cases hb
theorem dv_pos {Y W L g : Nat} (h : DvH Y W L) (h1 : g ≤ W / Y + 1) (h2 : W / Y ≤ g) (hB : g ≤ 4294967296) (hb : subB (W + B32 ^ (L + 1)) (g * Y) (L + 1) = 0) : g = W / Y := by
  rcases Nat.lt_or_ge (W / Y) g with c | c
  · exfalso
    have e : g = W / Y + 1 := by omega
    unfold subB at hb
    have h3 := Nat.div_add_mod W Y
    have h4 := h.wlt
    have h5 := Nat.mod_lt W h.pos
    have h6 : g * Y < B32 ^ (L + 1) := by
      rw [B32_succ, Nat.mul_comm]
      exact Nat.mul_lt_mul_of_lt_of_le h.hi hB (by decide)
    rw [Nat.add_mod_right, Nat.mod_eq_of_lt h4, Nat.mod_eq_of_lt h6] at hb
    have h7 : g * Y = Y * (W / Y) + Y := by rw [e, Nat.add_mul, Nat.mul_comm, Nat.one_mul]
    rw [if_pos (by omega)] at hb
    cases hb
  · omega
theorem gC_last {Y L g : Nat} (hY : Y < B32 ^ L) (hB : g ≤ 4294967296) : gC Y g L = g * Y / B32 ^ L % B32 := by
  have h1 : gC Y g L = g * Y / B32 ^ L := by unfold gC; rw [Nat.mod_eq_of_lt hY]
  have h2 := gC_le Y g L hB
  rw [h1] at h2 ⊢
  exact (Nat.mod_eq_of_lt (by unfold B32 at *; omega)).symm
end Go.Via
set_option linter.unusedVariables false
namespace Go.Via
open Go
/-- the first digit of the divisor is made great -/
theorem norm_s {n : Nat} (h0 : n ≠ 0) : ∃ s, s < 32 ∧ (32 - (Lib.bitLen (n / B32 ^ ((digs B32 n).length - 1) % B32) : Int)) = ((s : Nat) : Int) ∧ B32 ^ (digs B32 n).length ≤ 2 * (n * 2 ^ s) ∧ n * 2 ^ s < B32 ^ (digs B32 n).length := by
  have hlt := lt_pow_digs B32_two n
  have hl : 0 < (digs B32 n).length := by
    rcases Nat.eq_zero_or_pos (digs B32 n).length with h | h
    · exact absurd ((digs_eq_nil B32_two).1 (List.eq_nil_of_length_eq_zero h)) h0
    · exact h
  generalize hL : (digs B32 n).length = L at *
  obtain ⟨k, rfl⟩ : ∃ k, L = k + 1 := ⟨L - 1, by omega⟩
  simp only [Nat.add_sub_cancel]
  have hk : B32 ^ k ≤ n := by
    rcases Nat.lt_or_ge n (B32 ^ k) with h | h
    · have := digs_length_le B32_two h; omega
    · exact h
  have ht : n / B32 ^ k < B32 := by rw [Nat.div_lt_iff_lt_mul (B32_pos k), Nat.mul_comm, ← B32_succ]; exact hlt
  have ht0 : 0 < n / B32 ^ k := Nat.div_pos hk (B32_pos k)
  rw [Nat.mod_eq_of_lt ht]
  obtain ⟨b1, b2, b3⟩ := bitLen_bounds (x := n / B32 ^ k) (Nat.lt_trans ht (by decide)) (by omega)
  have b4 : Lib.bitLen (n / B32 ^ k) ≤ 32 := Lib.bitLen_le _ 32 (by omega) ht
  generalize Lib.bitLen (n / B32 ^ k) = b at *
  refine ⟨32 - b, by omega, by omega, ?_, ?_⟩
  · have h1 : 2 ^ (b - 1) * B32 ^ k ≤ n := by
      have := Nat.mul_le_mul_right (B32 ^ k) b2
      exact Nat.le_trans this (Nat.div_mul_le_self _ _)
    have h2 := Nat.mul_le_mul_right (2 ^ (32 - b)) h1
    have h3 : 2 ^ (b - 1) * B32 ^ k * 2 ^ (32 - b) * 2 = B32 ^ (k + 1) := by
      have e : 2 ^ (b - 1) * 2 ^ (32 - b) * 2 = B32 := by
        rw [← Nat.pow_add, ← Nat.pow_succ, show (b - 1 + (32 - b)).succ = 32 by omega]; rfl
      rw [B32_succ, ← e]; grind
    omega
  · have h1 : n < 2 ^ b * B32 ^ k := by
      exact Nat.lt_mul_of_div_lt b3 (B32_pos k)
    have h2 := (Nat.mul_lt_mul_right (a := 2 ^ (32 - b)) (Nat.pow_pos (by omega))).2 h1
    have h3 : 2 ^ b * B32 ^ k * 2 ^ (32 - b) = B32 ^ (k + 1) := by
      have e : 2 ^ b * 2 ^ (32 - b) = B32 := by rw [← Nat.pow_add, show b + (32 - b) = 32 by omega]; rfl
      rw [B32_succ, ← e]; grind
    omega
theorem dv_init {m n s : Nat} (hs : s < 32) (hlen : (digs B32 n).length ≤ (digs B32 m).length) (h1 : B32 ^ (digs B32 n).length ≤ 2 * (n * 2 ^ s)) : m * 2 ^ s / B32 ^ ((digs B32 m).length + 1 - (digs B32 n).length) < n * 2 ^ s := by
  rw [Nat.div_lt_iff_lt_mul (B32_pos _)]
  have h2 := lt_pow_digs B32_two m
  have h3 := two_pow_le hs
  have h4 : m * 2 ^ s ≤ m * 2147483648 := Nat.mul_le_mul_left _ h3
  have h5 : B32 ^ (digs B32 n).length * B32 ^ ((digs B32 m).length + 1 - (digs B32 n).length) = B32 ^ (digs B32 m).length * B32 := by
    rw [← Nat.pow_add, ← B32_succ]; congr 1; omega
  have h6 := Nat.mul_le_mul_right (B32 ^ ((digs B32 m).length + 1 - (digs B32 n).length)) h1
  rw [h5, Nat.mul_assoc] at h6
  have h7 : B32 ^ (digs B32 m).length * B32 = 2 * (2147483648 * B32 ^ (digs B32 m).length) := by unfold B32; omega
  omega
theorem xw_init {X Y M k : Nat} (h : X / B32 ^ M < Y) : shR X k = xw X M (X / B32 ^ M % Y) k := by
  unfold xw shR
  rw [Nat.mod_eq_of_lt h]
  split
  · rfl
  · rw [Nat.div_div_eq_div_mul, ← Nat.pow_add, show M + (k - M) = k by omega]
theorem xw_load {X Y W j : Nat} (hW : dvW X Y j = W) (k : Nat) : xw X (j + 1) (X / B32 ^ (j + 1) % Y) (k + j) = W / B32 ^ k % B32 := by
  rw [xw_start X Y 0 j, hW]
  unfold msT
  rw [if_neg (by omega), if_neg (by omega), show k + j - j = k by omega]
theorem xw_ms {X Y W j : Nat} (hW : dvW X Y j = W) (D k : Nat) : xw X (j + 1) (X / B32 ^ (j + 1) % Y) k = msT X W D j 0 k := by
  rw [xw_start X Y D j, hW]
theorem DvH.whigh {Y W L : Nat} (h : DvH Y W L) : 2 ^ 32 * (W / B32 ^ L % B32) + W / B32 ^ (L - 1) % B32 = W / B32 ^ (L - 1) := by
  have h1 := sho_w W (L - 1)
  rw [show L - 1 + 1 = L by have := h.hL; omega] at h1
  have h2 : W / B32 ^ L < B32 := by rw [Nat.div_lt_iff_lt_mul (B32_pos L), Nat.mul_comm, ← B32_succ]; exact h.wlt
  rw [Nat.mod_eq_of_lt h2, Nat.mul_comm]; exact h1.symm
theorem DvH.ytop {Y W L : Nat} (h : DvH Y W L) : shR Y (L - 1) = Y / B32 ^ (L - 1) := by
  unfold shR; exact Nat.mod_eq_of_lt h.y1.2
theorem mul64 {p q : Nat} (hp : p < 4294967296) (hq : q < 4294967296) : p * q < 18446744073709551616 := by
  have : p * q ≤ 4294967295 * 4294967295 := Nat.mul_le_mul (by omega) (by omega)
  omega
theorem ms_neg {Y W L g i : Nat} (h : DvH Y W L) (hg1 : g ≤ W / Y + 1) (hi : i ≤ L) (hd : W / B32 ^ i % B32 < g * Y / B32 ^ i % B32 + subB (W + B32 ^ (L + 1)) (g * Y) i) :
    W / B32 ^ i % B32 + 4294967296 = dvD Y W L g / B32 ^ i % B32 + g * Y / B32 ^ i % B32 + subB (W + B32 ^ (L + 1)) (g * Y) i ∧ subB (W + B32 ^ (L + 1)) (g * Y) (i + 1) = 1 := by
  have := sub_neg (i := i) (dv_le h hg1) (by rw [dv_dig hi]; exact hd)
  rw [dv_dig hi] at this; exact this
theorem ms_pos {Y W L g i : Nat} (h : DvH Y W L) (hg1 : g ≤ W / Y + 1) (hi : i ≤ L) (hd : ¬ W / B32 ^ i % B32 < g * Y / B32 ^ i % B32 + subB (W + B32 ^ (L + 1)) (g * Y) i) :
    W / B32 ^ i % B32 = dvD Y W L g / B32 ^ i % B32 + g * Y / B32 ^ i % B32 + subB (W + B32 ^ (L + 1)) (g * Y) i ∧ subB (W + B32 ^ (L + 1)) (g * Y) (i + 1) = 0 := by
  have := sub_pos (i := i) (dv_le h hg1) (by rw [dv_dig hi]; exact hd)
  rw [dv_dig hi] at this; exact this
theorem ms_u32 {Y W L g i : Nat} (h : DvH Y W L) (hg1 : g ≤ W / Y + 1) (hi : i ≤ L) : IntKind.u32.wrap (((W / B32 ^ i % B32 : Nat) : Int) - ((subB (W + B32 ^ (L + 1)) (g * Y) i : Nat) : Int) - ((g * Y / B32 ^ i % B32 : Nat) : Int)) = ((dvD Y W L g / B32 ^ i % B32 : Nat) : Int) := by
  rw [wu32]
  have hD := B32_mod (dvD Y W L g / B32 ^ i)
  by_cases c : W / B32 ^ i % B32 < g * Y / B32 ^ i % B32 + subB (W + B32 ^ (L + 1)) (g * Y) i
  · have := (ms_neg h hg1 hi c).1
    generalize W / B32 ^ i % B32 = w at *
    generalize g * Y / B32 ^ i % B32 = p at *
    generalize dvD Y W L g / B32 ^ i % B32 = d at *
    generalize subB (W + B32 ^ (L + 1)) (g * Y) i = b at *
    omega
  · have := (ms_pos h hg1 hi c).1
    generalize W / B32 ^ i % B32 = w at *
    generalize g * Y / B32 ^ i % B32 = p at *
    generalize dvD Y W L g / B32 ^ i % B32 = d at *
    generalize subB (W + B32 ^ (L + 1)) (g * Y) i = b at *
    omega
def outT (X Y p k : Nat) : Nat := if k < p then 0 else X / Y / B32 ^ k % B32
theorem outT_step (X Y j k : Nat) : outT X Y j k = if k = j then X / Y / B32 ^ j % B32 else outT X Y (j + 1) k := by
  unfold outT
  by_cases e : k = j
  · subst e; rw [if_neg (by omega), if_pos rfl]
  · rw [if_neg e]
    by_cases c : k < j
    · rw [if_pos c, if_pos (by omega)]
    · rw [if_neg c, if_neg (by omega)]
theorem outT_lt (X Y p k : Nat) : outT X Y p k < B32 := by unfold outT; split; decide; exact B32_mod _
theorem out_val {m n s M : Nat} (h0 : n ≠ 0) (h : m * 2 ^ s / B32 ^ M < n * 2 ^ s) : val B32 (row M (outT (m * 2 ^ s) (n * 2 ^ s) 0)) = m / n := by
  have e : m * 2 ^ s / (n * 2 ^ s) = m / n := Nat.mul_div_mul_right m n (Nat.pow_pos (by omega))
  rw [row_congr (g := fun j => m / n / B32 ^ j % B32) (fun j _ => by unfold outT; rw [if_neg (by omega), e]), val_row B32 (by decide), Nat.mod_eq_of_lt]
  have hp : 0 < n * 2 ^ s := Nat.mul_pos (by omega) (Nat.pow_pos (by omega))
  rw [← e, Nat.div_lt_iff_lt_mul hp]
  rw [Nat.div_lt_iff_lt_mul (B32_pos M)] at h
  rw [Nat.mul_comm (n * 2 ^ s) (B32 ^ M)] at h; exact h
theorem x0_load (m n s k : Nat) : xw (m * 2 ^ s) 0 (m * 2 ^ s / B32 ^ 0 % (n * 2 ^ s)) k = m % n * 2 ^ s / B32 ^ k % B32 := by
  unfold xw
  rw [if_neg (by omega), Nat.sub_zero, Nat.pow_zero, Nat.div_one, Nat.mul_mod_mul_right]
def restT (r i k : Nat) : Nat := if k < i then r / B32 ^ k % B32 else 0
theorem restT_zero (r k : Nat) : restT r 0 k = 0 := by simp [restT]
theorem restT_step (r i k : Nat) : restT r (i + 1) k = if k = i then r / B32 ^ i % B32 else restT r i k := by
  unfold restT
  by_cases e : k = i
  · subst e; rw [if_pos (by omega), if_pos rfl]
  · rw [if_neg e]
    by_cases c : k < i
    · rw [if_pos c, if_pos (by omega)]
    · rw [if_neg c, if_neg (by omega)]
theorem restT_lt (r i k : Nat) : restT r i k < B32 := by unfold restT; split; exact B32_mod _; decide
theorem rest_val {m n : Nat} (h0 : n ≠ 0) : val B32 (row (digs B32 n).length (restT (m % n) (digs B32 n).length)) = m % n := by
  rw [row_congr (g := fun j => m % n / B32 ^ j % B32) (fun j hj => by unfold restT; rw [if_pos hj]), val_row B32 (by decide), Nat.mod_eq_of_lt]
  exact Nat.lt_trans (Nat.mod_lt _ (by omega)) (lt_pow_digs B32_two n)
theorem back_or (V i : Nat) : 2 ^ 32 * (V / B32 ^ (i + 1) % B32) + V / B32 ^ i % B32 = V / B32 ^ i % (B32 * B32) := by
  rw [Nat.mod_mul, B32_succ, ← Nat.div_div_eq_div_mul]
  show B32 * _ + _ = _
  omega
theorem back_lt (V i : Nat) : V / B32 ^ i % (B32 * B32) < 18446744073709551616 := Nat.mod_lt _ (by decide)
theorem back_shr {r s i : Nat} (hs : s < 32) : r * 2 ^ s / B32 ^ i % (B32 * B32) / 2 ^ s % 4294967296 = r / B32 ^ i % B32 := by
  show _ % B32 = _
  have hp : 0 < 2 ^ s := Nat.pow_pos (by omega)
  have e : B32 * B32 = 2 ^ s * (B32 * 2 ^ (32 - s)) := by
    have := B32_two_pow hs
    conv => lhs; rw [this]
    rw [← this]; conv => lhs; arg 1; rw [this]
    grind
  rw [e, Nat.mod_mul, Nat.add_mul_div_left _ _ hp, Nat.div_eq_of_lt (Nat.mod_lt _ hp), Nat.zero_add]
  have e2 : r * 2 ^ s / B32 ^ i / 2 ^ s = r / B32 ^ i := by
    rw [Nat.div_div_eq_div_mul, Nat.mul_comm (B32 ^ i), ← Nat.div_div_eq_div_mul, Nat.mul_div_cancel _ hp]
  rw [e2, Nat.mod_mul_right_mod]
theorem gS_cast (Y g i : Nat) : ((gC Y g i : Nat) : Int) + ((g * (Y / B32 ^ i % B32) : Nat) : Int) = ((gS Y g i : Nat) : Int) := by unfold gS; omega
theorem addS_cast (D Y i : Nat) : ((addC D Y i : Nat) : Int) + ((D / B32 ^ i % B32 + Y / B32 ^ i % B32 : Nat) : Int) = ((addS D Y i : Nat) : Int) := by rw [addS_eq]; omega
theorem cmpN_false {m n : Nat} (h : decide (cmpN m n < 0) = false) : n ≤ m := by
  have := of_decide_eq_false h; unfold cmpN at this
  rcases Nat.lt_or_ge m n with c | c
  · rw [if_pos c] at this; exact absurd (by decide) this
  · exact c
theorem cmpN_true {m n : Nat} (h : decide (cmpN m n < 0) = true) : m < n := by
  have := of_decide_eq_true h; unfold cmpN at this
  rcases Nat.lt_or_ge m n with c | c
  · exact c
  · rw [if_neg (by omega)] at this
    split at this <;> exact absurd this (by decide)
theorem dig_pos {n : Nat} (h0 : n ≠ 0) : 0 < (digs B32 n).length := by
  rcases Nat.eq_zero_or_pos (digs B32 n).length with h | h
  · exact absurd ((digs_eq_nil B32_two).1 (List.eq_nil_of_length_eq_zero h)) h0
  · exact h
theorem one_dig {n : Nat} (h : (digs B32 n).length = 1) : n < 4294967296 := by have := lt_pow_digs B32_two n; rw [h] at this; exact this
end Go.Via
namespace Go.Via
open Go
theorem digs_one {n : Nat} (h1 : (digs B32 n).length = 1) (hn : n < 4294967296) : (digs B32 n)[0]? = some n := by
  rw [digs_get B32_two (by omega), Nat.pow_zero, Nat.div_one]
  exact congrArg some (Nat.mod_eq_of_lt hn)
end Go.Via
set_option linter.unusedVariables false
namespace Go.Via
open Go
theorem gcd_step (a b : Nat) : Nat.gcd b (a % b) = Nat.gcd a b := by rw [Nat.gcd_comm a b, Nat.gcd_rec b a, Nat.gcd_comm]
end Go.Via
namespace Go.Via
open Go
theorem of_bne_f {a b : Int} (h : (a != b) = false) : a = b := by simpa using h
theorem gcd_fin {x g : Nat} (h : x = g) : (if false = true then -(x : Int) else (x : Int)) = (g : Int) := by subst h; rfl
end Go.Via
namespace Go.Via
open Go
end Go.Via
set_option linter.unusedVariables false
namespace Go.Via
open Go
/-! ### digits to the base 256, as the reference has them -/
def D8 (n : Nat) : List Nat := digs 256 n
theorem D8_length (n : Nat) : (D8 n).length = nb n := rfl
theorem D8_get {n i : Nat} (h : i < nb n) : (D8 n)[i]? = some (n / 256 ^ i % 256) := digs_getElem? (by omega) n i h
theorem step256 (n q : Nat) : n / 256 ^ q = n / 256 ^ (q + 1) * 256 + n / 256 ^ q % 256 := by
  rw [Nat.pow_succ, ← Nat.div_div_eq_div_mul]
  have := Nat.div_add_mod (n / 256 ^ q) 256
  omega
theorem lt_of_div {a b q : Nat} (h : a / 256 ^ q < b / 256 ^ q) : a < b := by
  rcases Nat.lt_or_ge a b with c | c
  · exact c
  · have := Nat.div_le_div_right (c := 256 ^ q) c; omega
theorem cmp_len_lt {a b : Nat} (h : nb a < nb b) : cmpN a b = -1 := by unfold cmpN; rw [if_pos (nb_lt h)]
theorem cmp_len_gt {a b : Nat} (h : nb b < nb a) : cmpN a b = 1 := by
  have := nb_lt h; unfold cmpN; rw [if_neg (by omega), if_pos this]
theorem cmp_dig_lt {a b q : Nat} (he : a / 256 ^ (q + 1) = b / 256 ^ (q + 1)) (h : a / 256 ^ q % 256 < b / 256 ^ q % 256) : cmpN a b = -1 := by
  have h1 := step256 a q
  have h2 := step256 b q
  have : a < b := lt_of_div (q := q) (by omega)
  unfold cmpN; rw [if_pos this]
theorem cmp_dig_gt {a b q : Nat} (he : a / 256 ^ (q + 1) = b / 256 ^ (q + 1)) (h : b / 256 ^ q % 256 < a / 256 ^ q % 256) : cmpN a b = 1 := by
  have h1 := step256 a q
  have h2 := step256 b q
  have : b < a := lt_of_div (q := q) (by omega)
  unfold cmpN; rw [if_neg (by omega), if_pos this]
theorem cmp_dig_eq {a b q : Nat} (he : a / 256 ^ (q + 1) = b / 256 ^ (q + 1)) (h1 : ¬ a / 256 ^ q % 256 < b / 256 ^ q % 256) (h2 : ¬ b / 256 ^ q % 256 < a / 256 ^ q % 256) : a / 256 ^ q = b / 256 ^ q := by
  have e1 := step256 a q
  have e2 := step256 b q
  omega
theorem cmp_top {a b : Nat} (h : nb a = nb b) : a / 256 ^ nb a = b / 256 ^ nb a := by
  rw [Nat.div_eq_of_lt (lt_nb a), h, Nat.div_eq_of_lt (lt_nb b)]
theorem cmp_end {a b : Nat} (h : a / 256 ^ 0 = b / 256 ^ 0) : cmpN a b = 0 := by
  have : a = b := by simpa using h
  subst this; unfold cmpN; rw [if_neg (Nat.lt_irrefl _), if_neg (Nat.lt_irrefl _)]
theorem small_lt {n q : Nat} (h7 : nb n ≤ 7) : n / 256 ^ q < 72057594037927936 := by
  have h1 := lt_of_nb_le h7
  have : n / 256 ^ q ≤ n := Nat.div_le_self _ _
  omega
theorem bytT_rev (n : Nat) : row (nb n) (bytT n (nb n) (nb n)) = (digs 256 n).reverse := by
  apply List.ext_getElem?
  intro j
  by_cases hj : j < nb n
  · rw [row_get hj, List.getElem?_reverse (by exact hj)]
    have e := digs_getElem? (B := 256) (by omega) n (nb n - 1 - j) (by unfold nb at *; omega)
    unfold nb at e hj ⊢
    rw [e]
    unfold bytT
    rw [if_pos (by omega)]
  · rw [List.getElem?_eq_none (by rw [row_length]; omega), List.getElem?_eq_none (by simp; unfold nb at hj; omega)]
theorem D8_trim (n : Nat) : digs 256 (val 256 (D8 n)) = D8 n := by unfold D8; rw [val_digs (by omega)]
end Go.Via
set_option linter.unusedVariables false
namespace Go.Via
open Go
def dg8 (n j : Nat) : Nat := n / 256 ^ j % 256
theorem dg8_lt (n j : Nat) : dg8 n j < 256 := Nat.mod_lt _ (by decide)
theorem D8_row (n : Nat) : row (nb n) (dg8 n) = D8 n := (digs_row (B := 256) (by omega) n).symm
theorem NV_snoc (k : IntKind) (i : Nat) (f : Nat → Nat) (d : Int) (h : d = ((f i : Nat) : Int)) : NV k (row i f) ++ [.int k d] = NV k (row (i + 1) f) := by
  subst h
  unfold NV row
  rw [List.range_succ, List.map_append, List.map_append]; rfl
theorem one_cell (k : IntKind) (d : Int) : ∀ v ∈ [Value.int k d], v.oneCell' = true := by
  intro v hv; rw [List.mem_singleton.1 hv]; rfl
theorem div_le_nb {n i : Nat} (h : 0 < n / 256 ^ i) : i < nb n := by
  rcases Nat.lt_or_ge i (nb n) with c | c
  · exact c
  · rw [Nat.div_eq_of_lt (Nat.lt_of_lt_of_le (lt_nb n) (pow256_le c))] at h; omega
theorem nb_of_div {n i : Nat} (h : n / 256 ^ i = 0) (hi : i ≤ nb n) : i = nb n := by
  have h1 : n < 256 ^ i := (Nat.div_eq_zero_iff_lt (Nat.pow_pos (by omega))).1 h
  have := nb_le h1
  omega
theorem div256 (n i : Nat) : n / 256 ^ i / 256 = n / 256 ^ (i + 1) := by rw [Nat.pow_succ, Nat.div_div_eq_div_mul]
theorem D8_lt (n : Nat) : ∀ d ∈ D8 n, d < 256 := digs_lt (by omega)
theorem D8_trim_len (n : Nat) : (digs 256 (val 256 (D8 n))).length = nb n := by rw [D8_trim]; rfl
theorem D8_row_trim (n : Nat) : (digs 256 (val 256 (row (nb n) (dg8 n)))).length = nb n := by rw [D8_row, D8_trim_len]
end Go.Via
namespace Go.Via
open Go
theorem whole_T (n : Nat) {neg : Bool} (h : neg = true) : Value.agg #[.bool (decide ((0 : Int) < nb n)), .string (mag n)] = I (if neg = true then -(n : Int) else (n : Int)) := by
  rw [if_pos h]
  have e := nb_eq_zero (n := n)
  unfold I
  have h1 : decide ((0 : Int) < nb n) = decide (-(n : Int) < 0) := by
    by_cases c : n = 0
    · subst c; rw [nb_zero]; rfl
    · rw [decide_eq_true (by omega), decide_eq_true (by omega)]
  rw [h1, Int.natAbs_neg, Int.natAbs_natCast]
theorem whole_F (n : Nat) {neg : Bool} (h : neg = false) : Value.agg #[.bool false, .string (mag n)] = I (if neg = true then -(n : Int) else (n : Int)) := by
  subst h
  rw [if_neg (by decide)]
  unfold I
  rw [decide_eq_false (by omega), Int.natAbs_natCast]
end Go.Via
set_option linter.unusedVariables false
namespace Go.Via
open Go
theorem p256_pos (i : Nat) : 0 < 256 ^ i := Nat.pow_pos (by omega)
theorem m256 (n : Nat) : n % 256 < 256 := Nat.mod_lt _ (by omega)
def ad8S (X Y i : Nat) : Nat := (X % 256 ^ i + Y % 256 ^ i) / 256 ^ i + X / 256 ^ i % 256 + Y / 256 ^ i % 256
def ad8C (X Y i : Nat) : Nat := (X % 256 ^ i + Y % 256 ^ i) / 256 ^ i
theorem ad8C_le (X Y i : Nat) : ad8C X Y i ≤ 1 := by
  unfold ad8C
  have h1 := Nat.mod_lt X (p256_pos i)
  have h2 := Nat.mod_lt Y (p256_pos i)
  have : (X % 256 ^ i + Y % 256 ^ i) / 256 ^ i < 2 := by rw [Nat.div_lt_iff_lt_mul (p256_pos i)]; omega
  omega
theorem ad8C_zero (X Y : Nat) : ad8C X Y 0 = 0 := by simp [ad8C, Nat.mod_one]
theorem ad8S_eq (X Y i : Nat) : ad8S X Y i = ad8C X Y i + X / 256 ^ i % 256 + Y / 256 ^ i % 256 := rfl
theorem ad8S_lt (X Y i : Nat) : ad8S X Y i < 512 := by
  have := ad8C_le X Y i
  have h1 := m256 (X / 256 ^ i)
  have h2 := m256 (Y / 256 ^ i)
  rw [ad8S_eq]; omega
theorem ad8S_carry (X Y i : Nat) : ad8S X Y i / 256 = ad8C X Y (i + 1) := by
  show _ / 256 = _
  unfold ad8S ad8C
  rw [Nat.pow_succ, Nat.mod_mul, Nat.mod_mul, ← Nat.div_div_eq_div_mul]
  congr 1
  have e : X % 256 ^ i + 256 ^ i * (X / 256 ^ i % 256) + (Y % 256 ^ i + 256 ^ i * (Y / 256 ^ i % 256)) = (X % 256 ^ i + Y % 256 ^ i) + 256 ^ i * (X / 256 ^ i % 256 + Y / 256 ^ i % 256) := by rw [Nat.mul_add]; omega
  rw [e, Nat.add_mul_div_left _ _ (p256_pos i)]
  omega
theorem ad8S_low (X Y i : Nat) : ad8S X Y i % 256 = (X + Y) / 256 ^ i % 256 := by
  show _ % 256 = _
  have e : X + Y = (X % 256 ^ i + Y % 256 ^ i) + 256 ^ i * (X / 256 ^ i + Y / 256 ^ i) := by
    have h1 := Nat.mod_add_div X (256 ^ i)
    have h2 := Nat.mod_add_div Y (256 ^ i)
    rw [Nat.mul_add]; omega
  conv => rhs; rw [e]
  rw [Nat.add_mul_div_left _ _ (p256_pos i)]
  unfold ad8S
  generalize (X % 256 ^ i + Y % 256 ^ i) / 256 ^ i = c
  generalize X / 256 ^ i = p
  generalize Y / 256 ^ i = q
  rw [Nat.add_assoc, Nat.add_mod, ← Nat.add_mod p q, ← Nat.add_mod]
def su8B (m n i : Nat) : Nat := if m % 256 ^ i < n % 256 ^ i then 1 else 0
theorem su8B_zero (m n : Nat) : su8B m n 0 = 0 := by simp [su8B, Nat.mod_one]
theorem su8B_le (m n i : Nat) : su8B m n i ≤ 1 := by unfold su8B; split <;> omega
theorem su8_div {m n i : Nat} (h : n ≤ m) : (m - n) / 256 ^ i + n / 256 ^ i + su8B m n i = m / 256 ^ i := by
  have h1 := Nat.mod_add_div m (256 ^ i)
  have h2 := Nat.mod_add_div n (256 ^ i)
  have h3 := Nat.mod_lt m (p256_pos i)
  have h4 := Nat.mod_lt n (p256_pos i)
  have hp := p256_pos i
  generalize hP : 256 ^ i = P at *
  generalize m / P = M at *
  generalize n / P = N at *
  unfold su8B
  rw [hP]
  split
  · rename_i hlt
    have hMN : N + 1 ≤ M := by
      by_cases c : M ≤ N
      · have := Nat.mul_le_mul_left P c; omega
      · omega
    obtain ⟨k, rfl⟩ : ∃ k, M = N + 1 + k := ⟨M - (N + 1), by omega⟩
    have e : m - n = (m % P + P - n % P) + P * k := by
      rw [Nat.mul_add, Nat.mul_add] at h1; omega
    rw [e, Nat.add_mul_div_left _ _ hp, Nat.div_eq_of_lt (by omega)]; omega
  · rename_i hge
    have hMN : N ≤ M := by
      by_cases c : M < N
      · have := Nat.mul_le_mul_left P c; rw [Nat.mul_succ] at this; omega
      · omega
    obtain ⟨k, rfl⟩ : ∃ k, M = N + k := ⟨M - N, by omega⟩
    have e : m - n = (m % P - n % P) + P * k := by
      rw [Nat.mul_add] at h1; omega
    rw [e, Nat.add_mul_div_left _ _ hp, Nat.div_eq_of_lt (by omega)]; omega
theorem su8B_succ (m n i : Nat) : su8B m n (i + 1) = if m / 256 ^ i % 256 < n / 256 ^ i % 256 + su8B m n i then 1 else 0 := by
  unfold su8B
  rw [Nat.pow_succ, Nat.mod_mul, Nat.mod_mul]
  have h3 := Nat.mod_lt m (p256_pos i)
  have h4 := Nat.mod_lt n (p256_pos i)
  generalize m / 256 ^ i % 256 = x
  generalize n / 256 ^ i % 256 = y
  generalize hP : 256 ^ i = P at *
  have key : (m % P + P * x < n % P + P * y) ↔ x < y + (if m % P < n % P then 1 else 0) := by
    rcases Nat.lt_trichotomy x y with c | c | c
    · have := Nat.mul_le_mul_left P c; rw [Nat.mul_succ] at this
      constructor <;> intro _ <;> omega
    · subst c; split <;> constructor <;> intro _ <;> omega
    · have := Nat.mul_le_mul_left P c; rw [Nat.mul_succ] at this
      split <;> constructor <;> intro _ <;> omega
  simp only [key]
theorem su8_neg {m n i : Nat} (h : n ≤ m) (hd : m / 256 ^ i % 256 < n / 256 ^ i % 256 + su8B m n i) : m / 256 ^ i % 256 + 256 = (m - n) / 256 ^ i % 256 + n / 256 ^ i % 256 + su8B m n i ∧ su8B m n (i + 1) = 1 := by
  refine ⟨?_, by rw [su8B_succ, if_pos hd]⟩
  have h1 := su8_div (i := i) h
  have h2 := su8B_le m n i
  omega
theorem su8_pos {m n i : Nat} (h : n ≤ m) (hd : ¬ m / 256 ^ i % 256 < n / 256 ^ i % 256 + su8B m n i) : m / 256 ^ i % 256 = (m - n) / 256 ^ i % 256 + n / 256 ^ i % 256 + su8B m n i ∧ su8B m n (i + 1) = 0 := by
  refine ⟨?_, by rw [su8B_succ, if_neg hd]⟩
  have h1 := su8_div (i := i) h
  have h2 := su8B_le m n i
  omega
theorem dg8_above {Y i : Nat} (h : nb Y ≤ i) : Y / 256 ^ i % 256 = 0 := by
  rw [Nat.div_eq_of_lt (Nat.lt_of_lt_of_le (lt_nb Y) (pow256_le h))]
/-- the sum's digits -/
theorem plus_val (a b i : Nat) (ha : nb a ≤ i) (hb : nb b ≤ i) (hc : ad8C a b i = 0) : a + b < 256 ^ i := by
  unfold ad8C at hc
  rw [Nat.mod_eq_of_lt (Nat.lt_of_lt_of_le (lt_nb a) (pow256_le ha)), Nat.mod_eq_of_lt (Nat.lt_of_lt_of_le (lt_nb b) (pow256_le hb))] at hc
  exact (Nat.div_eq_zero_iff_lt (p256_pos i)).1 hc
theorem plus_more (a b i : Nat) (h : 0 < ad8C a b i) (ha : nb a ≤ i) (hb : nb b ≤ i) : i ≤ max (nb a) (nb b) := by
  rcases Nat.lt_or_ge (max (nb a) (nb b)) i with c | c
  · exfalso
    have h1 : a < 256 ^ (i - 1) := Nat.lt_of_lt_of_le (lt_nb a) (pow256_le (by omega))
    have h2 : b < 256 ^ (i - 1) := Nat.lt_of_lt_of_le (lt_nb b) (pow256_le (by omega))
    have h3 : 256 ^ i = 256 ^ (i - 1) * 256 := by rw [← Nat.pow_succ, show (i - 1).succ = i by omega]
    unfold ad8C at h
    rw [Nat.mod_eq_of_lt (by omega), Nat.mod_eq_of_lt (by omega), Nat.div_eq_of_lt (by omega)] at h
    omega
  · exact c
theorem row_val (N k : Nat) (h : N < 256 ^ k) : val 256 (row k (dg8 N)) = N := by
  unfold dg8; rw [val_row 256 (by omega), Nat.mod_eq_of_lt h]
theorem row_trim (N k : Nat) (h : N < 256 ^ k) : digs 256 (val 256 (row k (dg8 N))) = D8 N := by rw [row_val N k h]; rfl
theorem row_take (N k : Nat) (h : N < 256 ^ k) : NV .i64 (D8 N) = (NV .i64 (row k (dg8 N))).take (nb N) := by
  have := trim_take (B := 256) (by omega) (row_lt (n := k) (fun j => dg8_lt N j))
  rw [row_trim N k h] at this
  rw [NV_take]; congr 1; exact this.symm
end Go.Via
set_option linter.unusedVariables false
namespace Go.Via
open Go
def mu8V (m n i : Nat) : Nat := m % 256 ^ i * n
def mu8C (m n i k : Nat) : Nat := (mu8V m n i / 256 ^ i % 256 ^ k + m / 256 ^ i % 256 * (n % 256 ^ k)) / 256 ^ k
def mu8S (m n i k : Nat) : Nat := mu8C m n i k + mu8V m n i / 256 ^ (i + k) % 256 + m / 256 ^ i % 256 * (n / 256 ^ k % 256)
def mu8T (m n i k j : Nat) : Nat := if j < i + k then mu8V m n (i + 1) / 256 ^ j % 256 else mu8V m n i / 256 ^ j % 256
def mu8R (m n i j : Nat) : Nat := mu8V m n i / 256 ^ j % 256
theorem mu8V_succ (m n i : Nat) : mu8V m n (i + 1) = mu8V m n i + 256 ^ i * (m / 256 ^ i % 256 * n) := by
  unfold mu8V; rw [Nat.pow_succ, Nat.mod_mul, Nat.add_mul, Nat.mul_assoc]
theorem mu8C_zero (m n i : Nat) : mu8C m n i 0 = 0 := by simp [mu8C, Nat.mod_one]
theorem mu8C_lt (m n i k : Nat) : mu8C m n i k < 256 := by
  unfold mu8C
  rw [Nat.div_lt_iff_lt_mul (p256_pos k)]
  have h1 := Nat.mod_lt (mu8V m n i / 256 ^ i) (p256_pos k)
  have h2 := Nat.mod_lt n (p256_pos k)
  have h3 : m / 256 ^ i % 256 + 1 ≤ 256 := Nat.mod_lt _ (by decide)
  have h4 : (m / 256 ^ i % 256) * (n % 256 ^ k) ≤ (m / 256 ^ i % 256) * (256 ^ k) := Nat.mul_le_mul_left _ (by omega)
  have h5 : (m / 256 ^ i % 256 + 1) * 256 ^ k ≤ 256 * 256 ^ k := Nat.mul_le_mul_right _ h3
  rw [Nat.add_mul] at h5
  omega
theorem div_pow_add8 (V i k : Nat) : V / 256 ^ (i + k) = V / 256 ^ i / 256 ^ k := by rw [Nat.pow_add, Nat.div_div_eq_div_mul]
theorem mu8S_carry (m n i k : Nat) : mu8S m n i k / 256 = mu8C m n i (k + 1) := by
  show _ / 256 = _
  unfold mu8S mu8C
  rw [div_pow_add8, Nat.pow_succ, Nat.mod_mul, Nat.mod_mul, ← Nat.div_div_eq_div_mul]
  congr 1
  generalize m / 256 ^ i % 256 = dd
  generalize mu8V m n i / 256 ^ i = A
  have e : A % 256 ^ k + 256 ^ k * (A / 256 ^ k % 256) + dd * (n % 256 ^ k + 256 ^ k * (n / 256 ^ k % 256)) = (A % 256 ^ k + dd * (n % 256 ^ k)) + 256 ^ k * (A / 256 ^ k % 256 + dd * (n / 256 ^ k % 256)) := by grind
  rw [e, Nat.add_mul_div_left _ _ (p256_pos k)]
  omega
theorem mu8S_low (m n i k : Nat) : mu8S m n i k % 256 = mu8V m n (i + 1) / 256 ^ (i + k) % 256 := by
  show _ % 256 = _
  unfold mu8S mu8C
  rw [div_pow_add8, div_pow_add8, mu8V_succ, Nat.add_mul_div_left _ _ (p256_pos i)]
  generalize m / 256 ^ i % 256 = dd
  generalize mu8V m n i / 256 ^ i = A
  have e : A + dd * n = (A % 256 ^ k + dd * (n % 256 ^ k)) + 256 ^ k * (A / 256 ^ k + dd * (n / 256 ^ k)) := by
    have h1 := Nat.mod_add_div A (256 ^ k)
    have h2 := Nat.mod_add_div n (256 ^ k)
    conv => lhs; rw [← h1, ← h2]
    grind
  conv => rhs; rw [e]
  rw [Nat.add_mul_div_left _ _ (p256_pos k)]
  generalize (A % 256 ^ k + dd * (n % 256 ^ k)) / 256 ^ k = c
  generalize A / 256 ^ k = p
  generalize n / 256 ^ k = q
  have e2 : ∀ x y z w : Nat, (x + y % 256 + z * (w % 256)) % 256 = (x + (y + z * w)) % 256 := by
    intro x y z w
    have h1 := Nat.mod_add_div y 256
    have h2 := Nat.mod_add_div w 256
    have : x + (y + z * w) = (x + y % 256 + z * (w % 256)) + 256 * (y / 256 + z * (w / 256)) := by
      conv => lhs; rw [← h1, ← h2]
      grind
    rw [this, Nat.add_mul_mod_self_left]
  exact e2 c p dd q
theorem mu8T_at (m n i k : Nat) : mu8T m n i k (i + k) = mu8V m n i / 256 ^ (i + k) % 256 := by unfold mu8T; rw [if_neg (by omega)]
theorem mu8T_step (m n i k j : Nat) : mu8T m n i (k + 1) j = if j = i + k then mu8S m n i k % 256 else mu8T m n i k j := by
  rw [mu8S_low]
  unfold mu8T
  by_cases e : j = i + k
  · subst e; rw [if_pos (by omega), if_pos rfl]
  · rw [if_neg e]
    by_cases c : j < i + k
    · rw [if_pos c, if_pos (by omega)]
    · rw [if_neg c, if_neg (by omega)]
theorem mu8T_zero (m n i j : Nat) : mu8T m n i 0 j = mu8R m n i j := by
  unfold mu8T mu8R
  split
  · rename_i h
    rw [mu8V_succ]
    have e0 : 256 ^ i = 256 ^ j * (256 * 256 ^ (i - j - 1)) := by
      rw [← Nat.mul_assoc, ← Nat.pow_succ, ← Nat.pow_add, show j + 1 + (i - j - 1) = i by omega]
    have e : 256 ^ i * (m / 256 ^ i % 256 * n) = 256 ^ j * (256 * (256 ^ (i - j - 1) * (m / 256 ^ i % 256 * n))) := by
      generalize m / 256 ^ i % 256 * n = r
      rw [e0, Nat.mul_assoc, Nat.mul_assoc]
    rw [e, Nat.add_mul_div_left _ _ (p256_pos j), Nat.add_mul_mod_self_left]
  · rfl
theorem mu8V_lt (m n i : Nat) : mu8V m n i < 256 ^ (i + nb n) := by
  unfold mu8V
  rw [Nat.pow_add]
  have h1 := Nat.mod_lt m (p256_pos i)
  have h2 := lt_nb n
  calc m % 256 ^ i * n ≤ 256 ^ i * n := Nat.mul_le_mul_right _ (by omega)
    _ < 256 ^ i * 256 ^ nb n := (Nat.mul_lt_mul_left (p256_pos i)).2 h2
theorem mu8R_zero (m n j : Nat) : mu8R m n 0 j = 0 := by simp [mu8R, mu8V, Nat.mod_one]
theorem mu8R_end (m n : Nat) : val 256 (row (nb m + nb n + 1) (mu8R m n (nb m))) = m * n := by
  have e : mu8V m n (nb m) = m * n := by unfold mu8V; rw [Nat.mod_eq_of_lt (lt_nb m)]
  have h := mu8V_lt m n (nb m)
  rw [row_congr (g := fun j => m * n / 256 ^ j % 256) (fun j hj => by unfold mu8R; rw [e]), val_row 256 (by decide), Nat.mod_eq_of_lt]
  rw [e] at h
  exact Nat.lt_of_lt_of_le h (Nat.pow_le_pow_right (by decide) (by omega))
theorem mu8R_lt (m n i j : Nat) : mu8R m n i j < 256 := m256 _
theorem dmul8 (p q : Nat) : p % 256 * (q % 256) ≤ 65025 := by
  have h1 : p % 256 ≤ 255 := by omega
  have h2 : q % 256 ≤ 255 := by omega
  exact Nat.mul_le_mul h1 h2
theorem mu8S_high (m n i : Nat) {k : Nat} (hk : nb n ≤ k) : mu8S m n i k = mu8C m n i k := by
  unfold mu8S
  have h1 : 256 ^ (i + nb n) ≤ 256 ^ (i + k) := pow256_le (by omega)
  rw [dg8_above hk, Nat.div_eq_of_lt (Nat.lt_of_lt_of_le (mu8V_lt m n i) h1)]; simp
theorem mu8C_top (m n i : Nat) {k : Nat} (hk : nb n ≤ k) : mu8C m n i (k + 1) = 0 := by
  rw [← mu8S_carry, mu8S_high m n i hk]
  have := mu8C_lt m n i k
  omega
theorem mu8_more (m n i k : Nat) (h : 0 < mu8C m n i k) : k ≤ nb n := by
  rcases Nat.lt_or_ge (nb n) k with c | c
  · obtain ⟨q, rfl⟩ : ∃ q, k = q + 1 := ⟨k - 1, by omega⟩
    rw [mu8C_top m n i (by omega)] at h; omega
  · exact c
theorem mu8T_done (m n i k j : Nat) (hk : nb n ≤ k) (hc : mu8C m n i k = 0) : mu8T m n i k j = mu8R m n (i + 1) j := by
  unfold mu8T mu8R
  by_cases c : j < i + k
  · rw [if_pos c]
  · rw [if_neg c]
    have h1 : 256 ^ (i + nb n) ≤ 256 ^ j := pow256_le (by omega)
    rw [Nat.div_eq_of_lt (Nat.lt_of_lt_of_le (mu8V_lt m n i) h1)]
    by_cases e : j = i + k
    · subst e
      rw [← mu8S_low, mu8S_high m n i hk, hc]
    · have h2 : 256 ^ (i + 1 + nb n) ≤ 256 ^ j := pow256_le (by omega)
      rw [Nat.div_eq_of_lt (Nat.lt_of_lt_of_le (mu8V_lt m n (i + 1)) h2)]
theorem mu8_rowval (m n : Nat) : val 256 (row (nb m + nb n + 1) (mu8R m n (nb m))) = m * n := mu8R_end m n
theorem mu8_trim (m n : Nat) : digs 256 (val 256 (row (nb m + nb n + 1) (mu8R m n (nb m)))) = D8 (m * n) := by rw [mu8_rowval]; rfl
theorem mu8_take (m n : Nat) : NV .i64 (D8 (m * n)) = (NV .i64 (row (nb m + nb n + 1) (mu8R m n (nb m)))).take (nb (m * n)) := by
  have := trim_take (B := 256) (by omega) (row_lt (n := nb m + nb n + 1) (fun j => mu8R_lt m n (nb m) j))
  rw [mu8_trim] at this
  rw [NV_take]; congr 1; exact this.symm
end Go.Via
namespace Go.Via
open Go
theorem mu8S_lt8 (m n i k : Nat) : mu8S m n i k < 131072 := by
  have h1 := mu8C_lt m n i k
  have h2 := m256 (mu8V m n i / 256 ^ (i + k))
  have h3 := dmul8 (m / 256 ^ i) (n / 256 ^ k)
  unfold mu8S; omega
end Go.Via
set_option linter.unusedVariables false
namespace Go.Via
open Go
/-! ### the reference's division -/
def dW8 (a b p : Nat) : Nat := a / 256 ^ (p + 1) % b * 256 + a / 256 ^ p % 256
theorem dW8_eq (a b p : Nat) (hb : 0 < b) : a / 256 ^ p = b * (a / 256 ^ (p + 1) / b * 256) + dW8 a b p := by
  have h1 := step256 a p
  have h2 := Nat.div_add_mod (a / 256 ^ (p + 1)) b
  unfold dW8
  conv => lhs; rw [h1, ← h2]
  rw [Nat.add_mul, Nat.mul_assoc, Nat.add_assoc]
theorem dW8_lt (a b p : Nat) (hb : 0 < b) : dW8 a b p < 256 * b := by
  unfold dW8
  have h1 : a / 256 ^ (p + 1) % b + 1 ≤ b := Nat.mod_lt _ hb
  have h2 := m256 (a / 256 ^ p)
  omega
theorem dW8_quo (a b p : Nat) (hb : 0 < b) : dW8 a b p / b = a / b / 256 ^ p % 256 := by
  have h1 := dW8_eq a b p hb
  have h2 : dW8 a b p / b < 256 := by rw [Nat.div_lt_iff_lt_mul hb]; exact dW8_lt a b p hb
  have e : a / b / 256 ^ p = a / 256 ^ p / b := by rw [Nat.div_div_eq_div_mul, Nat.div_div_eq_div_mul, Nat.mul_comm]
  rw [e, h1, Nat.mul_add_div hb, Nat.mul_comm _ 256, Nat.mul_add_mod, Nat.mod_eq_of_lt h2]
theorem dW8_rem (a b p : Nat) (hb : 0 < b) : dW8 a b p % b = a / 256 ^ p % b := by
  have h1 := dW8_eq a b p hb
  conv => rhs; rw [h1]
  rw [Nat.mul_add_mod]
/-- the digits of the remainder with one more ahead -/
theorem dW8_row (R d : Nat) (hd : d < 256) : val 256 (d :: D8 R) = R * 256 + d := by
  show d + 256 * val 256 (D8 R) = _
  unfold D8; rw [val_digs (by omega)]; omega
theorem dq8 {a b p q r : Nat} (hb : 0 < b) (h : q * b + r = dW8 a b p) (hr : r < b) : q = a / b / 256 ^ p % 256 ∧ r = a / 256 ^ p % b := by
  rw [← dW8_quo a b p hb, ← dW8_rem a b p hb, ← h, Nat.mul_comm q b]
  exact ⟨by rw [Nat.mul_add_div hb, Nat.div_eq_of_lt hr]; omega, by rw [Nat.mul_add_mod, Nat.mod_eq_of_lt hr]⟩
/-- a further step fits -/
theorem dq8_lt {a b p q r s : Nat} (hb : 0 < b) (h : q * b + r = dW8 a b p) (hs : s * b ≤ r) : q + s < 256 := by
  have h1 := dW8_lt a b p hb
  have h2 : (q + s) * b < 256 * b := by rw [Nat.add_mul]; omega
  exact Nat.lt_of_mul_lt_mul_right h2
theorem dq8_next {a b p q r s : Nat} (h : q * b + r = dW8 a b p) (hs : s * b ≤ r) : (q + s) * b + (r - s * b) = dW8 a b p := by rw [Nat.add_mul]; omega
def quT (a b p k : Nat) : Nat := if k < p then 0 else a / b / 256 ^ k % 256
end Go.Via
set_option linter.unusedVariables false
set_option linter.unusedSimpArgs false
namespace Go.Via
open Go Go.RowKit
theorem cmpN_nonneg {m n : Nat} : 0 ≤ cmpN m n ↔ n ≤ m := by
  unfold cmpN
  by_cases h1 : m < n
  · rw [if_pos h1]; omega
  · rw [if_neg h1]
    by_cases h2 : n < m
    · rw [if_pos h2]; omega
    · rw [if_neg h2]; omega
theorem cmpN_nonpos {m n : Nat} : cmpN m n ≤ 0 ↔ m ≤ n := by
  unfold cmpN
  by_cases h1 : m < n
  · rw [if_pos h1]; omega
  · rw [if_neg h1]
    by_cases h2 : n < m
    · rw [if_pos h2]; omega
    · rw [if_neg h2]; omega
theorem cmpN_lt0 {m n : Nat} : cmpN m n < 0 ↔ m < n := by
  unfold cmpN
  by_cases h1 : m < n
  · rw [if_pos h1]; omega
  · rw [if_neg h1]
    by_cases h2 : n < m
    · rw [if_pos h2]; omega
    · rw [if_neg h2]; omega
/-- what 'divide' hands back: new rows, or its first argument -/
def divRes {a b : Nat} (x : SR (nb a)) : (SR (nb (a / b)) × SR (nb (a % b))) ⊕ PLift (a < b) → Value
  | .inl z => .tuple #[z.1.v, z.2.v]
  | .inr _ => .tuple #[.slice none 0 0, x.v]
def divNew {a b : Nat} : (SR (nb (a / b)) × SR (nb (a % b))) ⊕ PLift (a < b) → List Blk
  | .inl z => [⟨z.1.b, 3, NV .i64 (D8 (a / b)), z.1.n, true⟩, ⟨z.2.b, 3, NV .i64 (D8 (a % b)), z.2.n, true⟩]
  | .inr _ => []
/-- a block with cells lies somewhere -/
theorem at_base {B : World} {X : Act → World → Prop} {nt : Nat} {t : List (Nat × Value)} {L : List Blk} {b : Blk} (k : Nat) (hk : L[k]? = some b) (h : (b.base = none → b.cs = []) → At B ⟨nt, t, L⟩ X) : At B ⟨nt, t, L⟩ X :=
  fun a w hr => h (fun hb => ((hr.mem.blk k b hk).2 hb).1) a w hr
/-- the digits of a number behind a row of one -/
theorem r_app8 {P : Program} {bl : List Nat} {ops : Array Oper} {K : St → Prop} {rest : List Oper} {nt : Nat} {t : List (Nat × Value)} {L : List Blk} {d : Nat} {ty : TypeId} {pos : String} {af : Array Edge} {g : Option (Nat × Bool)} {x y : Operand}
    {T e : Nat} {z : Value} {gx : Nat} {d0 R : Nat} {ob : Option Nat} {oN oc : Nat} {o2 : Bool} (k k2 : Nat) (mk : Option Nat → Nat → List Blk) (hT : P.underlying T = some (.slice e)) (hi : elB P e 1 z) (hd : Nat.blt d nt = true)
    (hg : wantedS ops ⟨some d, .call { callee := .builtin .append, args := #[x, y], argTypes := #[T, T] }, ty, pos, af, g⟩ t = some true)
    (hk : L[k]? = some ⟨some gx, e, [.int .i64 (d0 : Nat)], 1, true⟩) (hx : ev t x = some (slv (some gx) 0 1 1)) (hk2 : L[k2]? = some ⟨ob, 3, NV .i64 (D8 R), oN, o2⟩) (hb : ob = none → NV .i64 (D8 R) = []) (hy : ev t y = some (slv ob 0 (nb R) oc))
    (hzs : z.cells.size = 1) (hmax : nb R ≤ 1073741824) (hL : ∀ b n, L.set k ⟨b, e, NV .i64 (d0 :: D8 R), n, true⟩ = mk b n)
    (h : ∀ r : SR (nb R + 1), Run P bl ops rest ⟨nt, (d, r.v) :: t, mk r.b r.n⟩ K) :
    Run P bl ops (⟨some d, .call { callee := .builtin .append, args := #[x, y], argTypes := #[T, T] }, ty, pos, af, g⟩ :: rest) ⟨nt, t, L⟩ K := by
  by_cases h0 : nb R = 0
  · have hD : D8 R = [] := List.eq_nil_of_length_eq_zero (by rw [D8_length]; exact h0)
    have := h ⟨some gx, 1, 1, by omega⟩
    rw [← hL] at this
    unfold SR.v at this
    simp only [h0, hD] at this
    have e1 : L.set k ⟨some gx, e, NV .i64 [d0], 1, true⟩ = L := by
      obtain ⟨hlt, he⟩ := List.getElem?_eq_some_iff.1 hk
      exact (congrArg (L.set k) he.symm).trans (List.set_getElem_self hlt)
    rw [e1] at this
    obtain ⟨inf, i1, i2, i3, i5⟩ := elB_spec hi
    rw [h0] at hy
    exact r_append0 hT i1 hd hg hx (Nat.le_refl 1) hy this
  · obtain ⟨g2, rfl⟩ : ∃ g2, ob = some g2 := by
      cases ob with
      | none =>
        have := congrArg List.length (hb rfl)
        rw [NV_length, D8_length] at this
        exact absurd this h0
      | some g2 => exact ⟨g2, rfl⟩
    refine q_append (s := 1) (len := 1) (n2 := nb R) k k2 (fun r => mk (some r.g) r.n) hT hi hd hg hk rfl rfl hx hk2 rfl hy rfl hzs (by simpa using (by omega : 0 < nb R)) rfl (Nat.le_refl _) (Nat.le_refl _) (by rw [NV_length, D8_length]; omega) (NV_one _ _) (by omega) (fun r => ?_) (fun r => ?_)
    · rw [← hL]; rfl
    · have h1 := h ⟨some r.g, r.n, r.cap, by have := r.h; omega⟩
      unfold SR.v at h1
      have e : slv (some r.g) 0 (1 + nb R) r.cap = slv (some r.g) 0 (nb R + 1) r.cap := congrArg (fun n => slv (some r.g) 0 n r.cap) (Nat.add_comm 1 (nb R))
      rw [e]; exact h1
theorem dW8_val (a b q : Nat) : val 256 (a / 256 ^ q % 256 :: D8 (a / 256 ^ (q + 1) % b)) = dW8 a b q := dW8_row _ _ (m256 _)
theorem dW8_lt256 (a b q : Nat) : ∀ d ∈ a / 256 ^ q % 256 :: D8 (a / 256 ^ (q + 1) % b), d < 256 := fun d hd => by
  rcases List.mem_cons.1 hd with rfl | hd
  · exact m256 _
  · exact D8_lt _ d hd
theorem dW8_trim (a b q : Nat) : (digs 256 (val 256 (a / 256 ^ q % 256 :: D8 (a / 256 ^ (q + 1) % b)))).length = nb (dW8 a b q) := by rw [dW8_val]; rfl
theorem dW8_nb (a b q : Nat) : nb (dW8 a b q) ≤ nb (a / 256 ^ (q + 1) % b) + 1 := by
  rw [← dW8_trim]
  exact Nat.le_trans (digs_length_le (by decide) (val_lt (by decide) (dW8_lt256 a b q))) (by simp [D8_length])
theorem dW8_take (a b q : Nat) : NV .i64 (D8 (dW8 a b q)) = (NV .i64 (a / 256 ^ q % 256 :: D8 (a / 256 ^ (q + 1) % b))).take (nb (dW8 a b q)) := by
  have := trim_take (B := 256) (by omega) (dW8_lt256 a b q)
  rw [dW8_val] at this
  rw [NV_take]; congr 1; exact this.symm
theorem dW8_top (a b : Nat) : a / 256 ^ nb a % b = 0 := by rw [Nat.div_eq_of_lt (lt_nb a), Nat.zero_mod]
theorem dW8_nil (a b : Nat) : NV .i64 (D8 (a / 256 ^ nb a % b)) = [] := by
  rw [dW8_top]
  have : D8 0 = [] := List.eq_nil_of_length_eq_zero (by rw [D8_length, nb_zero])
  rw [this]; rfl
theorem dW8_nilv (a b : Nat) : Value.slice none 0 0 = slv none 0 (nb (a / 256 ^ nb a % b)) 0 := by rw [dW8_top, nb_zero]; rfl
def quS (a b q m k : Nat) : Nat := if k = q then m else quT a b (q + 1) k
theorem quS_at (a b q m : Nat) : quS a b q m q = m := by simp [quS]
theorem quS_zero (a b q k : Nat) : quS a b q 0 k = quT a b (q + 1) k := by
  unfold quS
  split
  · rename_i h; subst h; simp [quT]
  · rfl
theorem quS_step (a b q m m' k : Nat) : quS a b q m' k = if k = q then m' else quS a b q m k := by
  unfold quS; split <;> rfl
theorem quS_end (a b q k : Nat) : quS a b q (a / b / 256 ^ q % 256) k = quT a b q k := by
  unfold quS quT
  by_cases h : k = q
  · subst h; simp
  · rw [if_neg h]
    by_cases c : k < q
    · rw [if_pos c, if_pos (by omega)]
    · rw [if_neg c, if_neg (by omega)]
theorem quT_top (a b : Nat) {k : Nat} (h : k < nb a) : quT a b (nb a) k = 0 := by unfold quT; rw [if_pos h]
theorem quT_lt (a b p k : Nat) : quT a b p k < 256 := by unfold quT; split <;> omega
theorem quT_row (a b : Nat) : val 256 (row (nb a) (quT a b 0)) = a / b := by
  have h : a / b < 256 ^ nb a := Nat.lt_of_le_of_lt (Nat.div_le_self _ _) (lt_nb a)
  rw [row_congr (g := fun j => a / b / 256 ^ j % 256) (fun j hj => by unfold quT; rw [if_neg (by omega)]), val_row 256 (by decide), Nat.mod_eq_of_lt h]
theorem quT_trim (a b : Nat) : digs 256 (val 256 (row (nb a) (quT a b 0))) = D8 (a / b) := by rw [quT_row]; rfl
theorem quT_take (a b : Nat) : NV .i64 (D8 (a / b)) = (NV .i64 (row (nb a) (quT a b 0))).take (nb (a / b)) := by
  have := trim_take (B := 256) (by omega) (row_lt (n := nb a) (fun j => quT_lt a b 0 j))
  rw [quT_trim] at this
  rw [NV_take]; congr 1; exact this.symm
theorem nb_below {r b : Nat} (h : r < 256 * b) : nb r ≤ nb b + 1 := nb_le (by
  have := lt_nb b
  rw [Nat.pow_succ]; omega)
theorem dq8_bnd {a b p m r : Nat} (hb : 0 < b) (h : m * b + r = dW8 a b p) : nb r ≤ nb b + 1 := nb_below (by have := dW8_lt a b p hb; have := Nat.zero_le (m * b); omega)
end Go.Via
namespace Go.Via
theorem NV_D8_0 : NV .i64 (D8 0) = [] := by
  have : D8 0 = [] := List.eq_nil_of_length_eq_zero (by rw [D8_length, nb_zero])
  rw [this]; rfl
end Go.Via
set_option linter.unusedVariables false
set_option linter.unusedSimpArgs false
namespace Go.Via
open Go Go.RowKit
/-- a slice whose row is the call's own, or one of those that came in -/
structure FS (bs : List (Option Nat)) (len : Nat) where
  z : SR len
  o : Bool
  ho : o = true ∨ z.b ∈ bs
theorem divNew_own {a b : Nat} (z : (SR (nb (a / b)) × SR (nb (a % b))) ⊕ PLift (a < b)) : ∀ c ∈ divNew z, c.own = true := by
  intro c hc
  cases z with
  | inl z =>
    simp only [divNew, List.mem_cons, List.mem_nil_iff, or_false] at hc
    rcases hc with rfl | rfl <;> rfl
  | inr h => cases hc
theorem fs_new {B w : World} {L : List Blk} {x y : Blk} {c : Blk} {o : Bool} {bb : Option Nat} (h : LRel B L w) (k : Nat) {b : Blk} (hk : L[k]? = some b) (hb : b.base = bb) (hoo : b.own = o) (ho : o = true ∨ bb ∈ [x.base, y.base]) (hc : c.base = bb) : ∀ g, c.base = some g → B.heap.size ≤ g ∨ ∃ b0 ∈ [x, y], b0.base = some g := by
  intro g hg
  rcases ho with h1 | h1
  · exact .inl (own_new h k hk (by rw [hoo]; exact h1) g (by rw [hb, ← hc]; exact hg))
  · rw [hc] at hg
    subst hg
    simp only [List.mem_cons, List.mem_nil_iff, or_false] at h1
    rcases h1 with h1 | h1
    · exact .inr ⟨x, by simp, h1.symm⟩
    · exact .inr ⟨y, by simp, h1.symm⟩
theorem gcd_step8 {m n a b : Nat} (h : Nat.gcd m n = Nat.gcd a b) : Nat.gcd n (m % n) = Nat.gcd a b := by
  rw [← h, Nat.gcd_comm m n, Nat.gcd_rec n m, Nat.gcd_comm (m % n) n]
/-- the quotient and the remainder, whatever they are -/
theorem div_two {P : Program} {f a b : Nat} {x : SR (nb a)} {L0 : List Blk} {args : List Value} (hx : ∀ g, x.b = some g → ∃ b0 ∈ L0, b0.base = some g) (hL0 : L0[0]? = some ⟨x.b, 3, NV .i64 (D8 a), x.n, false⟩) (h : SCall P f L0 args ((SR (nb (a / b)) × SR (nb (a % b))) ⊕ PLift (a < b)) (divRes x) divNew) :
    SCallA P f L0 args (SR (nb (a / b)) × SR (nb (a % b))) (fun z => .tuple #[z.1.v, z.2.v]) (fun z => [⟨z.1.b, 3, NV .i64 (D8 (a / b)), z.1.n, false⟩, ⟨z.2.b, 3, NV .i64 (D8 (a % b)), z.2.n, false⟩]) := by
  refine ⟨h.1, fun w hL => (h.2 w hL).mono ?_⟩
  rintro e w' ⟨z, rfl, hz⟩
  cases z with
  | inl z =>
    refine ⟨z, rfl, hz.un, fun c hc g hg => .inl ?_⟩
    simp only [List.mem_cons, List.mem_nil_iff, or_false] at hc
    rcases hc with rfl | rfl
    · exact own_new hz 0 rfl rfl g hg
    · exact own_new hz 1 rfl rfl g hg
  | inr hlt =>
    have hlt := hlt.down
    refine ⟨(⟨none, 0, 0, by rw [Nat.div_eq_of_lt hlt, nb_zero]; exact Nat.le_refl _⟩, ⟨x.b, x.n, x.cap, by rw [Nat.mod_eq_of_lt hlt]; exact x.h⟩), ?_, ?_, fun c hc g hg => ?_⟩
    · show Ending.returned (.tuple #[Value.slice none 0 0, slv x.b 0 (nb a) x.cap]) = Ending.returned (.tuple #[slv none 0 (nb (a / b)) 0, slv x.b 0 (nb (a % b)) x.cap])
      rw [Nat.div_eq_of_lt hlt, Nat.mod_eq_of_lt hlt, nb_zero]; rfl
    · refine (hL.same (hz : LRel w [] w').below).picks [none, some 0] ⟨⟨rfl, by show NV .i64 (D8 (a / b)) = []; rw [Nat.div_eq_of_lt hlt]; exact NV_D8_0, rfl⟩, ⟨_, hL0, le_same (by show (⟨x.b, 3, NV .i64 (D8 (a % b)), x.n, false⟩ : Blk) = ⟨x.b, 3, NV .i64 (D8 a), x.n, false⟩; rw [Nat.mod_eq_of_lt hlt])⟩, trivial⟩ rfl rfl
    · simp only [List.mem_cons, List.mem_nil_iff, or_false] at hc
      rcases hc with rfl | rfl
      · cases hg
      · exact .inr (hx g hg)
end Go.Via
