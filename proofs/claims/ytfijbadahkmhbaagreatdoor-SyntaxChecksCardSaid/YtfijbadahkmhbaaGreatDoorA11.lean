/-
  Part 11: lemmas, and walks through the functions that the laws of chapter 43 call. Each theorem states its own conditions.
-/
import Derived.ChangeSame
import Derived.OpenShut
import Derived.RowKit3
import Derived.ProofKit
import Derived.Deep.Slices
import Derived.Carry
import Derived.ChangeMaps5
import Derived.Test.YtfijbadahkmhbaaGreatDoorCards
import Derived.Test.YtfijbadahkmhbaaGreatDoorTie
import Derived.WalkKit
import Derived.Deep.DeepHandedRow
import Derived.Lib.LaidTab
import Derived.Test.YtfijbadahkmhbaaGreatDoorA04
import Derived.Test.YtfijbadahkmhbaaGreatDoorA08
import Derived.Test.YtfijbadahkmhbaaGreatDoorA09
import Derived.Test.YtfijbadahkmhbaaGreatDoorA10
set_option linter.unusedVariables false
set_option linter.unusedSimpArgs false
set_option maxHeartbeats 20000000
namespace Go.Proofs.YtfijbadahkmhbaaGreatDoor
open Go Go.RowKit Go.Via
set_option maxRecDepth 20000 in
theorem c_each_step {x : XT} (z : XR x) (fn : Nat) (stp : XT → Nat → Nat → Nat) (hst : ∀ y lv n, stp y lv n ≤ max n lv + 1) (gv : Nat) (hf : ∀ {y : XT} (u : XR y) (lv n : Nat), lv ≤ 1099511627776 → n ≤ 1099511627776 → ECall Tryz.prog fn [VN gv n] [u.v, .int .i64 (lv : Nat), .pointer (some ⟨gv, 0, none⟩)] Unit (fun _ => .tuple #[]) (fun _ => [VN gv (stp y lv n)])) (H : ∀ y : XT, y.size < x.size → EachN fn stp gv y) (lv n : Nat) (hM : max n lv + x.size ≤ 1099511627776) : ECall Tryz.prog 51 [VN gv n, gB z.T false] [z.v, .int .i64 (lv : Nat), .func (.func fn) #[] #[.pointer (some ⟨gv, 0, none⟩)]] Unit (fun _ => .tuple #[]) (fun _ => [VN gv (foldN stp x lv n)]) := by
 refine ⟨by kernel_rfl, fun B w hD hL0 => ?_⟩;obtain ⟨h1, h2, h3, h4, h5, h6⟩ := z.inv;have hsz := x.size_eq;have hal := XT.len_sizes x.args;have hst1 := hst x lv n;refine cB3 25 Tryz.func51 hL0 ?_;refine A2 ?_;refine Bo [_, _, _, _, _, _, _] 7 (fun g => [_, _, ⟨some g, 30, _, 7, true⟩]) (fun g0 => ?_);refine A3 ?_;refine at_regionM ?_;refine A1 ?_;refine Ld 2 0 [_,_,_,_,_,_,_] ti30 ?_;refine Kr 9 (z.v) ?_;refine A1 ?_;refine r_gfcallM (f := fn) (A := [VN gv n]) (C := []) [z.v, .int .i64 (lv : Nat)] [.pointer (some ⟨gv, 0, none⟩)] [0] [] (fun _ => [VN gv (stp x lv n), _, _]) rfl rfl rfl rfl rfl (hf z lv n (by omega) (by omega)) (by decide) rfl rfl trivial rfl rfl (fun _ => rfl) (fun _ => allOwn rfl) (fun _ => rfl) (fun _ => ?_);refine A11 ?_;refine El (ι := {q : Nat × Nat // q.1 ≤ x.args.length ∧ foldsN stp x.args (lv + 1) (stp x lv n) = foldsN stp (x.args.drop q.1) (lv + 1) q.2 ∧ max q.2 (lv + 1) + XT.sizes (x.args.drop q.1) ≤ 1099511627776}) (fun ⟨⟨i, m⟩, hi, hI, hB⟩ => ([(1, .int .i64 (lv : Nat)), (2, .func (.func fn) #[] #[.pointer (some ⟨gv, 0, none⟩)]), (13, .slice z.a z.n z.cap), (14, .int .i64 (z.n : Nat)), (15, .int .i64 (i : Nat))], [VN gv m, gB z.T false], x.args.length - i)) ⟨(0, stp x lv n), Nat.zero_le _, rfl, by show max (stp x lv n) (lv + 1) + XT.sizes x.args ≤ _; omega⟩ ?_ (hL := Weak.auto);rintro ⟨⟨i, m⟩, hi, hI, hB⟩;(try dsimp only);dsimp only at hi hI hB;refine A6 ?_;refine Cd ?_ ?_<;>intro hb1
 ·have hlt : i < x.args.length := by have := of_decide_eq_true hb1; omega
  obtain ⟨y, hy⟩ : ∃ y, x.args[i]? = some y := ⟨x.args[i], List.getElem?_eq_getElem hlt⟩;obtain ⟨ga, oa, ca, u, hza, hma, hra, hTa, hna⟩ := z.arg hy;have hsd := XT.sizes_drop hy;refine A6 ?_;refine r_indexAddrG (gg := ga) (len := z.n) (cap := z.cap) (oa + i * 7) u28 ti30 rfl rfl (congrArg (fun a => some (Value.slice a z.n z.cap)) hza) rfl (by omega) (by omega) (by show oa + Int.toNat _ * 7 = _; omega) ?_;refine r_loadT (v := u.v) 1 (oa + i * 7) u.cs rfl rfl rfl z.hT hma hna rfl ti30 hra rfl rfl rfl ?_;refine r_alloc [_, _, _, _, _, _, _] 7 (fun g => [_, _, ⟨some g, 30, _, 7, true⟩]) rfl rfl z30 rfl rfl (fun _ => rfl) (fun g1 => ?_);refine So 2 0 [_, _, ⟨some g1, 30, _, 7, true⟩] [_, _, _, _, _, _, _] ?_;refine A2 ?_;refine at_regionM ?_;refine Ld 2 0 [_,_,_,_,_,_,_] ti30 ?_;refine Kr 19 (u.v) ?_;refine A1 ?_;refine Ar (((lv + 1 : Nat) : Int)) ?_;refine A1 ?_;refine Gm 1 [0] [1] (fun _ => [VN gv (foldN stp y (lv + 1) m), _, _]) (by have h := H y (XT.arg_lt hy) u (lv + 1) m (by omega); rw [hTa] at h; exact h) (fun _ => ?_);refine A4 ?_;refine Ar (((i + 1 : Nat) : Int)) ?_;refine A3 ?_;exact Nl ⟨(i + 1, foldN stp y (lv + 1) m), hlt, by rw [hI, foldsN_step stp hy], by have := foldN_le stp hst y (lv + 1) m; show max (foldN stp y (lv + 1) m) (lv + 1) + XT.sizes (x.args.drop (i + 1)) ≤ _; omega⟩ (hL := Weak.auto)
 ·have hge : i = x.args.length := by have := of_decide_eq_false hb1; omega
  refine A4 ?_
  refine at_end0n rfl  (fun w hL => by
  have e : foldN stp x lv n = m := (by rw [foldN_eq, hI, hge, List.drop_length, foldsN]);rw [e];exact ⟨(), rfl, hL.pk [some 0]⟩)
set_option maxRecDepth 20000 in
theorem c_Size_1 {x : XT} (z : XR x) (lv n gv : Nat) (hlv : lv ≤ 1099511627776) (hn : n ≤ 1099511627776) : ECall Tryz.prog 52 [VN gv n] [z.v, .int .i64 (lv : Nat), .pointer (some ⟨gv, 0, none⟩)] Unit (fun _ => .tuple #[]) (fun _ => [VN gv (n + 1)]) := by
 refine ⟨by kernel_rfl, fun B w hD hL0 => ?_⟩;refine cB3 7 Tryz.func52 hL0 ?_;refine A2 ?_;refine Bo [_, _, _, _, _, _, _] 7 (fun g => [_, ⟨some g, 30, _, 7, true⟩]) (fun g0 => ?_);refine A4 ?_;refine Ar (((n + 1 : Nat) : Int)) ?_;refine So 0 0 [⟨some gv, 3, _, 1, true⟩, _] [_] ?_;refine A1 ?_
 refine at_end0n rfl  (fun w hL => ⟨(), rfl, hL.pk [some 0]⟩)
set_option maxRecDepth 20000 in
theorem c_Depth_1 {x : XT} (z : XR x) (lv n gv : Nat) (hlv : lv ≤ 1099511627776) (hn : n ≤ 1099511627776) : ECall Tryz.prog 53 [VN gv n] [z.v, .int .i64 (lv : Nat), .pointer (some ⟨gv, 0, none⟩)] Unit (fun _ => .tuple #[]) (fun _ => [VN gv (max n lv)]) := by
 refine ⟨by kernel_rfl, fun B w hD hL0 => ?_⟩;refine cB3 8 Tryz.func53 hL0 ?_;refine A2 ?_;refine Bo [_, _, _, _, _, _, _] 7 (fun g => [_, ⟨some g, 30, _, 7, true⟩]) (fun g0 => ?_);refine A5 ?_;refine r_maxI rfl rfl rfl rfl ?_;refine r_know 7 (.int .i64 (max n lv : Nat)) rfl (congrArg (Value.int .i64) (by omega)) ?_;refine So 0 0 [⟨some gv, 3, _, 1, true⟩, _] [_] ?_;refine A1 ?_
 refine at_end0n rfl  (fun w hL => ⟨(), rfl, hL.pk [some 0]⟩)
end Go.Proofs.YtfijbadahkmhbaaGreatDoor
namespace Go.Proofs.YtfijbadahkmhbaaGreatDoor
open Go Go.RowKit Go.Via
theorem c_each (fn : Nat) (stp : XT → Nat → Nat → Nat) (hst : ∀ y lv n, stp y lv n ≤ max n lv + 1) (gv : Nat) (hf : ∀ {y : XT} (u : XR y) (lv n : Nat), lv ≤ 1099511627776 → n ≤ 1099511627776 → ECall Tryz.prog fn [VN gv n] [u.v, .int .i64 (lv : Nat), .pointer (some ⟨gv, 0, none⟩)] Unit (fun _ => .tuple #[]) (fun _ => [VN gv (stp y lv n)])) (x : XT) : EachN fn stp gv x := by
  suffices h : ∀ k : Nat, ∀ x : XT, x.size < k → EachN fn stp gv x from h _ x (Nat.lt_succ_self _)
  intro k
  induction k with
  | zero => intro x h; omega
  | succ k ih => exact fun x hx u lv n hM => c_each_step u fn stp hst gv hf (fun y hy => ih y (by omega)) lv n hM
end Go.Proofs.YtfijbadahkmhbaaGreatDoor
namespace Go.Via
open Go Go.RowKit
theorem at_weakL {B : Bs} {nt : Nat} {t : List (Nat × Value)} {L L' : List Blk} {Q : Act → World → Prop} (h : Weak L L') (k : At B ⟨nt, t, L'⟩ Q) : At B ⟨nt, t, L⟩ Q := fun a w hr => k a w ⟨hr.df, hr.size, hr.tmp, h _ _ hr.mem⟩
def SRw.zero : SRw [] := ⟨none, 0, 0, Nat.le_refl _, Nat.le_refl _⟩
theorem SRw.add_blk {l : List Bs8} (x : Bs8) (r : AR (l.length + 1) 1) (s : SRw l) (gv : Nat) {M : List Blk} {B : Bs} {w : World}
    (h : LRel B ([⟨some gv, 36, [slv (some r.g) 0 (l.length + 1) r.cap], 1, true⟩, ⟨some r.g, 9, SB l ++ [.string (strU x)], r.n, true⟩] ++ M) w) : LRel B [VV gv (SRw.add x r), VR (SRw.add x r)] w := by
  have h1 := LRel.take h
  show LRel B [⟨some gv, 36, [slv (some r.g) 0 (l ++ [x]).length r.cap], 1, true⟩, ⟨some r.g, 9, SB (l ++ [x]), r.n, true⟩] w
  rw [SB_append, List.length_append]
  exact h1
end Go.Via
namespace Go.Proofs.YtfijbadahkmhbaaGreatDoor
open Go Go.RowKit Go.Via
def EachV (gv : Nat) (y : XT) : Prop := ∀ (u : XR y) (lv : Nat) (l : List Bs8) (s : SRw l), l.length + y.size ≤ 1000000000 → lv + y.size ≤ 1099511627776 →
  ECall Tryz.prog 51 [VV gv s, VR s, gB u.T false] [u.v, .int .i64 (lv : Nat), .func (.func 54) #[] #[.pointer (some ⟨gv, 0, none⟩)]] (SRw (l ++ varsL y)) (fun _ => .tuple #[]) (fun s1 => [VV gv s1, VR s1])
def varsU (x : XT) : List Bs8 := Lib.compact (sortL (varsL x))
theorem sortL_len (l : List Bs8) : (sortL l).length = l.length := by unfold sortL; rw [List.length_mergeSort]
end Go.Proofs.YtfijbadahkmhbaaGreatDoor
namespace Go.Via
open Go Go.RowKit
def dchar (n : Nat) : UInt8 := UInt8.ofNat (48 + n % 10)
theorem dchar_nat (n : Nat) : (dchar n).toNat = 48 + n % 10 := by
  unfold dchar
  rw [UInt8.toNat_ofNat']
  omega
theorem dchar_zero {n : Nat} : dchar n = 48 ↔ n % 10 = 0 := by
  rw [← UInt8.toNat_inj, dchar_nat]
  show 48 + n % 10 = 48 ↔ _
  omega
def ldig : Nat → Nat → Bs8
  | 0, _ => []
  | k + 1, n => dchar n :: ldig k (n / 10)
theorem ldig_len : ∀ (k n : Nat), (ldig k n).length = k
  | 0, _ => rfl
  | k + 1, n => by rw [ldig, List.length_cons, ldig_len]
theorem ldig_add : ∀ (a b n : Nat), ldig (a + b) n = ldig a n ++ ldig b (n / 10 ^ a)
  | 0, b, n => by simp [ldig]
  | a + 1, b, n => by
    rw [show a + 1 + b = (a + b) + 1 by omega, ldig, ldig, ldig_add a b, List.cons_append, Nat.div_div_eq_div_mul, Nat.pow_succ, Nat.mul_comm (10 ^ a) 10]
theorem ldig_snoc (k n : Nat) : ldig (k + 1) n = ldig k n ++ [dchar (n / 10 ^ k)] := by
  rw [ldig_add]; rfl
theorem ldig_mod : ∀ (k n : Nat), ldig k (n % 10 ^ k) = ldig k n
  | 0, n => rfl
  | k + 1, n => by
    rw [ldig, ldig, ← ldig_mod k (n / 10)]
    have h1 : n % 10 ^ (k + 1) / 10 = n / 10 % 10 ^ k := by
      rw [Nat.pow_succ, Nat.mul_comm, Nat.mod_mul_right_div_self]
    have h2 : n % 10 ^ (k + 1) % 10 = n % 10 := by
      rw [Nat.pow_succ, Nat.mul_comm, Nat.mod_mul_right_mod]
    rw [h1]
    congr 1
    unfold dchar
    rw [h2]
def stripT : Bs8 → Bs8
  | [] => []
  | d :: l => match stripT l with
    | [] => if d = 48 then [] else [d]
    | x :: m => d :: x :: m
theorem stripT_zero : ∀ l : Bs8, stripT (l ++ [48]) = stripT l
  | [] => rfl
  | d :: l => by
    rw [List.cons_append, stripT, stripT, stripT_zero l]
theorem stripT_full {c : UInt8} (h : c ≠ 48) : ∀ l : Bs8, stripT (l ++ [c]) = l ++ [c]
  | [] => by simp [stripT, h]
  | d :: l => by
    rw [List.cons_append, stripT, stripT_full h l]
    cases l <;> rfl
def decR : Nat → Nat → Bs8
  | 0, _ => []
  | f + 1, n => if n = 0 then [] else dchar n :: decR f (n / 10)
theorem decR_nil {f n : Nat} (h : n < 10 ^ f) : decR f n = [] ↔ n = 0 := by
  cases f with
  | zero => simp [decR]; simpa using h
  | succ f =>
    rw [decR]
    by_cases h0 : n = 0
    · simp [h0]
    · simp [h0]
theorem decR_eq : ∀ (f g n : Nat), n < 10 ^ f → n < 10 ^ g → decR f n = decR g n
  | 0, g, n, h, h' => by
    have : n = 0 := by simpa using h
    subst this
    cases g <;> simp [decR]
  | f + 1, 0, n, h, h' => by
    have : n = 0 := by simpa using h'
    subst this
    simp [decR]
  | f + 1, g + 1, n, h, h' => by
    rw [decR, decR]
    split
    · rfl
    · rw [decR_eq f g (n / 10) (by rw [Nat.pow_succ] at h; omega) (by rw [Nat.pow_succ] at h'; omega)]
theorem stripT_ldig : ∀ (K n : Nat), n < 10 ^ K → stripT (ldig K n) = decR K n
  | 0, n, h => rfl
  | K + 1, n, h => by
    have h1 : n / 10 < 10 ^ K := by rw [Nat.pow_succ] at h; omega
    rw [ldig, stripT, stripT_ldig K (n / 10) h1, decR]
    cases hq : decR K (n / 10) with
    | nil =>
      have h2 := (decR_nil h1).1 hq
      by_cases h0 : n = 0
      · subst h0; rfl
      · rw [if_neg h0]
        dsimp only
        rw [if_neg (fun e => by have := dchar_zero.1 e; omega)]
    | cons x m =>
      have h0 : n ≠ 0 := fun e => by
        rw [(decR_nil h1).2 (by rw [e])] at hq
        cases hq
      rw [if_neg h0]
theorem lt_pow10 (n : Nat) : n < 10 ^ n := Nat.lt_pow_self (by decide)
def decS (n : Nat) : Bs8 := if n = 0 then [48] else (decR n n).reverse
def intS (z : Int) : Bs8 := if z < 0 then 45 :: decS z.natAbs else decS z.natAbs
def ratS (q : Rat) : Bs8 := if q.den = 1 then intS q.num else intS q.num ++ 47 :: intS (q.den : Int)
theorem strip_decS {K n : Nat} (h : n < 10 ^ K) (h0 : n ≠ 0) : (stripT (ldig K n)).reverse = decS n := by
  unfold decS
  rw [if_neg h0, stripT_ldig K n h, decR_eq K n n h (lt_pow10 n)]
def RevI (l c : Bs8) (i : Nat) : Prop := c.length = l.length ∧ ∀ j, j < l.length → c[j]? = if j < i ∨ l.length - 1 - i < j then l[l.length - 1 - j]? else l[j]?
theorem RevI.zero (l : Bs8) : RevI l l 0 := ⟨rfl, fun j hj => by rw [if_neg (by omega)]⟩
theorem RevI.done {l c : Bs8} {i : Nat} (h : RevI l c i) (hi : l.length ≤ 2 * i + 1) : c = l.reverse := by
  apply List.ext_getElem?
  intro j
  by_cases hj : j < l.length
  · rw [h.2 j hj, List.getElem?_reverse hj]
    by_cases hc : j < i ∨ l.length - 1 - i < j
    · rw [if_pos hc]
    · rw [if_neg hc]
      congr 1
      omega
  · rw [List.getElem?_eq_none (by rw [h.1]; omega), List.getElem?_eq_none (by simp; omega)]
theorem RevI.step {l c : Bs8} {i : Nat} {a b : UInt8} (h : RevI l c i) (hi : 2 * i + 1 < l.length) (ha : c[i]? = some a) (hb : c[l.length - 1 - i]? = some b) : RevI l ((c.set i b).set (l.length - 1 - i) a) (i + 1) := by
  refine ⟨by simp [h.1], fun j hj => ?_⟩
  have e1 := h.2 i (by omega)
  have e2 := h.2 (l.length - 1 - i) (by omega)
  rw [if_neg (by omega)] at e1 e2
  rw [ha] at e1
  rw [hb] at e2
  by_cases h1 : j = l.length - 1 - i
  · subst h1
    rw [List.getElem?_set_self (by simp [h.1]; omega), if_pos (by omega)]
    rw [e1]; congr 1; omega
  · rw [List.getElem?_set_ne (fun e => h1 e.symm)]
    by_cases h2 : j = i
    · subst h2
      rw [List.getElem?_set_self (by rw [h.1]; omega), if_pos (by omega), e2]
    · rw [List.getElem?_set_ne (fun e => h2 e.symm), h.2 j hj]
      by_cases hc : j < i ∨ l.length - 1 - i < j
      · rw [if_pos hc, if_pos (by omega)]
      · rw [if_neg hc, if_neg (by omega)]
theorem NB_get {l : Bs8} {i : Nat} {c : UInt8} (h : l[i]? = some c) : (NB l)[i]? = some (.int .u8 (c.toNat : Nat)) := by
  unfold NB; rw [List.getElem?_map, h]; rfl
theorem NB_set (l : Bs8) (i : Nat) (c : UInt8) : (NB l).set i (.int .u8 (c.toNat : Nat)) = NB (l.set i c) := by
  unfold NB; rw [List.map_set]
theorem NB_take (l : Bs8) (i : Nat) : (NB l).take i = NB (l.take i) := by
  unfold NB; rw [List.map_take]
theorem pw10_nb {N a : Nat} (h : 10 ^ a ≤ N) : a ≤ 3 * nb N := by
  rw [← Nat.not_lt]
  intro h2
  have h3 : N < 256 ^ nb N := lt_nb N
  have h4 : 256 ^ nb N ≤ 1000 ^ nb N := Nat.pow_le_pow_left (by decide) _
  have h5 : (1000 : Nat) ^ nb N = 10 ^ (3 * nb N) := by rw [Nat.pow_mul]
  have h6 : (10 : Nat) ^ (3 * nb N) ≤ 10 ^ a := Nat.pow_le_pow_right (by decide) (by omega)
  omega
theorem quo32 {x y : Int} (m n : Nat) (hx : x = (m : Int)) (hy : y = (n : Int)) (h : m / n < 4294967296) : IntKind.u32.wrap (x.tdiv y) = ((m / n : Nat) : Int) := by
  subst hx; subst hy; rw [← Int.ofNat_tdiv, IntKind.wrap_u32]; generalize m / n = q at *; omega
theorem decS_ne {n : Nat} (h : n ≠ 0) : decS n ≠ [] := by
  unfold decS
  rw [if_neg h]
  intro e
  have := List.reverse_eq_nil_iff.1 e
  exact h ((decR_nil (lt_pow10 n)).1 this)
structure PrS (N : Nat) where
  k : Nat
  cx : Nat
  b : Option Nat
  n : Nat
  cap : Nat
  hx : (digs B32 (N / 10 ^ (9 * k))).length ≤ cx
  h1 : 9 * k ≤ cap
  h2 : cap ≤ n
  hk : 9 * k ≤ 3 * nb N + 9
structure PrJ (K : Nat) where
  j : Nat
  b : Option Nat
  n : Nat
  cap : Nat
  hj : j ≤ 9
  h1 : K + j ≤ cap
  h2 : cap ≤ n
theorem pr_zero (N : Nat) : N / 10 ^ (9 * 0) = N := by simp
theorem pr_next (N k : Nat) : ldig (9 * k) N ++ ldig 9 (N / 10 ^ (9 * k) % 1000000000) = ldig (9 * (k + 1)) N := by
  rw [show (1000000000 : Nat) = 10 ^ 9 from rfl, ldig_mod, show 9 * (k + 1) = 9 * k + 9 by omega, ldig_add]
theorem pr_div (N k : Nat) : N / 10 ^ (9 * k) / 1000000000 = N / 10 ^ (9 * (k + 1)) := by
  rw [Nat.div_div_eq_div_mul, show 9 * (k + 1) = 9 * k + 9 by omega, Nat.pow_add]
theorem pr_row {N k : Nat} : NV .u32 (digs B32 (N / 10 ^ (9 * (k + 1)))) = (NV .u32 (row (digs B32 (N / 10 ^ (9 * k))).length (shoQ (N / 10 ^ (9 * k)) 1000000000))).take (digs B32 (N / 10 ^ (9 * (k + 1)))).length := by
  have h := trim_take B32_two (l := row (digs B32 (N / 10 ^ (9 * k))).length (shoQ (N / 10 ^ (9 * k)) 1000000000)) (row_lt fun j => B32_mod _)
  rw [shoQ_val, pr_div] at h
  rw [NV_take, h]
theorem at_some {B : Bs} {nt : Nat} {t : List (Nat × Value)} {L : List Blk} {Q : Act → World → Prop} (k : Nat) {b : Option Nat} {e n : Nat} {cs : List Value} {o : Bool} (hk : L[k]? = some ⟨b, e, cs, n, o⟩) (hcs : cs ≠ []) (h : b.isSome = true → At B ⟨nt, t, L⟩ Q) : At B ⟨nt, t, L⟩ Q := fun a w hr => h (by
  cases b with
  | none => exact absurd ((hr.mem.blk k _ hk).2 rfl).1 hcs
  | some g => rfl) a w hr
theorem strip_step {l : Bs8} {j : Nat} {c : UInt8} (h : l[j]? = some c) : l.take (j + 1) = l.take j ++ [c] := by rw [List.take_add_one, h]; rfl
theorem strN_NB (l : Bs8) : NB l = NV .u8 (l.map UInt8.toNat) := by
  unfold NB NV
  rw [List.map_map]; rfl
theorem strN_U (l : Bs8) : strN (l.map UInt8.toNat) = strU l := by
  unfold strN strU
  rw [List.map_map]
  congr 2
  rw [show (UInt8.ofNat ∘ UInt8.toNat) = id from funext fun x => by simp]
  simp
end Go.Via
set_option maxHeartbeats 20000000
namespace Go.Proofs.YtfijbadahkmhbaaGreatDoor
open Go Go.RowKit Go.Via
set_option maxRecDepth 20000 in
theorem c_integer_Print (z : Int) (hz0 : szI z ≤ 1000000) : PCall Tryz.prog 102 #[I z] (.string (strU (intS z))) := by
 have hz1 : nb z.natAbs ≤ 1000000 := hz0;refine ⟨by kernel_rfl, fun w => ?_⟩;refine cB1 81 Tryz.func102 (LRel.nil w) ?_;refine A2 ?_;refine Bo [_, _] 2 (fun g => [⟨some g, 25, _, 2, true⟩]) (fun g0 => ?_);refine A11 ?_;refine Cd ?_ ?_<;>intro hb0
 ·have hN0 : z.natAbs = 0 := by have hh := hb0; rw [beq_empty] at hh; exact of_decide_eq_true hh
  refine A7 ?_;refine E1 fun w hL => ⟨?_, hL.below⟩
  have e : z = 0 := (by omega);subst e;exact rfl
 ·have hN0 : z.natAbs ≠ 0 := by have hh := hb0; rw [beq_empty] at hh; exact of_decide_eq_false hh
  have hdl := dig_len_le (n := z.natAbs) (Nat.le_refl _);refine A12 ?_;refine r_scall [.string (mag z.natAbs)] [] rfl rfl rfl (c_integer_digits z.natAbs (by omega)) trivial rfl (.inr fun _ b hb => by rw [List.mem_singleton.1 hb]) (fun g1 => ?_);refine A4 ?_;refine El (ι := PrS z.natAbs) (fun ⟨k, cx, b, n, cap, hx, h1, h2, hkk⟩ => ([(1, .pointer (some ⟨g0, 0, none⟩)), (3, slv b 0 (9 * k) cap), (4, slv (some g1) 0 (digs B32 (z.natAbs / 10 ^ (9 * k))).length cx)], [⟨some g0, 25, [.bool (decide (z < 0)), .string (mag z.natAbs)], 2, true⟩, ⟨some g1, 161, NV .u32 (digs B32 (z.natAbs / 10 ^ (9 * k))), (digs B32 z.natAbs).length, true⟩, ⟨b, 5, NB (ldig (9 * k) z.natAbs), n, true⟩], z.natAbs / 10 ^ (9 * k))) ⟨0, (digs B32 z.natAbs).length, none, 0, 0, by rw [pr_zero]; exact Nat.le_refl _, Nat.le_refl _, Nat.le_refl _, Nat.zero_le _⟩ ?_ (ht := ⟨rfl, rfl, (look_val rfl (by rw [pr_zero])), trivial⟩) (hL := (Weak.trans (Weak.nilB _ (by decide : 5 < mapMark)) (weak_picks [some 0, some 1, some 2] ⟨⟨_, rfl, Blk.le_refl _⟩, ⟨_, rfl, le_same (by rw [pr_zero])⟩, ⟨_, rfl, Blk.le_refl _⟩, trivial⟩ rfl rfl)));rintro ⟨k, cx, b, n, cap, hx, h1, h2, hkk⟩;(try dsimp only);refine A8 ?_;refine Cd ?_ ?_<;>intro hb2
  ·have hm0 : z.natAbs / 10 ^ (9 * k) ≠ 0 := fun e => by have := of_decide_eq_true hb2; rw [e] at this; simp [digs] at this
   have hpk : 9 * k ≤ 3 * nb z.natAbs := pw10_nb (Nat.le_of_not_lt fun h => hm0 (Nat.div_eq_of_lt h));have hnm : nb (z.natAbs / 10 ^ (9 * k)) ≤ nb z.natAbs := nb_mono (Nat.div_le_self _ _);have hdm := dig_len_le (n := z.natAbs / 10 ^ (9 * k)) (Nat.le_refl _);refine A5 ?_;refine at_regionM ?_;refine A1 ?_;refine r_mcall [_, _] 1 [_, ⟨some g1, 161, NV .u32 (row (digs B32 (z.natAbs / 10 ^ (9 * k))).length (shoQ (z.natAbs / 10 ^ (9 * k)) 1000000000)), _, true⟩, _] rfl rfl rfl rfl (c_nat_short (z.natAbs / 10 ^ (9 * k)) 1000000000 (by omega) (by decide) (by decide) g1 _ cx) rfl rfl ?_;have hR9 : (z.natAbs / 10 ^ (9 * k) % 1000000000) < 1000000000 := Nat.mod_lt _ (by decide);refine A9 ?_;refine El (ι := PrJ (9 * k)) (fun ⟨j, b, n, cap, hj, h1, h2⟩ => ([(1, .pointer (some ⟨g0, 0, none⟩)), (3, slv b 0 (9 * k + j) cap), (4, slv (some g1) 0 (digs B32 (z.natAbs / 10 ^ (9 * k))).length cx), (5, .int .u32 ((z.natAbs / 10 ^ (9 * k) % 1000000000) / 10 ^ j : Nat)), (21, .int .i64 (j : Nat))], [⟨some g0, 25, [.bool (decide (z < 0)), .string (mag z.natAbs)], 2, true⟩, ⟨some g1, 161, NV .u32 (row (digs B32 (z.natAbs / 10 ^ (9 * k))).length (shoQ (z.natAbs / 10 ^ (9 * k)) 1000000000)), (digs B32 z.natAbs).length, true⟩, ⟨b, 5, NB (ldig (9 * k) z.natAbs ++ ldig j (z.natAbs / 10 ^ (9 * k) % 1000000000)), n, true⟩], 9 - j)) ⟨0, b, n, cap, by omega, h1, h2⟩ ?_ (ht := ⟨rfl, rfl, rfl, (look_val rfl (congrArg (fun n : Nat => Value.int .u32 (n : Int)) (by rw [Nat.pow_zero, Nat.div_one]))), rfl, trivial⟩) (hL := (weak_picks [some 0, some 1, some 2] ⟨⟨_, rfl, Blk.le_refl _⟩, ⟨_, rfl, Blk.le_refl _⟩, ⟨_, rfl, le_same (by rw [ldig, List.append_nil])⟩, trivial⟩ rfl rfl));rintro ⟨j, b, n, cap, hj, h1, h2⟩;(try dsimp only);refine A6 ?_;refine Cd ?_ ?_<;>intro hb4
   ·have hlt : j < 9 := (by have := of_decide_eq_true hb4; omega);refine A7 ?_;refine r_div (r := (((z.natAbs / 10 ^ (9 * k) % 1000000000) / 10 ^ j % 10 : Nat) : Int)) rfl rfl rfl rfl (by omega) (congrArg some (rem_n _ _ rfl rfl)) ?_;refine r_arith (r := ((48 + (z.natAbs / 10 ^ (9 * k) % 1000000000) / 10 ^ j % 10 : Nat) : Int)) rfl rfl rfl rfl (congrArg some (by rw [IntKind.wrap_u32]; omega)) ?_;refine r_conv (r := ((dchar ((z.natAbs / 10 ^ (9 * k) % 1000000000) / 10 ^ j)).toNat : Int)) u161 u5 rfl rfl rfl (by rw [dchar_nat, IntKind.wrap_u8]; omega) ?_;refine r_buildSlice [(0, _)] (fun g => [_, _, _, ⟨some g, 5, _, 1, true⟩]) rfl rfl rfl (bs125_1) rfl (fun _ => rfl) (fun g1 => ?_);refine q_append (b := ⟨b, 5, NB (ldig (9 * k) z.natAbs ++ ldig j (z.natAbs / 10 ^ (9 * k) % 1000000000)), n, true⟩) (len := 9 * k + j) (cap := cap) (n2 := 1) 2 3 (fun r => [_, _, ⟨some r.g, 5, NB (ldig (9 * k) z.natAbs ++ ldig j (z.natAbs / 10 ^ (9 * k) % 1000000000)) ++ [.int .u8 ((dchar ((z.natAbs / 10 ^ (9 * k) % 1000000000) / 10 ^ j)).toNat : Nat)], r.n, true⟩, _]) u125 el5 rfl rfl rfl rfl rfl rfl rfl rfl rfl rfl rfl rfl (by rw [NB_length, List.length_append, ldig_len, ldig_len, Nat.mul_one]) h1 (by rw [Nat.mul_one]; exact h2) rfl (fun v hv => by rw [List.mem_singleton.1 hv]; rfl) (by omega) (fun r => rfl) (fun r => ?_);refine A1 ?_;refine r_div (r := (((z.natAbs / 10 ^ (9 * k) % 1000000000) / 10 ^ j / 10 : Nat) : Int)) rfl rfl rfl rfl (by omega) (congrArg some (quo32 ((z.natAbs / 10 ^ (9 * k) % 1000000000) / 10 ^ j) 10 rfl rfl (Nat.lt_of_le_of_lt (Nat.div_le_self _ _) (Nat.lt_of_le_of_lt (Nat.div_le_self _ _) (Nat.lt_trans hR9 (by decide)))))) ?_;refine A6 ?_;refine Ar (((j + 1 : Nat) : Int)) ?_;refine A3 ?_;exact Nl ⟨j + 1, some r.g, r.n, r.cap, hlt, r.h, by have := r.hn; omega⟩ (ht := ⟨rfl, rfl, rfl, (look_val rfl (congrArg (fun n : Nat => Value.int .u32 (n : Int)) (by rw [Nat.div_div_eq_div_mul, ← Nat.pow_succ]))), rfl, trivial⟩) (hL := (weak_picks [some 0, some 1, some 2] ⟨⟨_, rfl, Blk.le_refl _⟩, ⟨_, rfl, Blk.le_refl _⟩, ⟨_, rfl, le_same (by rw [ldig_snoc, ← List.append_assoc, NB_append]; rfl)⟩, trivial⟩ rfl rfl))
   ·have hge : j = 9 := (by have := of_decide_eq_false hb4; omega);subst hge;refine A8 ?_;refine r_scall0 [slv (some g1) 0 (digs B32 (z.natAbs / 10 ^ (9 * k))).length cx] [1] rfl rfl rfl (c_nat_trim (row (digs B32 (z.natAbs / 10 ^ (9 * k))).length (shoQ (z.natAbs / 10 ^ (9 * k)) 1000000000)) (row_lt fun j => B32_mod _) (by rw [row_length]; omega) (row_length _ _) ⟨some g1, _, cx, hx⟩) ⟨⟨_, rfl, le_share⟩, trivial⟩ rfl ?_;refine r_know 18 (slv (some g1) 0 (digs B32 (z.natAbs / 10 ^ (9 * (k + 1)))).length cx) rfl (by rw [shoQ_val, pr_div]) ?_;refine A3 ?_;exact Nl ⟨k + 1, cx, b, n, cap, Nat.le_trans (digs_length_mono (by decide) (by rw [← pr_div]; exact Nat.div_le_self _ _)) hx, by omega, h2, by omega⟩ (hμ := (by show z.natAbs / 10 ^ (9 * (k + 1)) < z.natAbs / 10 ^ (9 * k); rw [← pr_div]; exact Nat.div_lt_self (Nat.pos_of_ne_zero hm0) (by decide))) (hL := (weak_picks [some 0, some 1, some 2] ⟨⟨_, rfl, Blk.le_refl _⟩, ⟨_, rfl, ⟨rfl, rfl, rfl, ⟨(digs B32 (z.natAbs / 10 ^ (9 * (k + 1)))).length, pr_row⟩, id⟩⟩, ⟨_, rfl, le_same (by rw [pr_next])⟩, trivial⟩ rfl rfl))
  ·have hm0 : z.natAbs / 10 ^ (9 * k) = 0 := by
    by_cases e : z.natAbs / 10 ^ (9 * k) = 0
    · exact e
    · have := dig_pos e; have h2 := of_decide_eq_false hb2; omega
   have hK : z.natAbs < 10 ^ (9 * k) := by
    rw [← Nat.not_le]; intro h2;have := Nat.div_pos h2 (Nat.pow_pos (by decide)); omega
   refine A7 ?_;refine El (ι := {j : Nat // j ≤ 9 * k ∧ stripT ((ldig (9 * k) z.natAbs).take j) = stripT (ldig (9 * k) z.natAbs)}) (fun ⟨j, hj, hI⟩ => ([(1, .pointer (some ⟨g0, 0, none⟩)), (3, slv b 0 j cap)], [⟨some g0, 25, [.bool (decide (z < 0)), .string (mag z.natAbs)], 2, true⟩, ⟨b, 5, NB (ldig (9 * k) z.natAbs), n, true⟩], j)) ⟨9 * k, Nat.le_refl _, by rw [List.take_of_length_le (by rw [ldig_len]; exact Nat.le_refl _)]⟩ ?_ (hL := (weak_pk [some 0, some 2]));rintro ⟨j, hj, hI⟩;(try dsimp only);refine A7 ?_;refine Rs 36 ?_ ?_<;>intro hb4
   ·have hj0 : 0 < j := (by have := of_decide_eq_true hb4; omega);obtain ⟨c, hxc⟩ : ∃ c, (ldig (9 * k) z.natAbs)[j - 1]? = some c := ⟨(ldig (9 * k) z.natAbs)[j - 1]'(by rw [ldig_len]; omega), List.getElem?_eq_getElem _⟩;refine A3 ?_;refine Ar (((j - 1 : Nat) : Int)) ?_;refine r_indexAddr 1 (j - 1) u125 ti5 rfl rfl rfl rfl rfl (by omega) (by omega) (fun e => by have := congrArg List.length e; rw [NB_length, ldig_len] at this; simp at this; omega) (by show 0 + Int.toNat _ * 1 = _; omega) ?_;refine r_load1 (v := .int .u8 (c.toNat : Nat)) 1 (j - 1) ti5 rfl rfl rfl rfl (NB_get hxc) ?_;refine A4 ?_;refine Cd ?_ ?_<;>intro hb5
    ·have hc48 : c = 48 := by
      have hh := hb5;exact UInt8.toNat_inj.1 (by have := eq_of_beq hh; simpa using Int.ofNat_inj.1 this)
     refine A7 ?_;refine Ar (((j - 1 : Nat) : Int)) ?_;refine r_sliceH (j - 1) u125 ti5 rfl rfl rfl rfl (by omega) (by omega) (by omega) ?_;refine A4 ?_;exact nextL ⟨j - 1, by omega, by
       rw [← hI];have e := strip_step hxc;rw [Nat.sub_add_cancel hj0, hc48] at e;rw [e, stripT_zero]⟩ (by show j - 1 < j; omega) ⟨rfl, rfl, trivial⟩ (Weak.refl _)
    ·have hc48 : c ≠ 48 := by
      have hh := hb5;intro e; subst e; exact absurd hh (by decide)
     have hS : stripT (ldig (9 * k) z.natAbs) = (ldig (9 * k) z.natAbs).take j := by
      rw [← hI];have e := strip_step hxc;rw [Nat.sub_add_cancel hj0] at e;rw [e, stripT_full hc48]
     refine A7 ?_;obtain ⟨S, hSe⟩ : ∃ S, (ldig (9 * k) z.natAbs).take j = S := ⟨_, rfl⟩;have hSl : S.length = j := by rw [← hSe, List.length_take, ldig_len]; omega
     have hSd : S.reverse = decS z.natAbs := (by rw [← hSe, ← hS]; exact strip_decS hK hN0);have hSn : 0 < S.length := List.length_pos_iff.2 fun e => by rw [e] at hSd; exact decS_ne hN0 hSd.symm
     refine at_weakL (L' := [⟨some g0, 25, [.bool (decide (z < 0)), .string (mag z.natAbs)], 2, true⟩, ⟨b, 5, NB S, n, true⟩]) (weak_picks [some 0, some 1] ⟨⟨_, rfl, Blk.le_refl _⟩, ⟨_, rfl, ⟨rfl, rfl, rfl, ⟨j, by rw [← hSe, ← NB_take]⟩, id⟩⟩, trivial⟩ rfl rfl) ?_;refine at_know 3 (slv b 0 S.length cap) rfl (by rw [hSl]) ?_;refine A5 ?_;refine Cd ?_ ?_<;>intro hb6
     ·have hz : decide (z < 0) = true := hb6;refine A2 ?_;refine r_buildSlice [(0, _)] (fun g => [_, _, ⟨some g, 5, _, 1, true⟩]) rfl rfl rfl (bs125_1) rfl (fun _ => rfl) (fun g1 => ?_);refine q_append (b := ⟨b, 5, NB S, n, true⟩) (len := S.length) (cap := cap) (n2 := 1) 1 2 (fun r => [_, ⟨some r.g, 5, NB S ++ [.int .u8 45], r.n, true⟩, _]) u125 el5 rfl rfl rfl rfl rfl rfl rfl rfl rfl rfl rfl rfl (by rw [NB_length, Nat.mul_one]) (by omega) (by rw [Nat.mul_one]; exact h2) rfl (fun v hv => by rw [List.mem_singleton.1 hv]; rfl) (by omega) (fun r => rfl) (fun r => ?_);refine A5 ?_;obtain ⟨W, hW⟩ : ∃ W, S ++ [45] = W := ⟨_, rfl⟩;have hWl : W.length = S.length + 1 := by rw [← hW]; simp
      have hWr : W.reverse = intS z := by
       unfold intS;rw [if_pos (of_decide_eq_true hz), ← hW, List.reverse_append, hSd]; rfl
      refine at_weakL (L' := [⟨some g0, 25, [.bool (decide (z < 0)), .string (mag z.natAbs)], 2, true⟩, ⟨some r.g, 5, NB W, r.n, true⟩]) (weak_picks [some 0, some 1] ⟨⟨_, rfl, Blk.le_refl _⟩, ⟨_, rfl, le_same (by rw [← hW, NB_append]; rfl)⟩, trivial⟩ rfl rfl) ?_;refine at_know 3 (slv (some r.g) 0 W.length r.cap) rfl (by rw [hWl]) ?_;refine A3 ?_;refine Ar (((W.length - 1 : Nat) : Int)) ?_;refine A5 ?_;refine El (ι := {q : Nat × Bs8 // RevI W q.2 q.1 ∧ 2 * q.1 ≤ W.length}) (fun ⟨⟨i, c⟩, hR, hi⟩ => ([(3, slv (some r.g) 0 W.length r.cap), (6, .int .i64 (i : Nat)), (7, .int .i64 (W.length - 1 - i : Nat))], [⟨some g0, 25, [.bool (decide (z < 0)), .string (mag z.natAbs)], 2, true⟩, ⟨(some r.g), 5, NB c, r.n, true⟩], W.length - 2 * i)) ⟨(0, W), RevI.zero _, Nat.zero_le _⟩ ?_ (hL := Weak.auto);rintro ⟨⟨i, c⟩, hR, hi⟩;(try dsimp only);dsimp only at hR hi;refine A8 ?_;refine Cd ?_ ?_<;>intro hb8
      ·have hlt : 2 * i + 1 < W.length := by have := of_decide_eq_true hb8; omega
       obtain ⟨ca, hca⟩ : ∃ a, c[i]? = some a := ⟨c[i]'(by rw [hR.1]; omega), List.getElem?_eq_getElem _⟩;obtain ⟨cb, hcb⟩ : ∃ a, c[W.length - 1 - i]? = some a := ⟨c[W.length - 1 - i]'(by rw [hR.1]; omega), List.getElem?_eq_getElem _⟩;refine A4 ?_;refine at_drawnEM (X := Unit) (l' := [⟨_,_,_,_,_,_⟩, ⟨_,_,_,_,_,_⟩, ⟨_,_,_,_,_,_⟩, ⟨_,_,_,_,_,_⟩, ⟨_,_,_,_,_,_⟩, ⟨_,_,_,_,_,_⟩, ⟨_,_,_,_,_,_⟩, ⟨_,_,_,_,_,_⟩]) (fun ⟨⟩ => [(3, slv (some r.g) 0 W.length r.cap), (6, .int .i64 (i : Nat)), (7, .int .i64 (W.length - 1 - i : Nat))]) (fun ⟨⟩ => [⟨some g0, 25, [.bool (decide (z < 0)), .string (mag z.natAbs)], 2, true⟩, ⟨(some r.g), 5, NB ((c.set i cb).set (W.length - 1 - i) ca), r.n, true⟩]) [0, 1, 2, 3, 4, 5, 8, 9] 8 mixed (by kernel_rfl) rfl ?_ ?_
       ·refine A9 ?_;refine Tn2 6 10 ?_ ?_
        ·refine Ix 1 (W.length - 1 - i) ?_;refine A1 ?_;refine Tn2 7 10 ?_ ?_
         ·refine r_load1 (v := .int .u8 (cb.toNat : Nat)) 1 (W.length - 1 - i) ti5 rfl rfl rfl rfl (NB_get hcb) ?_;refine A1 ?_;refine Tn1 10 ?_
          ·refine Ix 1 i ?_;refine A1 ?_;refine Tn1 11 ?_
           ·refine r_load1 (v := .int .u8 (ca.toNat : Nat)) 1 i ti5 rfl rfl rfl rfl (NB_get hca) ?_;refine A1 ?_;refine Tn1 12 ?_
            ·refine Ix 1 i ?_;refine A1 ?_;refine Tn1 13 ?_
             ·refine r_store1 rfl 1 i [_, ⟨_, 5, _, _, true⟩] (NB (c.set i cb)) ti5 rfl rfl rfl rfl rfl rfl rfl rfl (by have h8 := hR.1; rw [NB_length]; first | omega | (rw [List.length_set]; omega)) (NB_set _ _ _) rfl ?_;refine A1 ?_;refine Tn1 14 ?_
              ·refine Ix 1 (W.length - 1 - i) ?_;refine A1 ?_;refine Tn1 15 ?_
               ·refine r_store1 rfl 1 (W.length - 1 - i) [_, ⟨_, 5, _, _, true⟩] (NB ((c.set i cb).set (W.length - 1 - i) ca)) ti5 rfl rfl rfl rfl rfl rfl rfl rfl (by have h8 := hR.1; rw [NB_length]; first | omega | (rw [List.length_set]; omega)) (NB_set _ _ _) rfl ?_;refine A1 ?_;refine tr_nil (by kernel_rfl) ?_;exact ⟨(), rfl, ⟨rfl, rfl, rfl, trivial⟩, List.Perm.refl _⟩
         ·refine Ix 1 i ?_;refine A1 ?_;refine Tn2 7 11 ?_ ?_
          ·refine r_load1 (v := .int .u8 (cb.toNat : Nat)) 1 (W.length - 1 - i) ti5 rfl rfl rfl rfl (NB_get hcb) ?_;refine A1 ?_;refine Tn1 11 ?_
           ·refine r_load1 (v := .int .u8 (ca.toNat : Nat)) 1 i ti5 rfl rfl rfl rfl (NB_get hca) ?_;refine A1 ?_;refine Tn1 12 ?_
            ·refine Ix 1 i ?_;refine A1 ?_;refine Tn1 13 ?_
             ·refine r_store1 rfl 1 i [_, ⟨_, 5, _, _, true⟩] (NB (c.set i cb)) ti5 rfl rfl rfl rfl rfl rfl rfl rfl (by have h8 := hR.1; rw [NB_length]; first | omega | (rw [List.length_set]; omega)) (NB_set _ _ _) rfl ?_;refine A1 ?_;refine Tn1 14 ?_
              ·refine Ix 1 (W.length - 1 - i) ?_;refine A1 ?_;refine Tn1 15 ?_
               ·refine r_store1 rfl 1 (W.length - 1 - i) [_, ⟨_, 5, _, _, true⟩] (NB ((c.set i cb).set (W.length - 1 - i) ca)) ti5 rfl rfl rfl rfl rfl rfl rfl rfl (by have h8 := hR.1; rw [NB_length]; first | omega | (rw [List.length_set]; omega)) (NB_set _ _ _) rfl ?_;refine A1 ?_;refine tr_nil (by kernel_rfl) ?_;exact ⟨(), rfl, ⟨rfl, rfl, rfl, trivial⟩, List.Perm.refl _⟩
          ·refine r_load1 (v := .int .u8 (ca.toNat : Nat)) 1 i ti5 rfl rfl rfl rfl (NB_get hca) ?_;refine A1 ?_;refine Tn1 7 ?_
           ·refine r_load1 (v := .int .u8 (cb.toNat : Nat)) 1 (W.length - 1 - i) ti5 rfl rfl rfl rfl (NB_get hcb) ?_;refine A1 ?_;refine Tn1 12 ?_
            ·refine Ix 1 i ?_;refine A1 ?_;refine Tn1 13 ?_
             ·refine r_store1 rfl 1 i [_, ⟨_, 5, _, _, true⟩] (NB (c.set i cb)) ti5 rfl rfl rfl rfl rfl rfl rfl rfl (by have h8 := hR.1; rw [NB_length]; first | omega | (rw [List.length_set]; omega)) (NB_set _ _ _) rfl ?_;refine A1 ?_;refine Tn1 14 ?_
              ·refine Ix 1 (W.length - 1 - i) ?_;refine A1 ?_;refine Tn1 15 ?_
               ·refine r_store1 rfl 1 (W.length - 1 - i) [_, ⟨_, 5, _, _, true⟩] (NB ((c.set i cb).set (W.length - 1 - i) ca)) ti5 rfl rfl rfl rfl rfl rfl rfl rfl (by have h8 := hR.1; rw [NB_length]; first | omega | (rw [List.length_set]; omega)) (NB_set _ _ _) rfl ?_;refine A1 ?_;refine tr_nil (by kernel_rfl) ?_;exact ⟨(), rfl, ⟨rfl, rfl, rfl, trivial⟩, List.Perm.refl _⟩
        ·refine Ix 1 i ?_;refine A1 ?_;refine Tn2 6 11 ?_ ?_
         ·refine Ix 1 (W.length - 1 - i) ?_;refine A1 ?_;refine Tn2 7 11 ?_ ?_
          ·refine r_load1 (v := .int .u8 (cb.toNat : Nat)) 1 (W.length - 1 - i) ti5 rfl rfl rfl rfl (NB_get hcb) ?_;refine A1 ?_;refine Tn1 11 ?_
           ·refine r_load1 (v := .int .u8 (ca.toNat : Nat)) 1 i ti5 rfl rfl rfl rfl (NB_get hca) ?_;refine A1 ?_;refine Tn1 12 ?_
            ·refine Ix 1 i ?_;refine A1 ?_;refine Tn1 13 ?_
             ·refine r_store1 rfl 1 i [_, ⟨_, 5, _, _, true⟩] (NB (c.set i cb)) ti5 rfl rfl rfl rfl rfl rfl rfl rfl (by have h8 := hR.1; rw [NB_length]; first | omega | (rw [List.length_set]; omega)) (NB_set _ _ _) rfl ?_;refine A1 ?_;refine Tn1 14 ?_
              ·refine Ix 1 (W.length - 1 - i) ?_;refine A1 ?_;refine Tn1 15 ?_
               ·refine r_store1 rfl 1 (W.length - 1 - i) [_, ⟨_, 5, _, _, true⟩] (NB ((c.set i cb).set (W.length - 1 - i) ca)) ti5 rfl rfl rfl rfl rfl rfl rfl rfl (by have h8 := hR.1; rw [NB_length]; first | omega | (rw [List.length_set]; omega)) (NB_set _ _ _) rfl ?_;refine A1 ?_;refine tr_nil (by kernel_rfl) ?_;exact ⟨(), rfl, ⟨rfl, rfl, rfl, trivial⟩, List.Perm.refl _⟩
          ·refine r_load1 (v := .int .u8 (ca.toNat : Nat)) 1 i ti5 rfl rfl rfl rfl (NB_get hca) ?_;refine A1 ?_;refine Tn1 7 ?_
           ·refine r_load1 (v := .int .u8 (cb.toNat : Nat)) 1 (W.length - 1 - i) ti5 rfl rfl rfl rfl (NB_get hcb) ?_;refine A1 ?_;refine Tn1 12 ?_
            ·refine Ix 1 i ?_;refine A1 ?_;refine Tn1 13 ?_
             ·refine r_store1 rfl 1 i [_, ⟨_, 5, _, _, true⟩] (NB (c.set i cb)) ti5 rfl rfl rfl rfl rfl rfl rfl rfl (by have h8 := hR.1; rw [NB_length]; first | omega | (rw [List.length_set]; omega)) (NB_set _ _ _) rfl ?_;refine A1 ?_;refine Tn1 14 ?_
              ·refine Ix 1 (W.length - 1 - i) ?_;refine A1 ?_;refine Tn1 15 ?_
               ·refine r_store1 rfl 1 (W.length - 1 - i) [_, ⟨_, 5, _, _, true⟩] (NB ((c.set i cb).set (W.length - 1 - i) ca)) ti5 rfl rfl rfl rfl rfl rfl rfl rfl (by have h8 := hR.1; rw [NB_length]; first | omega | (rw [List.length_set]; omega)) (NB_set _ _ _) rfl ?_;refine A1 ?_;refine tr_nil (by kernel_rfl) ?_;exact ⟨(), rfl, ⟨rfl, rfl, rfl, trivial⟩, List.Perm.refl _⟩
         ·refine r_load1 (v := .int .u8 (ca.toNat : Nat)) 1 i ti5 rfl rfl rfl rfl (NB_get hca) ?_;refine A1 ?_;refine Tn1 6 ?_
          ·refine Ix 1 (W.length - 1 - i) ?_;refine A1 ?_;refine Tn1 7 ?_
           ·refine r_load1 (v := .int .u8 (cb.toNat : Nat)) 1 (W.length - 1 - i) ti5 rfl rfl rfl rfl (NB_get hcb) ?_;refine A1 ?_;refine Tn1 12 ?_
            ·refine Ix 1 i ?_;refine A1 ?_;refine Tn1 13 ?_
             ·refine r_store1 rfl 1 i [_, ⟨_, 5, _, _, true⟩] (NB (c.set i cb)) ti5 rfl rfl rfl rfl rfl rfl rfl rfl (by have h8 := hR.1; rw [NB_length]; first | omega | (rw [List.length_set]; omega)) (NB_set _ _ _) rfl ?_;refine A1 ?_;refine Tn1 14 ?_
              ·refine Ix 1 (W.length - 1 - i) ?_;refine A1 ?_;refine Tn1 15 ?_
               ·refine r_store1 rfl 1 (W.length - 1 - i) [_, ⟨_, 5, _, _, true⟩] (NB ((c.set i cb).set (W.length - 1 - i) ca)) ti5 rfl rfl rfl rfl rfl rfl rfl rfl (by have h8 := hR.1; rw [NB_length]; first | omega | (rw [List.length_set]; omega)) (NB_set _ _ _) rfl ?_;refine A1 ?_;refine tr_nil (by kernel_rfl) ?_;exact ⟨(), rfl, ⟨rfl, rfl, rfl, trivial⟩, List.Perm.refl _⟩
       rintro ⟨⟩;show At _ ⟨81, [(3, slv (some r.g) 0 W.length r.cap), (6, .int .i64 (i : Nat)), (7, .int .i64 (W.length - 1 - i : Nat))], [⟨some g0, 25, [.bool (decide (z < 0)), .string (mag z.natAbs)], 2, true⟩, ⟨(some r.g), 5, NB ((c.set i cb).set (W.length - 1 - i) ca), r.n, true⟩]⟩ _;refine A4 ?_;refine Ar (((i + 1 : Nat) : Int)) ?_;refine A1 ?_;refine Ar (((W.length - 1 - (i + 1) : Nat) : Int)) ?_;refine A4 ?_;exact Nl ⟨(i + 1, (c.set i cb).set (W.length - 1 - i) ca), hR.step hlt hca hcb, by omega⟩ (hμ := (by show W.length - 2 * (i + 1) < W.length - 2 * i; omega))
      ·have hge : W.length ≤ 2 * i + 1 := by have := of_decide_eq_false hb8; omega
       refine A8 ?_;refine r_convBS (l := c.map UInt8.toNat) (r := strU c) 1 u125 u5 u9 rfl rfl rfl rfl rfl (by rw [← strN_NB, List.take_of_length_le (by rw [NB_length, hR.1]; exact Nat.le_refl _)]) (by rw [List.length_map, hR.1]) (strN_U c) ?_;refine A4 ?_;refine E1 fun w hL => ⟨?_, hL.below⟩;rw [hR.done hge, hWr]
     ·have hz : decide (z < 0) = false := hb6;refine A4 ?_;have hWr : S.reverse = intS z := by
       unfold intS;rw [if_neg (of_decide_eq_false hz)]; exact hSd
      refine at_some 1 rfl (fun e => by have := congrArg List.length e; rw [NB_length] at this; simp only [List.length_nil] at this; omega) (fun hbs => ?_);obtain ⟨gb, hgb⟩ := Option.isSome_iff_exists.1 hbs;subst hgb;refine A3 ?_;refine Ar (((S.length - 1 : Nat) : Int)) ?_;refine A5 ?_;refine El (ι := {q : Nat × Bs8 // RevI S q.2 q.1 ∧ 2 * q.1 ≤ S.length}) (fun ⟨⟨i, c⟩, hR, hi⟩ => ([(3, slv (some gb) 0 S.length cap), (6, .int .i64 (i : Nat)), (7, .int .i64 (S.length - 1 - i : Nat))], [⟨some g0, 25, [.bool (decide (z < 0)), .string (mag z.natAbs)], 2, true⟩, ⟨(some gb), 5, NB c, n, true⟩], S.length - 2 * i)) ⟨(0, S), RevI.zero _, Nat.zero_le _⟩ ?_ (hL := Weak.auto);rintro ⟨⟨i, c⟩, hR, hi⟩;(try dsimp only);dsimp only at hR hi;refine A8 ?_;refine Cd ?_ ?_<;>intro hb8
      ·have hlt : 2 * i + 1 < S.length := by have := of_decide_eq_true hb8; omega
       obtain ⟨ca, hca⟩ : ∃ a, c[i]? = some a := ⟨c[i]'(by rw [hR.1]; omega), List.getElem?_eq_getElem _⟩;obtain ⟨cb, hcb⟩ : ∃ a, c[S.length - 1 - i]? = some a := ⟨c[S.length - 1 - i]'(by rw [hR.1]; omega), List.getElem?_eq_getElem _⟩;refine A4 ?_;refine at_drawnEM (X := Unit) (l' := [⟨_,_,_,_,_,_⟩, ⟨_,_,_,_,_,_⟩, ⟨_,_,_,_,_,_⟩, ⟨_,_,_,_,_,_⟩, ⟨_,_,_,_,_,_⟩, ⟨_,_,_,_,_,_⟩, ⟨_,_,_,_,_,_⟩, ⟨_,_,_,_,_,_⟩]) (fun ⟨⟩ => [(3, slv (some gb) 0 S.length cap), (6, .int .i64 (i : Nat)), (7, .int .i64 (S.length - 1 - i : Nat))]) (fun ⟨⟩ => [⟨some g0, 25, [.bool (decide (z < 0)), .string (mag z.natAbs)], 2, true⟩, ⟨(some gb), 5, NB ((c.set i cb).set (S.length - 1 - i) ca), n, true⟩]) [0, 1, 2, 3, 4, 5, 8, 9] 8 mixed (by kernel_rfl) rfl ?_ ?_
       ·refine A9 ?_;refine Tn2 6 10 ?_ ?_
        ·refine Ix 1 (S.length - 1 - i) ?_;refine A1 ?_;refine Tn2 7 10 ?_ ?_
         ·refine r_load1 (v := .int .u8 (cb.toNat : Nat)) 1 (S.length - 1 - i) ti5 rfl rfl rfl rfl (NB_get hcb) ?_;refine A1 ?_;refine Tn1 10 ?_
          ·refine Ix 1 i ?_;refine A1 ?_;refine Tn1 11 ?_
           ·refine r_load1 (v := .int .u8 (ca.toNat : Nat)) 1 i ti5 rfl rfl rfl rfl (NB_get hca) ?_;refine A1 ?_;refine Tn1 12 ?_
            ·refine Ix 1 i ?_;refine A1 ?_;refine Tn1 13 ?_
             ·refine r_store1 rfl 1 i [_, ⟨_, 5, _, _, true⟩] (NB (c.set i cb)) ti5 rfl rfl rfl rfl rfl rfl rfl rfl (by have h8 := hR.1; rw [NB_length]; first | omega | (rw [List.length_set]; omega)) (NB_set _ _ _) rfl ?_;refine A1 ?_;refine Tn1 14 ?_
              ·refine Ix 1 (S.length - 1 - i) ?_;refine A1 ?_;refine Tn1 15 ?_
               ·refine r_store1 rfl 1 (S.length - 1 - i) [_, ⟨_, 5, _, _, true⟩] (NB ((c.set i cb).set (S.length - 1 - i) ca)) ti5 rfl rfl rfl rfl rfl rfl rfl rfl (by have h8 := hR.1; rw [NB_length]; first | omega | (rw [List.length_set]; omega)) (NB_set _ _ _) rfl ?_;refine A1 ?_;refine tr_nil (by kernel_rfl) ?_;exact ⟨(), rfl, ⟨rfl, rfl, rfl, trivial⟩, List.Perm.refl _⟩
         ·refine Ix 1 i ?_;refine A1 ?_;refine Tn2 7 11 ?_ ?_
          ·refine r_load1 (v := .int .u8 (cb.toNat : Nat)) 1 (S.length - 1 - i) ti5 rfl rfl rfl rfl (NB_get hcb) ?_;refine A1 ?_;refine Tn1 11 ?_
           ·refine r_load1 (v := .int .u8 (ca.toNat : Nat)) 1 i ti5 rfl rfl rfl rfl (NB_get hca) ?_;refine A1 ?_;refine Tn1 12 ?_
            ·refine Ix 1 i ?_;refine A1 ?_;refine Tn1 13 ?_
             ·refine r_store1 rfl 1 i [_, ⟨_, 5, _, _, true⟩] (NB (c.set i cb)) ti5 rfl rfl rfl rfl rfl rfl rfl rfl (by have h8 := hR.1; rw [NB_length]; first | omega | (rw [List.length_set]; omega)) (NB_set _ _ _) rfl ?_;refine A1 ?_;refine Tn1 14 ?_
              ·refine Ix 1 (S.length - 1 - i) ?_;refine A1 ?_;refine Tn1 15 ?_
               ·refine r_store1 rfl 1 (S.length - 1 - i) [_, ⟨_, 5, _, _, true⟩] (NB ((c.set i cb).set (S.length - 1 - i) ca)) ti5 rfl rfl rfl rfl rfl rfl rfl rfl (by have h8 := hR.1; rw [NB_length]; first | omega | (rw [List.length_set]; omega)) (NB_set _ _ _) rfl ?_;refine A1 ?_;refine tr_nil (by kernel_rfl) ?_;exact ⟨(), rfl, ⟨rfl, rfl, rfl, trivial⟩, List.Perm.refl _⟩
          ·refine r_load1 (v := .int .u8 (ca.toNat : Nat)) 1 i ti5 rfl rfl rfl rfl (NB_get hca) ?_;refine A1 ?_;refine Tn1 7 ?_
           ·refine r_load1 (v := .int .u8 (cb.toNat : Nat)) 1 (S.length - 1 - i) ti5 rfl rfl rfl rfl (NB_get hcb) ?_;refine A1 ?_;refine Tn1 12 ?_
            ·refine Ix 1 i ?_;refine A1 ?_;refine Tn1 13 ?_
             ·refine r_store1 rfl 1 i [_, ⟨_, 5, _, _, true⟩] (NB (c.set i cb)) ti5 rfl rfl rfl rfl rfl rfl rfl rfl (by have h8 := hR.1; rw [NB_length]; first | omega | (rw [List.length_set]; omega)) (NB_set _ _ _) rfl ?_;refine A1 ?_;refine Tn1 14 ?_
              ·refine Ix 1 (S.length - 1 - i) ?_;refine A1 ?_;refine Tn1 15 ?_
               ·refine r_store1 rfl 1 (S.length - 1 - i) [_, ⟨_, 5, _, _, true⟩] (NB ((c.set i cb).set (S.length - 1 - i) ca)) ti5 rfl rfl rfl rfl rfl rfl rfl rfl (by have h8 := hR.1; rw [NB_length]; first | omega | (rw [List.length_set]; omega)) (NB_set _ _ _) rfl ?_;refine A1 ?_;refine tr_nil (by kernel_rfl) ?_;exact ⟨(), rfl, ⟨rfl, rfl, rfl, trivial⟩, List.Perm.refl _⟩
        ·refine Ix 1 i ?_;refine A1 ?_;refine Tn2 6 11 ?_ ?_
         ·refine Ix 1 (S.length - 1 - i) ?_;refine A1 ?_;refine Tn2 7 11 ?_ ?_
          ·refine r_load1 (v := .int .u8 (cb.toNat : Nat)) 1 (S.length - 1 - i) ti5 rfl rfl rfl rfl (NB_get hcb) ?_;refine A1 ?_;refine Tn1 11 ?_
           ·refine r_load1 (v := .int .u8 (ca.toNat : Nat)) 1 i ti5 rfl rfl rfl rfl (NB_get hca) ?_;refine A1 ?_;refine Tn1 12 ?_
            ·refine Ix 1 i ?_;refine A1 ?_;refine Tn1 13 ?_
             ·refine r_store1 rfl 1 i [_, ⟨_, 5, _, _, true⟩] (NB (c.set i cb)) ti5 rfl rfl rfl rfl rfl rfl rfl rfl (by have h8 := hR.1; rw [NB_length]; first | omega | (rw [List.length_set]; omega)) (NB_set _ _ _) rfl ?_;refine A1 ?_;refine Tn1 14 ?_
              ·refine Ix 1 (S.length - 1 - i) ?_;refine A1 ?_;refine Tn1 15 ?_
               ·refine r_store1 rfl 1 (S.length - 1 - i) [_, ⟨_, 5, _, _, true⟩] (NB ((c.set i cb).set (S.length - 1 - i) ca)) ti5 rfl rfl rfl rfl rfl rfl rfl rfl (by have h8 := hR.1; rw [NB_length]; first | omega | (rw [List.length_set]; omega)) (NB_set _ _ _) rfl ?_;refine A1 ?_;refine tr_nil (by kernel_rfl) ?_;exact ⟨(), rfl, ⟨rfl, rfl, rfl, trivial⟩, List.Perm.refl _⟩
          ·refine r_load1 (v := .int .u8 (ca.toNat : Nat)) 1 i ti5 rfl rfl rfl rfl (NB_get hca) ?_;refine A1 ?_;refine Tn1 7 ?_
           ·refine r_load1 (v := .int .u8 (cb.toNat : Nat)) 1 (S.length - 1 - i) ti5 rfl rfl rfl rfl (NB_get hcb) ?_;refine A1 ?_;refine Tn1 12 ?_
            ·refine Ix 1 i ?_;refine A1 ?_;refine Tn1 13 ?_
             ·refine r_store1 rfl 1 i [_, ⟨_, 5, _, _, true⟩] (NB (c.set i cb)) ti5 rfl rfl rfl rfl rfl rfl rfl rfl (by have h8 := hR.1; rw [NB_length]; first | omega | (rw [List.length_set]; omega)) (NB_set _ _ _) rfl ?_;refine A1 ?_;refine Tn1 14 ?_
              ·refine Ix 1 (S.length - 1 - i) ?_;refine A1 ?_;refine Tn1 15 ?_
               ·refine r_store1 rfl 1 (S.length - 1 - i) [_, ⟨_, 5, _, _, true⟩] (NB ((c.set i cb).set (S.length - 1 - i) ca)) ti5 rfl rfl rfl rfl rfl rfl rfl rfl (by have h8 := hR.1; rw [NB_length]; first | omega | (rw [List.length_set]; omega)) (NB_set _ _ _) rfl ?_;refine A1 ?_;refine tr_nil (by kernel_rfl) ?_;exact ⟨(), rfl, ⟨rfl, rfl, rfl, trivial⟩, List.Perm.refl _⟩
         ·refine r_load1 (v := .int .u8 (ca.toNat : Nat)) 1 i ti5 rfl rfl rfl rfl (NB_get hca) ?_;refine A1 ?_;refine Tn1 6 ?_
          ·refine Ix 1 (S.length - 1 - i) ?_;refine A1 ?_;refine Tn1 7 ?_
           ·refine r_load1 (v := .int .u8 (cb.toNat : Nat)) 1 (S.length - 1 - i) ti5 rfl rfl rfl rfl (NB_get hcb) ?_;refine A1 ?_;refine Tn1 12 ?_
            ·refine Ix 1 i ?_;refine A1 ?_;refine Tn1 13 ?_
             ·refine r_store1 rfl 1 i [_, ⟨_, 5, _, _, true⟩] (NB (c.set i cb)) ti5 rfl rfl rfl rfl rfl rfl rfl rfl (by have h8 := hR.1; rw [NB_length]; first | omega | (rw [List.length_set]; omega)) (NB_set _ _ _) rfl ?_;refine A1 ?_;refine Tn1 14 ?_
              ·refine Ix 1 (S.length - 1 - i) ?_;refine A1 ?_;refine Tn1 15 ?_
               ·refine r_store1 rfl 1 (S.length - 1 - i) [_, ⟨_, 5, _, _, true⟩] (NB ((c.set i cb).set (S.length - 1 - i) ca)) ti5 rfl rfl rfl rfl rfl rfl rfl rfl (by have h8 := hR.1; rw [NB_length]; first | omega | (rw [List.length_set]; omega)) (NB_set _ _ _) rfl ?_;refine A1 ?_;refine tr_nil (by kernel_rfl) ?_;exact ⟨(), rfl, ⟨rfl, rfl, rfl, trivial⟩, List.Perm.refl _⟩
       rintro ⟨⟩;show At _ ⟨81, [(3, slv (some gb) 0 S.length cap), (6, .int .i64 (i : Nat)), (7, .int .i64 (S.length - 1 - i : Nat))], [⟨some g0, 25, [.bool (decide (z < 0)), .string (mag z.natAbs)], 2, true⟩, ⟨(some gb), 5, NB ((c.set i cb).set (S.length - 1 - i) ca), n, true⟩]⟩ _;refine A4 ?_;refine Ar (((i + 1 : Nat) : Int)) ?_;refine A1 ?_;refine Ar (((S.length - 1 - (i + 1) : Nat) : Int)) ?_;refine A4 ?_;exact Nl ⟨(i + 1, (c.set i cb).set (S.length - 1 - i) ca), hR.step hlt hca hcb, by omega⟩ (hμ := (by show S.length - 2 * (i + 1) < S.length - 2 * i; omega))
      ·have hge : S.length ≤ 2 * i + 1 := by have := of_decide_eq_false hb8; omega
       refine A8 ?_;refine r_convBS (l := c.map UInt8.toNat) (r := strU c) 1 u125 u5 u9 rfl rfl rfl rfl rfl (by rw [← strN_NB, List.take_of_length_le (by rw [NB_length, hR.1]; exact Nat.le_refl _)]) (by rw [List.length_map, hR.1]) (strN_U c) ?_;refine A4 ?_;refine E1 fun w hL => ⟨?_, hL.below⟩;rw [hR.done hge, hWr]
   ·have hj0 : j = 0 := (by have := of_decide_eq_false hb4; omega);have hS : stripT (ldig (9 * k) z.natAbs) = (ldig (9 * k) z.natAbs).take j := by rw [← hI, hj0]; rfl
    refine A18 ?_;obtain ⟨S, hSe⟩ : ∃ S, (ldig (9 * k) z.natAbs).take j = S := ⟨_, rfl⟩;have hSl : S.length = j := by rw [← hSe, List.length_take, ldig_len]; omega
    have hSd : S.reverse = decS z.natAbs := (by rw [← hSe, ← hS]; exact strip_decS hK hN0);have hSn : 0 < S.length := List.length_pos_iff.2 fun e => by rw [e] at hSd; exact decS_ne hN0 hSd.symm
    refine at_weakL (L' := [⟨some g0, 25, [.bool (decide (z < 0)), .string (mag z.natAbs)], 2, true⟩, ⟨b, 5, NB S, n, true⟩]) (weak_picks [some 0, some 1] ⟨⟨_, rfl, Blk.le_refl _⟩, ⟨_, rfl, ⟨rfl, rfl, rfl, ⟨j, by rw [← hSe, ← NB_take]⟩, id⟩⟩, trivial⟩ rfl rfl) ?_;refine at_know 3 (slv b 0 S.length cap) rfl (by rw [hSl]) ?_;refine A5 ?_;refine Cd ?_ ?_<;>intro hb5
    ·have hz : decide (z < 0) = true := hb5;refine A2 ?_;refine r_buildSlice [(0, _)] (fun g => [_, _, ⟨some g, 5, _, 1, true⟩]) rfl rfl rfl (bs125_1) rfl (fun _ => rfl) (fun g1 => ?_);refine q_append (b := ⟨b, 5, NB S, n, true⟩) (len := S.length) (cap := cap) (n2 := 1) 1 2 (fun r => [_, ⟨some r.g, 5, NB S ++ [.int .u8 45], r.n, true⟩, _]) u125 el5 rfl rfl rfl rfl rfl rfl rfl rfl rfl rfl rfl rfl (by rw [NB_length, Nat.mul_one]) (by omega) (by rw [Nat.mul_one]; exact h2) rfl (fun v hv => by rw [List.mem_singleton.1 hv]; rfl) (by omega) (fun r => rfl) (fun r => ?_);refine A5 ?_;obtain ⟨W, hW⟩ : ∃ W, S ++ [45] = W := ⟨_, rfl⟩;have hWl : W.length = S.length + 1 := by rw [← hW]; simp
     have hWr : W.reverse = intS z := by
      unfold intS;rw [if_pos (of_decide_eq_true hz), ← hW, List.reverse_append, hSd]; rfl
     refine at_weakL (L' := [⟨some g0, 25, [.bool (decide (z < 0)), .string (mag z.natAbs)], 2, true⟩, ⟨some r.g, 5, NB W, r.n, true⟩]) (weak_picks [some 0, some 1] ⟨⟨_, rfl, Blk.le_refl _⟩, ⟨_, rfl, le_same (by rw [← hW, NB_append]; rfl)⟩, trivial⟩ rfl rfl) ?_;refine at_know 3 (slv (some r.g) 0 W.length r.cap) rfl (by rw [hWl]) ?_;refine A3 ?_;refine Ar (((W.length - 1 : Nat) : Int)) ?_;refine A5 ?_;refine El (ι := {q : Nat × Bs8 // RevI W q.2 q.1 ∧ 2 * q.1 ≤ W.length}) (fun ⟨⟨i, c⟩, hR, hi⟩ => ([(3, slv (some r.g) 0 W.length r.cap), (6, .int .i64 (i : Nat)), (7, .int .i64 (W.length - 1 - i : Nat))], [⟨some g0, 25, [.bool (decide (z < 0)), .string (mag z.natAbs)], 2, true⟩, ⟨(some r.g), 5, NB c, r.n, true⟩], W.length - 2 * i)) ⟨(0, W), RevI.zero _, Nat.zero_le _⟩ ?_ (hL := Weak.auto);rintro ⟨⟨i, c⟩, hR, hi⟩;(try dsimp only);dsimp only at hR hi;refine A8 ?_;refine Cd ?_ ?_<;>intro hb7
     ·have hlt : 2 * i + 1 < W.length := by have := of_decide_eq_true hb7; omega
      obtain ⟨ca, hca⟩ : ∃ a, c[i]? = some a := ⟨c[i]'(by rw [hR.1]; omega), List.getElem?_eq_getElem _⟩;obtain ⟨cb, hcb⟩ : ∃ a, c[W.length - 1 - i]? = some a := ⟨c[W.length - 1 - i]'(by rw [hR.1]; omega), List.getElem?_eq_getElem _⟩;refine A4 ?_;refine at_drawnEM (X := Unit) (l' := [⟨_,_,_,_,_,_⟩, ⟨_,_,_,_,_,_⟩, ⟨_,_,_,_,_,_⟩, ⟨_,_,_,_,_,_⟩, ⟨_,_,_,_,_,_⟩, ⟨_,_,_,_,_,_⟩, ⟨_,_,_,_,_,_⟩, ⟨_,_,_,_,_,_⟩]) (fun ⟨⟩ => [(3, slv (some r.g) 0 W.length r.cap), (6, .int .i64 (i : Nat)), (7, .int .i64 (W.length - 1 - i : Nat))]) (fun ⟨⟩ => [⟨some g0, 25, [.bool (decide (z < 0)), .string (mag z.natAbs)], 2, true⟩, ⟨(some r.g), 5, NB ((c.set i cb).set (W.length - 1 - i) ca), r.n, true⟩]) [0, 1, 2, 3, 4, 5, 8, 9] 8 mixed (by kernel_rfl) rfl ?_ ?_
      ·refine A9 ?_;refine Tn2 6 10 ?_ ?_
       ·refine Ix 1 (W.length - 1 - i) ?_;refine A1 ?_;refine Tn2 7 10 ?_ ?_
        ·refine r_load1 (v := .int .u8 (cb.toNat : Nat)) 1 (W.length - 1 - i) ti5 rfl rfl rfl rfl (NB_get hcb) ?_;refine A1 ?_;refine Tn1 10 ?_
         ·refine Ix 1 i ?_;refine A1 ?_;refine Tn1 11 ?_
          ·refine r_load1 (v := .int .u8 (ca.toNat : Nat)) 1 i ti5 rfl rfl rfl rfl (NB_get hca) ?_;refine A1 ?_;refine Tn1 12 ?_
           ·refine Ix 1 i ?_;refine A1 ?_;refine Tn1 13 ?_
            ·refine r_store1 rfl 1 i [_, ⟨_, 5, _, _, true⟩] (NB (c.set i cb)) ti5 rfl rfl rfl rfl rfl rfl rfl rfl (by have h8 := hR.1; rw [NB_length]; first | omega | (rw [List.length_set]; omega)) (NB_set _ _ _) rfl ?_;refine A1 ?_;refine Tn1 14 ?_
             ·refine Ix 1 (W.length - 1 - i) ?_;refine A1 ?_;refine Tn1 15 ?_
              ·refine r_store1 rfl 1 (W.length - 1 - i) [_, ⟨_, 5, _, _, true⟩] (NB ((c.set i cb).set (W.length - 1 - i) ca)) ti5 rfl rfl rfl rfl rfl rfl rfl rfl (by have h8 := hR.1; rw [NB_length]; first | omega | (rw [List.length_set]; omega)) (NB_set _ _ _) rfl ?_;refine A1 ?_;refine tr_nil (by kernel_rfl) ?_;exact ⟨(), rfl, ⟨rfl, rfl, rfl, trivial⟩, List.Perm.refl _⟩
        ·refine Ix 1 i ?_;refine A1 ?_;refine Tn2 7 11 ?_ ?_
         ·refine r_load1 (v := .int .u8 (cb.toNat : Nat)) 1 (W.length - 1 - i) ti5 rfl rfl rfl rfl (NB_get hcb) ?_;refine A1 ?_;refine Tn1 11 ?_
          ·refine r_load1 (v := .int .u8 (ca.toNat : Nat)) 1 i ti5 rfl rfl rfl rfl (NB_get hca) ?_;refine A1 ?_;refine Tn1 12 ?_
           ·refine Ix 1 i ?_;refine A1 ?_;refine Tn1 13 ?_
            ·refine r_store1 rfl 1 i [_, ⟨_, 5, _, _, true⟩] (NB (c.set i cb)) ti5 rfl rfl rfl rfl rfl rfl rfl rfl (by have h8 := hR.1; rw [NB_length]; first | omega | (rw [List.length_set]; omega)) (NB_set _ _ _) rfl ?_;refine A1 ?_;refine Tn1 14 ?_
             ·refine Ix 1 (W.length - 1 - i) ?_;refine A1 ?_;refine Tn1 15 ?_
              ·refine r_store1 rfl 1 (W.length - 1 - i) [_, ⟨_, 5, _, _, true⟩] (NB ((c.set i cb).set (W.length - 1 - i) ca)) ti5 rfl rfl rfl rfl rfl rfl rfl rfl (by have h8 := hR.1; rw [NB_length]; first | omega | (rw [List.length_set]; omega)) (NB_set _ _ _) rfl ?_;refine A1 ?_;refine tr_nil (by kernel_rfl) ?_;exact ⟨(), rfl, ⟨rfl, rfl, rfl, trivial⟩, List.Perm.refl _⟩
         ·refine r_load1 (v := .int .u8 (ca.toNat : Nat)) 1 i ti5 rfl rfl rfl rfl (NB_get hca) ?_;refine A1 ?_;refine Tn1 7 ?_
          ·refine r_load1 (v := .int .u8 (cb.toNat : Nat)) 1 (W.length - 1 - i) ti5 rfl rfl rfl rfl (NB_get hcb) ?_;refine A1 ?_;refine Tn1 12 ?_
           ·refine Ix 1 i ?_;refine A1 ?_;refine Tn1 13 ?_
            ·refine r_store1 rfl 1 i [_, ⟨_, 5, _, _, true⟩] (NB (c.set i cb)) ti5 rfl rfl rfl rfl rfl rfl rfl rfl (by have h8 := hR.1; rw [NB_length]; first | omega | (rw [List.length_set]; omega)) (NB_set _ _ _) rfl ?_;refine A1 ?_;refine Tn1 14 ?_
             ·refine Ix 1 (W.length - 1 - i) ?_;refine A1 ?_;refine Tn1 15 ?_
              ·refine r_store1 rfl 1 (W.length - 1 - i) [_, ⟨_, 5, _, _, true⟩] (NB ((c.set i cb).set (W.length - 1 - i) ca)) ti5 rfl rfl rfl rfl rfl rfl rfl rfl (by have h8 := hR.1; rw [NB_length]; first | omega | (rw [List.length_set]; omega)) (NB_set _ _ _) rfl ?_;refine A1 ?_;refine tr_nil (by kernel_rfl) ?_;exact ⟨(), rfl, ⟨rfl, rfl, rfl, trivial⟩, List.Perm.refl _⟩
       ·refine Ix 1 i ?_;refine A1 ?_;refine Tn2 6 11 ?_ ?_
        ·refine Ix 1 (W.length - 1 - i) ?_;refine A1 ?_;refine Tn2 7 11 ?_ ?_
         ·refine r_load1 (v := .int .u8 (cb.toNat : Nat)) 1 (W.length - 1 - i) ti5 rfl rfl rfl rfl (NB_get hcb) ?_;refine A1 ?_;refine Tn1 11 ?_
          ·refine r_load1 (v := .int .u8 (ca.toNat : Nat)) 1 i ti5 rfl rfl rfl rfl (NB_get hca) ?_;refine A1 ?_;refine Tn1 12 ?_
           ·refine Ix 1 i ?_;refine A1 ?_;refine Tn1 13 ?_
            ·refine r_store1 rfl 1 i [_, ⟨_, 5, _, _, true⟩] (NB (c.set i cb)) ti5 rfl rfl rfl rfl rfl rfl rfl rfl (by have h8 := hR.1; rw [NB_length]; first | omega | (rw [List.length_set]; omega)) (NB_set _ _ _) rfl ?_;refine A1 ?_;refine Tn1 14 ?_
             ·refine Ix 1 (W.length - 1 - i) ?_;refine A1 ?_;refine Tn1 15 ?_
              ·refine r_store1 rfl 1 (W.length - 1 - i) [_, ⟨_, 5, _, _, true⟩] (NB ((c.set i cb).set (W.length - 1 - i) ca)) ti5 rfl rfl rfl rfl rfl rfl rfl rfl (by have h8 := hR.1; rw [NB_length]; first | omega | (rw [List.length_set]; omega)) (NB_set _ _ _) rfl ?_;refine A1 ?_;refine tr_nil (by kernel_rfl) ?_;exact ⟨(), rfl, ⟨rfl, rfl, rfl, trivial⟩, List.Perm.refl _⟩
         ·refine r_load1 (v := .int .u8 (ca.toNat : Nat)) 1 i ti5 rfl rfl rfl rfl (NB_get hca) ?_;refine A1 ?_;refine Tn1 7 ?_
          ·refine r_load1 (v := .int .u8 (cb.toNat : Nat)) 1 (W.length - 1 - i) ti5 rfl rfl rfl rfl (NB_get hcb) ?_;refine A1 ?_;refine Tn1 12 ?_
           ·refine Ix 1 i ?_;refine A1 ?_;refine Tn1 13 ?_
            ·refine r_store1 rfl 1 i [_, ⟨_, 5, _, _, true⟩] (NB (c.set i cb)) ti5 rfl rfl rfl rfl rfl rfl rfl rfl (by have h8 := hR.1; rw [NB_length]; first | omega | (rw [List.length_set]; omega)) (NB_set _ _ _) rfl ?_;refine A1 ?_;refine Tn1 14 ?_
             ·refine Ix 1 (W.length - 1 - i) ?_;refine A1 ?_;refine Tn1 15 ?_
              ·refine r_store1 rfl 1 (W.length - 1 - i) [_, ⟨_, 5, _, _, true⟩] (NB ((c.set i cb).set (W.length - 1 - i) ca)) ti5 rfl rfl rfl rfl rfl rfl rfl rfl (by have h8 := hR.1; rw [NB_length]; first | omega | (rw [List.length_set]; omega)) (NB_set _ _ _) rfl ?_;refine A1 ?_;refine tr_nil (by kernel_rfl) ?_;exact ⟨(), rfl, ⟨rfl, rfl, rfl, trivial⟩, List.Perm.refl _⟩
        ·refine r_load1 (v := .int .u8 (ca.toNat : Nat)) 1 i ti5 rfl rfl rfl rfl (NB_get hca) ?_;refine A1 ?_;refine Tn1 6 ?_
         ·refine Ix 1 (W.length - 1 - i) ?_;refine A1 ?_;refine Tn1 7 ?_
          ·refine r_load1 (v := .int .u8 (cb.toNat : Nat)) 1 (W.length - 1 - i) ti5 rfl rfl rfl rfl (NB_get hcb) ?_;refine A1 ?_;refine Tn1 12 ?_
           ·refine Ix 1 i ?_;refine A1 ?_;refine Tn1 13 ?_
            ·refine r_store1 rfl 1 i [_, ⟨_, 5, _, _, true⟩] (NB (c.set i cb)) ti5 rfl rfl rfl rfl rfl rfl rfl rfl (by have h8 := hR.1; rw [NB_length]; first | omega | (rw [List.length_set]; omega)) (NB_set _ _ _) rfl ?_;refine A1 ?_;refine Tn1 14 ?_
             ·refine Ix 1 (W.length - 1 - i) ?_;refine A1 ?_;refine Tn1 15 ?_
              ·refine r_store1 rfl 1 (W.length - 1 - i) [_, ⟨_, 5, _, _, true⟩] (NB ((c.set i cb).set (W.length - 1 - i) ca)) ti5 rfl rfl rfl rfl rfl rfl rfl rfl (by have h8 := hR.1; rw [NB_length]; first | omega | (rw [List.length_set]; omega)) (NB_set _ _ _) rfl ?_;refine A1 ?_;refine tr_nil (by kernel_rfl) ?_;exact ⟨(), rfl, ⟨rfl, rfl, rfl, trivial⟩, List.Perm.refl _⟩
      rintro ⟨⟩;show At _ ⟨81, [(3, slv (some r.g) 0 W.length r.cap), (6, .int .i64 (i : Nat)), (7, .int .i64 (W.length - 1 - i : Nat))], [⟨some g0, 25, [.bool (decide (z < 0)), .string (mag z.natAbs)], 2, true⟩, ⟨(some r.g), 5, NB ((c.set i cb).set (W.length - 1 - i) ca), r.n, true⟩]⟩ _;refine A4 ?_;refine Ar (((i + 1 : Nat) : Int)) ?_;refine A1 ?_;refine Ar (((W.length - 1 - (i + 1) : Nat) : Int)) ?_;refine A4 ?_;exact Nl ⟨(i + 1, (c.set i cb).set (W.length - 1 - i) ca), hR.step hlt hca hcb, by omega⟩ (hμ := (by show W.length - 2 * (i + 1) < W.length - 2 * i; omega))
     ·have hge : W.length ≤ 2 * i + 1 := by have := of_decide_eq_false hb7; omega
      refine A8 ?_;refine r_convBS (l := c.map UInt8.toNat) (r := strU c) 1 u125 u5 u9 rfl rfl rfl rfl rfl (by rw [← strN_NB, List.take_of_length_le (by rw [NB_length, hR.1]; exact Nat.le_refl _)]) (by rw [List.length_map, hR.1]) (strN_U c) ?_;refine A4 ?_;refine E1 fun w hL => ⟨?_, hL.below⟩;rw [hR.done hge, hWr]
    ·have hz : decide (z < 0) = false := hb5;refine A4 ?_;have hWr : S.reverse = intS z := by
      unfold intS;rw [if_neg (of_decide_eq_false hz)]; exact hSd
     refine at_some 1 rfl (fun e => by have := congrArg List.length e; rw [NB_length] at this; simp only [List.length_nil] at this; omega) (fun hbs => ?_);obtain ⟨gb, hgb⟩ := Option.isSome_iff_exists.1 hbs;subst hgb;refine A3 ?_;refine Ar (((S.length - 1 : Nat) : Int)) ?_;refine A5 ?_;refine El (ι := {q : Nat × Bs8 // RevI S q.2 q.1 ∧ 2 * q.1 ≤ S.length}) (fun ⟨⟨i, c⟩, hR, hi⟩ => ([(3, slv (some gb) 0 S.length cap), (6, .int .i64 (i : Nat)), (7, .int .i64 (S.length - 1 - i : Nat))], [⟨some g0, 25, [.bool (decide (z < 0)), .string (mag z.natAbs)], 2, true⟩, ⟨(some gb), 5, NB c, n, true⟩], S.length - 2 * i)) ⟨(0, S), RevI.zero _, Nat.zero_le _⟩ ?_ (hL := Weak.auto);rintro ⟨⟨i, c⟩, hR, hi⟩;(try dsimp only);dsimp only at hR hi;refine A8 ?_;refine Cd ?_ ?_<;>intro hb7
     ·have hlt : 2 * i + 1 < S.length := by have := of_decide_eq_true hb7; omega
      obtain ⟨ca, hca⟩ : ∃ a, c[i]? = some a := ⟨c[i]'(by rw [hR.1]; omega), List.getElem?_eq_getElem _⟩;obtain ⟨cb, hcb⟩ : ∃ a, c[S.length - 1 - i]? = some a := ⟨c[S.length - 1 - i]'(by rw [hR.1]; omega), List.getElem?_eq_getElem _⟩;refine A4 ?_;refine at_drawnEM (X := Unit) (l' := [⟨_,_,_,_,_,_⟩, ⟨_,_,_,_,_,_⟩, ⟨_,_,_,_,_,_⟩, ⟨_,_,_,_,_,_⟩, ⟨_,_,_,_,_,_⟩, ⟨_,_,_,_,_,_⟩, ⟨_,_,_,_,_,_⟩, ⟨_,_,_,_,_,_⟩]) (fun ⟨⟩ => [(3, slv (some gb) 0 S.length cap), (6, .int .i64 (i : Nat)), (7, .int .i64 (S.length - 1 - i : Nat))]) (fun ⟨⟩ => [⟨some g0, 25, [.bool (decide (z < 0)), .string (mag z.natAbs)], 2, true⟩, ⟨(some gb), 5, NB ((c.set i cb).set (S.length - 1 - i) ca), n, true⟩]) [0, 1, 2, 3, 4, 5, 8, 9] 8 mixed (by kernel_rfl) rfl ?_ ?_
      ·refine A9 ?_;refine Tn2 6 10 ?_ ?_
       ·refine Ix 1 (S.length - 1 - i) ?_;refine A1 ?_;refine Tn2 7 10 ?_ ?_
        ·refine r_load1 (v := .int .u8 (cb.toNat : Nat)) 1 (S.length - 1 - i) ti5 rfl rfl rfl rfl (NB_get hcb) ?_;refine A1 ?_;refine Tn1 10 ?_
         ·refine Ix 1 i ?_;refine A1 ?_;refine Tn1 11 ?_
          ·refine r_load1 (v := .int .u8 (ca.toNat : Nat)) 1 i ti5 rfl rfl rfl rfl (NB_get hca) ?_;refine A1 ?_;refine Tn1 12 ?_
           ·refine Ix 1 i ?_;refine A1 ?_;refine Tn1 13 ?_
            ·refine r_store1 rfl 1 i [_, ⟨_, 5, _, _, true⟩] (NB (c.set i cb)) ti5 rfl rfl rfl rfl rfl rfl rfl rfl (by have h8 := hR.1; rw [NB_length]; first | omega | (rw [List.length_set]; omega)) (NB_set _ _ _) rfl ?_;refine A1 ?_;refine Tn1 14 ?_
             ·refine Ix 1 (S.length - 1 - i) ?_;refine A1 ?_;refine Tn1 15 ?_
              ·refine r_store1 rfl 1 (S.length - 1 - i) [_, ⟨_, 5, _, _, true⟩] (NB ((c.set i cb).set (S.length - 1 - i) ca)) ti5 rfl rfl rfl rfl rfl rfl rfl rfl (by have h8 := hR.1; rw [NB_length]; first | omega | (rw [List.length_set]; omega)) (NB_set _ _ _) rfl ?_;refine A1 ?_;refine tr_nil (by kernel_rfl) ?_;exact ⟨(), rfl, ⟨rfl, rfl, rfl, trivial⟩, List.Perm.refl _⟩
        ·refine Ix 1 i ?_;refine A1 ?_;refine Tn2 7 11 ?_ ?_
         ·refine r_load1 (v := .int .u8 (cb.toNat : Nat)) 1 (S.length - 1 - i) ti5 rfl rfl rfl rfl (NB_get hcb) ?_;refine A1 ?_;refine Tn1 11 ?_
          ·refine r_load1 (v := .int .u8 (ca.toNat : Nat)) 1 i ti5 rfl rfl rfl rfl (NB_get hca) ?_;refine A1 ?_;refine Tn1 12 ?_
           ·refine Ix 1 i ?_;refine A1 ?_;refine Tn1 13 ?_
            ·refine r_store1 rfl 1 i [_, ⟨_, 5, _, _, true⟩] (NB (c.set i cb)) ti5 rfl rfl rfl rfl rfl rfl rfl rfl (by have h8 := hR.1; rw [NB_length]; first | omega | (rw [List.length_set]; omega)) (NB_set _ _ _) rfl ?_;refine A1 ?_;refine Tn1 14 ?_
             ·refine Ix 1 (S.length - 1 - i) ?_;refine A1 ?_;refine Tn1 15 ?_
              ·refine r_store1 rfl 1 (S.length - 1 - i) [_, ⟨_, 5, _, _, true⟩] (NB ((c.set i cb).set (S.length - 1 - i) ca)) ti5 rfl rfl rfl rfl rfl rfl rfl rfl (by have h8 := hR.1; rw [NB_length]; first | omega | (rw [List.length_set]; omega)) (NB_set _ _ _) rfl ?_;refine A1 ?_;refine tr_nil (by kernel_rfl) ?_;exact ⟨(), rfl, ⟨rfl, rfl, rfl, trivial⟩, List.Perm.refl _⟩
         ·refine r_load1 (v := .int .u8 (ca.toNat : Nat)) 1 i ti5 rfl rfl rfl rfl (NB_get hca) ?_;refine A1 ?_;refine Tn1 7 ?_
          ·refine r_load1 (v := .int .u8 (cb.toNat : Nat)) 1 (S.length - 1 - i) ti5 rfl rfl rfl rfl (NB_get hcb) ?_;refine A1 ?_;refine Tn1 12 ?_
           ·refine Ix 1 i ?_;refine A1 ?_;refine Tn1 13 ?_
            ·refine r_store1 rfl 1 i [_, ⟨_, 5, _, _, true⟩] (NB (c.set i cb)) ti5 rfl rfl rfl rfl rfl rfl rfl rfl (by have h8 := hR.1; rw [NB_length]; first | omega | (rw [List.length_set]; omega)) (NB_set _ _ _) rfl ?_;refine A1 ?_;refine Tn1 14 ?_
             ·refine Ix 1 (S.length - 1 - i) ?_;refine A1 ?_;refine Tn1 15 ?_
              ·refine r_store1 rfl 1 (S.length - 1 - i) [_, ⟨_, 5, _, _, true⟩] (NB ((c.set i cb).set (S.length - 1 - i) ca)) ti5 rfl rfl rfl rfl rfl rfl rfl rfl (by have h8 := hR.1; rw [NB_length]; first | omega | (rw [List.length_set]; omega)) (NB_set _ _ _) rfl ?_;refine A1 ?_;refine tr_nil (by kernel_rfl) ?_;exact ⟨(), rfl, ⟨rfl, rfl, rfl, trivial⟩, List.Perm.refl _⟩
       ·refine Ix 1 i ?_;refine A1 ?_;refine Tn2 6 11 ?_ ?_
        ·refine Ix 1 (S.length - 1 - i) ?_;refine A1 ?_;refine Tn2 7 11 ?_ ?_
         ·refine r_load1 (v := .int .u8 (cb.toNat : Nat)) 1 (S.length - 1 - i) ti5 rfl rfl rfl rfl (NB_get hcb) ?_;refine A1 ?_;refine Tn1 11 ?_
          ·refine r_load1 (v := .int .u8 (ca.toNat : Nat)) 1 i ti5 rfl rfl rfl rfl (NB_get hca) ?_;refine A1 ?_;refine Tn1 12 ?_
           ·refine Ix 1 i ?_;refine A1 ?_;refine Tn1 13 ?_
            ·refine r_store1 rfl 1 i [_, ⟨_, 5, _, _, true⟩] (NB (c.set i cb)) ti5 rfl rfl rfl rfl rfl rfl rfl rfl (by have h8 := hR.1; rw [NB_length]; first | omega | (rw [List.length_set]; omega)) (NB_set _ _ _) rfl ?_;refine A1 ?_;refine Tn1 14 ?_
             ·refine Ix 1 (S.length - 1 - i) ?_;refine A1 ?_;refine Tn1 15 ?_
              ·refine r_store1 rfl 1 (S.length - 1 - i) [_, ⟨_, 5, _, _, true⟩] (NB ((c.set i cb).set (S.length - 1 - i) ca)) ti5 rfl rfl rfl rfl rfl rfl rfl rfl (by have h8 := hR.1; rw [NB_length]; first | omega | (rw [List.length_set]; omega)) (NB_set _ _ _) rfl ?_;refine A1 ?_;refine tr_nil (by kernel_rfl) ?_;exact ⟨(), rfl, ⟨rfl, rfl, rfl, trivial⟩, List.Perm.refl _⟩
         ·refine r_load1 (v := .int .u8 (ca.toNat : Nat)) 1 i ti5 rfl rfl rfl rfl (NB_get hca) ?_;refine A1 ?_;refine Tn1 7 ?_
          ·refine r_load1 (v := .int .u8 (cb.toNat : Nat)) 1 (S.length - 1 - i) ti5 rfl rfl rfl rfl (NB_get hcb) ?_;refine A1 ?_;refine Tn1 12 ?_
           ·refine Ix 1 i ?_;refine A1 ?_;refine Tn1 13 ?_
            ·refine r_store1 rfl 1 i [_, ⟨_, 5, _, _, true⟩] (NB (c.set i cb)) ti5 rfl rfl rfl rfl rfl rfl rfl rfl (by have h8 := hR.1; rw [NB_length]; first | omega | (rw [List.length_set]; omega)) (NB_set _ _ _) rfl ?_;refine A1 ?_;refine Tn1 14 ?_
             ·refine Ix 1 (S.length - 1 - i) ?_;refine A1 ?_;refine Tn1 15 ?_
              ·refine r_store1 rfl 1 (S.length - 1 - i) [_, ⟨_, 5, _, _, true⟩] (NB ((c.set i cb).set (S.length - 1 - i) ca)) ti5 rfl rfl rfl rfl rfl rfl rfl rfl (by have h8 := hR.1; rw [NB_length]; first | omega | (rw [List.length_set]; omega)) (NB_set _ _ _) rfl ?_;refine A1 ?_;refine tr_nil (by kernel_rfl) ?_;exact ⟨(), rfl, ⟨rfl, rfl, rfl, trivial⟩, List.Perm.refl _⟩
        ·refine r_load1 (v := .int .u8 (ca.toNat : Nat)) 1 i ti5 rfl rfl rfl rfl (NB_get hca) ?_;refine A1 ?_;refine Tn1 6 ?_
         ·refine Ix 1 (S.length - 1 - i) ?_;refine A1 ?_;refine Tn1 7 ?_
          ·refine r_load1 (v := .int .u8 (cb.toNat : Nat)) 1 (S.length - 1 - i) ti5 rfl rfl rfl rfl (NB_get hcb) ?_;refine A1 ?_;refine Tn1 12 ?_
           ·refine Ix 1 i ?_;refine A1 ?_;refine Tn1 13 ?_
            ·refine r_store1 rfl 1 i [_, ⟨_, 5, _, _, true⟩] (NB (c.set i cb)) ti5 rfl rfl rfl rfl rfl rfl rfl rfl (by have h8 := hR.1; rw [NB_length]; first | omega | (rw [List.length_set]; omega)) (NB_set _ _ _) rfl ?_;refine A1 ?_;refine Tn1 14 ?_
             ·refine Ix 1 (S.length - 1 - i) ?_;refine A1 ?_;refine Tn1 15 ?_
              ·refine r_store1 rfl 1 (S.length - 1 - i) [_, ⟨_, 5, _, _, true⟩] (NB ((c.set i cb).set (S.length - 1 - i) ca)) ti5 rfl rfl rfl rfl rfl rfl rfl rfl (by have h8 := hR.1; rw [NB_length]; first | omega | (rw [List.length_set]; omega)) (NB_set _ _ _) rfl ?_;refine A1 ?_;refine tr_nil (by kernel_rfl) ?_;exact ⟨(), rfl, ⟨rfl, rfl, rfl, trivial⟩, List.Perm.refl _⟩
      rintro ⟨⟩;show At _ ⟨81, [(3, slv (some gb) 0 S.length cap), (6, .int .i64 (i : Nat)), (7, .int .i64 (S.length - 1 - i : Nat))], [⟨some g0, 25, [.bool (decide (z < 0)), .string (mag z.natAbs)], 2, true⟩, ⟨(some gb), 5, NB ((c.set i cb).set (S.length - 1 - i) ca), n, true⟩]⟩ _;refine A4 ?_;refine Ar (((i + 1 : Nat) : Int)) ?_;refine A1 ?_;refine Ar (((S.length - 1 - (i + 1) : Nat) : Int)) ?_;refine A4 ?_;exact Nl ⟨(i + 1, (c.set i cb).set (S.length - 1 - i) ca), hR.step hlt hca hcb, by omega⟩ (hμ := (by show S.length - 2 * (i + 1) < S.length - 2 * i; omega))
     ·have hge : S.length ≤ 2 * i + 1 := by have := of_decide_eq_false hb7; omega
      refine A8 ?_;refine r_convBS (l := c.map UInt8.toNat) (r := strU c) 1 u125 u5 u9 rfl rfl rfl rfl rfl (by rw [← strN_NB, List.take_of_length_le (by rw [NB_length, hR.1]; exact Nat.le_refl _)]) (by rw [List.length_map, hR.1]) (strN_U c) ?_;refine A4 ?_;refine E1 fun w hL => ⟨?_, hL.below⟩;rw [hR.done hge, hWr]
end Go.Proofs.YtfijbadahkmhbaaGreatDoor
namespace Go.Via
open Go Go.RowKit
theorem decR_len : ∀ (f k n : Nat), n < 10 ^ k → (decR f n).length ≤ k
  | 0, k, n, h => Nat.zero_le _
  | f + 1, 0, n, h => by
    have : n = 0 := by simpa using h
    rw [decR, if_pos this]; exact Nat.zero_le _
  | f + 1, k + 1, n, h => by
    rw [decR]
    split
    · exact Nat.zero_le _
    · have := decR_len f k (n / 10) (by rw [Nat.pow_succ] at h; omega)
      rw [List.length_cons]; omega
theorem decS_len (n : Nat) : (decS n).length ≤ 3 * nb n + 1 := by
  unfold decS
  split
  · simp
  · rw [List.length_reverse]
    have h3 : n < 256 ^ nb n := lt_nb n
    have h4 : 256 ^ nb n ≤ 1000 ^ nb n := Nat.pow_le_pow_left (by decide) _
    have h5 : (1000 : Nat) ^ nb n = 10 ^ (3 * nb n) := by rw [Nat.pow_mul]
    have := decR_len n (3 * nb n) n (by omega)
    omega
theorem intS_len (z : Int) : (intS z).length ≤ 3 * szI z + 2 := by
  have h := decS_len z.natAbs
  have e : szI z = nb z.natAbs := rfl
  unfold intS
  split
  · rw [List.length_cons]; omega
  · omega
theorem den_I {q : Rat} (h : ¬ q.den = 1) : (.agg #[.bool false, .string (dm q)] : Value) = I (q.den : Int) := by
  unfold dm
  rw [if_neg h]
  exact I_nat q.den
end Go.Via
set_option maxHeartbeats 20000000
namespace Go.Proofs.YtfijbadahkmhbaaGreatDoor
open Go Go.RowKit Go.Via
set_option maxRecDepth 20000 in
theorem c_rational_Print (q : Rat) (hq : szQ q ≤ 1000000) : PCall Tryz.prog 67 #[Q q] (.string (strU (ratS q))) := by
 have hn1 := Nat.le_trans (lI_num q) hq;have hd1 := Nat.le_trans (lI_den q) hq;have hl1 := intS_len q.num;have hl2 := intS_len (q.den : Int);refine ⟨by kernel_rfl, fun w => ?_⟩;refine cB1 18 Tryz.func67 (LRel.nil w) ?_;refine A2 ?_;refine Bo [_, _, _, _] 4 (fun g => [⟨some g, 27, _, 4, true⟩]) (fun g0 => ?_);refine A7 ?_;refine Ld 0 2 [_,_] ti25 ?_;refine r_build [] rfl rfl rfl (bd25_0) ?_;refine r_eqlAgg rfl rfl rfl rfl gd25 (eq25r _ _ _ _) ?_;refine r_know 6 (.bool (decide (q.den = 1))) rfl (by rw [dm_nil]) ?_;refine A2 ?_;refine Cd ?_ ?_<;>intro hb0
 ·have hden : q.den = 1 := of_decide_eq_true hb0;refine A3 ?_;refine Ld 0 0 [_,_] ti25 ?_;refine Kr 8 (I q.num) ?_;refine Pc (c_integer_Print q.num hn1) ?_;refine A5 ?_;refine E1 fun w hL => ⟨?_, hL.below⟩;unfold ratS;rw [if_pos hden]
 ·have hden : ¬ q.den = 1 := of_decide_eq_false hb0;refine A3 ?_;refine at_drawn (l' := [⟨_,_,_,_,_,_⟩, ⟨_,_,_,_,_,_⟩, ⟨_,_,_,_,_,_⟩, ⟨_,_,_,_,_,_⟩, ⟨_,_,_,_,_,_⟩, ⟨_,_,_,_,_,_⟩, ⟨_,_,_,_,_,_⟩, ⟨_,_,_,_,_,_⟩, ⟨_,_,_,_,_,_⟩]) [] [0, 1, 4, 5, 2, 3, 6, 7, 8] mixed (by kernel_rfl) rfl (by kernel_rfl) ?_;refine A1 ?_;refine Ld 0 0 [_,_] ti25 ?_;refine Kr 11 (I q.num) ?_;refine A1 ?_;refine Ld 0 2 [_,_] ti25 ?_;refine r_know 15 (I (q.den : Int)) rfl (den_I hden) ?_;refine Pc (c_integer_Print q.num hn1) ?_;refine r_addS (p := intS q.num) (q := [47]) rfl rfl rfl rfl rfl rfl rfl (by show _ + 1 ≤ _; omega) ?_;refine Pc (c_integer_Print (q.den : Int) hd1) ?_;refine r_addS (p := intS q.num ++ [47]) (q := intS (q.den : Int)) rfl rfl rfl rfl rfl rfl rfl (by rw [List.length_append]; show _ + 1 + _ ≤ _; omega) ?_;refine A4 ?_;refine E1 fun w hL => ⟨?_, hL.below⟩;unfold ratS;rw [if_neg hden, List.append_assoc];exact rfl
end Go.Proofs.YtfijbadahkmhbaaGreatDoor
namespace Go.Via
open Go Go.RowKit
noncomputable def NumV.rat : NumV → Rat
  | .q r => r
  | .raw b1 s1 b2 s2 => @dite _ (∃ q : Rat, Value.agg #[.bool b1, .string s1, .bool b2, .string s2] = Q q) (Classical.propDecidable _) (fun h => h.choose) (fun _ => 0)
theorem NumV.rat_cells {u : NumV} {b1 b2 : Bool} {s1 s2 : ByteArray} (h : u.cells = [.bool b1, .string s1, .bool b2, .string s2]) (ho : u.ok = true) : (.agg #[.bool b1, .string s1, .bool b2, .string s2] : Value) = Q u.rat := by
  cases u with
  | q r =>
    obtain ⟨rfl, rfl, rfl, rfl⟩ := NumV.of_q h
    rfl
  | raw c1 t1 c2 t2 =>
    obtain ⟨rfl, rfl, rfl, rfl⟩ := NumV.of_raw h
    have h2 : ∃ q : Rat, Value.agg #[.bool b1, .string s1, .bool b2, .string s2] = Q q := by
      have h3 : isQ b1 s1 b2 s2 = true := ho
      unfold isQ at h3
      exact @of_decide_eq_true _ (Classical.propDecidable _) h3
    have e : (NumV.raw b1 s1 b2 s2).rat = h2.choose := @dif_pos _ (Classical.propDecidable _) h2 _ _ _
    rw [e]
    exact h2.choose_spec
def joinC : List Bs8 → Bs8
  | [] => []
  | [t] => t
  | t :: u :: r => t ++ [44, 32] ++ joinC (u :: r)
theorem joinC_snoc (t : Bs8) : ∀ L : List Bs8, joinC (L ++ [t]) = joinC L ++ (if L = [] then [] else [44, 32]) ++ t
  | [] => by simp [joinC]
  | [u] => by simp [joinC]
  | u :: v :: r => by
    rw [List.cons_append, List.cons_append, joinC, joinC, ← List.cons_append, joinC_snoc t (v :: r)]
    simp
def quoS (n : Bs8) : Bs8 := n.flatMap fun c => if c = 34 then [34, 34] else [c]
def sNot : Bs8 := [110, 111, 116, 32]
def sObject : Bs8 := [111, 98, 106, 101, 99, 116, 40]
def sZone : Bs8 := [122, 111, 110, 101, 40, 34]
def sPoint : Bs8 := [112, 111, 105, 110, 116, 40]
mutual
noncomputable def txt : XT → Nat → Bs8
  | .mk o nm u l, lv =>
    match opsT.find? (fun f => decide ((f.2.1 : Int) = o)) with
    | some f =>
      if f.2.2 < lv then [40] ++ (if f.2.2 = 3 then sNot ++ txtAt l 0 3 else txtAt l 0 (if f.2.2 = 4 then 5 else f.2.2) ++ ([32] ++ f.1 ++ [32]) ++ txtAt l 1 (f.2.2 + 1)) ++ [41]
      else if f.2.2 = 3 then sNot ++ txtAt l 0 3 else txtAt l 0 (if f.2.2 = 4 then 5 else f.2.2) ++ ([32] ++ f.1 ++ [32]) ++ txtAt l 1 (f.2.2 + 1)
    | none =>
      if o = 1 then ratS u.rat else if o = 4 then nm else if o = 3 then sObject ++ ratS u.rat ++ [41] else if o = 5 then sZone ++ quoS nm ++ [34, 41]
      else if o = 6 then [91] ++ joinC (txtLs l) ++ [93] else if o = 2 then sPoint ++ joinC (txtLs l) ++ [41]
      else match funT.find? (fun f => decide ((f.2.1 : Int) = o)) with
        | some f => (f.1 ++ [40]) ++ joinC (txtLs l) ++ [41]
        | none => []
noncomputable def txtAt : List XT → Nat → Nat → Bs8
  | [], _, _ => []
  | x :: _, 0, lv => txt x lv
  | _ :: l, i + 1, lv => txtAt l i lv
noncomputable def txtLs : List XT → List Bs8
  | [] => []
  | x :: l => txt x 1 :: txtLs l
end
theorem txtAt_get : ∀ {l : List XT} {i : Nat} {y : XT} (lv : Nat), l[i]? = some y → txtAt l i lv = txt y lv
  | [], i, y, lv, h => by simp at h
  | x :: l, 0, y, lv, h => by simp at h; subst h; rw [txtAt]
  | x :: l, i + 1, y, lv, h => by rw [txtAt]; exact txtAt_get lv (by simpa using h)
theorem txtLs_len : ∀ l : List XT, (txtLs l).length = l.length
  | [] => by rw [txtLs]; rfl
  | x :: l => by rw [txtLs, List.length_cons, txtLs_len, List.length_cons]
theorem txtLs_take : ∀ {l : List XT} {i : Nat} {y : XT}, l[i]? = some y → (txtLs l).take (i + 1) = (txtLs l).take i ++ [txt y 1]
  | [], i, y, h => by simp at h
  | x :: l, 0, y, h => by simp at h; subst h; rw [txtLs]; rfl
  | x :: l, i + 1, y, h => by
    have ih := txtLs_take (l := l) (i := i) (y := y) (by simpa using h)
    rw [txtLs, List.take_succ_cons, ih]; rfl
mutual
def okX : XT → Prop
  | .mk o nm u l => nodeE (.mk o nm u l) = 0 ∧ okXs l
def okXs : List XT → Prop
  | [] => True
  | x :: l => okX x ∧ okXs l
end
theorem okX_parts {x : XT} (h : okX x) : nodeE x = 0 ∧ okXs x.args := by
  cases x with
  | mk o nm u l => rw [okX] at h; exact h
theorem okXs_get : ∀ {l : List XT} {i : Nat} {y : XT}, okXs l → l[i]? = some y → okX y
  | [], i, y, _, h => by simp at h
  | x :: l, 0, y, hk, h => by simp at h; subst h; rw [okXs] at hk; exact hk.1
  | x :: l, i + 1, y, hk, h => by rw [okXs] at hk; exact okXs_get hk.2 (by simpa using h)
mutual
theorem chk_ok : ∀ (x : XT) (lv n : Nat), (chk x lv n).1 = 0 → okX x
  | .mk o nm u l, lv, n, h => by
    rw [chk] at h
    split at h
    · cases h
    · split at h
      · cases h
      · split at h
        · rename_i h2; exact absurd h h2
        · rename_i h2
          rw [okX]
          exact ⟨by simpa using h2, chks_ok l (lv + 1) (n + 1) h⟩
theorem chks_ok : ∀ (l : List XT) (lv n : Nat), (chks l lv n).1 = 0 → okXs l
  | [], lv, n, h => by rw [okXs]; trivial
  | x :: l, lv, n, h => by
    rw [chks] at h
    rw [okXs]
    split at h
    · rename_i h2; exact absurd h h2
    · rename_i h2
      exact ⟨chk_ok x lv n (by simpa using h2), chks_ok l lv _ h⟩
end
end Go.Via
namespace Go.Via
open Go Go.RowKit
def sepS (i : Nat) : Bs8 := if i = 0 then [] else [44, 32]
theorem joinC_step {l : List XT} {i : Nat} {y : XT} (h : l[i]? = some y) : joinC ((txtLs l).take (i + 1)) = joinC ((txtLs l).take i) ++ sepS i ++ txt y 1 := by
  rw [txtLs_take h, joinC_snoc]
  have hlt : i < l.length := (List.getElem?_eq_some_iff.1 h).1
  have e : ((txtLs l).take i = []) = (i = 0) := by
    refine propext ⟨fun h1 => ?_, fun h1 => by rw [h1]; rfl⟩
    have h2 := congrArg List.length h1
    rw [List.length_take, txtLs_len, List.length_nil] at h2
    omega
  unfold sepS
  simp only [e]
theorem joinC_mono : ∀ (B A : List Bs8), (joinC A).length ≤ (joinC (A ++ B)).length
  | [], A => by simp
  | b :: B, A => by
    have h1 := joinC_mono B (A ++ [b])
    rw [List.append_assoc] at h1
    refine Nat.le_trans ?_ h1
    rw [joinC_snoc]
    simp
theorem joinC_take_le (l : List XT) (i : Nat) : (joinC ((txtLs l).take i)).length ≤ (joinC (txtLs l)).length := by
  have := joinC_mono ((txtLs l).drop i) ((txtLs l).take i)
  rwa [List.take_append_drop] at this
theorem txtLs_all (l : List XT) : (txtLs l).take l.length = txtLs l := List.take_of_length_le (by rw [txtLs_len]; exact Nat.le_refl _)
abbrev GM (m : Int) : Blk := ⟨some 0, 3, [.int .i64 m], 1, false⟩
end Go.Via
namespace Go.Proofs.YtfijbadahkmhbaaGreatDoor
open Go Go.RowKit Go.Via
def WriC (m : Int) (x : XT) : Prop := ∀ (z : XR x) (lv g : Nat) (a : Bool) (d : Bd), d.ok → okX x → x.fit = true → x.size ≤ 1000000000 → lv ≤ 9 → d.s.length + (txt x lv).length ≤ 17179869184 →
  ECall Tryz.prog 96 [BB g a d, BF d, gB z.T false, GM m] [.pointer (some ⟨g, 0, none⟩), z.v, .int .i64 (lv : Nat)] (BdX (d.s ++ txt x lv)) (fun _ => .tuple #[]) (fun d' => [BB g true d'.1, BF d'.1])
end Go.Proofs.YtfijbadahkmhbaaGreatDoor
namespace Go.Proofs.YtfijbadahkmhbaaGreatDoor
open Go Go.RowKit Go.Via Go.ChangeShapes Go.WideShapes
theorem below_kept {w w' : World} (h : Below w.heap.size w w') (may : MemPlace → Prop) : w.keptBut w' may := by
  have hb : ∀ b, b < w.heap.size → w'.heap[b]? = w.heap[b]? := h.block
  refine ⟨h.os, h.output, fun i hi => ?_⟩
  rw [hb i hi]
  split
  · rename_i e1 e2
    rw [e1] at e2; cases e2
    exact ⟨rfl, rfl, rfl, fun _ _ => rfl⟩
  · rename_i e1 e2
    rw [e1] at e2; cases e2
    exact Or.inr ⟨rfl, rfl⟩
  · rfl
set_option maxRecDepth 100000 in
theorem maxCell {W : World} (h : W.ShapedOpen Tryz.prog) : ∃ m : Int, BlkAt (Bs.of W) W (GM m) 0 := by
  obtain ⟨cs, hh, hs, hr⟩ := h.1 0 #[.int .i64 0] 3 (of_decide_eq_true (by kernel_rfl)) (by kernel_rfl)
  obtain ⟨ts, hts, _, hall⟩ := hr (by kernel_rfl)
  obtain rfl : ts = [3] := Option.some.inj (hts.symm.trans (show Tryz.prog.cellTypes Tryz.prog.depth 3 = some [3] by kernel_rfl))
  have h1 : cs.size = 1 := hs
  obtain ⟨u, hu', hok⟩ := hall 0 cs[0] (by simp [h1])
  obtain rfl : u = 3 := by simpa using hu'.symm
  unfold Cell.ok at hok
  rw [Tryz.underlying3] at hok
  cases hv : cs[0] <;> rw [hv] at hok <;> simp at hok
  case int k' n =>
    refine ⟨n, .inl ⟨cs, ⟨3, (0, 0), hh, (fun h => by cases h), (show 3 < mapMark by decide)⟩, h1, ?_⟩, fun h => by cases h⟩
    obtain ⟨l⟩ := cs
    match l, h1 with
    | [c], _ =>
      simp at hv
      rw [hv, hok.1]; rfl
theorem str_strU (s : ByteArray) : s = strU s.data.toList := by
  apply ByteArray.ext
  show s.data = _
  unfold strU
  simp
end Go.Proofs.YtfijbadahkmhbaaGreatDoor
namespace Go.Proofs.YtfijbadahkmhbaaGreatDoor
open Go.ChangeShapes Go.WideShapes Go.ChangeAt Go.RowKit
theorem own : ownKnob Tryz.prog.godebug = none := by kernel_rfl
noncomputable def laidWorld (os : Os) : World :=
  let w0 := World.holding Tryz.prog os ⟨#[], #[], []⟩
  { w0 with heap := (w0.heap.modify 2 fun
      | .cells _ t frozen => .cells (List.map (Value.int .u8) ([128, 191, 160, 191, 128, 159, 144, 191, 128, 143] ++ List.replicate 22 0)).toArray t frozen
      | o => o).modify 1 fun
      | .cells _ t frozen => .cells (List.map (fun (z : Nat) => Value.int .u8 z) Go.Pinned.utf8FirstZ).toArray t frozen
      | o => o }
set_option maxRecDepth 100000 in
theorem laid_met (os : Os) (args : Array Value) : laidMet Tryz.prog [("unicode/utf8.acceptRanges", Rows.laid_unicode_utf8_acceptRanges), ("unicode/utf8.first", Rows.laid_unicode_utf8_first)] ((laidWorld os).forCall (fun _ _ => 0) ⟨#[], args, []⟩).memory :=
  laidMet_of_run' 8 (by kernel_rfl) (by kernel_rfl)
end Go.Proofs.YtfijbadahkmhbaaGreatDoor
namespace Go.Via
open Go Go.RowKit
def NumV.bytes : NumV → Nat
  | .q r => (mag r.num.natAbs).size + (dm r).size
  | .raw _ s1 _ s2 => s1.size + s2.size
theorem NumV.bytes_cells {u : NumV} {b1 b2 : Bool} {s1 s2 : ByteArray} (h : u.cells = [.bool b1, .string s1, .bool b2, .string s2]) : s1.size + s2.size = u.bytes := by
  cases u with
  | q r => obtain ⟨rfl, rfl, rfl, rfl⟩ := NumV.of_q h; rfl
  | raw c1 t1 c2 t2 => obtain ⟨rfl, rfl, rfl, rfl⟩ := NumV.of_raw h; rfl
mutual
def XT.lim : XT → Bool
  | .mk _ nm u l => decide (nm.length ≤ 281474976710656) && decide (u.bytes ≤ 562949953421312) && XT.lims l
def XT.lims : List XT → Bool
  | [] => true
  | x :: l => XT.lim x && XT.lims l
end
theorem XT.lims_get : ∀ {l : List XT} {i : Nat} {y : XT}, XT.lims l = true → l[i]? = some y → y.lim = true
  | [], i, y, _, h => by simp at h
  | x :: l, 0, y, hl, h => by simp at h; subst h; rw [XT.lims, Bool.and_eq_true] at hl; exact hl.1
  | x :: l, i + 1, y, hl, h => by rw [XT.lims, Bool.and_eq_true] at hl; exact XT.lims_get hl.2 (by simpa using h)
theorem XT.lim_parts {x : XT} (h : x.lim = true) : x.name.length ≤ 281474976710656 ∧ x.num.bytes ≤ 562949953421312 ∧ XT.lims x.args = true := by
  cases x with
  | mk o nm u l =>
    unfold XT.lim at h
    simp only [Bool.and_eq_true, decide_eq_true_eq] at h
    exact ⟨h.1.1, h.1.2, h.2⟩
def bigX (x : XT) (lv : Nat) (n : Int) : Bool := decide (n < 0) || (decide (40 < lv) || (decide (4 < x.args.length) || (decide (60 < x.name.length) || decide (20 < x.num.bytes))))
mutual
def few : XT → Nat → Int → Bool × Int
  | .mk o nm u l, lv, n => if bigX (.mk o nm u l) lv (n - 1) = true then (false, n - 1) else fews l (lv + 1) (n - 1)
def fews : List XT → Nat → Int → Bool × Int
  | [], _, n => (true, n)
  | x :: l, lv, n => if (few x lv n).1 = true then fews l lv (few x lv n).2 else few x lv n
end
theorem few_eq (x : XT) (lv : Nat) (n : Int) : few x lv n = if bigX x lv (n - 1) = true then (false, n - 1) else fews x.args (lv + 1) (n - 1) := by
  cases x; rw [few]; rfl
theorem fews_step {l : List XT} {i : Nat} {y : XT} {lv : Nat} {n : Int} (hy : l[i]? = some y) : fews (l.drop i) lv n = if (few y lv n).1 = true then fews (l.drop (i + 1)) lv (few y lv n).2 else few y lv n := by
  obtain ⟨hl, rfl⟩ := List.getElem?_eq_some_iff.1 hy
  rw [List.drop_eq_getElem_cons hl, fews]
mutual
def XT.dep : XT → Nat
  | .mk _ _ _ l => 1 + XT.deps l
def XT.deps : List XT → Nat
  | [] => 0
  | x :: l => max (XT.dep x) (XT.deps l)
end
theorem XT.dep_eq (x : XT) : x.dep = 1 + XT.deps x.args := by cases x; rw [XT.dep]; rfl
mutual
theorem dep_le_size : ∀ x : XT, x.dep ≤ x.size
  | .mk _ _ _ l => by rw [XT.dep, XT.size]; have := deps_le_sizes l; omega
theorem deps_le_sizes : ∀ l : List XT, XT.deps l ≤ XT.sizes l
  | [] => by rw [XT.deps]; exact Nat.zero_le _
  | x :: l => by rw [XT.deps, XT.sizes]; have := dep_le_size x; have := deps_le_sizes l; omega
end
mutual
theorem few_ok : ∀ (x : XT) (lv : Nat) (n : Int), (few x lv n).1 = true → x.fit = true ∧ (few x lv n).2 + (x.size : Nat) = n ∧ 0 ≤ (few x lv n).2 ∧ x.dep + lv ≤ 41
  | .mk o nm u l, lv, n, h => by
    rw [few] at h ⊢
    split at h
    · cases h
    · rename_i hb
      rw [if_neg hb]
      have hb2 : bigX (.mk o nm u l) lv (n - 1) = false := by simpa using hb
      simp only [bigX, Bool.or_eq_false_iff, decide_eq_false_iff_not] at hb2
      obtain ⟨h0, h1, h2, h3, h4⟩ := hb2
      have hl := fews_ok l (lv + 1) (n - 1) (by omega) h
      obtain ⟨a1, a2, a3, a4⟩ := hl
      have hnm : nm.length ≤ 60 := by have : ¬ 60 < nm.length := h3; omega
      have hu : u.bytes ≤ 20 := by have : ¬ 20 < u.bytes := h4; omega
      refine ⟨?_, ?_, a3, ?_⟩
      · unfold XT.fit
        rw [a1]
        have : u.fit = true := by
          cases u with
          | q r =>
            show decide (szQ r ≤ 1000000) = true
            refine decide_eq_true ?_
            replace hu : (mag r.num.natAbs).size + (dm r).size ≤ 20 := hu
            rw [mag_size] at hu
            unfold szQ
            have h5 : nb r.den ≤ 20 := by
              have h6 : (dm r).size ≤ 20 := by omega
              unfold dm at h6
              split at h6
              · rename_i hd
                rw [hd]
                have : nb 1 ≤ 1 := nb_le (k := 1) (by decide)
                omega
              · rwa [mag_size] at h6
            omega
          | raw b1 s1 b2 s2 =>
            replace hu : s1.size + s2.size ≤ 20 := hu
            simp only [NumV.fit, Bool.and_eq_true, decide_eq_true_eq]
            omega
        rw [this]
        simp; omega
      · rw [XT.size]; omega
      · rw [XT.dep]
        have : ¬ 40 < lv := h1
        by_cases he : XT.deps l = 0
        · omega
        · have := a4 he; omega
theorem fews_ok : ∀ (l : List XT) (lv : Nat) (n : Int), 0 ≤ n → (fews l lv n).1 = true → XT.fits l = true ∧ (fews l lv n).2 + (XT.sizes l : Nat) = n ∧ 0 ≤ (fews l lv n).2 ∧ (XT.deps l ≠ 0 → XT.deps l + lv ≤ 41)
  | [], lv, n, h0, h => by rw [fews, XT.sizes, XT.deps]; exact ⟨rfl, by omega, h0, fun h => absurd rfl h⟩
  | x :: l, lv, n, h0, h => by
    rw [fews] at h ⊢
    split at h
    · rename_i hx
      rw [if_pos hx]
      obtain ⟨a1, a2, a3, a4⟩ := few_ok x lv n hx
      obtain ⟨b1, b2, b3, b4⟩ := fews_ok l lv _ a3 h
      rw [XT.fits, XT.sizes, XT.deps, a1, b1]
      refine ⟨rfl, by omega, b3, fun _ => ?_⟩
      by_cases he : XT.deps l = 0
      · omega
      · have := b4 he; omega
    · rename_i hx; exact absurd h hx
end
theorem few_le (x : XT) (lv : Nat) (n : Int) (h : (few x lv n).1 = true) : (few x lv n).2 ≤ n := by have := few_ok x lv n h; omega
mutual
theorem foldN_size : ∀ (x : XT) (lv n : Nat), foldN (fun _ lv n => n + 1) x lv n = n + x.size
  | .mk o nm u l, lv, n => by rw [foldN, foldsN_size l, XT.size]; omega
theorem foldsN_size : ∀ (l : List XT) (lv n : Nat), foldsN (fun _ lv n => n + 1) l lv n = n + XT.sizes l
  | [], lv, n => by rw [foldsN, XT.sizes]; rfl
  | x :: l, lv, n => by rw [foldsN, foldN_size x, foldsN_size l, XT.sizes]; omega
end
mutual
theorem foldN_dep : ∀ (x : XT) (lv n : Nat), foldN (fun _ lv n => max n lv) x lv n = max n (lv + x.dep - 1)
  | .mk o nm u l, lv, n => by rw [foldN, foldsN_dep l, XT.dep]; split <;> omega
theorem foldsN_dep : ∀ (l : List XT) (lv n : Nat), foldsN (fun _ lv n => max n lv) l lv n = if XT.deps l = 0 then n else max n (lv + XT.deps l - 1)
  | [], lv, n => by rw [foldsN, XT.deps]; rfl
  | x :: l, lv, n => by
    rw [foldsN, foldN_dep x, foldsN_dep l, XT.deps]
    have : 0 < x.dep := by rw [XT.dep_eq]; omega
    by_cases h : XT.deps l = 0
    · rw [if_pos h, if_neg (by omega), h]; congr 2; omega
    · rw [if_neg h, if_neg (by omega)]; omega
end
theorem XT.deps_take {l : List XT} {i : Nat} {y : XT} (h : l[i]? = some y) : XT.deps (l.take (i + 1)) = max (XT.deps (l.take i)) y.dep := by
  induction l generalizing i with
  | nil => simp at h
  | cons x l ih =>
    cases i with
    | zero => simp at h; subst h; simp [XT.deps]
    | succ i =>
      rw [List.getElem?_cons_succ] at h
      rw [List.take_succ_cons, List.take_succ_cons, XT.deps, XT.deps, ih h]
      omega
theorem XT.sizes_take {l : List XT} {i : Nat} {y : XT} (h : l[i]? = some y) : XT.sizes (l.take (i + 1)) = XT.sizes (l.take i) + y.size := by
  induction l generalizing i with
  | nil => simp at h
  | cons x l ih =>
    cases i with
    | zero => simp at h; subst h; simp [XT.sizes]
    | succ i =>
      rw [List.getElem?_cons_succ] at h
      rw [List.take_succ_cons, List.take_succ_cons, XT.sizes, XT.sizes, ih h]
      omega
theorem XT.sizes_take_le (l : List XT) (i : Nat) : XT.sizes (l.take i) ≤ XT.sizes l := by
  induction l generalizing i with
  | nil => simp
  | cons x l ih =>
    cases i with
    | zero => simp [XT.sizes]
    | succ i => rw [List.take_succ_cons, XT.sizes, XT.sizes]; have := ih i; omega
theorem XT.deps_take_le (l : List XT) (i : Nat) : XT.deps (l.take i) ≤ XT.deps l := by
  induction l generalizing i with
  | nil => simp
  | cons x l ih =>
    cases i with
    | zero => simp [XT.deps]
    | succ i => rw [List.take_succ_cons, XT.deps, XT.deps]; have := ih i; omega
end Go.Via
set_option maxRecDepth 20000
namespace Go.Proofs.YtfijbadahkmhbaaGreatDoor
open Go Go.RowKit Go.Via Go.ChangeShapes Go.WideShapes
theorem choose_n {α : Type} (a0 : α) {n : Nat} {p : Nat → α → Prop} (h : ∀ i, i < n → ∃ x, p i x) : ∃ f : Nat → α, ∀ i, i < n → p i (f i) := by
  classical
  refine ⟨fun i => if h' : i < n then Classical.choose (h i h') else a0, fun i hi => ?_⟩
  show p i (if h' : i < n then Classical.choose (h i h') else a0)
  rw [dif_pos hi]
  exact Classical.choose_spec (h i hi)
theorem blk_flat {w : World} {a : Addr} {cs : List Value} (e : TypeId) (he : e < mapMark) (hne : cs ≠ []) (h : ∀ (j : Nat) (v : Value), cs[j]? = some v → w.cell? (a.add j) = some v) :
    ∃ (g : Nat) (pre : List Value) (N : Nat), a = ⟨g, pre.length, none⟩ ∧ BlkAt (Bs.of w) w ⟨some g, e, pre ++ cs, N, false⟩ g := by
  obtain ⟨c0, l, rfl⟩ := List.exists_cons_of_ne_nil hne
  have h0 := h 0 c0 rfl
  rw [show a.add 0 = a by simp [Addr.add]] at h0
  obtain ⟨g, off, spot⟩ := a
  have h0' := h0
  unfold World.cell? at h0'
  split at h0'
  · rename_i cur e0 fr heq
    split at h0'
    · cases h0'
    · rename_i hsp
      have hsn : spot = none := by cases spot with | none => rfl | some z => simp at hsp
      subst hsn
      have hoff : off < cur.size := (Array.getElem?_eq_some_iff.1 h0').1
      have hpl : (cur.toList.take off).length = off := by simp; omega
      refine ⟨g, cur.toList.take off, cur.size, by rw [hpl], ?_⟩
      refine ⟨.inl ⟨cur, ⟨e0, fr, heq, (fun h => by cases h), he⟩, rfl, ?_⟩, fun h => by cases h⟩
      refine List.ext_getElem? fun j => ?_
      show (cur.toList.take (cur.toList.take off ++ c0 :: l).length)[j]? = _
      rw [List.length_append, hpl]
      by_cases hj : j < off
      · rw [List.getElem?_append_left (by rw [hpl]; exact hj), List.getElem?_take, List.getElem?_take, if_pos (by omega), if_pos hj]
      · rw [List.getElem?_append_right (by rw [hpl]; omega), hpl, List.getElem?_take]
        split
        · rename_i hj2
          obtain ⟨v, hv⟩ : ∃ v, (c0 :: l)[j - off]? = some v := ⟨_, List.getElem?_eq_getElem (by omega)⟩
          have k2 := h _ _ hv
          rw [add_lit] at k2
          unfold World.cell? at k2
          simp only [heq] at k2
          rw [show off + (j - off) = j by omega] at k2
          rw [hv, ← k2]
          simp
        · rename_i hj2
          rw [List.getElem?_eq_none (by omega)]
  · cases h0'
theorem flat_len {f : Nat → List Value} {k : Nat} : ∀ {n : Nat}, (∀ i, i < n → (f i).length = k) → ((List.range n).flatMap f).length = n * k
  | 0, _ => by simp
  | n + 1, h => by rw [List.range_succ, List.flatMap_append, List.length_append, flat_len (n := n) (fun i hi => h i (by omega))]; simp [h n (by omega)]; rw [Nat.succ_mul]
theorem cells_flat {w : World} {a : Addr} {k n : Nat} {f : Nat → List Value} (hf : ∀ i, i < n → w.cells? 0 (a.add (i * k)) k = some (f i)) (hk : ∀ i, i < n → (f i).length = k) (h0 : 0 < k) :
    ∀ (j : Nat) (v : Value), ((List.range n).flatMap f)[j]? = some v → w.cell? (a.add j) = some v := by
  induction n with
  | zero => intro j v h; simp at h
  | succ n ih =>
    intro j v h
    rw [List.range_succ, List.flatMap_append] at h
    have hl := flat_len (f := f) (k := k) (n := n) (fun i hi => hk i (by omega))
    by_cases hj : j < n * k
    · rw [List.getElem?_append_left (by rw [hl]; exact hj)] at h
      exact ih (fun i hi => hf i (by omega)) (fun i hi => hk i (by omega)) j v h
    · rw [List.getElem?_append_right (by rw [hl]; omega), hl] at h
      simp only [List.flatMap_cons, List.flatMap_nil, List.append_nil] at h
      have hjl : j - n * k < k := by
        have := (List.getElem?_eq_some_iff.1 h).1
        rwa [hk n (by omega)] at this
      obtain ⟨_, _, hc⟩ := World.cells?_some (hf n (by omega))
      have := hc (j - n * k) hjl
      rw [h, Addr.add_add] at this
      rw [← this]
      congr 2
      omega
theorem flat_get {f : Nat → List Value} {k : Nat} : ∀ {n i : Nat}, (∀ i, i < n → (f i).length = k) → i < n → (((List.range n).flatMap f).drop (i * k)).take k = f i
  | 0, i, _, hi => by omega
  | n + 1, i, h, hi => by
    have hl := flat_len (f := f) (k := k) (n := n) (fun i hi => h i (by omega))
    rw [List.range_succ, List.flatMap_append]
    by_cases e : i = n
    · subst e
      rw [List.drop_append, List.drop_eq_nil_of_le (by rw [hl]; exact Nat.le_refl _), hl, Nat.sub_self, List.drop_zero, List.nil_append]
      simp only [List.flatMap_cons, List.flatMap_nil, List.append_nil]
      exact List.take_of_length_le (by rw [h i (by omega)]; exact Nat.le_refl _)
    · have hle : (i + 1) * k ≤ n * k := Nat.mul_le_mul_right _ (by omega)
      rw [Nat.succ_mul] at hle
      rw [List.drop_append_of_le_length (by rw [hl]; omega), List.take_append_of_le_length (by rw [List.length_drop, hl]; omega)]
      exact flat_get (n := n) (fun i hi => h i (by omega)) (by omega)
theorem relAll {W : World} {L : List Blk} (ho : ∀ b ∈ L, b.own = false) (h : ∀ b ∈ L, (∀ g, b.base = some g → BlkAt (Bs.of W) W b g) ∧ (b.base = none → b.cs = [] ∧ b.n = 0 ∧ ∀ T : Tab, gtOK T = true → b.e = gE T → ∀ p ∈ T, TabCell W p)) : LRel (Bs.of W) L W := by
  refine ⟨BelowB.of (Below.refl _ _), fun k b hk => ?_, fun i j g bi bj hij hi hj hio => ?_, fun b hb hn T hT he p hp => ?_⟩
  · have := h b (List.mem_of_getElem? hk)
    exact ⟨this.1, fun hn => ⟨(this.2 hn).1, (this.2 hn).2.1⟩⟩
  · rw [ho bi (List.mem_of_getElem? hi)] at hio; cases hio
  · refine ⟨((h b hb).2 hn).2.2 T hT he p hp, fun hbo => ?_, fun c hc hco => ?_⟩
    · rw [ho b hb] at hbo; cases hbo
    · rw [ho c hc] at hco; cases hco
theorem tab_blk {W : World} {T : Tab} (hT : gtOK T = true) (h : ∀ p ∈ T, TabCell W p) : ∀ U : Tab, gtOK U = true → gE T = gE U → ∀ p ∈ U, TabCell W p := fun U hU he p hp => by
  rw [← gE_inj hT hU he] at hp
  exact h p hp
section
variable {H : Type} {enc : TypeId × Value → H} {w : World}
abbrev wOK (t : TypeId) (d : DataW H) : Prop := (d.weights Tryz.prog t).all (· ≤ reachBytes) = true
theorem ce3 : Tryz.prog.cellsOf 3 = 1 := by kernel_rfl
theorem ce4 : Tryz.prog.cellsOf 4 = 1 := by kernel_rfl
theorem ce9 : Tryz.prog.cellsOf 9 = 1 := by kernel_rfl
theorem ce25 : Tryz.prog.cellsOf 25 = 2 := by kernel_rfl
theorem ce27 : Tryz.prog.cellsOf 27 = 4 := by kernel_rfl
theorem ce28 : Tryz.prog.cellsOf 28 = 1 := by kernel_rfl
theorem ce30 : Tryz.prog.cellsOf 30 = 7 := by kernel_rfl
theorem w9 {s : List UInt8} (h : wOK (H := H) 9 (.lit (.string s))) : s.length ≤ 140737488351232 := by
  have := h
  simp [wOK, DataW.weights, reachBytes] at this
  exact of_decide_eq_true this
theorem w25 {a b : DataW H} (h : wOK 25 (.agg [a, b])) : wOK 9 b := by
  simp [wOK, DataW.weights, DataW.weightsEach, Tryz.underlying25] at h ⊢
  exact h.2
theorem w27 {a b : DataW H} (h : wOK 27 (.agg [a, b])) : wOK 25 a ∧ wOK 25 b := by
  simp [wOK, DataW.weights, DataW.weightsEach, Tryz.underlying27] at h ⊢
  exact h
theorem w30 {a b c e : DataW H} (h : wOK 30 (.agg [a, b, c, e])) : wOK 9 b ∧ wOK 27 c ∧ wOK 28 e := by
  simp [wOK, DataW.weights, DataW.weightsEach, Tryz.underlying30] at h ⊢
  exact h.2
theorem wAll {t : TypeId} : ∀ {l : List (DataW H)}, (DataW.weightsAll Tryz.prog t l).all (· ≤ reachBytes) = true → ∀ d ∈ l, wOK t d
  | [], _, d, hd => by cases hd
  | a :: l, h, d, hd => by
    rw [DataW.weightsAll, List.all_append, Bool.and_eq_true] at h
    rcases List.mem_cons.1 hd with rfl | hd
    · exact h.1
    · exact wAll h.2 d hd
theorem w28 {l s : List (DataW H)} (h : wOK 28 (.slice l s)) : ∀ d ∈ l, wOK 30 d := by
  unfold wOK at h
  rw [DataW.weights, Tryz.underlying28] at h
  simp only [List.all_cons, List.all_append, Bool.and_eq_true] at h
  exact wAll h.2.1
theorem o25 {base : Nat} {sp : Nat → Bool} {hd : Bool} {fuel : Nat} {cs : List Value} {x : DataW H × List MemPlace} (h : DataW.trod enc Tryz.prog w base sp hd fuel 25 cs = some x) :
    ∃ b s, cs = [.bool b, .string s] ∧ x.1 = .agg [.lit (.bool b), .lit (.string s.data.toList)] := by
  obtain ⟨xs, n, _, rfl, hl, hlen, hf⟩ := DataW.trod_struct Tryz.underlying25 h
  rw [ce25] at hl
  match cs, hl, xs, hlen with
  | [c0, c1], _, [y0, y1], _ =>
    have f0 : DataW.trod enc Tryz.prog w base sp hd n 4 ((([c0, c1] : List Value).drop 0).take (Tryz.prog.cellsOf 4)) = some y0 := hf 0 _ rfl
    have f1 : DataW.trod enc Tryz.prog w base sp hd n 9 ((([c0, c1] : List Value).drop 1).take (Tryz.prog.cellsOf 9)) = some y1 := hf 1 _ rfl
    rw [ce4] at f0
    rw [ce9] at f1
    obtain ⟨b, e0, rfl⟩ := DataW.trod_bool Tryz.underlying4 f0
    obtain ⟨s, e1, rfl, _⟩ := DataW.trod_string Tryz.underlying9 f1
    simp at e0 e1
    exact ⟨b, s, by rw [e0, e1], rfl⟩
theorem o27 {base : Nat} {sp : Nat → Bool} {hd : Bool} {fuel : Nat} {cs : List Value} {x : DataW H × List MemPlace} (h : DataW.trod enc Tryz.prog w base sp hd fuel 27 cs = some x) (hw : wOK 27 x.1) :
    ∃ b1 s1 b2 s2, cs = [.bool b1, .string s1, .bool b2, .string s2] ∧ s1.size ≤ 140737488351232 ∧ s2.size ≤ 140737488351232 := by
  obtain ⟨xs, n, _, rfl, hl, hlen, hf⟩ := DataW.trod_struct Tryz.underlying27 h
  rw [ce27] at hl
  match cs, hl, xs, hlen with
  | [c0, c1, c2, c3], _, [y0, y1], _ =>
    have f0 : DataW.trod enc Tryz.prog w base sp hd n 25 ((([c0, c1, c2, c3] : List Value).drop 0).take (Tryz.prog.cellsOf 25)) = some y0 := hf 0 _ rfl
    have f1 : DataW.trod enc Tryz.prog w base sp hd n 25 ((([c0, c1, c2, c3] : List Value).drop 2).take (Tryz.prog.cellsOf 25)) = some y1 := hf 1 _ rfl
    rw [ce25] at f0 f1
    obtain ⟨b1, s1, e0, q0⟩ := o25 f0
    obtain ⟨b2, s2, e1, q1⟩ := o25 f1
    have hw2 := w27 hw
    dsimp only at hw2
    rw [q0, q1] at hw2
    simp at e0 e1
    exact ⟨b1, s1, b2, s2, by rw [e0.1, e0.2, e1.1, e1.2], w9 (w25 hw2.1), w9 (w25 hw2.2)⟩
theorem agr_hole (pre cs : List Value) : Agr (List.replicate pre.length hole ++ cs) (pre ++ cs) := by
  refine ⟨by simp, fun j v hj hv => ?_⟩
  by_cases h : j < pre.length
  · rw [List.getElem?_append_left (by simpa using h), List.getElem?_replicate, if_pos h] at hj
    cases hj; cases hv
  · rw [List.getElem?_append_right (by simp; omega), List.length_replicate] at hj
    rw [List.getElem?_append_right (by omega)]; exact hj
theorem hole_simple {n : Nat} {cs : List Value} (h : cs.all Value.simpleT = true) : (List.replicate n hole ++ cs).all Value.simpleT = true := by
  rw [List.all_append, h, Bool.and_true]
  exact List.all_eq_true.2 fun v hv => by rw [List.eq_of_mem_replicate hv]; rfl
theorem flat_simple {f : Nat → List Value} : ∀ {l : List Nat}, (∀ i ∈ l, (f i).all Value.simpleT = true) → (l.flatMap f).all Value.simpleT = true
  | [], _ => rfl
  | a :: l, h => by rw [List.flatMap_cons, List.all_append, h a (by simp), flat_simple (l := l) fun i hi => h i (by simp [hi])]; rfl
def Opn (w : World) (cs : List Value) (q : XT × Tab) : Prop := gtOK q.2 = true ∧ RepX q.2 q.1 cs ∧ (∀ p ∈ q.2, TabCell w p) ∧ q.1.lim = true
theorem lims_map {X : Nat → XT} : ∀ {l : List Nat}, (∀ i ∈ l, (X i).lim = true) → XT.lims (l.map X) = true
  | [], _ => rfl
  | a :: l, h => by rw [List.map_cons, XT.lims, h a (by simp), lims_map (l := l) fun i hi => h i (by simp [hi])]; rfl
theorem gtOK_flat {f : Nat → Tab} : ∀ {l : List Nat}, (∀ i ∈ l, gtOK (f i) = true) → gtOK (l.flatMap f) = true
  | [], _ => rfl
  | a :: l, h => by rw [List.flatMap_cons, gtOK_append, h a (by simp), gtOK_flat (l := l) fun i hi => h i (by simp [hi])]; rfl
theorem oX : ∀ (fuel : Nat) (cs : List Value) (x : DataW H × List MemPlace), DataW.trod enc Tryz.prog w 0 (fun _ => true) true fuel 30 cs = some x → wOK 30 x.1 → ∃ q, Opn w cs q := by
  intro fuel
  induction fuel using Nat.strongRecOn with
  | _ fuel ih =>
    intro cs x h hw
    obtain ⟨xs, n, hn, rfl, hl, hlen, hf⟩ := DataW.trod_struct Tryz.underlying30 h
    rw [ce30] at hl
    match cs, hl, xs, hlen with
    | [c0, c1, c2, c3, c4, c5, c6], _, [y0, y1, y2, y3], _ =>
      have f0 : DataW.trod enc Tryz.prog w 0 (fun _ => true) true n 3 ((([c0, c1, c2, c3, c4, c5, c6] : List Value).drop 0).take (Tryz.prog.cellsOf 3)) = some y0 := hf 0 _ rfl
      have f1 : DataW.trod enc Tryz.prog w 0 (fun _ => true) true n 9 ((([c0, c1, c2, c3, c4, c5, c6] : List Value).drop 1).take (Tryz.prog.cellsOf 9)) = some y1 := hf 1 _ rfl
      have f2 : DataW.trod enc Tryz.prog w 0 (fun _ => true) true n 27 ((([c0, c1, c2, c3, c4, c5, c6] : List Value).drop 2).take (Tryz.prog.cellsOf 27)) = some y2 := hf 2 _ rfl
      have f3 : DataW.trod enc Tryz.prog w 0 (fun _ => true) true n 28 ((([c0, c1, c2, c3, c4, c5, c6] : List Value).drop 6).take (Tryz.prog.cellsOf 28)) = some y3 := hf 3 _ rfl
      rw [ce3] at f0; rw [ce9] at f1; rw [ce27] at f2; rw [ce28] at f3
      obtain ⟨hw1, hw2, hw3⟩ := w30 hw
      obtain ⟨op, e0, _, _⟩ := DataW.trod_int Tryz.underlying3 f0
      obtain ⟨s, e1, q1, _⟩ := DataW.trod_string Tryz.underlying9 f1
      rw [q1] at hw1
      have hs := w9 hw1
      obtain ⟨b1, s1, b2, s2, e2, hs1, hs2⟩ := o27 f2 hw2
      simp at e0 e1 e2
      have hnm : strU s.data.toList = s := (str_strU s).symm
      have hlim : ∀ l : List XT, XT.lims l = true → (XT.mk op s.data.toList (.raw b1 s1 b2 s2) l).lim = true := fun l hll => by
        unfold XT.lim
        rw [hll]
        show (decide (_ ≤ _) && decide (s1.size + s2.size ≤ _) && true) = true
        have hsz : s.data.toList.length = s.size := Array.length_toList
        rw [Bool.and_true, Bool.and_eq_true]
        exact ⟨decide_eq_true (by omega), decide_eq_true (by omega)⟩
      rcases DataW.trod_slice Tryz.underlying28 f3 with ⟨h1, h2⟩ | ⟨a, len, cap, elems, rest, m, hm, h1, h2, _, hlc, _, hel, hx, _, _⟩
      · have h1' : c6 = .slice none 0 0 := by simpa using h1
        refine ⟨(.mk op s.data.toList (.raw b1 s1 b2 s2) [], []), rfl, ?_, (fun p hp => by cases hp), hlim [] rfl⟩
        have := RepX.mk (T := []) (op := op) (name := s.data.toList) (num := .raw b1 s1 b2 s2) (args := []) (a := none) (cap := 0) .nil (Nat.le_refl _)
        unfold xcells at this
        rw [hnm] at this
        rw [e0, e1, e2.1, e2.2.1, e2.2.2.1, e2.2.2.2, h1']
        exact this
      · have h1' : c6 = .slice (some a) len cap := by simpa using h1
        rw [h2] at hw3
        have hwe := w28 hw3
        rw [ce30] at hx
        obtain ⟨F, hF⟩ := choose_n (α := List Value × XT × Tab) ([], .mk 0 [] (.q 0) [], []) (n := len) (p := fun i q => w.cells? 0 (a.add (i * 7)) 7 = some q.1 ∧ Opn w q.1 q.2) (fun i hi => by
          obtain ⟨y, hy⟩ : ∃ y, elems[i]? = some y := ⟨_, List.getElem?_eq_getElem (by omega)⟩
          have hxi := hx i hi
          rw [hy] at hxi
          obtain ⟨row, r1, r2⟩ := Option.bind_eq_some_iff.1 hxi
          obtain ⟨q, hq⟩ := ih m (by omega) row y r2 (hwe y.1 (List.mem_map.2 ⟨y, List.mem_of_getElem? hy, rfl⟩))
          exact ⟨(row, q.1, q.2), r1, hq⟩)
        have hrow : ∀ i, i < len → (F i).1.length = 7 := fun i hi => (hF i hi).2.2.1.length
        by_cases h0 : len = 0
        · subst h0
          refine ⟨(.mk op s.data.toList (.raw b1 s1 b2 s2) [], []), rfl, ?_, (fun p hp => by cases hp), hlim [] rfl⟩
          have := RepX.mk (T := []) (op := op) (name := s.data.toList) (num := .raw b1 s1 b2 s2) (args := []) (a := some a) (cap := cap) .nil (Nat.zero_le _)
          unfold xcells at this
          rw [hnm] at this
          rw [e0, e1, e2.1, e2.2.1, e2.2.2.1, e2.2.2.2, h1']
          exact this
        · have hne : (List.range len).flatMap (fun i => (F i).1) ≠ [] := fun e => by
            have := congrArg List.length e
            rw [flat_len hrow] at this
            simp at this
            omega
          obtain ⟨g, pre, N, rfl, hB⟩ := blk_flat (w := w) (a := a) 30 (by decide) hne (cells_flat (fun i hi => (hF i hi).1) hrow (by decide))
          have hc := hB.cells (.inr (by intro e; exact hne (List.append_eq_nil_iff.1 e).2))
          obtain ⟨cur, ⟨e', fr, k1, _, _⟩, k2, k3⟩ := hc
          have hfl := flat_len (f := fun i => (F i).1) (k := 7) (n := len) hrow
          refine ⟨(.mk op s.data.toList (.raw b1 s1 b2 s2) ((List.range len).map fun i => (F i).2.1), (g, List.replicate pre.length hole ++ (List.range len).flatMap fun i => (F i).1) :: (List.range len).flatMap fun i => (F i).2.2), ?_, ?_, ?_, ?_⟩
          · rw [gtOK_cons, hole_simple (flat_simple fun i hi => (hF i (List.mem_range.1 hi)).2.2.1.simple), gtOK_flat fun i hi => (hF i (List.mem_range.1 hi)).2.1]; rfl
          · have hL := RepL.of_row (T := (g, List.replicate pre.length hole ++ (List.range len).flatMap fun i => (F i).1) :: (List.range len).flatMap fun i => (F i).2.2) (g := g) (cs := List.replicate pre.length hole ++ (List.range len).flatMap fun i => (F i).1) (by simp) ((List.range len).map fun i => (F i).2.1) pre.length fun i x hx => by
              have hi : i < len := by have := (List.getElem?_eq_some_iff.1 hx).1; simpa using this
              rw [List.getElem?_map, List.getElem?_range hi] at hx
              have hx : (F i).2.1 = x := by simpa using hx
              rw [← hx, List.drop_append, List.drop_eq_nil_of_le (by simp), List.length_replicate, List.nil_append, show pre.length + i * 7 - pre.length = i * 7 by omega, flat_get (f := fun i => (F i).1) hrow hi]
              exact (hF i hi).2.2.1.mono fun p hp => List.mem_cons_of_mem _ (List.mem_flatMap.2 ⟨i, List.mem_range.2 hi, hp⟩)
            have := RepX.mk (op := op) (name := s.data.toList) (num := .raw b1 s1 b2 s2) (cap := cap) hL (by simpa using hlc)
            unfold xcells at this
            rw [hnm] at this
            rw [e0, e1, e2.1, e2.2.1, e2.2.2.1, e2.2.2.2, h1']
            rw [List.length_map, List.length_range] at this
            exact this
          · intro p hp
            rcases List.mem_cons.1 hp with rfl | hp
            · refine .inl ⟨cur, e', fr, k1, .inl ⟨noTy_len (by simp only [List.length_append, hfl]; omega), ?_⟩⟩
              have hll : (List.replicate pre.length hole ++ (List.range len).flatMap fun i => (F i).1).length = (pre ++ (List.range len).flatMap fun i => (F i).1).length := by simp
              show Agr _ (cur.toList.take (List.replicate pre.length hole ++ (List.range len).flatMap fun i => (F i).1).length)
              rw [hll, k3]
              exact agr_hole _ _
            · obtain ⟨i, hi, hp⟩ := List.mem_flatMap.1 hp
              exact (hF i (List.mem_range.1 hi)).2.2.2.1 p hp
          · exact hlim _ (lims_map fun i hi => (hF i (List.mem_range.1 hi)).2.2.2.2)
theorem openX {r : Reach} {b0 : Nat} {v : Value} {d : DataW H} {ps : List MemPlace} (hval : Value.okWide Tryz.prog w r b0 30 v) (hd : DataW.Trod enc Tryz.prog w 0 (fun _ => true) true 30 v d ps) (hw : wOK 30 d) :
    ∃ (x : XT) (z : XR x), v = z.v ∧ (∀ p ∈ z.T, TabCell w p) ∧ x.lim = true := by
  obtain ⟨cs, rfl, _⟩ := okWide_struct Tryz.underlying30 hval
  obtain ⟨fuel, hf⟩ := hd
  obtain ⟨⟨x, T⟩, h1, h2, h3, h4⟩ := oX fuel _ _ hf hw
  obtain ⟨z, hz1, hz2⟩ := h2.toXR h1
  refine ⟨x, z, ?_, by rw [hz1]; exact h3, h4⟩
  have e : cs.toList = z.cs := hz2.symm
  have e2 : cs = z.cs.toArray := by rw [← e]
  rw [e2]; rfl
end
end Go.Proofs.YtfijbadahkmhbaaGreatDoor
