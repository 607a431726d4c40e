/-
  Part 9: lemmas, and walks through the functions that the laws of chapter 07 call. Each theorem states its own conditions.
-/
import Derived.Test.YthnlafhnpphdhaaGreatDoorA08
set_option linter.unusedVariables false
set_option linter.unusedVariables false
namespace Go.Proofs.YthnlafhnpphdhaaGreatDoor
open Go Go.RowKit Go.Via
set_option maxRecDepth 20000 in
theorem c_ref02_Sub (p q : Rat) (hp : szQ p ≤ 4194303) (hq : szQ q ≤ 4194303) : PCall Tryz.prog 64 #[Q p, Q q] (Q (p - q)) := by
 refine ⟨by kernel_rfl, fun w => ?_⟩
 refine calls_at (args := [Q p, Q q]) Tryz.func64 rfl (Nat.le_of_ble_eq_true rfl) (LRel.nil w) ?_
 show At w ⟨9, [(0, Q p), (1, Q q)], []⟩ _
 refine at_seq ?_
 refine at_region ?_
 refine r_box [_, _, _, _] 4 (fun g => [⟨some g, 25, _, 4, true⟩]) rfl rfl rfl rfl rfl (fun _ => rfl) (fun g0 => ?_)
 refine r_box [_, _, _, _] 4 (fun g => [_, ⟨some g, 25, _, 4, true⟩]) rfl rfl rfl rfl rfl (fun _ => rfl) (fun g1 => ?_)
 refine r_alloc [_, _, _, _] 4 (fun g => [_, _, ⟨some g, 25, _, 4, true⟩]) rfl rfl z25 rfl rfl (fun _ => rfl) (fun g2 => ?_)
 refine run_nil ?_
 refine at_tn ?_
 refine at_seq ?_
 refine at_drawn (l' := [⟨_,_,_,_,_,_⟩, ⟨_,_,_,_,_,_⟩, ⟨_,_,_,_,_,_⟩, ⟨_,_,_,_,_,_⟩, ⟨_,_,_,_,_,_⟩]) [] [0, 1, 2, 3, 4] mixed (by kernel_rfl) rfl (by kernel_rfl) ?_
 refine r_load 0 0 [_, _, _, _] rfl rfl rfl rfl ti25 rfl rfl rfl rfl ?_
 refine r_load 1 0 [_, _, _, _] rfl rfl rfl rfl ti25 rfl rfl rfl rfl ?_
 refine r_pcall [_] rfl rfl rfl (c_ref02_Neg q) ?_
 refine r_pcall [_, _] rfl rfl rfl (c_ref02_Add p (-q) hp (Nat.le_trans (lQ_neg q) hq)) ?_
 refine r_store rfl 2 0 [_, _, ⟨some g2, 25, _, 4, true⟩] [_, _, _, _] rfl rfl rfl rfl ti25 rfl rfl rfl rfl rfl ?_
 refine run_nil ?_
 refine at_tn ?_
 refine at_ret ?_
 refine at_end1 rfl (res_cell 2 rfl rfl ti25 (vs := [_, _, _, _]) rfl rfl (Nat.le_of_ble_eq_true rfl) rfl) (fun w hL => ⟨?_, hL.below⟩)
 exact congrArg (fun z => Ending.returned (Q z)) (Rat.sub_eq_add_neg p q).symm
set_option maxRecDepth 20000 in
theorem c_ref02_Compare (p q : Rat) (hp : szQ p ≤ 4194303) (hq : szQ q ≤ 4194303) : PCall Tryz.prog 47 #[Q p, Q q] (.int .i64 (cmpQ p q)) := by
 refine ⟨by kernel_rfl, fun w => ?_⟩
 refine calls_at (args := [Q p, Q q]) Tryz.func47 rfl (Nat.le_of_ble_eq_true rfl) (LRel.nil w) ?_
 show At w ⟨9, [(0, Q p), (1, Q q)], []⟩ _
 refine at_seq ?_
 refine at_region ?_
 refine r_box [_, _, _, _] 4 (fun g => [⟨some g, 25, _, 4, true⟩]) rfl rfl rfl rfl rfl (fun _ => rfl) (fun g0 => ?_)
 refine r_box [_, _, _, _] 4 (fun g => [_, ⟨some g, 25, _, 4, true⟩]) rfl rfl rfl rfl rfl (fun _ => rfl) (fun g1 => ?_)
 refine r_assign rfl rfl rfl ?_
 refine run_nil ?_
 refine at_tn ?_
 refine at_seq ?_
 refine at_region ?_
 refine r_load 0 0 [_, _, _, _] rfl rfl rfl rfl ti25 rfl rfl rfl rfl ?_
 refine r_load 1 0 [_, _, _, _] rfl rfl rfl rfl ti25 rfl rfl rfl rfl ?_
 refine r_pcall [_, _] rfl rfl rfl (c_ref02_Sub p q hp hq) ?_
 refine r_pcall [_] rfl rfl rfl (c_ref02_Sign (p - q)) ?_
 refine r_assign rfl rfl rfl ?_
 refine run_nil ?_
 refine at_tn ?_
 refine at_ret ?_
 refine at_end1 rfl (res_tmp rfl) (fun w hL => ⟨?_, hL.below⟩)
 exact congrArg (fun z => Ending.returned (.int .i64 z)) (sign_sub p q)
set_option maxRecDepth 20000 in
theorem c_ref02_IsInt (b : Bool) (s : ByteArray) : PCall Tryz.prog 82 #[.agg #[.bool b, .string s]] (.bool (!badI b s)) := by
 refine ⟨by kernel_rfl, fun w => ?_⟩
 refine calls_at (args := [.agg #[.bool b, .string s]]) Tryz.func82 rfl (Nat.le_of_ble_eq_true rfl) (LRel.nil w) ?_
 show At w ⟨14, [(0, .agg #[.bool b, .string s])], []⟩ _
 refine at_seq ?_
 refine at_region ?_
 refine r_box [_, _] 2 (fun g => [⟨some g, 23, _, 2, true⟩]) rfl rfl rfl rfl rfl (fun _ => rfl) (fun g0 => ?_)
 refine r_assign rfl rfl rfl ?_
 refine run_nil ?_
 refine at_tn ?_
 refine at_seq ?_
 refine at_seq ?_
 refine at_region ?_
 refine r_fieldAddr 0 0 1 rfl rfl rfl rfl rfl ti23 rfl rfl ?_
 refine r_load 0 1 [_] rfl rfl rfl rfl ti9 rfl rfl rfl rfl ?_
 refine r_len rfl u9 rfl rfl ?_
 refine r_cmpInt rfl rfl rfl rfl rfl ?_
 refine run_nil ?_
 refine at_tn ?_
 refine at_cond rfl (fun hb0 => ?_) (fun hb0 => ?_)
 ·
  have he := ba_size0 hb0
  refine at_seq ?_
  refine at_region ?_
  refine r_fieldAddr 0 0 0 rfl rfl rfl rfl rfl ti23 rfl rfl ?_
  refine r_load 0 0 [_] rfl rfl rfl rfl ti4 rfl rfl rfl rfl ?_
  refine r_not rfl rfl rfl ?_
  refine r_assign rfl rfl rfl ?_
  refine run_nil ?_
  refine at_tn ?_
  refine at_ret ?_
  refine at_tr ?_
  refine at_end1 rfl (res_tmp rfl) (fun w hL => ⟨?_, hL.below⟩)
  rw [badI_nil he]
 ·
  obtain ⟨x, l, he⟩ := ba_sizeN hb0
  refine at_skip ?_
  refine at_tn ?_
  refine at_seq ?_
  refine at_region ?_
  refine r_fieldAddr 0 0 1 rfl rfl rfl rfl rfl ti23 rfl rfl ?_
  refine r_load 0 1 [_] rfl rfl rfl rfl ti9 rfl rfl rfl rfl ?_
  refine r_idxS (b := x) (r := (x.toNat : Int)) u9 rfl rfl rfl rfl (by omega) (by rw [he]; rfl) rfl ?_
  refine r_cmpInt rfl rfl rfl rfl rfl ?_
  refine r_assign rfl rfl rfl ?_
  refine run_nil ?_
  refine at_tn ?_
  refine at_ret ?_
  refine at_end1 rfl (res_tmp rfl) (fun w hL => ⟨?_, hL.below⟩)
  rw [badI_cons he]
end Go.Proofs.YthnlafhnpphdhaaGreatDoor
set_option linter.unusedVariables false
namespace Go.Proofs.YthnlafhnpphdhaaGreatDoor
open Go Go.RowKit Go.Via
set_option maxRecDepth 20000 in
theorem c_ref02_Check (b1 : Bool) (s1 : ByteArray) (b2 : Bool) (s2 : ByteArray) (hs1 : s1.size ≤ 1000) (hs2 : s2.size ≤ 1000) : PCall Tryz.prog 48 #[.agg #[.bool b1, .string s1, .bool b2, .string s2]] (.bool (isQ b1 s1 b2 s2)) := by
 refine ⟨by kernel_rfl, fun w => ?_⟩
 refine calls_at (args := [.agg #[.bool b1, .string s1, .bool b2, .string s2]]) Tryz.func48 rfl (Nat.le_of_ble_eq_true rfl) (LRel.nil w) ?_
 show At w ⟨45, [(0, .agg #[.bool b1, .string s1, .bool b2, .string s2])], []⟩ _
 refine at_seq ?_
 refine at_region ?_
 refine r_box [_, _, _, _] 4 (fun g => [⟨some g, 25, _, 4, true⟩]) rfl rfl rfl rfl rfl (fun _ => rfl) (fun g0 => ?_)
 refine r_assign rfl rfl rfl ?_
 refine run_nil ?_
 refine at_tn ?_
 refine at_seq ?_
 refine at_seq ?_
 refine at_region ?_
 refine r_fieldAddr 0 0 0 rfl rfl rfl rfl rfl ti25 rfl rfl ?_
 refine r_load 0 0 [_, _] rfl rfl rfl rfl ti23 rfl rfl rfl rfl ?_
 refine r_pcall [_] rfl rfl rfl (c_ref02_IsInt b1 s1) ?_
 refine r_not rfl rfl rfl ?_
 refine r_move rfl rfl rfl ?_
 refine r_split 8 rfl (fun hb0 => ?_) (fun hb0 => ?_)
 ·
  have hI1 : badI b1 s1 = true := by simpa using hb0
  refine r_no rfl rfl rfl ?_
  refine r_no rfl rfl rfl ?_
  refine r_no rfl rfl rfl ?_
  refine r_no rfl rfl rfl ?_
  refine r_pickT rfl rfl rfl rfl ?_
  refine r_move rfl rfl rfl ?_
  refine r_no rfl rfl rfl ?_
  refine r_no rfl rfl rfl ?_
  refine r_no rfl rfl rfl ?_
  refine r_pickT rfl rfl rfl rfl ?_
  refine run_nil ?_
  refine at_tn ?_
  refine at_condT rfl ?_
  refine at_seq ?_
  refine at_region ?_
  refine r_assign rfl rfl rfl ?_
  refine run_nil ?_
  refine at_tn ?_
  refine at_ret ?_
  refine at_tr ?_
  refine at_end1 rfl (res_tmp rfl) (fun w hL => ⟨?_, hL.below⟩)
  rw [isQ_1 hI1]
 ·
  have hI1 : badI b1 s1 = false := by simpa using hb0
  refine r_fieldAddr 0 0 2 rfl rfl rfl rfl rfl ti25 rfl rfl ?_
  refine r_load 0 2 [_, _] rfl rfl rfl rfl ti23 rfl rfl rfl rfl ?_
  refine r_pcall [_] rfl rfl rfl (c_ref02_IsInt b2 s2) ?_
  refine r_not rfl rfl rfl ?_
  refine r_pickF rfl rfl rfl rfl ?_
  refine r_move rfl rfl rfl ?_
  refine r_split 14 rfl (fun hb1 => ?_) (fun hb1 => ?_)
  ·
   have hI2 : badI b2 s2 = true := by simpa using hb1
   refine r_no rfl rfl rfl ?_
   refine r_no rfl rfl rfl ?_
   refine r_no rfl rfl rfl ?_
   refine r_pickT rfl rfl rfl rfl ?_
   refine run_nil ?_
   refine at_tn ?_
   refine at_condT rfl ?_
   refine at_seq ?_
   refine at_region ?_
   refine r_assign rfl rfl rfl ?_
   refine run_nil ?_
   refine at_tn ?_
   refine at_ret ?_
   refine at_tr ?_
   refine at_end1 rfl (res_tmp rfl) (fun w hL => ⟨?_, hL.below⟩)
   rw [isQ_2 hI2]
  ·
   have hI2 : badI b2 s2 = false := by simpa using hb1
   refine r_fieldAddr 0 0 2 rfl rfl rfl rfl rfl ti25 rfl rfl ?_
   refine r_fieldAddr 0 2 0 rfl rfl rfl rfl rfl ti23 rfl rfl ?_
   refine r_load 0 2 [_] rfl rfl rfl rfl ti4 rfl rfl rfl rfl ?_
   refine r_pickF rfl rfl rfl rfl ?_
   refine run_nil ?_
   refine at_tn ?_
   refine at_cond rfl (fun hb2 => ?_) (fun hb2 => ?_)
   ·
    subst hb2
    refine at_seq ?_
    refine at_region ?_
    refine r_assign rfl rfl rfl ?_
    refine run_nil ?_
    refine at_tn ?_
    refine at_ret ?_
    refine at_tr ?_
    refine at_end1 rfl (res_tmp rfl) (fun w hL => ⟨?_, hL.below⟩)
    rw [isQ_3]
   ·
    subst hb2
    refine at_skip ?_
    refine at_tn ?_
    refine at_seq ?_
    refine at_seq ?_
    refine at_region ?_
    refine r_fieldAddr 0 0 2 rfl rfl rfl rfl rfl ti25 rfl rfl ?_
    refine r_fieldAddr 0 2 1 rfl rfl rfl rfl rfl ti23 rfl rfl ?_
    refine r_load 0 3 [_] rfl rfl rfl rfl ti9 rfl rfl rfl rfl ?_
    refine r_eqlStr rfl rfl rfl rfl ?_
    refine run_nil ?_
    refine at_tn ?_
    refine at_cond rfl (fun hb3 => ?_) (fun hb3 => ?_)
    ·
     have he2 := ba_nil hb3
     refine at_seq ?_
     refine at_region ?_
     refine r_assign rfl rfl rfl ?_
     refine run_nil ?_
     refine at_tn ?_
     refine at_ret ?_
     refine at_tr ?_
     refine at_end1 rfl (res_tmp rfl) (fun w hL => ⟨?_, hL.below⟩)
     rw [isQ_4 hI1 he2]
    ·
     obtain ⟨z, rfl, rfl⟩ := okI_z hI1
     obtain ⟨d, hd0, rfl⟩ := okI_d hb3 hI2
     rw [mag_size] at hs1 hs2
     have hz1 : szI z ≤ 1000 := hs1
     have hz2 : szI (d : Int) ≤ 1000 := szI_cast hs2
     have hz3 : nb z.natAbs ≤ 1000 := hs1
     refine at_skip ?_
     refine at_tn ?_
     refine at_seq ?_
     refine at_drawn (l' := [⟨_,_,_,_,_,_⟩, ⟨_,_,_,_,_,_⟩, ⟨_,_,_,_,_,_⟩, ⟨_,_,_,_,_,_⟩, ⟨_,_,_,_,_,_⟩, ⟨_,_,_,_,_,_⟩, ⟨_,_,_,_,_,_⟩, ⟨_,_,_,_,_,_⟩]) [] [0, 1, 3, 4, 2, 5, 6, 7] mixed (by kernel_rfl) rfl (by kernel_rfl) ?_
     refine r_fieldAddr 0 0 0 rfl rfl rfl rfl rfl ti25 rfl rfl ?_
     refine r_load 0 0 [_, _] rfl rfl rfl rfl ti23 rfl rfl rfl rfl ?_
     refine r_fieldAddr 0 0 2 rfl rfl rfl rfl rfl ti25 rfl rfl ?_
     refine r_load 0 2 [_, _] rfl rfl rfl rfl ti23 rfl rfl rfl rfl ?_
     refine r_know 27 (I (d : Int)) rfl (I_nat d) ?_
     refine r_scallA [_] [] rfl rfl rfl ((c_ref02_digits z (by omega)).weakA (fun x b hb => by rw [List.mem_singleton.1 hb])) trivial rfl rfl (fun xn => ?_)
     refine r_scallA [_] [] rfl rfl rfl ((c_ref02_digits (d : Int) (by omega)).weakA (fun x b hb => by rw [List.mem_singleton.1 hb])) trivial rfl rfl (fun xd => ?_)
     refine r_scallA [_, _] [1, 2] rfl rfl rfl (c_ref02_common z.natAbs d (by omega) (by omega) xn xd) ⟨⟨_, rfl, le_share⟩, ⟨_, rfl, le_share⟩, trivial⟩ rfl rfl (fun zg => ?_)
     refine r_assign rfl rfl rfl ?_
     refine run_nil ?_
     refine at_tn ?_
     refine at_seq ?_
     refine at_region ?_
     refine r_fieldAddr 0 0 2 rfl rfl rfl rfl rfl ti25 rfl rfl ?_
     refine r_fieldAddr 0 2 1 rfl rfl rfl rfl rfl ti23 rfl rfl ?_
     refine r_load 0 3 [_] rfl rfl rfl rfl ti9 rfl rfl rfl rfl ?_
     refine r_neqStr rfl rfl rfl rfl ?_
     refine r_move rfl rfl rfl ?_
     refine r_split 34 rfl (fun hb4 => ?_) (fun hb4 => ?_)
     ·
      have hd1 : d ≠ 1 := mag_ne1 hb4
      refine r_move rfl rfl rfl ?_
      refine r_lenS u85 rfl rfl rfl ?_
      refine r_cmpInt rfl rfl rfl rfl rfl ?_
      refine r_pickT rfl rfl rfl rfl ?_
      refine r_move rfl rfl rfl ?_
      refine r_split 39 rfl (fun hb5 => ?_) (fun hb5 => ?_)
      ·
       have hg1 : nb (Nat.gcd z.natAbs d) = 1 := by have := eq_of_beq hb5; omega
       refine r_move rfl rfl rfl ?_
       refine r_indexAddr 3 (0) u85 ti3 rfl rfl rfl rfl rfl (by omega) (by omega) (NV_ne (by rw [D8_length]; omega)) (by show 0 + Int.toNat _ * 1 = _; omega) ?_
       refine r_load1 3 (0) ti3 rfl rfl rfl rfl (NV_get (D8_get (by omega))) ?_
       refine r_cmpInt rfl rfl rfl rfl rfl ?_
       refine r_pickT rfl rfl rfl rfl ?_
       refine r_assign rfl rfl rfl ?_
       refine run_nil ?_
       refine at_tn ?_
       refine at_ret ?_
       refine at_end1 rfl (res_tmp rfl) (fun w hL => ⟨?_, hL.below⟩)
       exact congrArg (fun b => Ending.returned (.bool b)) (isQ_5 hd0 hd1 hg1)
      ·
       have hg1 : Nat.gcd z.natAbs d ≠ 1 := not_one_of_nb (by simpa using hb5)
       refine r_no rfl rfl rfl ?_
       refine r_no rfl rfl rfl ?_
       refine r_no rfl rfl rfl ?_
       refine r_no rfl rfl rfl ?_
       refine r_pickF rfl rfl rfl rfl ?_
       refine r_assign rfl rfl rfl ?_
       refine run_nil ?_
       refine at_tn ?_
       refine at_ret ?_
       refine at_end1 rfl (res_tmp rfl) (fun w hL => ⟨?_, hL.below⟩)
       exact congrArg (fun b => Ending.returned (.bool b)) (isQ_6 hd0 hg1)
     ·
      have hd1 : d = 1 := mag_eq1 hb4
      refine r_no rfl rfl rfl ?_
      refine r_no rfl rfl rfl ?_
      refine r_no rfl rfl rfl ?_
      refine r_pickF rfl rfl rfl rfl ?_
      refine r_move rfl rfl rfl ?_
      refine r_no rfl rfl rfl ?_
      refine r_no rfl rfl rfl ?_
      refine r_no rfl rfl rfl ?_
      refine r_no rfl rfl rfl ?_
      refine r_pickF rfl rfl rfl rfl ?_
      refine r_assign rfl rfl rfl ?_
      refine run_nil ?_
      refine at_tn ?_
      refine at_ret ?_
      refine at_end1 rfl (res_tmp rfl) (fun w hL => ⟨?_, hL.below⟩)
      exact congrArg (fun b => Ending.returned (.bool b)) (isQ_7 hd1)
end Go.Proofs.YthnlafhnpphdhaaGreatDoor
set_option linter.unusedVariables false
set_option linter.unusedSimpArgs false
namespace Go.Via
open Go Go.RowKit
/-! ### points and segments over the rational numbers -/
abbrev P2 := Rat × Rat
abbrev S2 := P2 × P2
def szP (p : P2) : Nat := max (szQ p.1) (szQ p.2)
def szS (s : S2) : Nat := max (szP s.1) (szP s.2)
theorem szP1 {p : P2} {n : Nat} (h : szP p ≤ n) : szQ p.1 ≤ n := by unfold szP at h; omega
theorem szP2 {p : P2} {n : Nat} (h : szP p ≤ n) : szQ p.2 ≤ n := by unfold szP at h; omega
theorem szPm {p : P2} {n : Nat} (h1 : szQ p.1 ≤ n) (h2 : szQ p.2 ≤ n) : szP p ≤ n := by unfold szP; omega
theorem szS1 {s : S2} {n : Nat} (h : szS s ≤ n) : szP s.1 ≤ n := by unfold szS at h; omega
theorem szS2 {s : S2} {n : Nat} (h : szS s ≤ n) : szP s.2 ≤ n := by unfold szS at h; omega
theorem szSm {s : S2} {n : Nat} (h1 : szP s.1 ≤ n) (h2 : szP s.2 ≤ n) : szS s ≤ n := by unfold szS; omega
def pAdd (p q : P2) : P2 := (p.1 + q.1, p.2 + q.2)
def pSub (p q : P2) : P2 := (p.1 - q.1, p.2 - q.2)
def pScale (p : P2) (r : Rat) : P2 := (p.1 * r, p.2 * r)
def dot (p q : P2) : Rat := p.1 * q.1 + p.2 * q.2
def crs (p q : P2) : Rat := p.1 * q.2 - p.2 * q.1
def sgn (q : Rat) : Int := q.num.sign
def cmpP (p q : P2) : Int := if cmpQ p.1 q.1 = 0 then cmpQ p.2 q.2 else cmpQ p.1 q.1
def ori (a b c : P2) : Int := sgn (crs (pSub b a) (pSub c a))
def divP (s : S2) (r : Rat) : P2 := pAdd s.1 (pScale (pSub s.2 s.1) r)
/-- the program's test whether a point lies on a segment -/
def onS (p : P2) (s : S2) : Prop := ori s.1 s.2 p = 0 ∧ 0 ≤ cmpP s.1 p * cmpP p s.2 ∧ (s.1 ≠ s.2 ∨ p = s.1)
instance (p : P2) (s : S2) : Decidable (onS p s) := inferInstanceAs (Decidable (_ ∧ _ ∧ _))
/-- that of the reference -/
def btw (x a b : Rat) : Prop := (¬ x < a ∧ ¬ b < x) ∨ (¬ x < b ∧ ¬ a < x)
instance (x a b : Rat) : Decidable (btw x a b) := inferInstanceAs (Decidable (_ ∨ _))
def onR (p : P2) (s : S2) : Prop := ori s.1 s.2 p = 0 ∧ btw p.1 s.1.1 s.2.1 ∧ btw p.2 s.1.2 s.2.2
instance (p : P2) (s : S2) : Decidable (onR p s) := inferInstanceAs (Decidable (_ ∧ _ ∧ _))
theorem Pt_zero : Value.agg #[.bool false, .string ⟨#[]⟩, .bool false, .string ⟨#[]⟩, .bool false, .string ⟨#[]⟩, .bool false, .string ⟨#[]⟩] = Pt (0, 0) := by
  have h := Q_zero
  unfold Q at h
  simp only [Value.agg.injEq, Array.mk.injEq, List.cons.injEq, Value.bool.injEq, Value.string.injEq, and_true] at h
  obtain ⟨h1, h2, h3, h4⟩ := h
  unfold Pt
  simp only [h1, h2, h4]
theorem Q_zero' : Value.agg #[.bool false, .string ⟨#[]⟩, .bool false, .string ⟨#[]⟩] = Q 0 := Q_zero.symm
theorem cmpQ_cases (p q : Rat) : cmpQ p q = -1 ∨ cmpQ p q = 0 ∨ cmpQ p q = 1 := by
  unfold cmpQ
  by_cases h : p < q
  · rw [if_pos h]; exact .inl rfl
  · rw [if_neg h]
    by_cases h2 : q < p
    · rw [if_pos h2]; exact .inr (.inr rfl)
    · rw [if_neg h2]; exact .inr (.inl rfl)
theorem cmpP_cases (p q : P2) : cmpP p q = -1 ∨ cmpP p q = 0 ∨ cmpP p q = 1 := by
  unfold cmpP; split
  · exact cmpQ_cases _ _
  · exact cmpQ_cases _ _
theorem cmpP_T {p q : P2} (h : (cmpQ p.1 q.1 != 0) = true) : cmpQ p.1 q.1 = cmpP p q := by
  have : cmpQ p.1 q.1 ≠ 0 := by simpa using h
  unfold cmpP; rw [if_neg this]
theorem cmpP_F {p q : P2} (h : (cmpQ p.1 q.1 != 0) = false) : cmpQ p.2 q.2 = cmpP p q := by
  have : cmpQ p.1 q.1 = 0 := by simpa using h
  unfold cmpP; rw [if_pos this]
theorem sgn_bound (q : Rat) : -1 ≤ sgn q ∧ sgn q ≤ 1 := by
  unfold sgn
  rcases Int.lt_trichotomy q.num 0 with h | h | h
  · rw [Int.sign_eq_neg_one_of_neg h]; omega
  · rw [h]; decide
  · rw [Int.sign_eq_one_of_pos h]; omega
theorem cmpQ_less {a b : Rat} : decide (cmpQ a b < 0) = decide (a < b) := by
  refine decide_eq_decide.2 ?_
  unfold cmpQ
  by_cases h : a < b
  · rw [if_pos h]; simp [h]
  · rw [if_neg h]
    by_cases h2 : b < a
    · rw [if_pos h2]; simp [h]
    · rw [if_neg h2]; simp [h]
theorem szQ_m1 : szQ (-1) ≤ 1 := by
  have h := szQ_neg (a := 1) szQ_one
  exact h
theorem pSub_ref (p q : P2) : pAdd p (pScale q (-1)) = pSub p q := by
  unfold pAdd pScale pSub
  refine Prod.ext ?_ ?_
  · show p.1 + q.1 * (-1) = p.1 - q.1; grind
  · show p.2 + q.2 * (-1) = p.2 - q.2; grind
end Go.Via
namespace Go.Proofs.YthnlafhnpphdhaaGreatDoor
open Go Go.RowKit Go.Via
theorem eq27 (p q : P2) (w : World) : (Op.equalIn 10000 27 (Pt p) (Pt q)).run Tryz.prog w = .ok (decide (p = q)) w := eq27d 9996 p q w
end Go.Proofs.YthnlafhnpphdhaaGreatDoor
set_option linter.unusedVariables false
namespace Go.Proofs.YthnlafhnpphdhaaGreatDoor
open Go Go.RowKit Go.Via
set_option maxRecDepth 20000 in
theorem c_plane_Add (p q : P2) (hp : szP p ≤ 1000000) (hq : szP q ≤ 1000000) : PCall Tryz.prog 16 #[Pt p, Pt q] (Pt (pAdd p q)) := by
 refine ⟨by kernel_rfl, fun w => ?_⟩
 refine calls_at (args := [Pt p, Pt q]) Tryz.func16 rfl (Nat.le_of_ble_eq_true rfl) (LRel.nil w) ?_
 show At w ⟨16, [(0, Pt p), (1, Pt q)], []⟩ _
 refine at_seq ?_
 refine at_region ?_
 refine r_box [_, _, _, _, _, _, _, _] 8 (fun g => [⟨some g, 27, _, 8, true⟩]) rfl rfl rfl rfl rfl (fun _ => rfl) (fun g0 => ?_)
 refine r_box [_, _, _, _, _, _, _, _] 8 (fun g => [_, ⟨some g, 27, _, 8, true⟩]) rfl rfl rfl rfl rfl (fun _ => rfl) (fun g1 => ?_)
 refine r_alloc [_, _, _, _, _, _, _, _] 8 (fun g => [_, _, ⟨some g, 27, _, 8, true⟩]) rfl rfl z27 rfl rfl (fun _ => rfl) (fun g2 => ?_)
 refine run_nil ?_
 refine at_tn ?_
 refine at_seq ?_
 refine at_drawn (l' := [⟨_,_,_,_,_,_⟩, ⟨_,_,_,_,_,_⟩, ⟨_,_,_,_,_,_⟩, ⟨_,_,_,_,_,_⟩, ⟨_,_,_,_,_,_⟩, ⟨_,_,_,_,_,_⟩, ⟨_,_,_,_,_,_⟩, ⟨_,_,_,_,_,_⟩, ⟨_,_,_,_,_,_⟩, ⟨_,_,_,_,_,_⟩, ⟨_,_,_,_,_,_⟩, ⟨_,_,_,_,_,_⟩]) [] [0, 1, 2, 3, 5, 6, 7, 8, 4, 9, 10, 11] mixed (by kernel_rfl) rfl (by kernel_rfl) ?_
 refine r_fieldAddr 0 0 0 rfl rfl rfl rfl rfl ti27 rfl rfl ?_
 refine r_load 0 0 [_, _, _, _] rfl rfl rfl rfl ti25 rfl rfl rfl rfl ?_
 refine r_fieldAddr 1 0 0 rfl rfl rfl rfl rfl ti27 rfl rfl ?_
 refine r_load 1 0 [_, _, _, _] rfl rfl rfl rfl ti25 rfl rfl rfl rfl ?_
 refine r_fieldAddr 0 0 4 rfl rfl rfl rfl rfl ti27 rfl rfl ?_
 refine r_load 0 4 [_, _, _, _] rfl rfl rfl rfl ti25 rfl rfl rfl rfl ?_
 refine r_fieldAddr 1 0 4 rfl rfl rfl rfl rfl ti27 rfl rfl ?_
 refine r_load 1 4 [_, _, _, _] rfl rfl rfl rfl ti25 rfl rfl rfl rfl ?_
 refine r_pcall [_, _] rfl rfl rfl (c_rational_Add p.1 q.1 (Nat.le_trans (szP1 hp) (Nat.le_of_ble_eq_true rfl)) (Nat.le_trans (szP1 hq) (Nat.le_of_ble_eq_true rfl))) ?_
 refine r_pcall [_, _] rfl rfl rfl (c_rational_Add p.2 q.2 (Nat.le_trans (szP2 hp) (Nat.le_of_ble_eq_true rfl)) (Nat.le_trans (szP2 hq) (Nat.le_of_ble_eq_true rfl))) ?_
 refine r_build [(0, _), (1, _)] rfl rfl rfl (bd27_2) ?_
 refine r_store rfl 2 0 [_, _, ⟨some g2, 27, _, 8, true⟩] [_, _, _, _, _, _, _, _] rfl rfl rfl rfl ti27 rfl rfl rfl rfl rfl ?_
 refine run_nil ?_
 refine at_tn ?_
 refine at_ret ?_
 refine at_end1 rfl (res_cell 2 rfl rfl ti27 (vs := [_, _, _, _, _, _, _, _]) rfl rfl (Nat.le_of_ble_eq_true rfl) rfl) (fun w hL => ⟨?_, hL.below⟩)
 exact rfl
set_option maxRecDepth 20000 in
theorem c_plane_Scale (p : P2) (r : Rat) (hp : szP p ≤ 1000000) (hr : szQ r ≤ 1000000) : PCall Tryz.prog 20 #[Pt p, Q r] (Pt (pScale p r)) := by
 refine ⟨by kernel_rfl, fun w => ?_⟩
 refine calls_at (args := [Pt p, Q r]) Tryz.func20 rfl (Nat.le_of_ble_eq_true rfl) (LRel.nil w) ?_
 show At w ⟨14, [(0, Pt p), (1, Q r)], []⟩ _
 refine at_seq ?_
 refine at_region ?_
 refine r_box [_, _, _, _, _, _, _, _] 8 (fun g => [⟨some g, 27, _, 8, true⟩]) rfl rfl rfl rfl rfl (fun _ => rfl) (fun g0 => ?_)
 refine r_box [_, _, _, _] 4 (fun g => [_, ⟨some g, 25, _, 4, true⟩]) rfl rfl rfl rfl rfl (fun _ => rfl) (fun g1 => ?_)
 refine r_alloc [_, _, _, _, _, _, _, _] 8 (fun g => [_, _, ⟨some g, 27, _, 8, true⟩]) rfl rfl z27 rfl rfl (fun _ => rfl) (fun g2 => ?_)
 refine run_nil ?_
 refine at_tn ?_
 refine at_seq ?_
 refine at_drawn (l' := [⟨_,_,_,_,_,_⟩, ⟨_,_,_,_,_,_⟩, ⟨_,_,_,_,_,_⟩, ⟨_,_,_,_,_,_⟩, ⟨_,_,_,_,_,_⟩, ⟨_,_,_,_,_,_⟩, ⟨_,_,_,_,_,_⟩, ⟨_,_,_,_,_,_⟩, ⟨_,_,_,_,_,_⟩, ⟨_,_,_,_,_,_⟩]) [] [0, 1, 2, 4, 5, 6, 3, 7, 8, 9] mixed (by kernel_rfl) rfl (by kernel_rfl) ?_
 refine r_fieldAddr 0 0 0 rfl rfl rfl rfl rfl ti27 rfl rfl ?_
 refine r_load 0 0 [_, _, _, _] rfl rfl rfl rfl ti25 rfl rfl rfl rfl ?_
 refine r_load 1 0 [_, _, _, _] rfl rfl rfl rfl ti25 rfl rfl rfl rfl ?_
 refine r_fieldAddr 0 0 4 rfl rfl rfl rfl rfl ti27 rfl rfl ?_
 refine r_load 0 4 [_, _, _, _] rfl rfl rfl rfl ti25 rfl rfl rfl rfl ?_
 refine r_load 1 0 [_, _, _, _] rfl rfl rfl rfl ti25 rfl rfl rfl rfl ?_
 refine r_pcall [_, _] rfl rfl rfl (c_rational_Mul p.1 r (Nat.le_trans (szP1 hp) (Nat.le_of_ble_eq_true rfl)) (Nat.le_trans hr (Nat.le_of_ble_eq_true rfl))) ?_
 refine r_pcall [_, _] rfl rfl rfl (c_rational_Mul p.2 r (Nat.le_trans (szP2 hp) (Nat.le_of_ble_eq_true rfl)) (Nat.le_trans hr (Nat.le_of_ble_eq_true rfl))) ?_
 refine r_build [(0, _), (1, _)] rfl rfl rfl (bd27_2) ?_
 refine r_store rfl 2 0 [_, _, ⟨some g2, 27, _, 8, true⟩] [_, _, _, _, _, _, _, _] rfl rfl rfl rfl ti27 rfl rfl rfl rfl rfl ?_
 refine run_nil ?_
 refine at_tn ?_
 refine at_ret ?_
 refine at_end1 rfl (res_cell 2 rfl rfl ti27 (vs := [_, _, _, _, _, _, _, _]) rfl rfl (Nat.le_of_ble_eq_true rfl) rfl) (fun w hL => ⟨?_, hL.below⟩)
 exact rfl
set_option maxRecDepth 20000 in
theorem c_plane_Sub (p q : P2) (hp : szP p ≤ 900000) (hq : szP q ≤ 900000) : PCall Tryz.prog 18 #[Pt p, Pt q] (Pt (pSub p q)) := by
 refine ⟨by kernel_rfl, fun w => ?_⟩
 refine calls_at (args := [Pt p, Pt q]) Tryz.func18 rfl (Nat.le_of_ble_eq_true rfl) (LRel.nil w) ?_
 show At w ⟨16, [(0, Pt p), (1, Pt q)], []⟩ _
 refine at_seq ?_
 refine at_region ?_
 refine r_box [_, _, _, _, _, _, _, _] 8 (fun g => [⟨some g, 27, _, 8, true⟩]) rfl rfl rfl rfl rfl (fun _ => rfl) (fun g0 => ?_)
 refine r_box [_, _, _, _, _, _, _, _] 8 (fun g => [_, ⟨some g, 27, _, 8, true⟩]) rfl rfl rfl rfl rfl (fun _ => rfl) (fun g1 => ?_)
 refine r_alloc [_, _, _, _, _, _, _, _] 8 (fun g => [_, _, ⟨some g, 27, _, 8, true⟩]) rfl rfl z27 rfl rfl (fun _ => rfl) (fun g2 => ?_)
 refine run_nil ?_
 refine at_tn ?_
 refine at_seq ?_
 refine at_drawn (l' := [⟨_,_,_,_,_,_⟩, ⟨_,_,_,_,_,_⟩, ⟨_,_,_,_,_,_⟩, ⟨_,_,_,_,_,_⟩, ⟨_,_,_,_,_,_⟩, ⟨_,_,_,_,_,_⟩, ⟨_,_,_,_,_,_⟩, ⟨_,_,_,_,_,_⟩, ⟨_,_,_,_,_,_⟩, ⟨_,_,_,_,_,_⟩, ⟨_,_,_,_,_,_⟩, ⟨_,_,_,_,_,_⟩]) [] [0, 1, 2, 3, 5, 6, 7, 8, 4, 9, 10, 11] mixed (by kernel_rfl) rfl (by kernel_rfl) ?_
 refine r_fieldAddr 0 0 0 rfl rfl rfl rfl rfl ti27 rfl rfl ?_
 refine r_load 0 0 [_, _, _, _] rfl rfl rfl rfl ti25 rfl rfl rfl rfl ?_
 refine r_fieldAddr 1 0 0 rfl rfl rfl rfl rfl ti27 rfl rfl ?_
 refine r_load 1 0 [_, _, _, _] rfl rfl rfl rfl ti25 rfl rfl rfl rfl ?_
 refine r_fieldAddr 0 0 4 rfl rfl rfl rfl rfl ti27 rfl rfl ?_
 refine r_load 0 4 [_, _, _, _] rfl rfl rfl rfl ti25 rfl rfl rfl rfl ?_
 refine r_fieldAddr 1 0 4 rfl rfl rfl rfl rfl ti27 rfl rfl ?_
 refine r_load 1 4 [_, _, _, _] rfl rfl rfl rfl ti25 rfl rfl rfl rfl ?_
 refine r_pcall [_, _] rfl rfl rfl (c_rational_Sub p.1 q.1 (Nat.le_trans (szP1 hp) (Nat.le_of_ble_eq_true rfl)) (Nat.le_trans (szP1 hq) (Nat.le_of_ble_eq_true rfl))) ?_
 refine r_pcall [_, _] rfl rfl rfl (c_rational_Sub p.2 q.2 (Nat.le_trans (szP2 hp) (Nat.le_of_ble_eq_true rfl)) (Nat.le_trans (szP2 hq) (Nat.le_of_ble_eq_true rfl))) ?_
 refine r_build [(0, _), (1, _)] rfl rfl rfl (bd27_2) ?_
 refine r_store rfl 2 0 [_, _, ⟨some g2, 27, _, 8, true⟩] [_, _, _, _, _, _, _, _] rfl rfl rfl rfl ti27 rfl rfl rfl rfl rfl ?_
 refine run_nil ?_
 refine at_tn ?_
 refine at_ret ?_
 refine at_end1 rfl (res_cell 2 rfl rfl ti27 (vs := [_, _, _, _, _, _, _, _]) rfl rfl (Nat.le_of_ble_eq_true rfl) rfl) (fun w hL => ⟨?_, hL.below⟩)
 exact rfl
set_option maxRecDepth 20000 in
theorem c_plane_Dot (p q : P2) (hp : szP p ≤ 300000) (hq : szP q ≤ 300000) : PCall Tryz.prog 22 #[Pt p, Pt q] (Q (dot p q)) := by
 refine ⟨by kernel_rfl, fun w => ?_⟩
 refine calls_at (args := [Pt p, Pt q]) Tryz.func22 rfl (Nat.le_of_ble_eq_true rfl) (LRel.nil w) ?_
 show At w ⟨16, [(0, Pt p), (1, Pt q)], []⟩ _
 refine at_seq ?_
 refine at_region ?_
 refine r_box [_, _, _, _, _, _, _, _] 8 (fun g => [⟨some g, 27, _, 8, true⟩]) rfl rfl rfl rfl rfl (fun _ => rfl) (fun g0 => ?_)
 refine r_box [_, _, _, _, _, _, _, _] 8 (fun g => [_, ⟨some g, 27, _, 8, true⟩]) rfl rfl rfl rfl rfl (fun _ => rfl) (fun g1 => ?_)
 refine r_alloc [_, _, _, _] 4 (fun g => [_, _, ⟨some g, 25, _, 4, true⟩]) rfl rfl z25 rfl rfl (fun _ => rfl) (fun g2 => ?_)
 refine run_nil ?_
 refine at_tn ?_
 refine at_seq ?_
 refine at_drawn (l' := [⟨_,_,_,_,_,_⟩, ⟨_,_,_,_,_,_⟩, ⟨_,_,_,_,_,_⟩, ⟨_,_,_,_,_,_⟩, ⟨_,_,_,_,_,_⟩, ⟨_,_,_,_,_,_⟩, ⟨_,_,_,_,_,_⟩, ⟨_,_,_,_,_,_⟩, ⟨_,_,_,_,_,_⟩, ⟨_,_,_,_,_,_⟩, ⟨_,_,_,_,_,_⟩, ⟨_,_,_,_,_,_⟩]) [] [0, 1, 2, 3, 5, 6, 7, 8, 4, 9, 10, 11] mixed (by kernel_rfl) rfl (by kernel_rfl) ?_
 refine r_fieldAddr 0 0 0 rfl rfl rfl rfl rfl ti27 rfl rfl ?_
 refine r_load 0 0 [_, _, _, _] rfl rfl rfl rfl ti25 rfl rfl rfl rfl ?_
 refine r_fieldAddr 1 0 0 rfl rfl rfl rfl rfl ti27 rfl rfl ?_
 refine r_load 1 0 [_, _, _, _] rfl rfl rfl rfl ti25 rfl rfl rfl rfl ?_
 refine r_fieldAddr 0 0 4 rfl rfl rfl rfl rfl ti27 rfl rfl ?_
 refine r_load 0 4 [_, _, _, _] rfl rfl rfl rfl ti25 rfl rfl rfl rfl ?_
 refine r_fieldAddr 1 0 4 rfl rfl rfl rfl rfl ti27 rfl rfl ?_
 refine r_load 1 4 [_, _, _, _] rfl rfl rfl rfl ti25 rfl rfl rfl rfl ?_
 refine r_pcall [_, _] rfl rfl rfl (c_rational_Mul p.1 q.1 (Nat.le_trans (szP1 hp) (Nat.le_of_ble_eq_true rfl)) (Nat.le_trans (szP1 hq) (Nat.le_of_ble_eq_true rfl))) ?_
 refine r_pcall [_, _] rfl rfl rfl (c_rational_Mul p.2 q.2 (Nat.le_trans (szP2 hp) (Nat.le_of_ble_eq_true rfl)) (Nat.le_trans (szP2 hq) (Nat.le_of_ble_eq_true rfl))) ?_
 refine r_pcall [_, _] rfl rfl rfl (c_rational_Add (p.1 * q.1) (p.2 * q.2) (Nat.le_trans (szQ_mul (szP1 hp) (szP1 hq)) (Nat.le_of_ble_eq_true rfl)) (Nat.le_trans (szQ_mul (szP2 hp) (szP2 hq)) (Nat.le_of_ble_eq_true rfl))) ?_
 refine r_store rfl 2 0 [_, _, ⟨some g2, 25, _, 4, true⟩] [_, _, _, _] rfl rfl rfl rfl ti25 rfl rfl rfl rfl rfl ?_
 refine run_nil ?_
 refine at_tn ?_
 refine at_ret ?_
 refine at_end1 rfl (res_cell 2 rfl rfl ti25 (vs := [_, _, _, _]) rfl rfl (Nat.le_of_ble_eq_true rfl) rfl) (fun w hL => ⟨?_, hL.below⟩)
 exact rfl
set_option maxRecDepth 20000 in
theorem c_plane_CrossProduct (p q : P2) (hp : szP p ≤ 300000) (hq : szP q ≤ 300000) : PCall Tryz.prog 24 #[Pt p, Pt q] (Q (crs p q)) := by
 refine ⟨by kernel_rfl, fun w => ?_⟩
 refine calls_at (args := [Pt p, Pt q]) Tryz.func24 rfl (Nat.le_of_ble_eq_true rfl) (LRel.nil w) ?_
 show At w ⟨16, [(0, Pt p), (1, Pt q)], []⟩ _
 refine at_seq ?_
 refine at_region ?_
 refine r_box [_, _, _, _, _, _, _, _] 8 (fun g => [⟨some g, 27, _, 8, true⟩]) rfl rfl rfl rfl rfl (fun _ => rfl) (fun g0 => ?_)
 refine r_box [_, _, _, _, _, _, _, _] 8 (fun g => [_, ⟨some g, 27, _, 8, true⟩]) rfl rfl rfl rfl rfl (fun _ => rfl) (fun g1 => ?_)
 refine r_alloc [_, _, _, _] 4 (fun g => [_, _, ⟨some g, 25, _, 4, true⟩]) rfl rfl z25 rfl rfl (fun _ => rfl) (fun g2 => ?_)
 refine run_nil ?_
 refine at_tn ?_
 refine at_seq ?_
 refine at_drawn (l' := [⟨_,_,_,_,_,_⟩, ⟨_,_,_,_,_,_⟩, ⟨_,_,_,_,_,_⟩, ⟨_,_,_,_,_,_⟩, ⟨_,_,_,_,_,_⟩, ⟨_,_,_,_,_,_⟩, ⟨_,_,_,_,_,_⟩, ⟨_,_,_,_,_,_⟩, ⟨_,_,_,_,_,_⟩, ⟨_,_,_,_,_,_⟩, ⟨_,_,_,_,_,_⟩, ⟨_,_,_,_,_,_⟩]) [] [0, 1, 2, 3, 5, 6, 7, 8, 4, 9, 10, 11] mixed (by kernel_rfl) rfl (by kernel_rfl) ?_
 refine r_fieldAddr 0 0 0 rfl rfl rfl rfl rfl ti27 rfl rfl ?_
 refine r_load 0 0 [_, _, _, _] rfl rfl rfl rfl ti25 rfl rfl rfl rfl ?_
 refine r_fieldAddr 1 0 4 rfl rfl rfl rfl rfl ti27 rfl rfl ?_
 refine r_load 1 4 [_, _, _, _] rfl rfl rfl rfl ti25 rfl rfl rfl rfl ?_
 refine r_fieldAddr 0 0 4 rfl rfl rfl rfl rfl ti27 rfl rfl ?_
 refine r_load 0 4 [_, _, _, _] rfl rfl rfl rfl ti25 rfl rfl rfl rfl ?_
 refine r_fieldAddr 1 0 0 rfl rfl rfl rfl rfl ti27 rfl rfl ?_
 refine r_load 1 0 [_, _, _, _] rfl rfl rfl rfl ti25 rfl rfl rfl rfl ?_
 refine r_pcall [_, _] rfl rfl rfl (c_rational_Mul p.1 q.2 (Nat.le_trans (szP1 hp) (Nat.le_of_ble_eq_true rfl)) (Nat.le_trans (szP2 hq) (Nat.le_of_ble_eq_true rfl))) ?_
 refine r_pcall [_, _] rfl rfl rfl (c_rational_Mul p.2 q.1 (Nat.le_trans (szP2 hp) (Nat.le_of_ble_eq_true rfl)) (Nat.le_trans (szP1 hq) (Nat.le_of_ble_eq_true rfl))) ?_
 refine r_pcall [_, _] rfl rfl rfl (c_rational_Sub (p.1 * q.2) (p.2 * q.1) (Nat.le_trans (szQ_mul (szP1 hp) (szP2 hq)) (Nat.le_of_ble_eq_true rfl)) (Nat.le_trans (szQ_mul (szP2 hp) (szP1 hq)) (Nat.le_of_ble_eq_true rfl))) ?_
 refine r_store rfl 2 0 [_, _, ⟨some g2, 25, _, 4, true⟩] [_, _, _, _] rfl rfl rfl rfl ti25 rfl rfl rfl rfl rfl ?_
 refine run_nil ?_
 refine at_tn ?_
 refine at_ret ?_
 refine at_end1 rfl (res_cell 2 rfl rfl ti25 (vs := [_, _, _, _]) rfl rfl (Nat.le_of_ble_eq_true rfl) rfl) (fun w hL => ⟨?_, hL.below⟩)
 exact rfl
set_option maxRecDepth 20000 in
theorem c_plane_Compare (p q : P2) (hp : szP p ≤ 1000000) (hq : szP q ≤ 1000000) : PCall Tryz.prog 31 #[Pt p, Pt q] (.int .i64 (cmpP p q)) := by
 refine ⟨by kernel_rfl, fun w => ?_⟩
 refine calls_at (args := [Pt p, Pt q]) Tryz.func31 rfl (Nat.le_of_ble_eq_true rfl) (LRel.nil w) ?_
 show At w ⟨19, [(0, Pt p), (1, Pt q)], []⟩ _
 refine at_seq ?_
 refine at_region ?_
 refine r_box [_, _, _, _, _, _, _, _] 8 (fun g => [⟨some g, 27, _, 8, true⟩]) rfl rfl rfl rfl rfl (fun _ => rfl) (fun g0 => ?_)
 refine r_box [_, _, _, _, _, _, _, _] 8 (fun g => [_, ⟨some g, 27, _, 8, true⟩]) rfl rfl rfl rfl rfl (fun _ => rfl) (fun g1 => ?_)
 refine r_assign rfl rfl rfl ?_
 refine run_nil ?_
 refine at_tn ?_
 refine at_seq ?_
 refine at_seq ?_
 refine at_region ?_
 refine r_fieldAddr 0 0 0 rfl rfl rfl rfl rfl ti27 rfl rfl ?_
 refine r_load 0 0 [_, _, _, _] rfl rfl rfl rfl ti25 rfl rfl rfl rfl ?_
 refine r_fieldAddr 1 0 0 rfl rfl rfl rfl rfl ti27 rfl rfl ?_
 refine r_load 1 0 [_, _, _, _] rfl rfl rfl rfl ti25 rfl rfl rfl rfl ?_
 refine r_pcall [_, _] rfl rfl rfl (c_rational_Compare p.1 q.1 (Nat.le_trans (szP1 hp) (Nat.le_of_ble_eq_true rfl)) (Nat.le_trans (szP1 hq) (Nat.le_of_ble_eq_true rfl))) ?_
 refine r_assign rfl rfl rfl ?_
 refine run_nil ?_
 refine at_tn ?_
 refine at_seq ?_
 refine at_region ?_
 refine r_move rfl rfl rfl ?_
 refine r_cmpInt rfl rfl rfl rfl rfl ?_
 refine run_nil ?_
 refine at_tn ?_
 refine at_cond rfl (fun hb0 => ?_) (fun hb0 => ?_)
 ·
  refine at_seq ?_
  refine at_region ?_
  refine r_move rfl rfl rfl ?_
  refine r_assign rfl rfl rfl ?_
  refine run_nil ?_
  refine at_tn ?_
  refine at_ret ?_
  refine at_tr ?_
  refine at_end1 rfl (res_tmp rfl) (fun w hL => ⟨?_, hL.below⟩)
  exact congrArg (fun z => Ending.returned (.int .i64 z)) (cmpP_T hb0)
 ·
  refine at_skip ?_
  refine at_tn ?_
  refine at_seq ?_
  refine at_region ?_
  refine r_fieldAddr 0 0 4 rfl rfl rfl rfl rfl ti27 rfl rfl ?_
  refine r_load 0 4 [_, _, _, _] rfl rfl rfl rfl ti25 rfl rfl rfl rfl ?_
  refine r_fieldAddr 1 0 4 rfl rfl rfl rfl rfl ti27 rfl rfl ?_
  refine r_load 1 4 [_, _, _, _] rfl rfl rfl rfl ti25 rfl rfl rfl rfl ?_
  refine r_pcall [_, _] rfl rfl rfl (c_rational_Compare p.2 q.2 (Nat.le_trans (szP2 hp) (Nat.le_of_ble_eq_true rfl)) (Nat.le_trans (szP2 hq) (Nat.le_of_ble_eq_true rfl))) ?_
  refine r_assign rfl rfl rfl ?_
  refine run_nil ?_
  refine at_tn ?_
  refine at_ret ?_
  refine at_end1 rfl (res_tmp rfl) (fun w hL => ⟨?_, hL.below⟩)
  exact congrArg (fun z => Ending.returned (.int .i64 z)) (cmpP_F hb0)
set_option maxRecDepth 20000 in
theorem c_plane_Orientation (a b c : P2) (ha : szP a ≤ 100000) (hb : szP b ≤ 100000) (hc : szP c ≤ 100000) : PCall Tryz.prog 37 #[Pt a, Pt b, Pt c] (.int .i64 (ori a b c)) := by
 refine ⟨by kernel_rfl, fun w => ?_⟩
 refine calls_at (args := [Pt a, Pt b, Pt c]) Tryz.func37 rfl (Nat.le_of_ble_eq_true rfl) (LRel.nil w) ?_
 show At w ⟨15, [(0, Pt a), (1, Pt b), (2, Pt c)], []⟩ _
 refine at_seq ?_
 refine at_region ?_
 refine r_box [_, _, _, _, _, _, _, _] 8 (fun g => [⟨some g, 27, _, 8, true⟩]) rfl rfl rfl rfl rfl (fun _ => rfl) (fun g0 => ?_)
 refine r_box [_, _, _, _, _, _, _, _] 8 (fun g => [_, ⟨some g, 27, _, 8, true⟩]) rfl rfl rfl rfl rfl (fun _ => rfl) (fun g1 => ?_)
 refine r_box [_, _, _, _, _, _, _, _] 8 (fun g => [_, _, ⟨some g, 27, _, 8, true⟩]) rfl rfl rfl rfl rfl (fun _ => rfl) (fun g2 => ?_)
 refine r_assign rfl rfl rfl ?_
 refine run_nil ?_
 refine at_tn ?_
 refine at_seq ?_
 refine at_drawn (l' := [⟨_,_,_,_,_,_⟩, ⟨_,_,_,_,_,_⟩, ⟨_,_,_,_,_,_⟩, ⟨_,_,_,_,_,_⟩, ⟨_,_,_,_,_,_⟩, ⟨_,_,_,_,_,_⟩, ⟨_,_,_,_,_,_⟩, ⟨_,_,_,_,_,_⟩, ⟨_,_,_,_,_,_⟩]) [] [0, 1, 3, 4, 2, 5, 6, 7, 8] mixed (by kernel_rfl) rfl (by kernel_rfl) ?_
 refine r_load 1 0 [_, _, _, _, _, _, _, _] rfl rfl rfl rfl ti27 rfl rfl rfl rfl ?_
 refine r_load 0 0 [_, _, _, _, _, _, _, _] rfl rfl rfl rfl ti27 rfl rfl rfl rfl ?_
 refine r_load 2 0 [_, _, _, _, _, _, _, _] rfl rfl rfl rfl ti27 rfl rfl rfl rfl ?_
 refine r_load 0 0 [_, _, _, _, _, _, _, _] rfl rfl rfl rfl ti27 rfl rfl rfl rfl ?_
 refine r_pcall [_, _] rfl rfl rfl (c_plane_Sub b a (szPm (Nat.le_trans (szP1 hb) (Nat.le_of_ble_eq_true rfl)) (Nat.le_trans (szP2 hb) (Nat.le_of_ble_eq_true rfl))) (szPm (Nat.le_trans (szP1 ha) (Nat.le_of_ble_eq_true rfl)) (Nat.le_trans (szP2 ha) (Nat.le_of_ble_eq_true rfl)))) ?_
 refine r_pcall [_, _] rfl rfl rfl (c_plane_Sub c a (szPm (Nat.le_trans (szP1 hc) (Nat.le_of_ble_eq_true rfl)) (Nat.le_trans (szP2 hc) (Nat.le_of_ble_eq_true rfl))) (szPm (Nat.le_trans (szP1 ha) (Nat.le_of_ble_eq_true rfl)) (Nat.le_trans (szP2 ha) (Nat.le_of_ble_eq_true rfl)))) ?_
 refine r_pcall [_, _] rfl rfl rfl (c_plane_CrossProduct (pSub b a) (pSub c a) (szPm (Nat.le_trans (szQ_sub (szP1 hb) (szP1 ha)) (Nat.le_of_ble_eq_true rfl)) (Nat.le_trans (szQ_sub (szP2 hb) (szP2 ha)) (Nat.le_of_ble_eq_true rfl))) (szPm (Nat.le_trans (szQ_sub (szP1 hc) (szP1 ha)) (Nat.le_of_ble_eq_true rfl)) (Nat.le_trans (szQ_sub (szP2 hc) (szP2 ha)) (Nat.le_of_ble_eq_true rfl)))) ?_
 refine r_pcall [_] rfl rfl rfl (c_rational_Sign (crs (pSub b a) (pSub c a))) ?_
 refine r_assign rfl rfl rfl ?_
 refine run_nil ?_
 refine at_tn ?_
 refine at_ret ?_
 refine at_end1 rfl (res_tmp rfl) (fun w hL => ⟨?_, hL.below⟩)
 exact rfl
set_option maxRecDepth 20000 in
theorem c_plane_Divide (s : S2) (r : Rat) (hs : szS s ≤ 200000) (hr : szQ r ≤ 200000) : PCall Tryz.prog 29 #[Sg s, Q r] (Pt (divP s r)) := by
 refine ⟨by kernel_rfl, fun w => ?_⟩
 refine calls_at (args := [Sg s, Q r]) Tryz.func29 rfl (Nat.le_of_ble_eq_true rfl) (LRel.nil w) ?_
 show At w ⟨15, [(0, Sg s), (1, Q r)], []⟩ _
 refine at_seq ?_
 refine at_region ?_
 refine r_box [_, _, _, _, _, _, _, _, _, _, _, _, _, _, _, _] 16 (fun g => [⟨some g, 36, _, 16, true⟩]) rfl rfl rfl rfl rfl (fun _ => rfl) (fun g0 => ?_)
 refine r_box [_, _, _, _] 4 (fun g => [_, ⟨some g, 25, _, 4, true⟩]) rfl rfl rfl rfl rfl (fun _ => rfl) (fun g1 => ?_)
 refine r_alloc [_, _, _, _, _, _, _, _] 8 (fun g => [_, _, ⟨some g, 27, _, 8, true⟩]) rfl rfl z27 rfl rfl (fun _ => rfl) (fun g2 => ?_)
 refine run_nil ?_
 refine at_tn ?_
 refine at_seq ?_
 refine at_drawn (l' := [⟨_,_,_,_,_,_⟩, ⟨_,_,_,_,_,_⟩, ⟨_,_,_,_,_,_⟩, ⟨_,_,_,_,_,_⟩, ⟨_,_,_,_,_,_⟩, ⟨_,_,_,_,_,_⟩, ⟨_,_,_,_,_,_⟩, ⟨_,_,_,_,_,_⟩, ⟨_,_,_,_,_,_⟩, ⟨_,_,_,_,_,_⟩, ⟨_,_,_,_,_,_⟩]) [] [0, 1, 2, 3, 4, 5, 7, 6, 8, 9, 10] mixed (by kernel_rfl) rfl (by kernel_rfl) ?_
 refine r_fieldAddr 0 0 0 rfl rfl rfl rfl rfl ti36 rfl rfl ?_
 refine r_load 0 0 [_, _, _, _, _, _, _, _] rfl rfl rfl rfl ti27 rfl rfl rfl rfl ?_
 refine r_fieldAddr 0 0 8 rfl rfl rfl rfl rfl ti36 rfl rfl ?_
 refine r_load 0 8 [_, _, _, _, _, _, _, _] rfl rfl rfl rfl ti27 rfl rfl rfl rfl ?_
 refine r_fieldAddr 0 0 0 rfl rfl rfl rfl rfl ti36 rfl rfl ?_
 refine r_load 0 0 [_, _, _, _, _, _, _, _] rfl rfl rfl rfl ti27 rfl rfl rfl rfl ?_
 refine r_load 1 0 [_, _, _, _] rfl rfl rfl rfl ti25 rfl rfl rfl rfl ?_
 refine r_pcall [_, _] rfl rfl rfl (c_plane_Sub s.2 s.1 (szPm (Nat.le_trans (szP1 (szS2 hs)) (Nat.le_of_ble_eq_true rfl)) (Nat.le_trans (szP2 (szS2 hs)) (Nat.le_of_ble_eq_true rfl))) (szPm (Nat.le_trans (szP1 (szS1 hs)) (Nat.le_of_ble_eq_true rfl)) (Nat.le_trans (szP2 (szS1 hs)) (Nat.le_of_ble_eq_true rfl)))) ?_
 refine r_pcall [_, _] rfl rfl rfl (c_plane_Scale (pSub s.2 s.1) r (szPm (Nat.le_trans (szQ_sub (szP1 (szS2 hs)) (szP1 (szS1 hs))) (Nat.le_of_ble_eq_true rfl)) (Nat.le_trans (szQ_sub (szP2 (szS2 hs)) (szP2 (szS1 hs))) (Nat.le_of_ble_eq_true rfl))) (Nat.le_trans hr (Nat.le_of_ble_eq_true rfl))) ?_
 refine r_pcall [_, _] rfl rfl rfl (c_plane_Add s.1 (pScale (pSub s.2 s.1) r) (szPm (Nat.le_trans (szP1 (szS1 hs)) (Nat.le_of_ble_eq_true rfl)) (Nat.le_trans (szP2 (szS1 hs)) (Nat.le_of_ble_eq_true rfl))) (szPm (Nat.le_trans (szQ_mul (szQ_sub (szP1 (szS2 hs)) (szP1 (szS1 hs))) hr) (Nat.le_of_ble_eq_true rfl)) (Nat.le_trans (szQ_mul (szQ_sub (szP2 (szS2 hs)) (szP2 (szS1 hs))) hr) (Nat.le_of_ble_eq_true rfl)))) ?_
 refine r_store rfl 2 0 [_, _, ⟨some g2, 27, _, 8, true⟩] [_, _, _, _, _, _, _, _] rfl rfl rfl rfl ti27 rfl rfl rfl rfl rfl ?_
 refine run_nil ?_
 refine at_tn ?_
 refine at_ret ?_
 refine at_end1 rfl (res_cell 2 rfl rfl ti27 (vs := [_, _, _, _, _, _, _, _]) rfl rfl (Nat.le_of_ble_eq_true rfl) rfl) (fun w hL => ⟨?_, hL.below⟩)
 exact rfl
end Go.Proofs.YthnlafhnpphdhaaGreatDoor
set_option linter.unusedVariables false
namespace Go.Proofs.YthnlafhnpphdhaaGreatDoor
open Go Go.RowKit Go.Via
set_option maxRecDepth 20000 in
theorem c_plane_OnSegment (p : P2) (s : S2) (hp : szP p ≤ 100000) (hs : szS s ≤ 100000) : PCall Tryz.prog 28 #[Pt p, Sg s] (.bool (decide (onS p s))) := by
 have hc1 := cmpP_cases s.1 p
 have hc2 := cmpP_cases p s.2
 have hc3 : -1 ≤ cmpP s.1 p * cmpP p s.2 ∧ cmpP s.1 p * cmpP p s.2 ≤ 1 := by rcases hc1 with h | h | h <;> rcases hc2 with g | g | g <;> rw [h, g] <;> decide
 refine ⟨by kernel_rfl, fun w => ?_⟩
 refine calls_at (args := [Pt p, Sg s]) Tryz.func28 rfl (Nat.le_of_ble_eq_true rfl) (LRel.nil w) ?_
 show At w ⟨39, [(0, Pt p), (1, Sg s)], []⟩ _
 refine at_seq ?_
 refine at_region ?_
 refine r_box [_, _, _, _, _, _, _, _] 8 (fun g => [⟨some g, 27, _, 8, true⟩]) rfl rfl rfl rfl rfl (fun _ => rfl) (fun g0 => ?_)
 refine r_box [_, _, _, _, _, _, _, _, _, _, _, _, _, _, _, _] 16 (fun g => [_, ⟨some g, 36, _, 16, true⟩]) rfl rfl rfl rfl rfl (fun _ => rfl) (fun g1 => ?_)
 refine r_assign rfl rfl rfl ?_
 refine run_nil ?_
 refine at_tn ?_
 refine at_seq ?_
 refine at_seq ?_
 refine at_region ?_
 refine r_fieldAddr 1 0 0 rfl rfl rfl rfl rfl ti36 rfl rfl ?_
 refine r_load 1 0 [_, _, _, _, _, _, _, _] rfl rfl rfl rfl ti27 rfl rfl rfl rfl ?_
 refine r_fieldAddr 1 0 8 rfl rfl rfl rfl rfl ti36 rfl rfl ?_
 refine r_load 1 8 [_, _, _, _, _, _, _, _] rfl rfl rfl rfl ti27 rfl rfl rfl rfl ?_
 refine r_load 0 0 [_, _, _, _, _, _, _, _] rfl rfl rfl rfl ti27 rfl rfl rfl rfl ?_
 refine r_pcall [_, _, _] rfl rfl rfl (c_plane_Orientation s.1 s.2 p (szPm (Nat.le_trans (szP1 (szS1 hs)) (Nat.le_of_ble_eq_true rfl)) (Nat.le_trans (szP2 (szS1 hs)) (Nat.le_of_ble_eq_true rfl))) (szPm (Nat.le_trans (szP1 (szS2 hs)) (Nat.le_of_ble_eq_true rfl)) (Nat.le_trans (szP2 (szS2 hs)) (Nat.le_of_ble_eq_true rfl))) (szPm (Nat.le_trans (szP1 hp) (Nat.le_of_ble_eq_true rfl)) (Nat.le_trans (szP2 hp) (Nat.le_of_ble_eq_true rfl)))) ?_
 refine r_cmpInt rfl rfl rfl rfl rfl ?_
 refine run_nil ?_
 refine at_tn ?_
 refine at_cond rfl (fun hb0 => ?_) (fun hb0 => ?_)
 ·
  refine at_seq ?_
  refine at_region ?_
  refine r_assign rfl rfl rfl ?_
  refine run_nil ?_
  refine at_tn ?_
  refine at_ret ?_
  refine at_tr ?_
  refine at_end1 rfl (res_tmp rfl) (fun w hL => ⟨?_, hL.below⟩)
  clear hc1 hc2 hc3
  exact congrArg (fun z => Ending.returned (.bool z)) (by first | (simp_all [onS]; done) | (simp_all [onS]; omega))
 ·
  refine at_skip ?_
  refine at_tn ?_
  refine at_seq ?_
  refine at_drawn (l' := [⟨_,_,_,_,_,_⟩, ⟨_,_,_,_,_,_⟩, ⟨_,_,_,_,_,_⟩, ⟨_,_,_,_,_,_⟩, ⟨_,_,_,_,_,_⟩, ⟨_,_,_,_,_,_⟩, ⟨_,_,_,_,_,_⟩, ⟨_,_,_,_,_,_⟩, ⟨_,_,_,_,_,_⟩, ⟨_,_,_,_,_,_⟩]) [] [0, 1, 2, 4, 5, 6, 3, 7, 8, 9] mixed (by kernel_rfl) rfl (by kernel_rfl) ?_
  refine r_fieldAddr 1 0 0 rfl rfl rfl rfl rfl ti36 rfl rfl ?_
  refine r_load 1 0 [_, _, _, _, _, _, _, _] rfl rfl rfl rfl ti27 rfl rfl rfl rfl ?_
  refine r_load 0 0 [_, _, _, _, _, _, _, _] rfl rfl rfl rfl ti27 rfl rfl rfl rfl ?_
  refine r_load 0 0 [_, _, _, _, _, _, _, _] rfl rfl rfl rfl ti27 rfl rfl rfl rfl ?_
  refine r_fieldAddr 1 0 8 rfl rfl rfl rfl rfl ti36 rfl rfl ?_
  refine r_load 1 8 [_, _, _, _, _, _, _, _] rfl rfl rfl rfl ti27 rfl rfl rfl rfl ?_
  refine r_pcall [_, _] rfl rfl rfl (c_plane_Compare s.1 p (szPm (Nat.le_trans (szP1 (szS1 hs)) (Nat.le_of_ble_eq_true rfl)) (Nat.le_trans (szP2 (szS1 hs)) (Nat.le_of_ble_eq_true rfl))) (szPm (Nat.le_trans (szP1 hp) (Nat.le_of_ble_eq_true rfl)) (Nat.le_trans (szP2 hp) (Nat.le_of_ble_eq_true rfl)))) ?_
  refine r_pcall [_, _] rfl rfl rfl (c_plane_Compare p s.2 (szPm (Nat.le_trans (szP1 hp) (Nat.le_of_ble_eq_true rfl)) (Nat.le_trans (szP2 hp) (Nat.le_of_ble_eq_true rfl))) (szPm (Nat.le_trans (szP1 (szS2 hs)) (Nat.le_of_ble_eq_true rfl)) (Nat.le_trans (szP2 (szS2 hs)) (Nat.le_of_ble_eq_true rfl)))) ?_
  refine r_assign rfl rfl rfl ?_
  refine r_assign rfl rfl rfl ?_
  refine run_nil ?_
  refine at_tn ?_
  refine at_seq ?_
  refine at_region ?_
  refine r_move rfl rfl rfl ?_
  refine r_move rfl rfl rfl ?_
  refine r_arith (r := cmpP s.1 p * cmpP p s.2) rfl rfl rfl rfl (congrArg some (wi (by omega) (by omega) rfl)) ?_
  refine r_cmpInt rfl rfl rfl rfl rfl ?_
  refine r_move rfl rfl rfl ?_
  refine r_split 26 rfl (fun hb1 => ?_) (fun hb1 => ?_)
  ·
   refine r_fieldAddr 1 0 0 rfl rfl rfl rfl rfl ti36 rfl rfl ?_
   refine r_load 1 0 [_, _, _, _, _, _, _, _] rfl rfl rfl rfl ti27 rfl rfl rfl rfl ?_
   refine r_fieldAddr 1 0 8 rfl rfl rfl rfl rfl ti36 rfl rfl ?_
   refine r_load 1 8 [_, _, _, _, _, _, _, _] rfl rfl rfl rfl ti27 rfl rfl rfl rfl ?_
   refine r_neqAgg rfl rfl rfl rfl gd27 (eq27 _ _) ?_
   refine r_move rfl rfl rfl ?_
   refine r_split 32 rfl (fun hb2 => ?_) (fun hb2 => ?_)
   ·
    refine r_no rfl rfl rfl ?_
    refine r_no rfl rfl rfl ?_
    refine r_no rfl rfl rfl ?_
    refine r_no rfl rfl rfl ?_
    refine r_pickT rfl rfl rfl rfl ?_
    refine r_pickT rfl rfl rfl rfl ?_
    refine r_assign rfl rfl rfl ?_
    refine run_nil ?_
    refine at_tn ?_
    refine at_ret ?_
    refine at_end1 rfl (res_tmp rfl) (fun w hL => ⟨?_, hL.below⟩)
    clear hc1 hc2 hc3
    exact congrArg (fun z => Ending.returned (.bool z)) (by first | (simp_all [onS]; done) | (simp_all [onS]; omega))
   ·
    refine r_load 0 0 [_, _, _, _, _, _, _, _] rfl rfl rfl rfl ti27 rfl rfl rfl rfl ?_
    refine r_fieldAddr 1 0 0 rfl rfl rfl rfl rfl ti36 rfl rfl ?_
    refine r_load 1 0 [_, _, _, _, _, _, _, _] rfl rfl rfl rfl ti27 rfl rfl rfl rfl ?_
    refine r_eqlAgg rfl rfl rfl rfl gd27 (eq27 _ _) ?_
    refine r_pickF rfl rfl rfl rfl ?_
    refine r_pickT rfl rfl rfl rfl ?_
    refine r_assign rfl rfl rfl ?_
    refine run_nil ?_
    refine at_tn ?_
    refine at_ret ?_
    refine at_end1 rfl (res_tmp rfl) (fun w hL => ⟨?_, hL.below⟩)
    clear hc1 hc2 hc3
    exact congrArg (fun z => Ending.returned (.bool z)) (by first | (simp_all [onS]; done) | (simp_all [onS]; omega))
  ·
   refine r_no rfl rfl rfl ?_
   refine r_no rfl rfl rfl ?_
   refine r_no rfl rfl rfl ?_
   refine r_no rfl rfl rfl ?_
   refine r_no rfl rfl rfl ?_
   refine r_no rfl rfl rfl ?_
   refine r_no rfl rfl rfl ?_
   refine r_no rfl rfl rfl ?_
   refine r_no rfl rfl rfl ?_
   refine r_no rfl rfl rfl ?_
   refine r_no rfl rfl rfl ?_
   refine r_pickF rfl rfl rfl rfl ?_
   refine r_assign rfl rfl rfl ?_
   refine run_nil ?_
   refine at_tn ?_
   refine at_ret ?_
   refine at_end1 rfl (res_tmp rfl) (fun w hL => ⟨?_, hL.below⟩)
   clear hc1 hc2 hc3
   exact congrArg (fun z => Ending.returned (.bool z)) (by first | (simp_all [onS]; done) | (simp_all [onS]; omega))
end Go.Proofs.YthnlafhnpphdhaaGreatDoor
set_option linter.unusedVariables false
namespace Go.Proofs.YthnlafhnpphdhaaGreatDoor
open Go Go.RowKit Go.Via
set_option maxRecDepth 20000 in
theorem c_ref07_Whole (z : Int) (h1 : -9223372036854775808 ≤ z) (h2 : z ≤ 9223372036854775807) : PCall Tryz.prog 57 #[.int .i64 z] (Q (z : Rat)) := by
 refine ⟨by kernel_rfl, fun w => ?_⟩
 refine calls_at (args := [.int .i64 z]) Tryz.func57 rfl (Nat.le_of_ble_eq_true rfl) (LRel.nil w) ?_
 show At w ⟨6, [(0, .int .i64 z)], []⟩ _
 refine at_seq ?_
 refine at_region ?_
 refine r_alloc [_, _, _, _] 4 (fun g => [⟨some g, 25, _, 4, true⟩]) rfl rfl z25 rfl rfl (fun _ => rfl) (fun g0 => ?_)
 refine run_nil ?_
 refine at_tn ?_
 refine at_seq ?_
 refine at_region ?_
 refine r_move rfl rfl rfl ?_
 refine r_pcall [_] rfl rfl rfl (c_ref02_Int z h1 h2) ?_
 refine r_build [(0, _)] rfl rfl rfl (bd25_1) ?_
 refine r_store rfl 0 0 [⟨some g0, 25, _, 4, true⟩] [_, _, _, _] rfl rfl rfl rfl ti25 rfl rfl rfl rfl rfl ?_
 refine run_nil ?_
 refine at_tn ?_
 refine at_ret ?_
 refine at_end1 rfl (res_cell 0 rfl rfl ti25 (vs := [_, _, _, _]) rfl rfl (Nat.le_of_ble_eq_true rfl) rfl) (fun w hL => ⟨?_, hL.below⟩)
 exact rfl
set_option maxRecDepth 20000 in
theorem c_ref07_At (x y : Int) (h1 : -9223372036854775808 ≤ x) (h2 : x ≤ 9223372036854775807) (h3 : -9223372036854775808 ≤ y) (h4 : y ≤ 9223372036854775807) : PCall Tryz.prog 53 #[.int .i64 x, .int .i64 y] (Pt ((x : Rat), (y : Rat))) := by
 refine ⟨by kernel_rfl, fun w => ?_⟩
 refine calls_at (args := [.int .i64 x, .int .i64 y]) Tryz.func53 rfl (Nat.le_of_ble_eq_true rfl) (LRel.nil w) ?_
 show At w ⟨10, [(0, .int .i64 x), (1, .int .i64 y)], []⟩ _
 refine at_seq ?_
 refine at_region ?_
 refine r_alloc [_, _, _, _, _, _, _, _] 8 (fun g => [⟨some g, 27, _, 8, true⟩]) rfl rfl z27 rfl rfl (fun _ => rfl) (fun g0 => ?_)
 refine run_nil ?_
 refine at_tn ?_
 refine at_seq ?_
 refine at_region ?_
 refine r_move rfl rfl rfl ?_
 refine r_pcall [_] rfl rfl rfl (c_ref07_Whole x h1 h2) ?_
 refine r_move rfl rfl rfl ?_
 refine r_pcall [_] rfl rfl rfl (c_ref07_Whole y h3 h4) ?_
 refine r_build [(0, _), (1, _)] rfl rfl rfl (bd27_2) ?_
 refine r_store rfl 0 0 [⟨some g0, 27, _, 8, true⟩] [_, _, _, _, _, _, _, _] rfl rfl rfl rfl ti27 rfl rfl rfl rfl rfl ?_
 refine run_nil ?_
 refine at_tn ?_
 refine at_ret ?_
 refine at_end1 rfl (res_cell 0 rfl rfl ti27 (vs := [_, _, _, _, _, _, _, _]) rfl rfl (Nat.le_of_ble_eq_true rfl) rfl) (fun w hL => ⟨?_, hL.below⟩)
 exact rfl
set_option maxRecDepth 20000 in
theorem c_ref07_Add (p q : P2) (hp : szP p ≤ 1000000) (hq : szP q ≤ 1000000) : PCall Tryz.prog 17 #[Pt p, Pt q] (Pt (pAdd p q)) := by
 refine ⟨by kernel_rfl, fun w => ?_⟩
 refine calls_at (args := [Pt p, Pt q]) Tryz.func17 rfl (Nat.le_of_ble_eq_true rfl) (LRel.nil w) ?_
 show At w ⟨16, [(0, Pt p), (1, Pt q)], []⟩ _
 refine at_seq ?_
 refine at_region ?_
 refine r_box [_, _, _, _, _, _, _, _] 8 (fun g => [⟨some g, 27, _, 8, true⟩]) rfl rfl rfl rfl rfl (fun _ => rfl) (fun g0 => ?_)
 refine r_box [_, _, _, _, _, _, _, _] 8 (fun g => [_, ⟨some g, 27, _, 8, true⟩]) rfl rfl rfl rfl rfl (fun _ => rfl) (fun g1 => ?_)
 refine r_alloc [_, _, _, _, _, _, _, _] 8 (fun g => [_, _, ⟨some g, 27, _, 8, true⟩]) rfl rfl z27 rfl rfl (fun _ => rfl) (fun g2 => ?_)
 refine run_nil ?_
 refine at_tn ?_
 refine at_seq ?_
 refine at_drawn (l' := [⟨_,_,_,_,_,_⟩, ⟨_,_,_,_,_,_⟩, ⟨_,_,_,_,_,_⟩, ⟨_,_,_,_,_,_⟩, ⟨_,_,_,_,_,_⟩, ⟨_,_,_,_,_,_⟩, ⟨_,_,_,_,_,_⟩, ⟨_,_,_,_,_,_⟩, ⟨_,_,_,_,_,_⟩, ⟨_,_,_,_,_,_⟩, ⟨_,_,_,_,_,_⟩, ⟨_,_,_,_,_,_⟩]) [] [0, 1, 2, 3, 5, 6, 7, 8, 4, 9, 10, 11] mixed (by kernel_rfl) rfl (by kernel_rfl) ?_
 refine r_fieldAddr 0 0 0 rfl rfl rfl rfl rfl ti27 rfl rfl ?_
 refine r_load 0 0 [_, _, _, _] rfl rfl rfl rfl ti25 rfl rfl rfl rfl ?_
 refine r_fieldAddr 1 0 0 rfl rfl rfl rfl rfl ti27 rfl rfl ?_
 refine r_load 1 0 [_, _, _, _] rfl rfl rfl rfl ti25 rfl rfl rfl rfl ?_
 refine r_fieldAddr 0 0 4 rfl rfl rfl rfl rfl ti27 rfl rfl ?_
 refine r_load 0 4 [_, _, _, _] rfl rfl rfl rfl ti25 rfl rfl rfl rfl ?_
 refine r_fieldAddr 1 0 4 rfl rfl rfl rfl rfl ti27 rfl rfl ?_
 refine r_load 1 4 [_, _, _, _] rfl rfl rfl rfl ti25 rfl rfl rfl rfl ?_
 refine r_pcall [_, _] rfl rfl rfl (c_ref02_Add p.1 q.1 (Nat.le_trans (szP1 hp) (Nat.le_of_ble_eq_true rfl)) (Nat.le_trans (szP1 hq) (Nat.le_of_ble_eq_true rfl))) ?_
 refine r_pcall [_, _] rfl rfl rfl (c_ref02_Add p.2 q.2 (Nat.le_trans (szP2 hp) (Nat.le_of_ble_eq_true rfl)) (Nat.le_trans (szP2 hq) (Nat.le_of_ble_eq_true rfl))) ?_
 refine r_build [(0, _), (1, _)] rfl rfl rfl (bd27_2) ?_
 refine r_store rfl 2 0 [_, _, ⟨some g2, 27, _, 8, true⟩] [_, _, _, _, _, _, _, _] rfl rfl rfl rfl ti27 rfl rfl rfl rfl rfl ?_
 refine run_nil ?_
 refine at_tn ?_
 refine at_ret ?_
 refine at_end1 rfl (res_cell 2 rfl rfl ti27 (vs := [_, _, _, _, _, _, _, _]) rfl rfl (Nat.le_of_ble_eq_true rfl) rfl) (fun w hL => ⟨?_, hL.below⟩)
 exact rfl
set_option maxRecDepth 20000 in
theorem c_ref07_Scale (p : P2) (r : Rat) (hp : szP p ≤ 1000000) (hr : szQ r ≤ 1000000) : PCall Tryz.prog 21 #[Pt p, Q r] (Pt (pScale p r)) := by
 refine ⟨by kernel_rfl, fun w => ?_⟩
 refine calls_at (args := [Pt p, Q r]) Tryz.func21 rfl (Nat.le_of_ble_eq_true rfl) (LRel.nil w) ?_
 show At w ⟨14, [(0, Pt p), (1, Q r)], []⟩ _
 refine at_seq ?_
 refine at_region ?_
 refine r_box [_, _, _, _, _, _, _, _] 8 (fun g => [⟨some g, 27, _, 8, true⟩]) rfl rfl rfl rfl rfl (fun _ => rfl) (fun g0 => ?_)
 refine r_box [_, _, _, _] 4 (fun g => [_, ⟨some g, 25, _, 4, true⟩]) rfl rfl rfl rfl rfl (fun _ => rfl) (fun g1 => ?_)
 refine r_alloc [_, _, _, _, _, _, _, _] 8 (fun g => [_, _, ⟨some g, 27, _, 8, true⟩]) rfl rfl z27 rfl rfl (fun _ => rfl) (fun g2 => ?_)
 refine run_nil ?_
 refine at_tn ?_
 refine at_seq ?_
 refine at_drawn (l' := [⟨_,_,_,_,_,_⟩, ⟨_,_,_,_,_,_⟩, ⟨_,_,_,_,_,_⟩, ⟨_,_,_,_,_,_⟩, ⟨_,_,_,_,_,_⟩, ⟨_,_,_,_,_,_⟩, ⟨_,_,_,_,_,_⟩, ⟨_,_,_,_,_,_⟩, ⟨_,_,_,_,_,_⟩, ⟨_,_,_,_,_,_⟩]) [] [0, 1, 2, 4, 5, 6, 3, 7, 8, 9] mixed (by kernel_rfl) rfl (by kernel_rfl) ?_
 refine r_fieldAddr 0 0 0 rfl rfl rfl rfl rfl ti27 rfl rfl ?_
 refine r_load 0 0 [_, _, _, _] rfl rfl rfl rfl ti25 rfl rfl rfl rfl ?_
 refine r_load 1 0 [_, _, _, _] rfl rfl rfl rfl ti25 rfl rfl rfl rfl ?_
 refine r_fieldAddr 0 0 4 rfl rfl rfl rfl rfl ti27 rfl rfl ?_
 refine r_load 0 4 [_, _, _, _] rfl rfl rfl rfl ti25 rfl rfl rfl rfl ?_
 refine r_load 1 0 [_, _, _, _] rfl rfl rfl rfl ti25 rfl rfl rfl rfl ?_
 refine r_pcall [_, _] rfl rfl rfl (c_ref02_Mul p.1 r (Nat.le_trans (szP1 hp) (Nat.le_of_ble_eq_true rfl)) (Nat.le_trans hr (Nat.le_of_ble_eq_true rfl))) ?_
 refine r_pcall [_, _] rfl rfl rfl (c_ref02_Mul p.2 r (Nat.le_trans (szP2 hp) (Nat.le_of_ble_eq_true rfl)) (Nat.le_trans hr (Nat.le_of_ble_eq_true rfl))) ?_
 refine r_build [(0, _), (1, _)] rfl rfl rfl (bd27_2) ?_
 refine r_store rfl 2 0 [_, _, ⟨some g2, 27, _, 8, true⟩] [_, _, _, _, _, _, _, _] rfl rfl rfl rfl ti27 rfl rfl rfl rfl rfl ?_
 refine run_nil ?_
 refine at_tn ?_
 refine at_ret ?_
 refine at_end1 rfl (res_cell 2 rfl rfl ti27 (vs := [_, _, _, _, _, _, _, _]) rfl rfl (Nat.le_of_ble_eq_true rfl) rfl) (fun w hL => ⟨?_, hL.below⟩)
 exact rfl
set_option maxRecDepth 20000 in
theorem c_ref07_Sub (p q : P2) (hp : szP p ≤ 900000) (hq : szP q ≤ 900000) : PCall Tryz.prog 19 #[Pt p, Pt q] (Pt (pSub p q)) := by
 refine ⟨by kernel_rfl, fun w => ?_⟩
 refine calls_at (args := [Pt p, Pt q]) Tryz.func19 rfl (Nat.le_of_ble_eq_true rfl) (LRel.nil w) ?_
 show At w ⟨10, [(0, Pt p), (1, Pt q)], []⟩ _
 refine at_seq ?_
 refine at_region ?_
 refine r_box [_, _, _, _, _, _, _, _] 8 (fun g => [⟨some g, 27, _, 8, true⟩]) rfl rfl rfl rfl rfl (fun _ => rfl) (fun g0 => ?_)
 refine r_box [_, _, _, _, _, _, _, _] 8 (fun g => [_, ⟨some g, 27, _, 8, true⟩]) rfl rfl rfl rfl rfl (fun _ => rfl) (fun g1 => ?_)
 refine r_alloc [_, _, _, _, _, _, _, _] 8 (fun g => [_, _, ⟨some g, 27, _, 8, true⟩]) rfl rfl z27 rfl rfl (fun _ => rfl) (fun g2 => ?_)
 refine run_nil ?_
 refine at_tn ?_
 refine at_seq ?_
 refine at_drawn (l' := [⟨_,_,_,_,_,_⟩, ⟨_,_,_,_,_,_⟩, ⟨_,_,_,_,_,_⟩, ⟨_,_,_,_,_,_⟩, ⟨_,_,_,_,_,_⟩, ⟨_,_,_,_,_,_⟩]) [] [0, 1, 2, 3, 4, 5] mixed (by kernel_rfl) rfl (by kernel_rfl) ?_
 refine r_load 0 0 [_, _, _, _, _, _, _, _] rfl rfl rfl rfl ti27 rfl rfl rfl rfl ?_
 refine r_load 1 0 [_, _, _, _, _, _, _, _] rfl rfl rfl rfl ti27 rfl rfl rfl rfl ?_
 refine r_pcall [_] rfl rfl rfl (c_ref07_Whole (-1) (by omega) (by omega)) ?_
 refine r_pcall [_, _] rfl rfl rfl (c_ref07_Scale q (-1) (szPm (Nat.le_trans (szP1 hq) (Nat.le_of_ble_eq_true rfl)) (Nat.le_trans (szP2 hq) (Nat.le_of_ble_eq_true rfl))) (Nat.le_trans szQ_m1 (Nat.le_of_ble_eq_true rfl))) ?_
 refine r_pcall [_, _] rfl rfl rfl (c_ref07_Add p (pScale q (-1)) (szPm (Nat.le_trans (szP1 hp) (Nat.le_of_ble_eq_true rfl)) (Nat.le_trans (szP2 hp) (Nat.le_of_ble_eq_true rfl))) (szPm (Nat.le_trans (szQ_mul (szP1 hq) szQ_m1) (Nat.le_of_ble_eq_true rfl)) (Nat.le_trans (szQ_mul (szP2 hq) szQ_m1) (Nat.le_of_ble_eq_true rfl)))) ?_
 refine r_store rfl 2 0 [_, _, ⟨some g2, 27, _, 8, true⟩] [_, _, _, _, _, _, _, _] rfl rfl rfl rfl ti27 rfl rfl rfl rfl rfl ?_
 refine run_nil ?_
 refine at_tn ?_
 refine at_ret ?_
 refine at_end1 rfl (res_cell 2 rfl rfl ti27 (vs := [_, _, _, _, _, _, _, _]) rfl rfl (Nat.le_of_ble_eq_true rfl) rfl) (fun w hL => ⟨?_, hL.below⟩)
 exact congrArg (fun z => Ending.returned (Pt z)) (pSub_ref p q)
set_option maxRecDepth 20000 in
theorem c_ref07_Dot (p q : P2) (hp : szP p ≤ 300000) (hq : szP q ≤ 300000) : PCall Tryz.prog 23 #[Pt p, Pt q] (Q (dot p q)) := by
 refine ⟨by kernel_rfl, fun w => ?_⟩
 refine calls_at (args := [Pt p, Pt q]) Tryz.func23 rfl (Nat.le_of_ble_eq_true rfl) (LRel.nil w) ?_
 show At w ⟨16, [(0, Pt p), (1, Pt q)], []⟩ _
 refine at_seq ?_
 refine at_region ?_
 refine r_box [_, _, _, _, _, _, _, _] 8 (fun g => [⟨some g, 27, _, 8, true⟩]) rfl rfl rfl rfl rfl (fun _ => rfl) (fun g0 => ?_)
 refine r_box [_, _, _, _, _, _, _, _] 8 (fun g => [_, ⟨some g, 27, _, 8, true⟩]) rfl rfl rfl rfl rfl (fun _ => rfl) (fun g1 => ?_)
 refine r_alloc [_, _, _, _] 4 (fun g => [_, _, ⟨some g, 25, _, 4, true⟩]) rfl rfl z25 rfl rfl (fun _ => rfl) (fun g2 => ?_)
 refine run_nil ?_
 refine at_tn ?_
 refine at_seq ?_
 refine at_drawn (l' := [⟨_,_,_,_,_,_⟩, ⟨_,_,_,_,_,_⟩, ⟨_,_,_,_,_,_⟩, ⟨_,_,_,_,_,_⟩, ⟨_,_,_,_,_,_⟩, ⟨_,_,_,_,_,_⟩, ⟨_,_,_,_,_,_⟩, ⟨_,_,_,_,_,_⟩, ⟨_,_,_,_,_,_⟩, ⟨_,_,_,_,_,_⟩, ⟨_,_,_,_,_,_⟩, ⟨_,_,_,_,_,_⟩]) [] [0, 1, 2, 3, 5, 6, 7, 8, 4, 9, 10, 11] mixed (by kernel_rfl) rfl (by kernel_rfl) ?_
 refine r_fieldAddr 0 0 0 rfl rfl rfl rfl rfl ti27 rfl rfl ?_
 refine r_load 0 0 [_, _, _, _] rfl rfl rfl rfl ti25 rfl rfl rfl rfl ?_
 refine r_fieldAddr 1 0 0 rfl rfl rfl rfl rfl ti27 rfl rfl ?_
 refine r_load 1 0 [_, _, _, _] rfl rfl rfl rfl ti25 rfl rfl rfl rfl ?_
 refine r_fieldAddr 0 0 4 rfl rfl rfl rfl rfl ti27 rfl rfl ?_
 refine r_load 0 4 [_, _, _, _] rfl rfl rfl rfl ti25 rfl rfl rfl rfl ?_
 refine r_fieldAddr 1 0 4 rfl rfl rfl rfl rfl ti27 rfl rfl ?_
 refine r_load 1 4 [_, _, _, _] rfl rfl rfl rfl ti25 rfl rfl rfl rfl ?_
 refine r_pcall [_, _] rfl rfl rfl (c_ref02_Mul p.1 q.1 (Nat.le_trans (szP1 hp) (Nat.le_of_ble_eq_true rfl)) (Nat.le_trans (szP1 hq) (Nat.le_of_ble_eq_true rfl))) ?_
 refine r_pcall [_, _] rfl rfl rfl (c_ref02_Mul p.2 q.2 (Nat.le_trans (szP2 hp) (Nat.le_of_ble_eq_true rfl)) (Nat.le_trans (szP2 hq) (Nat.le_of_ble_eq_true rfl))) ?_
 refine r_pcall [_, _] rfl rfl rfl (c_ref02_Add (p.1 * q.1) (p.2 * q.2) (Nat.le_trans (szQ_mul (szP1 hp) (szP1 hq)) (Nat.le_of_ble_eq_true rfl)) (Nat.le_trans (szQ_mul (szP2 hp) (szP2 hq)) (Nat.le_of_ble_eq_true rfl))) ?_
 refine r_store rfl 2 0 [_, _, ⟨some g2, 25, _, 4, true⟩] [_, _, _, _] rfl rfl rfl rfl ti25 rfl rfl rfl rfl rfl ?_
 refine run_nil ?_
 refine at_tn ?_
 refine at_ret ?_
 refine at_end1 rfl (res_cell 2 rfl rfl ti25 (vs := [_, _, _, _]) rfl rfl (Nat.le_of_ble_eq_true rfl) rfl) (fun w hL => ⟨?_, hL.below⟩)
 exact rfl
set_option maxRecDepth 20000 in
theorem c_ref07_Product (p q : P2) (hp : szP p ≤ 300000) (hq : szP q ≤ 300000) : PCall Tryz.prog 25 #[Pt p, Pt q] (Q (crs p q)) := by
 refine ⟨by kernel_rfl, fun w => ?_⟩
 refine calls_at (args := [Pt p, Pt q]) Tryz.func25 rfl (Nat.le_of_ble_eq_true rfl) (LRel.nil w) ?_
 show At w ⟨16, [(0, Pt p), (1, Pt q)], []⟩ _
 refine at_seq ?_
 refine at_region ?_
 refine r_box [_, _, _, _, _, _, _, _] 8 (fun g => [⟨some g, 27, _, 8, true⟩]) rfl rfl rfl rfl rfl (fun _ => rfl) (fun g0 => ?_)
 refine r_box [_, _, _, _, _, _, _, _] 8 (fun g => [_, ⟨some g, 27, _, 8, true⟩]) rfl rfl rfl rfl rfl (fun _ => rfl) (fun g1 => ?_)
 refine r_alloc [_, _, _, _] 4 (fun g => [_, _, ⟨some g, 25, _, 4, true⟩]) rfl rfl z25 rfl rfl (fun _ => rfl) (fun g2 => ?_)
 refine run_nil ?_
 refine at_tn ?_
 refine at_seq ?_
 refine at_drawn (l' := [⟨_,_,_,_,_,_⟩, ⟨_,_,_,_,_,_⟩, ⟨_,_,_,_,_,_⟩, ⟨_,_,_,_,_,_⟩, ⟨_,_,_,_,_,_⟩, ⟨_,_,_,_,_,_⟩, ⟨_,_,_,_,_,_⟩, ⟨_,_,_,_,_,_⟩, ⟨_,_,_,_,_,_⟩, ⟨_,_,_,_,_,_⟩, ⟨_,_,_,_,_,_⟩, ⟨_,_,_,_,_,_⟩]) [] [0, 1, 2, 3, 5, 6, 7, 8, 4, 9, 10, 11] mixed (by kernel_rfl) rfl (by kernel_rfl) ?_
 refine r_fieldAddr 0 0 0 rfl rfl rfl rfl rfl ti27 rfl rfl ?_
 refine r_load 0 0 [_, _, _, _] rfl rfl rfl rfl ti25 rfl rfl rfl rfl ?_
 refine r_fieldAddr 1 0 4 rfl rfl rfl rfl rfl ti27 rfl rfl ?_
 refine r_load 1 4 [_, _, _, _] rfl rfl rfl rfl ti25 rfl rfl rfl rfl ?_
 refine r_fieldAddr 0 0 4 rfl rfl rfl rfl rfl ti27 rfl rfl ?_
 refine r_load 0 4 [_, _, _, _] rfl rfl rfl rfl ti25 rfl rfl rfl rfl ?_
 refine r_fieldAddr 1 0 0 rfl rfl rfl rfl rfl ti27 rfl rfl ?_
 refine r_load 1 0 [_, _, _, _] rfl rfl rfl rfl ti25 rfl rfl rfl rfl ?_
 refine r_pcall [_, _] rfl rfl rfl (c_ref02_Mul p.1 q.2 (Nat.le_trans (szP1 hp) (Nat.le_of_ble_eq_true rfl)) (Nat.le_trans (szP2 hq) (Nat.le_of_ble_eq_true rfl))) ?_
 refine r_pcall [_, _] rfl rfl rfl (c_ref02_Mul p.2 q.1 (Nat.le_trans (szP2 hp) (Nat.le_of_ble_eq_true rfl)) (Nat.le_trans (szP1 hq) (Nat.le_of_ble_eq_true rfl))) ?_
 refine r_pcall [_, _] rfl rfl rfl (c_ref02_Sub (p.1 * q.2) (p.2 * q.1) (Nat.le_trans (szQ_mul (szP1 hp) (szP2 hq)) (Nat.le_of_ble_eq_true rfl)) (Nat.le_trans (szQ_mul (szP2 hp) (szP1 hq)) (Nat.le_of_ble_eq_true rfl))) ?_
 refine r_store rfl 2 0 [_, _, ⟨some g2, 25, _, 4, true⟩] [_, _, _, _] rfl rfl rfl rfl ti25 rfl rfl rfl rfl rfl ?_
 refine run_nil ?_
 refine at_tn ?_
 refine at_ret ?_
 refine at_end1 rfl (res_cell 2 rfl rfl ti25 (vs := [_, _, _, _]) rfl rfl (Nat.le_of_ble_eq_true rfl) rfl) (fun w hL => ⟨?_, hL.below⟩)
 exact rfl
set_option maxRecDepth 20000 in
theorem c_ref07_Compare (p q : P2) (hp : szP p ≤ 1000000) (hq : szP q ≤ 1000000) : PCall Tryz.prog 36 #[Pt p, Pt q] (.int .i64 (cmpP p q)) := by
 refine ⟨by kernel_rfl, fun w => ?_⟩
 refine calls_at (args := [Pt p, Pt q]) Tryz.func36 rfl (Nat.le_of_ble_eq_true rfl) (LRel.nil w) ?_
 show At w ⟨19, [(0, Pt p), (1, Pt q)], []⟩ _
 refine at_seq ?_
 refine at_region ?_
 refine r_box [_, _, _, _, _, _, _, _] 8 (fun g => [⟨some g, 27, _, 8, true⟩]) rfl rfl rfl rfl rfl (fun _ => rfl) (fun g0 => ?_)
 refine r_box [_, _, _, _, _, _, _, _] 8 (fun g => [_, ⟨some g, 27, _, 8, true⟩]) rfl rfl rfl rfl rfl (fun _ => rfl) (fun g1 => ?_)
 refine r_assign rfl rfl rfl ?_
 refine run_nil ?_
 refine at_tn ?_
 refine at_seq ?_
 refine at_seq ?_
 refine at_region ?_
 refine r_fieldAddr 0 0 0 rfl rfl rfl rfl rfl ti27 rfl rfl ?_
 refine r_load 0 0 [_, _, _, _] rfl rfl rfl rfl ti25 rfl rfl rfl rfl ?_
 refine r_fieldAddr 1 0 0 rfl rfl rfl rfl rfl ti27 rfl rfl ?_
 refine r_load 1 0 [_, _, _, _] rfl rfl rfl rfl ti25 rfl rfl rfl rfl ?_
 refine r_pcall [_, _] rfl rfl rfl (c_ref02_Compare p.1 q.1 (Nat.le_trans (szP1 hp) (Nat.le_of_ble_eq_true rfl)) (Nat.le_trans (szP1 hq) (Nat.le_of_ble_eq_true rfl))) ?_
 refine r_assign rfl rfl rfl ?_
 refine run_nil ?_
 refine at_tn ?_
 refine at_seq ?_
 refine at_region ?_
 refine r_move rfl rfl rfl ?_
 refine r_cmpInt rfl rfl rfl rfl rfl ?_
 refine run_nil ?_
 refine at_tn ?_
 refine at_cond rfl (fun hb0 => ?_) (fun hb0 => ?_)
 ·
  refine at_seq ?_
  refine at_region ?_
  refine r_move rfl rfl rfl ?_
  refine r_assign rfl rfl rfl ?_
  refine run_nil ?_
  refine at_tn ?_
  refine at_ret ?_
  refine at_tr ?_
  refine at_end1 rfl (res_tmp rfl) (fun w hL => ⟨?_, hL.below⟩)
  exact congrArg (fun z => Ending.returned (.int .i64 z)) (cmpP_T hb0)
 ·
  refine at_skip ?_
  refine at_tn ?_
  refine at_seq ?_
  refine at_region ?_
  refine r_fieldAddr 0 0 4 rfl rfl rfl rfl rfl ti27 rfl rfl ?_
  refine r_load 0 4 [_, _, _, _] rfl rfl rfl rfl ti25 rfl rfl rfl rfl ?_
  refine r_fieldAddr 1 0 4 rfl rfl rfl rfl rfl ti27 rfl rfl ?_
  refine r_load 1 4 [_, _, _, _] rfl rfl rfl rfl ti25 rfl rfl rfl rfl ?_
  refine r_pcall [_, _] rfl rfl rfl (c_ref02_Compare p.2 q.2 (Nat.le_trans (szP2 hp) (Nat.le_of_ble_eq_true rfl)) (Nat.le_trans (szP2 hq) (Nat.le_of_ble_eq_true rfl))) ?_
  refine r_assign rfl rfl rfl ?_
  refine run_nil ?_
  refine at_tn ?_
  refine at_ret ?_
  refine at_end1 rfl (res_tmp rfl) (fun w hL => ⟨?_, hL.below⟩)
  exact congrArg (fun z => Ending.returned (.int .i64 z)) (cmpP_F hb0)
set_option maxRecDepth 20000 in
theorem c_ref07_Orientation (a b c : P2) (ha : szP a ≤ 100000) (hb : szP b ≤ 100000) (hc : szP c ≤ 100000) : PCall Tryz.prog 38 #[Pt a, Pt b, Pt c] (.int .i64 (ori a b c)) := by
 refine ⟨by kernel_rfl, fun w => ?_⟩
 refine calls_at (args := [Pt a, Pt b, Pt c]) Tryz.func38 rfl (Nat.le_of_ble_eq_true rfl) (LRel.nil w) ?_
 show At w ⟨15, [(0, Pt a), (1, Pt b), (2, Pt c)], []⟩ _
 refine at_seq ?_
 refine at_region ?_
 refine r_box [_, _, _, _, _, _, _, _] 8 (fun g => [⟨some g, 27, _, 8, true⟩]) rfl rfl rfl rfl rfl (fun _ => rfl) (fun g0 => ?_)
 refine r_box [_, _, _, _, _, _, _, _] 8 (fun g => [_, ⟨some g, 27, _, 8, true⟩]) rfl rfl rfl rfl rfl (fun _ => rfl) (fun g1 => ?_)
 refine r_box [_, _, _, _, _, _, _, _] 8 (fun g => [_, _, ⟨some g, 27, _, 8, true⟩]) rfl rfl rfl rfl rfl (fun _ => rfl) (fun g2 => ?_)
 refine r_assign rfl rfl rfl ?_
 refine run_nil ?_
 refine at_tn ?_
 refine at_seq ?_
 refine at_drawn (l' := [⟨_,_,_,_,_,_⟩, ⟨_,_,_,_,_,_⟩, ⟨_,_,_,_,_,_⟩, ⟨_,_,_,_,_,_⟩, ⟨_,_,_,_,_,_⟩, ⟨_,_,_,_,_,_⟩, ⟨_,_,_,_,_,_⟩, ⟨_,_,_,_,_,_⟩, ⟨_,_,_,_,_,_⟩]) [] [0, 1, 3, 4, 2, 5, 6, 7, 8] mixed (by kernel_rfl) rfl (by kernel_rfl) ?_
 refine r_load 1 0 [_, _, _, _, _, _, _, _] rfl rfl rfl rfl ti27 rfl rfl rfl rfl ?_
 refine r_load 0 0 [_, _, _, _, _, _, _, _] rfl rfl rfl rfl ti27 rfl rfl rfl rfl ?_
 refine r_load 2 0 [_, _, _, _, _, _, _, _] rfl rfl rfl rfl ti27 rfl rfl rfl rfl ?_
 refine r_load 0 0 [_, _, _, _, _, _, _, _] rfl rfl rfl rfl ti27 rfl rfl rfl rfl ?_
 refine r_pcall [_, _] rfl rfl rfl (c_ref07_Sub b a (szPm (Nat.le_trans (szP1 hb) (Nat.le_of_ble_eq_true rfl)) (Nat.le_trans (szP2 hb) (Nat.le_of_ble_eq_true rfl))) (szPm (Nat.le_trans (szP1 ha) (Nat.le_of_ble_eq_true rfl)) (Nat.le_trans (szP2 ha) (Nat.le_of_ble_eq_true rfl)))) ?_
 refine r_pcall [_, _] rfl rfl rfl (c_ref07_Sub c a (szPm (Nat.le_trans (szP1 hc) (Nat.le_of_ble_eq_true rfl)) (Nat.le_trans (szP2 hc) (Nat.le_of_ble_eq_true rfl))) (szPm (Nat.le_trans (szP1 ha) (Nat.le_of_ble_eq_true rfl)) (Nat.le_trans (szP2 ha) (Nat.le_of_ble_eq_true rfl)))) ?_
 refine r_pcall [_, _] rfl rfl rfl (c_ref07_Product (pSub b a) (pSub c a) (szPm (Nat.le_trans (szQ_sub (szP1 hb) (szP1 ha)) (Nat.le_of_ble_eq_true rfl)) (Nat.le_trans (szQ_sub (szP2 hb) (szP2 ha)) (Nat.le_of_ble_eq_true rfl))) (szPm (Nat.le_trans (szQ_sub (szP1 hc) (szP1 ha)) (Nat.le_of_ble_eq_true rfl)) (Nat.le_trans (szQ_sub (szP2 hc) (szP2 ha)) (Nat.le_of_ble_eq_true rfl)))) ?_
 refine r_pcall [_] rfl rfl rfl (c_ref02_Sign (crs (pSub b a) (pSub c a))) ?_
 refine r_assign rfl rfl rfl ?_
 refine run_nil ?_
 refine at_tn ?_
 refine at_ret ?_
 refine at_end1 rfl (res_tmp rfl) (fun w hL => ⟨?_, hL.below⟩)
 exact rfl
set_option maxRecDepth 20000 in
theorem c_ref07_Divide (s : S2) (r : Rat) (hs : szS s ≤ 200000) (hr : szQ r ≤ 200000) : PCall Tryz.prog 35 #[Sg s, Q r] (Pt (divP s r)) := by
 refine ⟨by kernel_rfl, fun w => ?_⟩
 refine calls_at (args := [Sg s, Q r]) Tryz.func35 rfl (Nat.le_of_ble_eq_true rfl) (LRel.nil w) ?_
 show At w ⟨15, [(0, Sg s), (1, Q r)], []⟩ _
 refine at_seq ?_
 refine at_region ?_
 refine r_box [_, _, _, _, _, _, _, _, _, _, _, _, _, _, _, _] 16 (fun g => [⟨some g, 36, _, 16, true⟩]) rfl rfl rfl rfl rfl (fun _ => rfl) (fun g0 => ?_)
 refine r_box [_, _, _, _] 4 (fun g => [_, ⟨some g, 25, _, 4, true⟩]) rfl rfl rfl rfl rfl (fun _ => rfl) (fun g1 => ?_)
 refine r_alloc [_, _, _, _, _, _, _, _] 8 (fun g => [_, _, ⟨some g, 27, _, 8, true⟩]) rfl rfl z27 rfl rfl (fun _ => rfl) (fun g2 => ?_)
 refine run_nil ?_
 refine at_tn ?_
 refine at_seq ?_
 refine at_drawn (l' := [⟨_,_,_,_,_,_⟩, ⟨_,_,_,_,_,_⟩, ⟨_,_,_,_,_,_⟩, ⟨_,_,_,_,_,_⟩, ⟨_,_,_,_,_,_⟩, ⟨_,_,_,_,_,_⟩, ⟨_,_,_,_,_,_⟩, ⟨_,_,_,_,_,_⟩, ⟨_,_,_,_,_,_⟩, ⟨_,_,_,_,_,_⟩, ⟨_,_,_,_,_,_⟩]) [] [0, 1, 2, 3, 4, 5, 7, 6, 8, 9, 10] mixed (by kernel_rfl) rfl (by kernel_rfl) ?_
 refine r_fieldAddr 0 0 0 rfl rfl rfl rfl rfl ti36 rfl rfl ?_
 refine r_load 0 0 [_, _, _, _, _, _, _, _] rfl rfl rfl rfl ti27 rfl rfl rfl rfl ?_
 refine r_fieldAddr 0 0 8 rfl rfl rfl rfl rfl ti36 rfl rfl ?_
 refine r_load 0 8 [_, _, _, _, _, _, _, _] rfl rfl rfl rfl ti27 rfl rfl rfl rfl ?_
 refine r_fieldAddr 0 0 0 rfl rfl rfl rfl rfl ti36 rfl rfl ?_
 refine r_load 0 0 [_, _, _, _, _, _, _, _] rfl rfl rfl rfl ti27 rfl rfl rfl rfl ?_
 refine r_load 1 0 [_, _, _, _] rfl rfl rfl rfl ti25 rfl rfl rfl rfl ?_
 refine r_pcall [_, _] rfl rfl rfl (c_ref07_Sub s.2 s.1 (szPm (Nat.le_trans (szP1 (szS2 hs)) (Nat.le_of_ble_eq_true rfl)) (Nat.le_trans (szP2 (szS2 hs)) (Nat.le_of_ble_eq_true rfl))) (szPm (Nat.le_trans (szP1 (szS1 hs)) (Nat.le_of_ble_eq_true rfl)) (Nat.le_trans (szP2 (szS1 hs)) (Nat.le_of_ble_eq_true rfl)))) ?_
 refine r_pcall [_, _] rfl rfl rfl (c_ref07_Scale (pSub s.2 s.1) r (szPm (Nat.le_trans (szQ_sub (szP1 (szS2 hs)) (szP1 (szS1 hs))) (Nat.le_of_ble_eq_true rfl)) (Nat.le_trans (szQ_sub (szP2 (szS2 hs)) (szP2 (szS1 hs))) (Nat.le_of_ble_eq_true rfl))) (Nat.le_trans hr (Nat.le_of_ble_eq_true rfl))) ?_
 refine r_pcall [_, _] rfl rfl rfl (c_ref07_Add s.1 (pScale (pSub s.2 s.1) r) (szPm (Nat.le_trans (szP1 (szS1 hs)) (Nat.le_of_ble_eq_true rfl)) (Nat.le_trans (szP2 (szS1 hs)) (Nat.le_of_ble_eq_true rfl))) (szPm (Nat.le_trans (szQ_mul (szQ_sub (szP1 (szS2 hs)) (szP1 (szS1 hs))) hr) (Nat.le_of_ble_eq_true rfl)) (Nat.le_trans (szQ_mul (szQ_sub (szP2 (szS2 hs)) (szP2 (szS1 hs))) hr) (Nat.le_of_ble_eq_true rfl)))) ?_
 refine r_store rfl 2 0 [_, _, ⟨some g2, 27, _, 8, true⟩] [_, _, _, _, _, _, _, _] rfl rfl rfl rfl ti27 rfl rfl rfl rfl rfl ?_
 refine run_nil ?_
 refine at_tn ?_
 refine at_ret ?_
 refine at_end1 rfl (res_cell 2 rfl rfl ti27 (vs := [_, _, _, _, _, _, _, _]) rfl rfl (Nat.le_of_ble_eq_true rfl) rfl) (fun w hL => ⟨?_, hL.below⟩)
 exact rfl
set_option maxRecDepth 20000 in
theorem c_ref07_less (a b : Rat) (ha : szQ a ≤ 1000000) (hb : szQ b ≤ 1000000) : PCall Tryz.prog 76 #[Q a, Q b] (.bool (decide (a < b))) := by
 refine ⟨by kernel_rfl, fun w => ?_⟩
 refine calls_at (args := [Q a, Q b]) Tryz.func76 rfl (Nat.le_of_ble_eq_true rfl) (LRel.nil w) ?_
 show At w ⟨9, [(0, Q a), (1, Q b)], []⟩ _
 refine at_seq ?_
 refine at_region ?_
 refine r_box [_, _, _, _] 4 (fun g => [⟨some g, 25, _, 4, true⟩]) rfl rfl rfl rfl rfl (fun _ => rfl) (fun g0 => ?_)
 refine r_box [_, _, _, _] 4 (fun g => [_, ⟨some g, 25, _, 4, true⟩]) rfl rfl rfl rfl rfl (fun _ => rfl) (fun g1 => ?_)
 refine r_assign rfl rfl rfl ?_
 refine run_nil ?_
 refine at_tn ?_
 refine at_seq ?_
 refine at_region ?_
 refine r_load 0 0 [_, _, _, _] rfl rfl rfl rfl ti25 rfl rfl rfl rfl ?_
 refine r_load 1 0 [_, _, _, _] rfl rfl rfl rfl ti25 rfl rfl rfl rfl ?_
 refine r_pcall [_, _] rfl rfl rfl (c_ref02_Compare a b (Nat.le_trans ha (Nat.le_of_ble_eq_true rfl)) (Nat.le_trans hb (Nat.le_of_ble_eq_true rfl))) ?_
 refine r_cmpInt rfl rfl rfl rfl rfl ?_
 refine r_assign rfl rfl rfl ?_
 refine run_nil ?_
 refine at_tn ?_
 refine at_ret ?_
 refine at_end1 rfl (res_tmp rfl) (fun w hL => ⟨?_, hL.below⟩)
 rw [cmpQ_less]
set_option maxRecDepth 20000 in
theorem c_ref07_between (x a b : Rat) (hx : szQ x ≤ 100000) (ha : szQ a ≤ 100000) (hb : szQ b ≤ 100000) : PCall Tryz.prog 77 #[Q x, Q a, Q b] (.bool (decide (btw x a b))) := by
 refine ⟨by kernel_rfl, fun w => ?_⟩
 refine calls_at (args := [Q x, Q a, Q b]) Tryz.func77 rfl (Nat.le_of_ble_eq_true rfl) (LRel.nil w) ?_
 show At w ⟨29, [(0, Q x), (1, Q a), (2, Q b)], []⟩ _
 refine at_seq ?_
 refine at_region ?_
 refine r_box [_, _, _, _] 4 (fun g => [⟨some g, 25, _, 4, true⟩]) rfl rfl rfl rfl rfl (fun _ => rfl) (fun g0 => ?_)
 refine r_box [_, _, _, _] 4 (fun g => [_, ⟨some g, 25, _, 4, true⟩]) rfl rfl rfl rfl rfl (fun _ => rfl) (fun g1 => ?_)
 refine r_box [_, _, _, _] 4 (fun g => [_, _, ⟨some g, 25, _, 4, true⟩]) rfl rfl rfl rfl rfl (fun _ => rfl) (fun g2 => ?_)
 refine r_assign rfl rfl rfl ?_
 refine run_nil ?_
 refine at_tn ?_
 refine at_seq ?_
 refine at_region ?_
 refine r_load 0 0 [_, _, _, _] rfl rfl rfl rfl ti25 rfl rfl rfl rfl ?_
 refine r_load 1 0 [_, _, _, _] rfl rfl rfl rfl ti25 rfl rfl rfl rfl ?_
 refine r_pcall [_, _] rfl rfl rfl (c_ref07_less _ _ (by first | exact Nat.le_trans hx (Nat.le_of_ble_eq_true rfl) | exact Nat.le_trans ha (Nat.le_of_ble_eq_true rfl) | exact Nat.le_trans hb (Nat.le_of_ble_eq_true rfl)) (by first | exact Nat.le_trans hx (Nat.le_of_ble_eq_true rfl) | exact Nat.le_trans ha (Nat.le_of_ble_eq_true rfl) | exact Nat.le_trans hb (Nat.le_of_ble_eq_true rfl))) ?_
 refine r_not rfl rfl rfl ?_
 refine r_move rfl rfl rfl ?_
 refine r_split 11 rfl (fun hb0 => ?_) (fun hb0 => ?_)
 ·
  refine r_load 2 0 [_, _, _, _] rfl rfl rfl rfl ti25 rfl rfl rfl rfl ?_
  refine r_load 0 0 [_, _, _, _] rfl rfl rfl rfl ti25 rfl rfl rfl rfl ?_
  refine r_pcall [_, _] rfl rfl rfl (c_ref07_less _ _ (by first | exact Nat.le_trans hx (Nat.le_of_ble_eq_true rfl) | exact Nat.le_trans ha (Nat.le_of_ble_eq_true rfl) | exact Nat.le_trans hb (Nat.le_of_ble_eq_true rfl)) (by first | exact Nat.le_trans hx (Nat.le_of_ble_eq_true rfl) | exact Nat.le_trans ha (Nat.le_of_ble_eq_true rfl) | exact Nat.le_trans hb (Nat.le_of_ble_eq_true rfl))) ?_
  refine r_not rfl rfl rfl ?_
  refine r_pickT rfl rfl rfl rfl ?_
  refine r_move rfl rfl rfl ?_
  refine r_split 17 rfl (fun hb1 => ?_) (fun hb1 => ?_)
  ·
   refine r_no rfl rfl rfl ?_
   refine r_no rfl rfl rfl ?_
   refine r_no rfl rfl rfl ?_
   refine r_no rfl rfl rfl ?_
   refine r_no rfl rfl rfl ?_
   refine r_no rfl rfl rfl ?_
   refine r_no rfl rfl rfl ?_
   refine r_no rfl rfl rfl ?_
   refine r_no rfl rfl rfl ?_
   refine r_no rfl rfl rfl ?_
   refine r_pickT rfl rfl rfl rfl ?_
   refine r_assign rfl rfl rfl ?_
   refine run_nil ?_
   refine at_tn ?_
   refine at_ret ?_
   refine at_end1 rfl (res_tmp rfl) (fun w hL => ⟨?_, hL.below⟩)
   exact congrArg (fun z => Ending.returned (.bool z)) (by simp_all [btw])
  ·
   refine r_load 0 0 [_, _, _, _] rfl rfl rfl rfl ti25 rfl rfl rfl rfl ?_
   refine r_load 2 0 [_, _, _, _] rfl rfl rfl rfl ti25 rfl rfl rfl rfl ?_
   refine r_pcall [_, _] rfl rfl rfl (c_ref07_less _ _ (by first | exact Nat.le_trans hx (Nat.le_of_ble_eq_true rfl) | exact Nat.le_trans ha (Nat.le_of_ble_eq_true rfl) | exact Nat.le_trans hb (Nat.le_of_ble_eq_true rfl)) (by first | exact Nat.le_trans hx (Nat.le_of_ble_eq_true rfl) | exact Nat.le_trans ha (Nat.le_of_ble_eq_true rfl) | exact Nat.le_trans hb (Nat.le_of_ble_eq_true rfl))) ?_
   refine r_not rfl rfl rfl ?_
   refine r_move rfl rfl rfl ?_
   refine r_split 22 rfl (fun hb2 => ?_) (fun hb2 => ?_)
   ·
    refine r_load 1 0 [_, _, _, _] rfl rfl rfl rfl ti25 rfl rfl rfl rfl ?_
    refine r_load 0 0 [_, _, _, _] rfl rfl rfl rfl ti25 rfl rfl rfl rfl ?_
    refine r_pcall [_, _] rfl rfl rfl (c_ref07_less _ _ (by first | exact Nat.le_trans hx (Nat.le_of_ble_eq_true rfl) | exact Nat.le_trans ha (Nat.le_of_ble_eq_true rfl) | exact Nat.le_trans hb (Nat.le_of_ble_eq_true rfl)) (by first | exact Nat.le_trans hx (Nat.le_of_ble_eq_true rfl) | exact Nat.le_trans ha (Nat.le_of_ble_eq_true rfl) | exact Nat.le_trans hb (Nat.le_of_ble_eq_true rfl))) ?_
    refine r_not rfl rfl rfl ?_
    refine r_pickT rfl rfl rfl rfl ?_
    refine r_pickF rfl rfl rfl rfl ?_
    refine r_assign rfl rfl rfl ?_
    refine run_nil ?_
    refine at_tn ?_
    refine at_ret ?_
    refine at_end1 rfl (res_tmp rfl) (fun w hL => ⟨?_, hL.below⟩)
    exact congrArg (fun z => Ending.returned (.bool z)) (by simp_all [btw])
   ·
    refine r_no rfl rfl rfl ?_
    refine r_no rfl rfl rfl ?_
    refine r_no rfl rfl rfl ?_
    refine r_no rfl rfl rfl ?_
    refine r_pickF rfl rfl rfl rfl ?_
    refine r_pickF rfl rfl rfl rfl ?_
    refine r_assign rfl rfl rfl ?_
    refine run_nil ?_
    refine at_tn ?_
    refine at_ret ?_
    refine at_end1 rfl (res_tmp rfl) (fun w hL => ⟨?_, hL.below⟩)
    exact congrArg (fun z => Ending.returned (.bool z)) (by simp_all [btw])
 ·
  refine r_no rfl rfl rfl ?_
  refine r_no rfl rfl rfl ?_
  refine r_no rfl rfl rfl ?_
  refine r_no rfl rfl rfl ?_
  refine r_pickF rfl rfl rfl rfl ?_
  refine r_move rfl rfl rfl ?_
  refine r_load 0 0 [_, _, _, _] rfl rfl rfl rfl ti25 rfl rfl rfl rfl ?_
  refine r_load 2 0 [_, _, _, _] rfl rfl rfl rfl ti25 rfl rfl rfl rfl ?_
  refine r_pcall [_, _] rfl rfl rfl (c_ref07_less _ _ (by first | exact Nat.le_trans hx (Nat.le_of_ble_eq_true rfl) | exact Nat.le_trans ha (Nat.le_of_ble_eq_true rfl) | exact Nat.le_trans hb (Nat.le_of_ble_eq_true rfl)) (by first | exact Nat.le_trans hx (Nat.le_of_ble_eq_true rfl) | exact Nat.le_trans ha (Nat.le_of_ble_eq_true rfl) | exact Nat.le_trans hb (Nat.le_of_ble_eq_true rfl))) ?_
  refine r_not rfl rfl rfl ?_
  refine r_move rfl rfl rfl ?_
  refine r_split 22 rfl (fun hb1 => ?_) (fun hb1 => ?_)
  ·
   refine r_load 1 0 [_, _, _, _] rfl rfl rfl rfl ti25 rfl rfl rfl rfl ?_
   refine r_load 0 0 [_, _, _, _] rfl rfl rfl rfl ti25 rfl rfl rfl rfl ?_
   refine r_pcall [_, _] rfl rfl rfl (c_ref07_less _ _ (by first | exact Nat.le_trans hx (Nat.le_of_ble_eq_true rfl) | exact Nat.le_trans ha (Nat.le_of_ble_eq_true rfl) | exact Nat.le_trans hb (Nat.le_of_ble_eq_true rfl)) (by first | exact Nat.le_trans hx (Nat.le_of_ble_eq_true rfl) | exact Nat.le_trans ha (Nat.le_of_ble_eq_true rfl) | exact Nat.le_trans hb (Nat.le_of_ble_eq_true rfl))) ?_
   refine r_not rfl rfl rfl ?_
   refine r_pickT rfl rfl rfl rfl ?_
   refine r_pickF rfl rfl rfl rfl ?_
   refine r_assign rfl rfl rfl ?_
   refine run_nil ?_
   refine at_tn ?_
   refine at_ret ?_
   refine at_end1 rfl (res_tmp rfl) (fun w hL => ⟨?_, hL.below⟩)
   exact congrArg (fun z => Ending.returned (.bool z)) (by simp_all [btw])
  ·
   refine r_no rfl rfl rfl ?_
   refine r_no rfl rfl rfl ?_
   refine r_no rfl rfl rfl ?_
   refine r_no rfl rfl rfl ?_
   refine r_pickF rfl rfl rfl rfl ?_
   refine r_pickF rfl rfl rfl rfl ?_
   refine r_assign rfl rfl rfl ?_
   refine run_nil ?_
   refine at_tn ?_
   refine at_ret ?_
   refine at_end1 rfl (res_tmp rfl) (fun w hL => ⟨?_, hL.below⟩)
   exact congrArg (fun z => Ending.returned (.bool z)) (by simp_all [btw])
set_option maxRecDepth 20000 in
theorem c_ref07_OnSegment (p : P2) (s : S2) (hp : szP p ≤ 100000) (hs : szS s ≤ 100000) : PCall Tryz.prog 34 #[Pt p, Sg s] (.bool (decide (onR p s))) := by
 refine ⟨by kernel_rfl, fun w => ?_⟩
 refine calls_at (args := [Pt p, Sg s]) Tryz.func34 rfl (Nat.le_of_ble_eq_true rfl) (LRel.nil w) ?_
 show At w ⟨34, [(0, Pt p), (1, Sg s)], []⟩ _
 refine at_seq ?_
 refine at_region ?_
 refine r_box [_, _, _, _, _, _, _, _] 8 (fun g => [⟨some g, 27, _, 8, true⟩]) rfl rfl rfl rfl rfl (fun _ => rfl) (fun g0 => ?_)
 refine r_box [_, _, _, _, _, _, _, _, _, _, _, _, _, _, _, _] 16 (fun g => [_, ⟨some g, 36, _, 16, true⟩]) rfl rfl rfl rfl rfl (fun _ => rfl) (fun g1 => ?_)
 refine r_assign rfl rfl rfl ?_
 refine run_nil ?_
 refine at_tn ?_
 refine at_seq ?_
 refine at_region ?_
 refine r_fieldAddr 1 0 0 rfl rfl rfl rfl rfl ti36 rfl rfl ?_
 refine r_load 1 0 [_, _, _, _, _, _, _, _] rfl rfl rfl rfl ti27 rfl rfl rfl rfl ?_
 refine r_fieldAddr 1 0 8 rfl rfl rfl rfl rfl ti36 rfl rfl ?_
 refine r_load 1 8 [_, _, _, _, _, _, _, _] rfl rfl rfl rfl ti27 rfl rfl rfl rfl ?_
 refine r_load 0 0 [_, _, _, _, _, _, _, _] rfl rfl rfl rfl ti27 rfl rfl rfl rfl ?_
 refine r_pcall [_, _, _] rfl rfl rfl (c_ref07_Orientation s.1 s.2 p (szPm (Nat.le_trans (szP1 (szS1 hs)) (Nat.le_of_ble_eq_true rfl)) (Nat.le_trans (szP2 (szS1 hs)) (Nat.le_of_ble_eq_true rfl))) (szPm (Nat.le_trans (szP1 (szS2 hs)) (Nat.le_of_ble_eq_true rfl)) (Nat.le_trans (szP2 (szS2 hs)) (Nat.le_of_ble_eq_true rfl))) (szPm (Nat.le_trans (szP1 hp) (Nat.le_of_ble_eq_true rfl)) (Nat.le_trans (szP2 hp) (Nat.le_of_ble_eq_true rfl)))) ?_
 refine r_cmpInt rfl rfl rfl rfl rfl ?_
 refine r_move rfl rfl rfl ?_
 refine r_split 12 rfl (fun hb0 => ?_) (fun hb0 => ?_)
 ·
  refine r_fieldAddr 0 0 0 rfl rfl rfl rfl rfl ti27 rfl rfl ?_
  refine r_load 0 0 [_, _, _, _] rfl rfl rfl rfl ti25 rfl rfl rfl rfl ?_
  refine r_fieldAddr 1 0 0 rfl rfl rfl rfl rfl ti36 rfl rfl ?_
  refine r_fieldAddr 1 0 0 rfl rfl rfl rfl rfl ti27 rfl rfl ?_
  refine r_load 1 0 [_, _, _, _] rfl rfl rfl rfl ti25 rfl rfl rfl rfl ?_
  refine r_fieldAddr 1 0 8 rfl rfl rfl rfl rfl ti36 rfl rfl ?_
  refine r_fieldAddr 1 8 0 rfl rfl rfl rfl rfl ti27 rfl rfl ?_
  refine r_load 1 8 [_, _, _, _] rfl rfl rfl rfl ti25 rfl rfl rfl rfl ?_
  refine r_pcall [_, _, _] rfl rfl rfl (c_ref07_between p.1 s.1.1 s.2.1 (Nat.le_trans (szP1 hp) (Nat.le_of_ble_eq_true rfl)) (Nat.le_trans (szP1 (szS1 hs)) (Nat.le_of_ble_eq_true rfl)) (Nat.le_trans (szP1 (szS2 hs)) (Nat.le_of_ble_eq_true rfl))) ?_
  refine r_pickT rfl rfl rfl rfl ?_
  refine r_move rfl rfl rfl ?_
  refine r_split 23 rfl (fun hb1 => ?_) (fun hb1 => ?_)
  ·
   refine r_fieldAddr 0 0 4 rfl rfl rfl rfl rfl ti27 rfl rfl ?_
   refine r_load 0 4 [_, _, _, _] rfl rfl rfl rfl ti25 rfl rfl rfl rfl ?_
   refine r_fieldAddr 1 0 0 rfl rfl rfl rfl rfl ti36 rfl rfl ?_
   refine r_fieldAddr 1 0 4 rfl rfl rfl rfl rfl ti27 rfl rfl ?_
   refine r_load 1 4 [_, _, _, _] rfl rfl rfl rfl ti25 rfl rfl rfl rfl ?_
   refine r_fieldAddr 1 0 8 rfl rfl rfl rfl rfl ti36 rfl rfl ?_
   refine r_fieldAddr 1 8 4 rfl rfl rfl rfl rfl ti27 rfl rfl ?_
   refine r_load 1 12 [_, _, _, _] rfl rfl rfl rfl ti25 rfl rfl rfl rfl ?_
   refine r_pcall [_, _, _] rfl rfl rfl (c_ref07_between p.2 s.1.2 s.2.2 (Nat.le_trans (szP2 hp) (Nat.le_of_ble_eq_true rfl)) (Nat.le_trans (szP2 (szS1 hs)) (Nat.le_of_ble_eq_true rfl)) (Nat.le_trans (szP2 (szS2 hs)) (Nat.le_of_ble_eq_true rfl))) ?_
   refine r_pickT rfl rfl rfl rfl ?_
   refine r_assign rfl rfl rfl ?_
   refine run_nil ?_
   refine at_tn ?_
   refine at_ret ?_
   refine at_end1 rfl (res_tmp rfl) (fun w hL => ⟨?_, hL.below⟩)
   exact congrArg (fun z => Ending.returned (.bool z)) (by simp_all [onR])
  ·
   refine r_no rfl rfl rfl ?_
   refine r_no rfl rfl rfl ?_
   refine r_no rfl rfl rfl ?_
   refine r_no rfl rfl rfl ?_
   refine r_no rfl rfl rfl ?_
   refine r_no rfl rfl rfl ?_
   refine r_no rfl rfl rfl ?_
   refine r_no rfl rfl rfl ?_
   refine r_no rfl rfl rfl ?_
   refine r_pickF rfl rfl rfl rfl ?_
   refine r_assign rfl rfl rfl ?_
   refine run_nil ?_
   refine at_tn ?_
   refine at_ret ?_
   refine at_end1 rfl (res_tmp rfl) (fun w hL => ⟨?_, hL.below⟩)
   exact congrArg (fun z => Ending.returned (.bool z)) (by simp_all [onR])
 ·
  refine r_no rfl rfl rfl ?_
  refine r_no rfl rfl rfl ?_
  refine r_no rfl rfl rfl ?_
  refine r_no rfl rfl rfl ?_
  refine r_no rfl rfl rfl ?_
  refine r_no rfl rfl rfl ?_
  refine r_no rfl rfl rfl ?_
  refine r_no rfl rfl rfl ?_
  refine r_no rfl rfl rfl ?_
  refine r_pickF rfl rfl rfl rfl ?_
  refine r_move rfl rfl rfl ?_
  refine r_no rfl rfl rfl ?_
  refine r_no rfl rfl rfl ?_
  refine r_no rfl rfl rfl ?_
  refine r_no rfl rfl rfl ?_
  refine r_no rfl rfl rfl ?_
  refine r_no rfl rfl rfl ?_
  refine r_no rfl rfl rfl ?_
  refine r_no rfl rfl rfl ?_
  refine r_no rfl rfl rfl ?_
  refine r_pickF rfl rfl rfl rfl ?_
  refine r_assign rfl rfl rfl ?_
  refine run_nil ?_
  refine at_tn ?_
  refine at_ret ?_
  refine at_end1 rfl (res_tmp rfl) (fun w hL => ⟨?_, hL.below⟩)
  exact congrArg (fun z => Ending.returned (.bool z)) (by simp_all [onR])
end Go.Proofs.YthnlafhnpphdhaaGreatDoor
set_option linter.unusedVariables false
set_option linter.unusedSimpArgs false
namespace Go.Via
open Go Go.RowKit
def nearQ (p : P2) (s : S2) : Rat := max 0 (min (dot (pSub p s.1) (pSub s.2 s.1) / dot (pSub s.2 s.1) (pSub s.2 s.1)) 1)
def nearP (p : P2) (s : S2) : P2 × Rat := if dot (pSub s.2 s.1) (pSub s.2 s.1) = 0 then (s.1, 0) else (divP s (nearQ p s), nearQ p s)
def dist2 (p q : P2) : Rat := dot (pSub p q) (pSub p q)
def ps2 (p : P2) (s : S2) : Rat := dist2 p (nearP p s).1
/-- a meeting: its kind, what is in common -/
def Mt (m : Int × S2) : Value := .agg #[.int .i64 m.1, .bool (decide (m.2.1.1.num < 0)), .string (mag m.2.1.1.num.natAbs), .bool false, .string (dm m.2.1.1), .bool (decide (m.2.1.2.num < 0)), .string (mag m.2.1.2.num.natAbs), .bool false, .string (dm m.2.1.2),
  .bool (decide (m.2.2.1.num < 0)), .string (mag m.2.2.1.num.natAbs), .bool false, .string (dm m.2.2.1), .bool (decide (m.2.2.2.num < 0)), .string (mag m.2.2.2.num.natAbs), .bool false, .string (dm m.2.2.2)]
def crossP (s t : S2) : Int × S2 :=
  if 0 ≤ ori s.1 s.2 t.1 * ori s.1 s.2 t.2 ∨ 0 ≤ ori t.1 t.2 s.1 * ori t.1 t.2 s.2 then (0, ((0, 0), (0, 0)))
  else (2, (divP s (crs (pSub t.1 s.1) (pSub t.2 t.1) / crs (pSub s.2 s.1) (pSub t.2 t.1)), divP s (crs (pSub t.1 s.1) (pSub t.2 t.1) / crs (pSub s.2 s.1) (pSub t.2 t.1))))
theorem Sg_zero : Value.agg #[.bool false, .string ⟨#[]⟩, .bool false, .string ⟨#[]⟩, .bool false, .string ⟨#[]⟩, .bool false, .string ⟨#[]⟩, .bool false, .string ⟨#[]⟩, .bool false, .string ⟨#[]⟩, .bool false, .string ⟨#[]⟩, .bool false, .string ⟨#[]⟩] = Sg ((0, 0), (0, 0)) := by
  have h := Q_zero
  unfold Q at h
  simp only [Value.agg.injEq, Array.mk.injEq, List.cons.injEq, Value.bool.injEq, Value.string.injEq, and_true] at h
  obtain ⟨h1, h2, h3, h4⟩ := h
  unfold Sg
  simp only [h1, h2, h4]
theorem Mt_zero : Value.agg #[.int .i64 0, .bool false, .string ⟨#[]⟩, .bool false, .string ⟨#[]⟩, .bool false, .string ⟨#[]⟩, .bool false, .string ⟨#[]⟩, .bool false, .string ⟨#[]⟩, .bool false, .string ⟨#[]⟩, .bool false, .string ⟨#[]⟩, .bool false, .string ⟨#[]⟩] = Mt (0, ((0, 0), (0, 0))) := by
  have h := Q_zero
  unfold Q at h
  simp only [Value.agg.injEq, Array.mk.injEq, List.cons.injEq, Value.bool.injEq, Value.string.injEq, and_true] at h
  obtain ⟨h1, h2, h3, h4⟩ := h
  unfold Mt
  simp only [h1, h2, h4]
theorem sq_nonneg8 (x : Rat) : 0 ≤ x * x := by
  by_cases h : 0 ≤ x
  · exact Rat.mul_nonneg h h
  · have h1 : 0 ≤ -x := by grind
    have := Rat.mul_nonneg h1 h1
    have e : -x * -x = x * x := by grind
    rwa [e] at this
theorem sq_zero8 {x : Rat} (h : x * x = 0) : x = 0 := by
  rcases Rat.mul_eq_zero.1 h with h | h <;> exact h
theorem dot_zero {u : P2} : dot u u = 0 ↔ u = (0, 0) := by
  constructor
  · intro h
    unfold dot at h
    have h1 := sq_nonneg8 u.1
    have h2 := sq_nonneg8 u.2
    have h3 : u.1 * u.1 = 0 := by grind
    have h4 : u.2 * u.2 = 0 := by grind
    exact Prod.ext (sq_zero8 h3) (sq_zero8 h4)
  · intro h; rw [h]; unfold dot; show (0 : Rat) * 0 + 0 * 0 = 0; grind
theorem div_err0 {x : Rat} (h : ((if x = 0 then (6 : Int) else 0) != 0) = true) : x = 0 := by
  by_cases e : x = 0
  · exact e
  · rw [if_neg e] at h; cases h
theorem div_err1 {x : Rat} (h : ((if x = 0 then (6 : Int) else 0) != 0) = false) : x ≠ 0 := fun e => by
  rw [if_pos e] at h; cases h
theorem near_T {p : P2} {s : S2} (h : dot (pSub s.2 s.1) (pSub s.2 s.1) = 0) : nearP p s = (s.1, 0) := by unfold nearP; rw [if_pos h]
theorem near_F {p : P2} {s : S2} (h : dot (pSub s.2 s.1) (pSub s.2 s.1) ≠ 0) : nearP p s = (divP s (nearQ p s), nearQ p s) := by unfold nearP; rw [if_neg h]
theorem szQ_max {a b : Rat} {m n : Nat} (h1 : szQ a ≤ m) (h2 : szQ b ≤ n) : szQ (max a b) ≤ m + n := by
  rw [show max a b = if a ≤ b then b else a from rfl]
  split <;> omega
theorem szQ_min {a b : Rat} {m n : Nat} (h1 : szQ a ≤ m) (h2 : szQ b ≤ n) : szQ (min a b) ≤ m + n := by
  rw [show min a b = if a ≤ b then a else b from rfl]
  split <;> omega
theorem szQ_0 : szQ 0 ≤ 1 := by
  show max (nb (0 : Int).natAbs) (nb 1) ≤ 1
  rw [show (0 : Int).natAbs = 0 from rfl, nb_zero, nb_one]; omega
theorem szQ_c1 : szQ ((1 : Int) : Rat) ≤ 1 := szQ_one
/-- the reference's way to the bounds -/
theorem near_ref1 (r : Rat) (h0 : (decide (sgn r < 0)) = true) : sgn r < 0 ∧ r < 0 := by
  have h := of_decide_eq_true h0
  refine ⟨h, ?_⟩
  unfold sgn at h
  have h1 : r.num < 0 := by
    rcases Int.lt_trichotomy r.num 0 with c | c | c
    · exact c
    · rw [c] at h; cases h
    · rw [Int.sign_eq_one_of_pos c] at h; omega
  exact Rat.not_le.1 fun h2 => by have := Rat.num_nonneg.2 h2; omega
theorem near_ref0 (r : Rat) (h0 : (decide (sgn r < 0)) = false) : 0 ≤ r := by
  have h := of_decide_eq_false h0
  refine Rat.num_nonneg.1 ?_
  unfold sgn at h
  rcases Int.lt_trichotomy r.num 0 with c | c | c
  · rw [Int.sign_eq_neg_one_of_neg c] at h; omega
  · omega
  · omega
theorem near_a {r : Rat} (h : r < 0) : max 0 (min r 1) = 0 := by
  rw [show min r 1 = if r ≤ 1 then r else 1 from rfl, if_pos (by grind), show max 0 r = if (0 : Rat) ≤ r then r else 0 from rfl, if_neg (by grind)]
theorem near_b {r : Rat} (h : 0 ≤ r) (h1 : 1 < r) : max 0 (min r 1) = 1 := by
  rw [show min r 1 = if r ≤ 1 then r else 1 from rfl, if_neg (by grind)]; rfl
theorem near_c {r : Rat} (h : 0 ≤ r) (h1 : ¬ 1 < r) : max 0 (min r 1) = r := by
  rw [show min r 1 = if r ≤ 1 then r else 1 from rfl, if_pos (by grind), show max 0 r = if (0 : Rat) ≤ r then r else 0 from rfl, if_pos h]
theorem cross_T1 {s t : S2} (h : 0 ≤ ori s.1 s.2 t.1 * ori s.1 s.2 t.2) : crossP s t = (0, ((0, 0), (0, 0))) := by unfold crossP; rw [if_pos (.inl h)]
theorem cross_T2 {s t : S2} (h : 0 ≤ ori t.1 t.2 s.1 * ori t.1 t.2 s.2) : crossP s t = (0, ((0, 0), (0, 0))) := by unfold crossP; rw [if_pos (.inr h)]
theorem cross_FF {s t : S2} (h : ¬ 0 ≤ ori s.1 s.2 t.1 * ori s.1 s.2 t.2) (h' : ¬ 0 ≤ ori t.1 t.2 s.1 * ori t.1 t.2 s.2) : crossP s t = (2, (divP s (crs (pSub t.1 s.1) (pSub t.2 t.1) / crs (pSub s.2 s.1) (pSub t.2 t.1)), divP s (crs (pSub t.1 s.1) (pSub t.2 t.1) / crs (pSub s.2 s.1) (pSub t.2 t.1)))) := by
  unfold crossP; rw [if_neg (fun c => c.elim h h')]
theorem ori_bound (a b c d e f : P2) : -1 ≤ ori a b c * ori d e f ∧ ori a b c * ori d e f ≤ 1 := by
  unfold ori
  have h1 := sgn_bound (crs (pSub b a) (pSub c a))
  have h2 := sgn_bound (crs (pSub e d) (pSub f d))
  generalize sgn (crs (pSub b a) (pSub c a)) = x at *
  generalize sgn (crs (pSub e d) (pSub f d)) = y at *
  have hx : x = -1 ∨ x = 0 ∨ x = 1 := by omega
  rcases hx with rfl | rfl | rfl <;> omega
end Go.Via
namespace Go.Via
theorem szQ_nearQ {p : P2} {s : S2} {n : Nat} (hp : szP p ≤ n) (hs : szS s ≤ n) : szQ (nearQ p s) ≤ 16 * n + 12 := by
  have h := szQ_max szQ_0 (szQ_min (szQ_div (szQ_add (szQ_mul (szQ_sub (szP1 hp) (szP1 (szS1 hs))) (szQ_sub (szP1 (szS2 hs)) (szP1 (szS1 hs)))) (szQ_mul (szQ_sub (szP2 hp) (szP2 (szS1 hs))) (szQ_sub (szP2 (szS2 hs)) (szP2 (szS1 hs)))))
    (szQ_add (szQ_mul (szQ_sub (szP1 (szS2 hs)) (szP1 (szS1 hs))) (szQ_sub (szP1 (szS2 hs)) (szP1 (szS1 hs)))) (szQ_mul (szQ_sub (szP2 (szS2 hs)) (szP2 (szS1 hs))) (szQ_sub (szP2 (szS2 hs)) (szP2 (szS1 hs)))))) szQ_one)
  refine Nat.le_trans (show szQ (nearQ p s) ≤ _ from h) (by omega)
theorem szNear {p : P2} {s : S2} (hp : szP p ≤ 1000) (hs : szS s ≤ 1000) : szP (nearP p s).1 ≤ 30000 := by
  by_cases h : dot (pSub s.2 s.1) (pSub s.2 s.1) = 0
  · rw [near_T h]; exact Nat.le_trans (szS1 hs) (by omega)
  · rw [near_F h]
    have h1 := szQ_nearQ hp hs
    refine szPm (Nat.le_trans (szQ_add (szP1 (szS1 hs)) (szQ_mul (szQ_sub (szP1 (szS2 hs)) (szP1 (szS1 hs))) h1)) (by omega)) (Nat.le_trans (szQ_add (szP2 (szS1 hs)) (szQ_mul (szQ_sub (szP2 (szS2 hs)) (szP2 (szS1 hs))) h1)) (by omega))
end Go.Via
set_option linter.unusedVariables false
namespace Go.Proofs.YthnlafhnpphdhaaGreatDoor
open Go Go.RowKit Go.Via
set_option maxRecDepth 20000 in
theorem c_plane_Nearest (p : P2) (s : S2) (hp : szP p ≤ 1000) (hs : szS s ≤ 1000) : PCall Tryz.prog 32 #[Pt p, Sg s] (.tuple #[Pt (nearP p s).1, Q (nearP p s).2]) := by
 refine ⟨by kernel_rfl, fun w => ?_⟩
 refine calls_at (args := [Pt p, Sg s]) Tryz.func32 rfl (Nat.le_of_ble_eq_true rfl) (LRel.nil w) ?_
 show At w ⟨41, [(0, Pt p), (1, Sg s)], []⟩ _
 refine at_seq ?_
 refine at_region ?_
 refine r_box [_, _, _, _, _, _, _, _] 8 (fun g => [⟨some g, 27, _, 8, true⟩]) rfl rfl rfl rfl rfl (fun _ => rfl) (fun g0 => ?_)
 refine r_box [_, _, _, _, _, _, _, _, _, _, _, _, _, _, _, _] 16 (fun g => [_, ⟨some g, 36, _, 16, true⟩]) rfl rfl rfl rfl rfl (fun _ => rfl) (fun g1 => ?_)
 refine r_alloc [_, _, _, _, _, _, _, _] 8 (fun g => [_, _, ⟨some g, 27, _, 8, true⟩]) rfl rfl z27 rfl rfl (fun _ => rfl) (fun g2 => ?_)
 refine r_alloc [_, _, _, _] 4 (fun g => [_, _, _, ⟨some g, 25, _, 4, true⟩]) rfl rfl z25 rfl rfl (fun _ => rfl) (fun g3 => ?_)
 refine run_nil ?_
 refine at_tn ?_
 refine at_seq ?_
 refine at_region ?_
 refine r_fieldAddr 1 0 8 rfl rfl rfl rfl rfl ti36 rfl rfl ?_
 refine r_load 1 8 [_, _, _, _, _, _, _, _] rfl rfl rfl rfl ti27 rfl rfl rfl rfl ?_
 refine r_fieldAddr 1 0 0 rfl rfl rfl rfl rfl ti36 rfl rfl ?_
 refine r_load 1 0 [_, _, _, _, _, _, _, _] rfl rfl rfl rfl ti27 rfl rfl rfl rfl ?_
 refine r_pcall [_, _] rfl rfl rfl (c_plane_Sub s.2 s.1 (szPm (Nat.le_trans (szP1 (szS2 hs)) (Nat.le_of_ble_eq_true rfl)) (Nat.le_trans (szP2 (szS2 hs)) (Nat.le_of_ble_eq_true rfl))) (szPm (Nat.le_trans (szP1 (szS1 hs)) (Nat.le_of_ble_eq_true rfl)) (Nat.le_trans (szP2 (szS1 hs)) (Nat.le_of_ble_eq_true rfl)))) ?_
 refine r_alloc [_, _, _, _, _, _, _, _] 8 (fun g => [_, _, _, _, ⟨some g, 27, _, 8, true⟩]) rfl rfl z27 rfl rfl (fun _ => rfl) (fun g4 => ?_)
 refine r_store rfl 4 0 [_, _, _, _, ⟨some g4, 27, _, 8, true⟩] [_, _, _, _, _, _, _, _] rfl rfl rfl rfl ti27 rfl rfl rfl rfl rfl ?_
 refine run_nil ?_
 refine at_tn ?_
 refine at_seq ?_
 refine at_drawnA (l' := [⟨_,_,_,_,_,_⟩, ⟨_,_,_,_,_,_⟩, ⟨_,_,_,_,_,_⟩, ⟨_,_,_,_,_,_⟩, ⟨_,_,_,_,_,_⟩, ⟨_,_,_,_,_,_⟩, ⟨_,_,_,_,_,_⟩, ⟨_,_,_,_,_,_⟩, ⟨_,_,_,_,_,_⟩, ⟨_,_,_,_,_,_⟩, ⟨_,_,_,_,_,_⟩, ⟨_,_,_,_,_,_⟩, ⟨_,_,_,_,_,_⟩, ⟨_,_,_,_,_,_⟩, ⟨_,_,_,_,_,_⟩, ⟨_,_,_,_,_,_⟩]) [3000000] [0, 1, 2, 4, 6, 7, 3, 5, 8, 9, 10, 11, 13, 14, 12, 15] mixed (by kernel_rfl) rfl ?_
 refine r_load 0 0 [_, _, _, _, _, _, _, _] rfl rfl rfl rfl ti27 rfl rfl rfl rfl ?_
 refine r_fieldAddr 1 0 0 rfl rfl rfl rfl rfl ti36 rfl rfl ?_
 refine r_load 1 0 [_, _, _, _, _, _, _, _] rfl rfl rfl rfl ti27 rfl rfl rfl rfl ?_
 refine r_load 4 0 [_, _, _, _, _, _, _, _] rfl rfl rfl rfl ti27 rfl rfl rfl rfl ?_
 refine r_load 4 0 [_, _, _, _, _, _, _, _] rfl rfl rfl rfl ti27 rfl rfl rfl rfl ?_
 refine r_load 4 0 [_, _, _, _, _, _, _, _] rfl rfl rfl rfl ti27 rfl rfl rfl rfl ?_
 refine r_pcall [_, _] rfl rfl rfl (c_plane_Sub p s.1 (szPm (Nat.le_trans (szP1 hp) (Nat.le_of_ble_eq_true rfl)) (Nat.le_trans (szP2 hp) (Nat.le_of_ble_eq_true rfl))) (szPm (Nat.le_trans (szP1 (szS1 hs)) (Nat.le_of_ble_eq_true rfl)) (Nat.le_trans (szP2 (szS1 hs)) (Nat.le_of_ble_eq_true rfl)))) ?_
 refine r_pcall [_, _] rfl rfl rfl (c_plane_Dot (pSub p s.1) (pSub s.2 s.1) (szPm (Nat.le_trans (szQ_sub (szP1 hp) (szP1 (szS1 hs))) (Nat.le_of_ble_eq_true rfl)) (Nat.le_trans (szQ_sub (szP2 hp) (szP2 (szS1 hs))) (Nat.le_of_ble_eq_true rfl))) (szPm (Nat.le_trans (szQ_sub (szP1 (szS2 hs)) (szP1 (szS1 hs))) (Nat.le_of_ble_eq_true rfl)) (Nat.le_trans (szQ_sub (szP2 (szS2 hs)) (szP2 (szS1 hs))) (Nat.le_of_ble_eq_true rfl)))) ?_
 refine r_pcall [_, _] rfl rfl rfl (c_plane_Dot (pSub s.2 s.1) (pSub s.2 s.1) (szPm (Nat.le_trans (szQ_sub (szP1 (szS2 hs)) (szP1 (szS1 hs))) (Nat.le_of_ble_eq_true rfl)) (Nat.le_trans (szQ_sub (szP2 (szS2 hs)) (szP2 (szS1 hs))) (Nat.le_of_ble_eq_true rfl))) (szPm (Nat.le_trans (szQ_sub (szP1 (szS2 hs)) (szP1 (szS1 hs))) (Nat.le_of_ble_eq_true rfl)) (Nat.le_trans (szQ_sub (szP2 (szS2 hs)) (szP2 (szS1 hs))) (Nat.le_of_ble_eq_true rfl)))) ?_
 refine r_pcall [_, _] rfl rfl rfl (c_rational_Div (dot (pSub p s.1) (pSub s.2 s.1)) (dot (pSub s.2 s.1) (pSub s.2 s.1)) (Nat.le_trans (szQ_add (szQ_mul (szQ_sub (szP1 hp) (szP1 (szS1 hs))) (szQ_sub (szP1 (szS2 hs)) (szP1 (szS1 hs)))) (szQ_mul (szQ_sub (szP2 hp) (szP2 (szS1 hs))) (szQ_sub (szP2 (szS2 hs)) (szP2 (szS1 hs))))) (Nat.le_of_ble_eq_true rfl)) (Nat.le_trans (szQ_add (szQ_mul (szQ_sub (szP1 (szS2 hs)) (szP1 (szS1 hs))) (szQ_sub (szP1 (szS2 hs)) (szP1 (szS1 hs)))) (szQ_mul (szQ_sub (szP2 (szS2 hs)) (szP2 (szS1 hs))) (szQ_sub (szP2 (szS2 hs)) (szP2 (szS1 hs))))) (Nat.le_of_ble_eq_true rfl))) ?_
 refine r_move rfl rfl rfl ?_
 refine r_extract (vs := [_, _]) rfl rfl rfl rfl ?_
 refine r_alloc [_, _, _, _] 4 (fun g => [_, _, _, _, _, ⟨some g, 25, _, 4, true⟩]) rfl rfl z25 rfl rfl (fun _ => rfl) (fun g5 => ?_)
 refine r_store rfl 5 0 [_, _, _, _, _, ⟨some g5, 25, _, 4, true⟩] [_, _, _, _] rfl rfl rfl rfl ti25 rfl rfl rfl rfl rfl ?_
 refine r_extract (vs := [_, _]) rfl rfl rfl rfl ?_
 refine r_assign rfl rfl rfl ?_
 refine run_nil ?_
 refine at_tn ?_
 refine at_seq ?_
 refine at_seq ?_
 refine at_region ?_
 refine r_move rfl rfl rfl ?_
 refine r_cmpInt rfl rfl rfl rfl rfl ?_
 refine run_nil ?_
 refine at_tn ?_
 refine at_cond rfl (fun hb0 => ?_) (fun hb0 => ?_)
 ·
  have h0 := div_err0 hb0
  refine at_seq ?_
  refine at_region ?_
  refine r_fieldAddr 1 0 0 rfl rfl rfl rfl rfl ti36 rfl rfl ?_
  refine r_load 1 0 [_, _, _, _, _, _, _, _] rfl rfl rfl rfl ti27 rfl rfl rfl rfl ?_
  refine r_build [] rfl rfl rfl (bd25_0) ?_
  refine r_know 31 (Q 0) rfl Q_zero' ?_
  refine r_store rfl 2 0 [_, _, ⟨some g2, 27, _, 8, true⟩, _, _, _] [_, _, _, _, _, _, _, _] rfl rfl rfl rfl ti27 rfl rfl rfl rfl rfl ?_
  refine r_store rfl 3 0 [_, _, _, ⟨some g3, 25, _, 4, true⟩, _, _] [_, _, _, _] rfl rfl rfl rfl ti25 rfl rfl rfl rfl rfl ?_
  refine run_nil ?_
  refine at_tn ?_
  refine at_ret ?_
  refine at_tr ?_
  refine at_end2 rfl (res_cell 2 rfl rfl ti27 (vs := [_, _, _, _, _, _, _, _]) rfl rfl (Nat.le_of_ble_eq_true rfl) rfl) (res_cell 3 rfl rfl ti25 (vs := [_, _, _, _]) rfl rfl (Nat.le_of_ble_eq_true rfl) rfl) (fun w hL => ⟨?_, hL.below⟩)
  rw [near_T h0]; rfl
 ·
  have h0 := div_err1 hb0
  refine at_skip ?_
  refine at_tn ?_
  refine at_seq ?_
  refine at_drawn (l' := [⟨_,_,_,_,_,_⟩, ⟨_,_,_,_,_,_⟩, ⟨_,_,_,_,_,_⟩, ⟨_,_,_,_,_,_⟩, ⟨_,_,_,_,_,_⟩, ⟨_,_,_,_,_,_⟩]) [] [0, 1, 2, 3, 4, 5] mixed (by kernel_rfl) rfl (by kernel_rfl) ?_
  refine r_build [] rfl rfl rfl (bd25_0) ?_
  refine r_know 32 (Q 0) rfl Q_zero' ?_
  refine r_load 5 0 [_, _, _, _] rfl rfl rfl rfl ti25 rfl rfl rfl rfl ?_
  refine r_pcall [_] rfl rfl rfl (c_rational_FromInt 1 (by omega) (by omega)) ?_
  refine r_pcall [_, _] rfl rfl rfl (c_rational_Min ((dot (pSub p s.1) (pSub s.2 s.1)) / (dot (pSub s.2 s.1) (pSub s.2 s.1))) ((1 : Int) : Rat) (Nat.le_trans (szQ_div (szQ_add (szQ_mul (szQ_sub (szP1 hp) (szP1 (szS1 hs))) (szQ_sub (szP1 (szS2 hs)) (szP1 (szS1 hs)))) (szQ_mul (szQ_sub (szP2 hp) (szP2 (szS1 hs))) (szQ_sub (szP2 (szS2 hs)) (szP2 (szS1 hs))))) (szQ_add (szQ_mul (szQ_sub (szP1 (szS2 hs)) (szP1 (szS1 hs))) (szQ_sub (szP1 (szS2 hs)) (szP1 (szS1 hs)))) (szQ_mul (szQ_sub (szP2 (szS2 hs)) (szP2 (szS1 hs))) (szQ_sub (szP2 (szS2 hs)) (szP2 (szS1 hs)))))) (Nat.le_of_ble_eq_true rfl)) (Nat.le_trans szQ_c1 (Nat.le_of_ble_eq_true rfl))) ?_
  refine r_pcall [_, _] rfl rfl rfl (c_rational_Max 0 (min ((dot (pSub p s.1) (pSub s.2 s.1)) / (dot (pSub s.2 s.1) (pSub s.2 s.1))) 1) (Nat.le_trans szQ_0 (Nat.le_of_ble_eq_true rfl)) (Nat.le_trans (szQ_min (szQ_div (szQ_add (szQ_mul (szQ_sub (szP1 hp) (szP1 (szS1 hs))) (szQ_sub (szP1 (szS2 hs)) (szP1 (szS1 hs)))) (szQ_mul (szQ_sub (szP2 hp) (szP2 (szS1 hs))) (szQ_sub (szP2 (szS2 hs)) (szP2 (szS1 hs))))) (szQ_add (szQ_mul (szQ_sub (szP1 (szS2 hs)) (szP1 (szS1 hs))) (szQ_sub (szP1 (szS2 hs)) (szP1 (szS1 hs)))) (szQ_mul (szQ_sub (szP2 (szS2 hs)) (szP2 (szS1 hs))) (szQ_sub (szP2 (szS2 hs)) (szP2 (szS1 hs)))))) szQ_one) (Nat.le_of_ble_eq_true rfl))) ?_
  refine r_store rfl 5 0 [_, _, _, _, _, ⟨some g5, 25, _, 4, true⟩] [_, _, _, _] rfl rfl rfl rfl ti25 rfl rfl rfl rfl rfl ?_
  refine run_nil ?_
  refine at_tn ?_
  refine at_seq ?_
  refine at_drawn (l' := [⟨_,_,_,_,_,_⟩, ⟨_,_,_,_,_,_⟩, ⟨_,_,_,_,_,_⟩, ⟨_,_,_,_,_,_⟩, ⟨_,_,_,_,_,_⟩, ⟨_,_,_,_,_,_⟩]) [2, 3] [0, 1, 3, 2, 4, 5] mixed (by kernel_rfl) rfl (by kernel_rfl) ?_
  refine r_load 1 0 [_, _, _, _, _, _, _, _, _, _, _, _, _, _, _, _] rfl rfl rfl rfl ti36 rfl rfl rfl rfl ?_
  refine r_load 5 0 [_, _, _, _] rfl rfl rfl rfl ti25 rfl rfl rfl rfl ?_
  refine r_load 5 0 [_, _, _, _] rfl rfl rfl rfl ti25 rfl rfl rfl rfl ?_
  refine r_pcall [_, _] rfl rfl rfl (c_plane_Divide s (nearQ p s) (szSm (szPm (Nat.le_trans (szP1 (szS1 hs)) (Nat.le_of_ble_eq_true rfl)) (Nat.le_trans (szP2 (szS1 hs)) (Nat.le_of_ble_eq_true rfl))) (szPm (Nat.le_trans (szP1 (szS2 hs)) (Nat.le_of_ble_eq_true rfl)) (Nat.le_trans (szP2 (szS2 hs)) (Nat.le_of_ble_eq_true rfl)))) (Nat.le_trans (szQ_max szQ_0 (szQ_min (szQ_div (szQ_add (szQ_mul (szQ_sub (szP1 hp) (szP1 (szS1 hs))) (szQ_sub (szP1 (szS2 hs)) (szP1 (szS1 hs)))) (szQ_mul (szQ_sub (szP2 hp) (szP2 (szS1 hs))) (szQ_sub (szP2 (szS2 hs)) (szP2 (szS1 hs))))) (szQ_add (szQ_mul (szQ_sub (szP1 (szS2 hs)) (szP1 (szS1 hs))) (szQ_sub (szP1 (szS2 hs)) (szP1 (szS1 hs)))) (szQ_mul (szQ_sub (szP2 (szS2 hs)) (szP2 (szS1 hs))) (szQ_sub (szP2 (szS2 hs)) (szP2 (szS1 hs)))))) szQ_one)) (Nat.le_of_ble_eq_true rfl))) ?_
  refine r_storeE 2 0 [_, _, ⟨some g2, 27, _, 8, true⟩, _, _, _] [_, _, _, _, _, _, _, _] rfl rfl rfl rfl ti27 rfl rfl rfl rfl rfl rfl ?_
  refine r_storeE 3 0 [_, _, _, ⟨some g3, 25, _, 4, true⟩, _, _] [_, _, _, _] rfl rfl rfl rfl ti25 rfl rfl rfl rfl rfl rfl ?_
  refine run_nil ?_
  refine at_tn ?_
  refine at_ret ?_
  refine at_end2 rfl (res_cell 2 rfl rfl ti27 (vs := [_, _, _, _, _, _, _, _]) rfl rfl (Nat.le_of_ble_eq_true rfl) rfl) (res_cell 3 rfl rfl ti25 (vs := [_, _, _, _]) rfl rfl (Nat.le_of_ble_eq_true rfl) rfl) (fun w hL => ⟨?_, hL.below⟩)
  rw [near_F h0]; rfl
set_option maxRecDepth 20000 in
theorem c_plane_Distance2 (p q : P2) (hp : szP p ≤ 30000) (hq : szP q ≤ 30000) : PCall Tryz.prog 41 #[Pt p, Pt q] (Q (dist2 p q)) := by
 refine ⟨by kernel_rfl, fun w => ?_⟩
 refine calls_at (args := [Pt p, Pt q]) Tryz.func41 rfl (Nat.le_of_ble_eq_true rfl) (LRel.nil w) ?_
 show At w ⟨12, [(0, Pt p), (1, Pt q)], []⟩ _
 refine at_seq ?_
 refine at_region ?_
 refine r_box [_, _, _, _, _, _, _, _] 8 (fun g => [⟨some g, 27, _, 8, true⟩]) rfl rfl rfl rfl rfl (fun _ => rfl) (fun g0 => ?_)
 refine r_box [_, _, _, _, _, _, _, _] 8 (fun g => [_, ⟨some g, 27, _, 8, true⟩]) rfl rfl rfl rfl rfl (fun _ => rfl) (fun g1 => ?_)
 refine r_alloc [_, _, _, _] 4 (fun g => [_, _, ⟨some g, 25, _, 4, true⟩]) rfl rfl z25 rfl rfl (fun _ => rfl) (fun g2 => ?_)
 refine run_nil ?_
 refine at_tn ?_
 refine at_seq ?_
 refine at_region ?_
 refine r_load 0 0 [_, _, _, _, _, _, _, _] rfl rfl rfl rfl ti27 rfl rfl rfl rfl ?_
 refine r_load 1 0 [_, _, _, _, _, _, _, _] rfl rfl rfl rfl ti27 rfl rfl rfl rfl ?_
 refine r_pcall [_, _] rfl rfl rfl (c_plane_Sub p q (szPm (Nat.le_trans (szP1 hp) (Nat.le_of_ble_eq_true rfl)) (Nat.le_trans (szP2 hp) (Nat.le_of_ble_eq_true rfl))) (szPm (Nat.le_trans (szP1 hq) (Nat.le_of_ble_eq_true rfl)) (Nat.le_trans (szP2 hq) (Nat.le_of_ble_eq_true rfl)))) ?_
 refine r_alloc [_, _, _, _, _, _, _, _] 8 (fun g => [_, _, _, ⟨some g, 27, _, 8, true⟩]) rfl rfl z27 rfl rfl (fun _ => rfl) (fun g3 => ?_)
 refine r_store rfl 3 0 [_, _, _, ⟨some g3, 27, _, 8, true⟩] [_, _, _, _, _, _, _, _] rfl rfl rfl rfl ti27 rfl rfl rfl rfl rfl ?_
 refine run_nil ?_
 refine at_tn ?_
 refine at_seq ?_
 refine at_region ?_
 refine r_load 3 0 [_, _, _, _, _, _, _, _] rfl rfl rfl rfl ti27 rfl rfl rfl rfl ?_
 refine r_load 3 0 [_, _, _, _, _, _, _, _] rfl rfl rfl rfl ti27 rfl rfl rfl rfl ?_
 refine r_pcall [_, _] rfl rfl rfl (c_plane_Dot (pSub p q) (pSub p q) (szPm (Nat.le_trans (szQ_sub (szP1 hp) (szP1 hq)) (Nat.le_of_ble_eq_true rfl)) (Nat.le_trans (szQ_sub (szP2 hp) (szP2 hq)) (Nat.le_of_ble_eq_true rfl))) (szPm (Nat.le_trans (szQ_sub (szP1 hp) (szP1 hq)) (Nat.le_of_ble_eq_true rfl)) (Nat.le_trans (szQ_sub (szP2 hp) (szP2 hq)) (Nat.le_of_ble_eq_true rfl)))) ?_
 refine r_store rfl 2 0 [_, _, ⟨some g2, 25, _, 4, true⟩, _] [_, _, _, _] rfl rfl rfl rfl ti25 rfl rfl rfl rfl rfl ?_
 refine run_nil ?_
 refine at_tn ?_
 refine at_ret ?_
 refine at_end1 rfl (res_cell 2 rfl rfl ti25 (vs := [_, _, _, _]) rfl rfl (Nat.le_of_ble_eq_true rfl) rfl) (fun w hL => ⟨?_, hL.below⟩)
 exact rfl
set_option maxRecDepth 20000 in
theorem c_plane_PointSegment2 (p : P2) (s : S2) (hp : szP p ≤ 1000) (hs : szS s ≤ 1000) : PCall Tryz.prog 43 #[Pt p, Sg s] (Q (ps2 p s)) := by
 refine ⟨by kernel_rfl, fun w => ?_⟩
 refine calls_at (args := [Pt p, Sg s]) Tryz.func43 rfl (Nat.le_of_ble_eq_true rfl) (LRel.nil w) ?_
 show At w ⟨16, [(0, Pt p), (1, Sg s)], []⟩ _
 refine at_seq ?_
 refine at_region ?_
 refine r_box [_, _, _, _, _, _, _, _] 8 (fun g => [⟨some g, 27, _, 8, true⟩]) rfl rfl rfl rfl rfl (fun _ => rfl) (fun g0 => ?_)
 refine r_box [_, _, _, _, _, _, _, _, _, _, _, _, _, _, _, _] 16 (fun g => [_, ⟨some g, 36, _, 16, true⟩]) rfl rfl rfl rfl rfl (fun _ => rfl) (fun g1 => ?_)
 refine r_alloc [_, _, _, _] 4 (fun g => [_, _, ⟨some g, 25, _, 4, true⟩]) rfl rfl z25 rfl rfl (fun _ => rfl) (fun g2 => ?_)
 refine run_nil ?_
 refine at_tn ?_
 refine at_seq ?_
 refine at_region ?_
 refine r_load 0 0 [_, _, _, _, _, _, _, _] rfl rfl rfl rfl ti27 rfl rfl rfl rfl ?_
 refine r_load 1 0 [_, _, _, _, _, _, _, _, _, _, _, _, _, _, _, _] rfl rfl rfl rfl ti36 rfl rfl rfl rfl ?_
 refine r_pcall [_, _] rfl rfl rfl (c_plane_Nearest p s hp hs) ?_
 refine r_move rfl rfl rfl ?_
 refine r_extract (vs := [_, _]) rfl rfl rfl rfl ?_
 refine r_extract (vs := [_, _]) rfl rfl rfl rfl ?_
 refine r_alloc [_, _, _, _, _, _, _, _] 8 (fun g => [_, _, _, ⟨some g, 27, _, 8, true⟩]) rfl rfl z27 rfl rfl (fun _ => rfl) (fun g3 => ?_)
 refine r_alloc [_, _, _, _] 4 (fun g => [_, _, _, _, ⟨some g, 25, _, 4, true⟩]) rfl rfl z25 rfl rfl (fun _ => rfl) (fun g4 => ?_)
 refine r_store rfl 3 0 [_, _, _, ⟨some g3, 27, _, 8, true⟩, _] [_, _, _, _, _, _, _, _] rfl rfl rfl rfl ti27 rfl rfl rfl rfl rfl ?_
 refine r_store rfl 4 0 [_, _, _, _, ⟨some g4, 25, _, 4, true⟩] [_, _, _, _] rfl rfl rfl rfl ti25 rfl rfl rfl rfl rfl ?_
 refine run_nil ?_
 refine at_tn ?_
 refine at_seq ?_
 refine at_region ?_
 refine r_load 0 0 [_, _, _, _, _, _, _, _] rfl rfl rfl rfl ti27 rfl rfl rfl rfl ?_
 refine r_load 3 0 [_, _, _, _, _, _, _, _] rfl rfl rfl rfl ti27 rfl rfl rfl rfl ?_
 refine r_pcall [_, _] rfl rfl rfl (c_plane_Distance2 p (nearP p s).1 (szPm (Nat.le_trans (szP1 hp) (Nat.le_of_ble_eq_true rfl)) (Nat.le_trans (szP2 hp) (Nat.le_of_ble_eq_true rfl))) (szNear hp hs)) ?_
 refine r_store rfl 2 0 [_, _, ⟨some g2, 25, _, 4, true⟩, _, _] [_, _, _, _] rfl rfl rfl rfl ti25 rfl rfl rfl rfl rfl ?_
 refine run_nil ?_
 refine at_tn ?_
 refine at_ret ?_
 refine at_end1 rfl (res_cell 2 rfl rfl ti25 (vs := [_, _, _, _]) rfl rfl (Nat.le_of_ble_eq_true rfl) rfl) (fun w hL => ⟨?_, hL.below⟩)
 exact rfl
set_option maxRecDepth 20000 in
theorem c_ref07_Nearest (p : P2) (s : S2) (hp : szP p ≤ 1000) (hs : szS s ≤ 1000) : PCall Tryz.prog 33 #[Pt p, Sg s] (.tuple #[Pt (nearP p s).1, Q (nearP p s).2]) := by
 refine ⟨by kernel_rfl, fun w => ?_⟩
 refine calls_at (args := [Pt p, Sg s]) Tryz.func33 rfl (Nat.le_of_ble_eq_true rfl) (LRel.nil w) ?_
 show At w ⟨41, [(0, Pt p), (1, Sg s)], []⟩ _
 refine at_seq ?_
 refine at_region ?_
 refine r_box [_, _, _, _, _, _, _, _] 8 (fun g => [⟨some g, 27, _, 8, true⟩]) rfl rfl rfl rfl rfl (fun _ => rfl) (fun g0 => ?_)
 refine r_box [_, _, _, _, _, _, _, _, _, _, _, _, _, _, _, _] 16 (fun g => [_, ⟨some g, 36, _, 16, true⟩]) rfl rfl rfl rfl rfl (fun _ => rfl) (fun g1 => ?_)
 refine r_alloc [_, _, _, _, _, _, _, _] 8 (fun g => [_, _, ⟨some g, 27, _, 8, true⟩]) rfl rfl z27 rfl rfl (fun _ => rfl) (fun g2 => ?_)
 refine r_alloc [_, _, _, _] 4 (fun g => [_, _, _, ⟨some g, 25, _, 4, true⟩]) rfl rfl z25 rfl rfl (fun _ => rfl) (fun g3 => ?_)
 refine run_nil ?_
 refine at_tn ?_
 refine at_seq ?_
 refine at_region ?_
 refine r_fieldAddr 1 0 8 rfl rfl rfl rfl rfl ti36 rfl rfl ?_
 refine r_load 1 8 [_, _, _, _, _, _, _, _] rfl rfl rfl rfl ti27 rfl rfl rfl rfl ?_
 refine r_fieldAddr 1 0 0 rfl rfl rfl rfl rfl ti36 rfl rfl ?_
 refine r_load 1 0 [_, _, _, _, _, _, _, _] rfl rfl rfl rfl ti27 rfl rfl rfl rfl ?_
 refine r_pcall [_, _] rfl rfl rfl (c_ref07_Sub s.2 s.1 (szPm (Nat.le_trans (szP1 (szS2 hs)) (Nat.le_of_ble_eq_true rfl)) (Nat.le_trans (szP2 (szS2 hs)) (Nat.le_of_ble_eq_true rfl))) (szPm (Nat.le_trans (szP1 (szS1 hs)) (Nat.le_of_ble_eq_true rfl)) (Nat.le_trans (szP2 (szS1 hs)) (Nat.le_of_ble_eq_true rfl)))) ?_
 refine r_alloc [_, _, _, _, _, _, _, _] 8 (fun g => [_, _, _, _, ⟨some g, 27, _, 8, true⟩]) rfl rfl z27 rfl rfl (fun _ => rfl) (fun g4 => ?_)
 refine r_store rfl 4 0 [_, _, _, _, ⟨some g4, 27, _, 8, true⟩] [_, _, _, _, _, _, _, _] rfl rfl rfl rfl ti27 rfl rfl rfl rfl rfl ?_
 refine run_nil ?_
 refine at_tn ?_
 refine at_seq ?_
 refine at_seq ?_
 refine at_region ?_
 refine r_load 4 0 [_, _, _, _, _, _, _, _] rfl rfl rfl rfl ti27 rfl rfl rfl rfl ?_
 refine r_build [] rfl rfl rfl (bd27_0) ?_
 refine r_know 14 (Pt (0, 0)) rfl Pt_zero ?_
 refine r_eqlAgg rfl rfl rfl rfl gd27 (eq27 _ _) ?_
 refine run_nil ?_
 refine at_tn ?_
 refine at_cond rfl (fun hb0 => ?_) (fun hb0 => ?_)
 ·
  refine at_seq ?_
  refine at_drawn (l' := [⟨_,_,_,_,_,_⟩, ⟨_,_,_,_,_,_⟩, ⟨_,_,_,_,_,_⟩, ⟨_,_,_,_,_,_⟩, ⟨_,_,_,_,_,_⟩]) [] [0, 1, 2, 3, 4] mixed (by kernel_rfl) rfl (by kernel_rfl) ?_
  refine r_fieldAddr 1 0 0 rfl rfl rfl rfl rfl ti36 rfl rfl ?_
  refine r_load 1 0 [_, _, _, _, _, _, _, _] rfl rfl rfl rfl ti27 rfl rfl rfl rfl ?_
  refine r_pcall [_] rfl rfl rfl (c_ref07_Whole 0 (by omega) (by omega)) ?_
  refine r_store rfl 2 0 [_, _, ⟨some g2, 27, _, 8, true⟩, _, _] [_, _, _, _, _, _, _, _] rfl rfl rfl rfl ti27 rfl rfl rfl rfl rfl ?_
  refine r_store rfl 3 0 [_, _, _, ⟨some g3, 25, _, 4, true⟩, _] [_, _, _, _] rfl rfl rfl rfl ti25 rfl rfl rfl rfl rfl ?_
  refine run_nil ?_
  refine at_tn ?_
  refine at_ret ?_
  refine at_tr ?_
  refine at_end2 rfl (res_cell 2 rfl rfl ti27 (vs := [_, _, _, _, _, _, _, _]) rfl rfl (Nat.le_of_ble_eq_true rfl) rfl) (res_cell 3 rfl rfl ti25 (vs := [_, _, _, _]) rfl rfl (Nat.le_of_ble_eq_true rfl) rfl) (fun w hL => ⟨?_, hL.below⟩)
  rw [near_T (dot_zero.2 (of_decide_eq_true hb0))]; rfl
 ·
  have h0 : dot (pSub s.2 s.1) (pSub s.2 s.1) ≠ 0 := fun e => of_decide_eq_false hb0 (dot_zero.1 e)
  refine at_skip ?_
  refine at_tn ?_
  refine at_seq ?_
  refine at_drawnA (l' := [⟨_,_,_,_,_,_⟩, ⟨_,_,_,_,_,_⟩, ⟨_,_,_,_,_,_⟩, ⟨_,_,_,_,_,_⟩, ⟨_,_,_,_,_,_⟩, ⟨_,_,_,_,_,_⟩, ⟨_,_,_,_,_,_⟩, ⟨_,_,_,_,_,_⟩, ⟨_,_,_,_,_,_⟩, ⟨_,_,_,_,_,_⟩, ⟨_,_,_,_,_,_⟩, ⟨_,_,_,_,_,_⟩]) [3000000] [0, 1, 2, 4, 6, 7, 3, 5, 8, 9, 10, 11] mixed (by kernel_rfl) rfl ?_
  refine r_load 0 0 [_, _, _, _, _, _, _, _] rfl rfl rfl rfl ti27 rfl rfl rfl rfl ?_
  refine r_fieldAddr 1 0 0 rfl rfl rfl rfl rfl ti36 rfl rfl ?_
  refine r_load 1 0 [_, _, _, _, _, _, _, _] rfl rfl rfl rfl ti27 rfl rfl rfl rfl ?_
  refine r_load 4 0 [_, _, _, _, _, _, _, _] rfl rfl rfl rfl ti27 rfl rfl rfl rfl ?_
  refine r_load 4 0 [_, _, _, _, _, _, _, _] rfl rfl rfl rfl ti27 rfl rfl rfl rfl ?_
  refine r_load 4 0 [_, _, _, _, _, _, _, _] rfl rfl rfl rfl ti27 rfl rfl rfl rfl ?_
  refine r_pcall [_, _] rfl rfl rfl (c_ref07_Sub p s.1 (szPm (Nat.le_trans (szP1 hp) (Nat.le_of_ble_eq_true rfl)) (Nat.le_trans (szP2 hp) (Nat.le_of_ble_eq_true rfl))) (szPm (Nat.le_trans (szP1 (szS1 hs)) (Nat.le_of_ble_eq_true rfl)) (Nat.le_trans (szP2 (szS1 hs)) (Nat.le_of_ble_eq_true rfl)))) ?_
  refine r_pcall [_, _] rfl rfl rfl (c_ref07_Dot (pSub p s.1) (pSub s.2 s.1) (szPm (Nat.le_trans (szQ_sub (szP1 hp) (szP1 (szS1 hs))) (Nat.le_of_ble_eq_true rfl)) (Nat.le_trans (szQ_sub (szP2 hp) (szP2 (szS1 hs))) (Nat.le_of_ble_eq_true rfl))) (szPm (Nat.le_trans (szQ_sub (szP1 (szS2 hs)) (szP1 (szS1 hs))) (Nat.le_of_ble_eq_true rfl)) (Nat.le_trans (szQ_sub (szP2 (szS2 hs)) (szP2 (szS1 hs))) (Nat.le_of_ble_eq_true rfl)))) ?_
  refine r_pcall [_, _] rfl rfl rfl (c_ref07_Dot (pSub s.2 s.1) (pSub s.2 s.1) (szPm (Nat.le_trans (szQ_sub (szP1 (szS2 hs)) (szP1 (szS1 hs))) (Nat.le_of_ble_eq_true rfl)) (Nat.le_trans (szQ_sub (szP2 (szS2 hs)) (szP2 (szS1 hs))) (Nat.le_of_ble_eq_true rfl))) (szPm (Nat.le_trans (szQ_sub (szP1 (szS2 hs)) (szP1 (szS1 hs))) (Nat.le_of_ble_eq_true rfl)) (Nat.le_trans (szQ_sub (szP2 (szS2 hs)) (szP2 (szS1 hs))) (Nat.le_of_ble_eq_true rfl)))) ?_
  refine r_pcall [_, _] rfl rfl rfl (c_ref02_Div (dot (pSub p s.1) (pSub s.2 s.1)) (dot (pSub s.2 s.1) (pSub s.2 s.1)) h0 (Nat.le_trans (szQ_add (szQ_mul (szQ_sub (szP1 hp) (szP1 (szS1 hs))) (szQ_sub (szP1 (szS2 hs)) (szP1 (szS1 hs)))) (szQ_mul (szQ_sub (szP2 hp) (szP2 (szS1 hs))) (szQ_sub (szP2 (szS2 hs)) (szP2 (szS1 hs))))) (Nat.le_of_ble_eq_true rfl)) (Nat.le_trans (szQ_add (szQ_mul (szQ_sub (szP1 (szS2 hs)) (szP1 (szS1 hs))) (szQ_sub (szP1 (szS2 hs)) (szP1 (szS1 hs)))) (szQ_mul (szQ_sub (szP2 (szS2 hs)) (szP2 (szS1 hs))) (szQ_sub (szP2 (szS2 hs)) (szP2 (szS1 hs))))) (Nat.le_of_ble_eq_true rfl))) ?_
  refine r_alloc [_, _, _, _] 4 (fun g => [_, _, _, _, _, ⟨some g, 25, _, 4, true⟩]) rfl rfl z25 rfl rfl (fun _ => rfl) (fun g5 => ?_)
  refine r_store rfl 5 0 [_, _, _, _, _, ⟨some g5, 25, _, 4, true⟩] [_, _, _, _] rfl rfl rfl rfl ti25 rfl rfl rfl rfl rfl ?_
  refine run_nil ?_
  refine at_tn ?_
  refine at_seq ?_
  refine at_seq ?_
  refine at_region ?_
  refine r_load 5 0 [_, _, _, _] rfl rfl rfl rfl ti25 rfl rfl rfl rfl ?_
  refine r_pcall [_] rfl rfl rfl (c_ref02_Sign ((dot (pSub p s.1) (pSub s.2 s.1)) / (dot (pSub s.2 s.1) (pSub s.2 s.1)))) ?_
  refine r_cmpInt rfl rfl rfl rfl rfl ?_
  refine run_nil ?_
  refine at_tn ?_
  refine at_cond rfl (fun hb1 => ?_) (fun hb1 => ?_)
  ·
   refine at_region ?_
   refine r_pcall [_] rfl rfl rfl (c_ref07_Whole 0 (by omega) (by omega)) ?_
   refine r_store rfl 5 0 [_, _, _, _, _, ⟨some g5, 25, _, 4, true⟩] [_, _, _, _] rfl rfl rfl rfl ti25 rfl rfl rfl rfl rfl ?_
   refine run_nil ?_
   refine at_tn ?_
   refine at_seq ?_
   refine at_seq ?_
   refine at_drawn (l' := [⟨_,_,_,_,_,_⟩, ⟨_,_,_,_,_,_⟩, ⟨_,_,_,_,_,_⟩]) [] [1, 0, 2] mixed (by kernel_rfl) rfl (by kernel_rfl) ?_
   refine r_load 5 0 [_, _, _, _] rfl rfl rfl rfl ti25 rfl rfl rfl rfl ?_
   refine r_pcall [_] rfl rfl rfl (c_ref07_Whole 1 (by omega) (by omega)) ?_
   refine r_pcall [_, _] rfl rfl rfl (c_ref07_less ((1 : Int) : Rat) ((0 : Int) : Rat) (Nat.le_trans szQ_c1 (Nat.le_of_ble_eq_true rfl)) (Nat.le_trans szQ_0 (Nat.le_of_ble_eq_true rfl))) ?_
   refine run_nil ?_
   refine at_tn ?_
   refine at_cond rfl (fun hb2 => ?_) (fun hb2 => ?_)
   ·
    refine at_region ?_
    refine r_pcall [_] rfl rfl rfl (c_ref07_Whole 1 (by omega) (by omega)) ?_
    refine r_store rfl 5 0 [_, _, _, _, _, ⟨some g5, 25, _, 4, true⟩] [_, _, _, _] rfl rfl rfl rfl ti25 rfl rfl rfl rfl rfl ?_
    refine run_nil ?_
    refine at_tn ?_
    refine at_seq ?_
    refine at_drawn (l' := [⟨_,_,_,_,_,_⟩, ⟨_,_,_,_,_,_⟩, ⟨_,_,_,_,_,_⟩, ⟨_,_,_,_,_,_⟩, ⟨_,_,_,_,_,_⟩, ⟨_,_,_,_,_,_⟩]) [2, 3] [0, 1, 3, 2, 4, 5] mixed (by kernel_rfl) rfl (by kernel_rfl) ?_
    refine r_load 1 0 [_, _, _, _, _, _, _, _, _, _, _, _, _, _, _, _] rfl rfl rfl rfl ti36 rfl rfl rfl rfl ?_
    refine r_load 5 0 [_, _, _, _] rfl rfl rfl rfl ti25 rfl rfl rfl rfl ?_
    refine r_load 5 0 [_, _, _, _] rfl rfl rfl rfl ti25 rfl rfl rfl rfl ?_
    refine r_pcall [_, _] rfl rfl rfl (c_ref07_Divide s ((1 : Int) : Rat) (szSm (szPm (Nat.le_trans (szP1 (szS1 hs)) (Nat.le_of_ble_eq_true rfl)) (Nat.le_trans (szP2 (szS1 hs)) (Nat.le_of_ble_eq_true rfl))) (szPm (Nat.le_trans (szP1 (szS2 hs)) (Nat.le_of_ble_eq_true rfl)) (Nat.le_trans (szP2 (szS2 hs)) (Nat.le_of_ble_eq_true rfl)))) (Nat.le_trans szQ_c1 (Nat.le_of_ble_eq_true rfl))) ?_
    refine r_storeE 2 0 [_, _, ⟨some g2, 27, _, 8, true⟩, _, _, _] [_, _, _, _, _, _, _, _] rfl rfl rfl rfl ti27 rfl rfl rfl rfl rfl rfl ?_
    refine r_storeE 3 0 [_, _, _, ⟨some g3, 25, _, 4, true⟩, _, _] [_, _, _, _] rfl rfl rfl rfl ti25 rfl rfl rfl rfl rfl rfl ?_
    refine run_nil ?_
    refine at_tn ?_
    refine at_ret ?_
    refine at_end2 rfl (res_cell 2 rfl rfl ti27 (vs := [_, _, _, _, _, _, _, _]) rfl rfl (Nat.le_of_ble_eq_true rfl) rfl) (res_cell 3 rfl rfl ti25 (vs := [_, _, _, _]) rfl rfl (Nat.le_of_ble_eq_true rfl) rfl) (fun w hL => ⟨?_, hL.below⟩)
    exfalso
    have := of_decide_eq_true hb2
    exact absurd this (by decide)
   ·
    refine at_skip ?_
    refine at_tn ?_
    refine at_seq ?_
    refine at_drawn (l' := [⟨_,_,_,_,_,_⟩, ⟨_,_,_,_,_,_⟩, ⟨_,_,_,_,_,_⟩, ⟨_,_,_,_,_,_⟩, ⟨_,_,_,_,_,_⟩, ⟨_,_,_,_,_,_⟩]) [2, 3] [0, 1, 3, 2, 4, 5] mixed (by kernel_rfl) rfl (by kernel_rfl) ?_
    refine r_load 1 0 [_, _, _, _, _, _, _, _, _, _, _, _, _, _, _, _] rfl rfl rfl rfl ti36 rfl rfl rfl rfl ?_
    refine r_load 5 0 [_, _, _, _] rfl rfl rfl rfl ti25 rfl rfl rfl rfl ?_
    refine r_load 5 0 [_, _, _, _] rfl rfl rfl rfl ti25 rfl rfl rfl rfl ?_
    refine r_pcall [_, _] rfl rfl rfl (c_ref07_Divide s ((0 : Int) : Rat) (szSm (szPm (Nat.le_trans (szP1 (szS1 hs)) (Nat.le_of_ble_eq_true rfl)) (Nat.le_trans (szP2 (szS1 hs)) (Nat.le_of_ble_eq_true rfl))) (szPm (Nat.le_trans (szP1 (szS2 hs)) (Nat.le_of_ble_eq_true rfl)) (Nat.le_trans (szP2 (szS2 hs)) (Nat.le_of_ble_eq_true rfl)))) (Nat.le_trans szQ_0 (Nat.le_of_ble_eq_true rfl))) ?_
    refine r_storeE 2 0 [_, _, ⟨some g2, 27, _, 8, true⟩, _, _, _] [_, _, _, _, _, _, _, _] rfl rfl rfl rfl ti27 rfl rfl rfl rfl rfl rfl ?_
    refine r_storeE 3 0 [_, _, _, ⟨some g3, 25, _, 4, true⟩, _, _] [_, _, _, _] rfl rfl rfl rfl ti25 rfl rfl rfl rfl rfl rfl ?_
    refine run_nil ?_
    refine at_tn ?_
    refine at_ret ?_
    refine at_end2 rfl (res_cell 2 rfl rfl ti27 (vs := [_, _, _, _, _, _, _, _]) rfl rfl (Nat.le_of_ble_eq_true rfl) rfl) (res_cell 3 rfl rfl ti25 (vs := [_, _, _, _]) rfl rfl (Nat.le_of_ble_eq_true rfl) rfl) (fun w hL => ⟨?_, hL.below⟩)
    have e : nearQ p s = 0 := near_a (near_ref1 _ hb1).2
    rw [near_F h0, e]; rfl
  ·
   refine at_skip ?_
   refine at_tn ?_
   refine at_seq ?_
   refine at_seq ?_
   refine at_drawn (l' := [⟨_,_,_,_,_,_⟩, ⟨_,_,_,_,_,_⟩, ⟨_,_,_,_,_,_⟩]) [] [1, 0, 2] mixed (by kernel_rfl) rfl (by kernel_rfl) ?_
   refine r_load 5 0 [_, _, _, _] rfl rfl rfl rfl ti25 rfl rfl rfl rfl ?_
   refine r_pcall [_] rfl rfl rfl (c_ref07_Whole 1 (by omega) (by omega)) ?_
   refine r_pcall [_, _] rfl rfl rfl (c_ref07_less ((1 : Int) : Rat) ((dot (pSub p s.1) (pSub s.2 s.1)) / (dot (pSub s.2 s.1) (pSub s.2 s.1))) (Nat.le_trans szQ_c1 (Nat.le_of_ble_eq_true rfl)) (Nat.le_trans (szQ_div (szQ_add (szQ_mul (szQ_sub (szP1 hp) (szP1 (szS1 hs))) (szQ_sub (szP1 (szS2 hs)) (szP1 (szS1 hs)))) (szQ_mul (szQ_sub (szP2 hp) (szP2 (szS1 hs))) (szQ_sub (szP2 (szS2 hs)) (szP2 (szS1 hs))))) (szQ_add (szQ_mul (szQ_sub (szP1 (szS2 hs)) (szP1 (szS1 hs))) (szQ_sub (szP1 (szS2 hs)) (szP1 (szS1 hs)))) (szQ_mul (szQ_sub (szP2 (szS2 hs)) (szP2 (szS1 hs))) (szQ_sub (szP2 (szS2 hs)) (szP2 (szS1 hs)))))) (Nat.le_of_ble_eq_true rfl))) ?_
   refine run_nil ?_
   refine at_tn ?_
   refine at_cond rfl (fun hb2 => ?_) (fun hb2 => ?_)
   ·
    refine at_region ?_
    refine r_pcall [_] rfl rfl rfl (c_ref07_Whole 1 (by omega) (by omega)) ?_
    refine r_store rfl 5 0 [_, _, _, _, _, ⟨some g5, 25, _, 4, true⟩] [_, _, _, _] rfl rfl rfl rfl ti25 rfl rfl rfl rfl rfl ?_
    refine run_nil ?_
    refine at_tn ?_
    refine at_seq ?_
    refine at_drawn (l' := [⟨_,_,_,_,_,_⟩, ⟨_,_,_,_,_,_⟩, ⟨_,_,_,_,_,_⟩, ⟨_,_,_,_,_,_⟩, ⟨_,_,_,_,_,_⟩, ⟨_,_,_,_,_,_⟩]) [2, 3] [0, 1, 3, 2, 4, 5] mixed (by kernel_rfl) rfl (by kernel_rfl) ?_
    refine r_load 1 0 [_, _, _, _, _, _, _, _, _, _, _, _, _, _, _, _] rfl rfl rfl rfl ti36 rfl rfl rfl rfl ?_
    refine r_load 5 0 [_, _, _, _] rfl rfl rfl rfl ti25 rfl rfl rfl rfl ?_
    refine r_load 5 0 [_, _, _, _] rfl rfl rfl rfl ti25 rfl rfl rfl rfl ?_
    refine r_pcall [_, _] rfl rfl rfl (c_ref07_Divide s ((1 : Int) : Rat) (szSm (szPm (Nat.le_trans (szP1 (szS1 hs)) (Nat.le_of_ble_eq_true rfl)) (Nat.le_trans (szP2 (szS1 hs)) (Nat.le_of_ble_eq_true rfl))) (szPm (Nat.le_trans (szP1 (szS2 hs)) (Nat.le_of_ble_eq_true rfl)) (Nat.le_trans (szP2 (szS2 hs)) (Nat.le_of_ble_eq_true rfl)))) (Nat.le_trans szQ_c1 (Nat.le_of_ble_eq_true rfl))) ?_
    refine r_storeE 2 0 [_, _, ⟨some g2, 27, _, 8, true⟩, _, _, _] [_, _, _, _, _, _, _, _] rfl rfl rfl rfl ti27 rfl rfl rfl rfl rfl rfl ?_
    refine r_storeE 3 0 [_, _, _, ⟨some g3, 25, _, 4, true⟩, _, _] [_, _, _, _] rfl rfl rfl rfl ti25 rfl rfl rfl rfl rfl rfl ?_
    refine run_nil ?_
    refine at_tn ?_
    refine at_ret ?_
    refine at_end2 rfl (res_cell 2 rfl rfl ti27 (vs := [_, _, _, _, _, _, _, _]) rfl rfl (Nat.le_of_ble_eq_true rfl) rfl) (res_cell 3 rfl rfl ti25 (vs := [_, _, _, _]) rfl rfl (Nat.le_of_ble_eq_true rfl) rfl) (fun w hL => ⟨?_, hL.below⟩)
    have e : nearQ p s = 1 := near_b (near_ref0 _ hb1) (of_decide_eq_true hb2)
    rw [near_F h0, e]; rfl
   ·
    refine at_skip ?_
    refine at_tn ?_
    refine at_seq ?_
    refine at_drawn (l' := [⟨_,_,_,_,_,_⟩, ⟨_,_,_,_,_,_⟩, ⟨_,_,_,_,_,_⟩, ⟨_,_,_,_,_,_⟩, ⟨_,_,_,_,_,_⟩, ⟨_,_,_,_,_,_⟩]) [2, 3] [0, 1, 3, 2, 4, 5] mixed (by kernel_rfl) rfl (by kernel_rfl) ?_
    refine r_load 1 0 [_, _, _, _, _, _, _, _, _, _, _, _, _, _, _, _] rfl rfl rfl rfl ti36 rfl rfl rfl rfl ?_
    refine r_load 5 0 [_, _, _, _] rfl rfl rfl rfl ti25 rfl rfl rfl rfl ?_
    refine r_load 5 0 [_, _, _, _] rfl rfl rfl rfl ti25 rfl rfl rfl rfl ?_
    refine r_pcall [_, _] rfl rfl rfl (c_ref07_Divide s ((dot (pSub p s.1) (pSub s.2 s.1)) / (dot (pSub s.2 s.1) (pSub s.2 s.1))) (szSm (szPm (Nat.le_trans (szP1 (szS1 hs)) (Nat.le_of_ble_eq_true rfl)) (Nat.le_trans (szP2 (szS1 hs)) (Nat.le_of_ble_eq_true rfl))) (szPm (Nat.le_trans (szP1 (szS2 hs)) (Nat.le_of_ble_eq_true rfl)) (Nat.le_trans (szP2 (szS2 hs)) (Nat.le_of_ble_eq_true rfl)))) (Nat.le_trans (szQ_div (szQ_add (szQ_mul (szQ_sub (szP1 hp) (szP1 (szS1 hs))) (szQ_sub (szP1 (szS2 hs)) (szP1 (szS1 hs)))) (szQ_mul (szQ_sub (szP2 hp) (szP2 (szS1 hs))) (szQ_sub (szP2 (szS2 hs)) (szP2 (szS1 hs))))) (szQ_add (szQ_mul (szQ_sub (szP1 (szS2 hs)) (szP1 (szS1 hs))) (szQ_sub (szP1 (szS2 hs)) (szP1 (szS1 hs)))) (szQ_mul (szQ_sub (szP2 (szS2 hs)) (szP2 (szS1 hs))) (szQ_sub (szP2 (szS2 hs)) (szP2 (szS1 hs)))))) (Nat.le_of_ble_eq_true rfl))) ?_
    refine r_storeE 2 0 [_, _, ⟨some g2, 27, _, 8, true⟩, _, _, _] [_, _, _, _, _, _, _, _] rfl rfl rfl rfl ti27 rfl rfl rfl rfl rfl rfl ?_
    refine r_storeE 3 0 [_, _, _, ⟨some g3, 25, _, 4, true⟩, _, _] [_, _, _, _] rfl rfl rfl rfl ti25 rfl rfl rfl rfl rfl rfl ?_
    refine run_nil ?_
    refine at_tn ?_
    refine at_ret ?_
    refine at_end2 rfl (res_cell 2 rfl rfl ti27 (vs := [_, _, _, _, _, _, _, _]) rfl rfl (Nat.le_of_ble_eq_true rfl) rfl) (res_cell 3 rfl rfl ti25 (vs := [_, _, _, _]) rfl rfl (Nat.le_of_ble_eq_true rfl) rfl) (fun w hL => ⟨?_, hL.below⟩)
    have e : nearQ p s = _ := near_c (near_ref0 _ hb1) (of_decide_eq_false hb2)
    rw [near_F h0, e]; rfl
set_option maxRecDepth 20000 in
theorem c_ref07_Distance2 (p q : P2) (hp : szP p ≤ 30000) (hq : szP q ≤ 30000) : PCall Tryz.prog 42 #[Pt p, Pt q] (Q (dist2 p q)) := by
 refine ⟨by kernel_rfl, fun w => ?_⟩
 refine calls_at (args := [Pt p, Pt q]) Tryz.func42 rfl (Nat.le_of_ble_eq_true rfl) (LRel.nil w) ?_
 show At w ⟨12, [(0, Pt p), (1, Pt q)], []⟩ _
 refine at_seq ?_
 refine at_region ?_
 refine r_box [_, _, _, _, _, _, _, _] 8 (fun g => [⟨some g, 27, _, 8, true⟩]) rfl rfl rfl rfl rfl (fun _ => rfl) (fun g0 => ?_)
 refine r_box [_, _, _, _, _, _, _, _] 8 (fun g => [_, ⟨some g, 27, _, 8, true⟩]) rfl rfl rfl rfl rfl (fun _ => rfl) (fun g1 => ?_)
 refine r_alloc [_, _, _, _] 4 (fun g => [_, _, ⟨some g, 25, _, 4, true⟩]) rfl rfl z25 rfl rfl (fun _ => rfl) (fun g2 => ?_)
 refine run_nil ?_
 refine at_tn ?_
 refine at_seq ?_
 refine at_drawn (l' := [⟨_,_,_,_,_,_⟩, ⟨_,_,_,_,_,_⟩, ⟨_,_,_,_,_,_⟩, ⟨_,_,_,_,_,_⟩, ⟨_,_,_,_,_,_⟩, ⟨_,_,_,_,_,_⟩, ⟨_,_,_,_,_,_⟩, ⟨_,_,_,_,_,_⟩]) [] [0, 1, 3, 4, 2, 5, 6, 7] mixed (by kernel_rfl) rfl (by kernel_rfl) ?_
 refine r_load 0 0 [_, _, _, _, _, _, _, _] rfl rfl rfl rfl ti27 rfl rfl rfl rfl ?_
 refine r_load 1 0 [_, _, _, _, _, _, _, _] rfl rfl rfl rfl ti27 rfl rfl rfl rfl ?_
 refine r_load 0 0 [_, _, _, _, _, _, _, _] rfl rfl rfl rfl ti27 rfl rfl rfl rfl ?_
 refine r_load 1 0 [_, _, _, _, _, _, _, _] rfl rfl rfl rfl ti27 rfl rfl rfl rfl ?_
 refine r_pcall [_, _] rfl rfl rfl (c_ref07_Sub p q (szPm (Nat.le_trans (szP1 hp) (Nat.le_of_ble_eq_true rfl)) (Nat.le_trans (szP2 hp) (Nat.le_of_ble_eq_true rfl))) (szPm (Nat.le_trans (szP1 hq) (Nat.le_of_ble_eq_true rfl)) (Nat.le_trans (szP2 hq) (Nat.le_of_ble_eq_true rfl)))) ?_
 refine r_pcall [_, _] rfl rfl rfl (c_ref07_Sub p q (szPm (Nat.le_trans (szP1 hp) (Nat.le_of_ble_eq_true rfl)) (Nat.le_trans (szP2 hp) (Nat.le_of_ble_eq_true rfl))) (szPm (Nat.le_trans (szP1 hq) (Nat.le_of_ble_eq_true rfl)) (Nat.le_trans (szP2 hq) (Nat.le_of_ble_eq_true rfl)))) ?_
 refine r_pcall [_, _] rfl rfl rfl (c_ref07_Dot (pSub p q) (pSub p q) (szPm (Nat.le_trans (szQ_sub (szP1 hp) (szP1 hq)) (Nat.le_of_ble_eq_true rfl)) (Nat.le_trans (szQ_sub (szP2 hp) (szP2 hq)) (Nat.le_of_ble_eq_true rfl))) (szPm (Nat.le_trans (szQ_sub (szP1 hp) (szP1 hq)) (Nat.le_of_ble_eq_true rfl)) (Nat.le_trans (szQ_sub (szP2 hp) (szP2 hq)) (Nat.le_of_ble_eq_true rfl)))) ?_
 refine r_store rfl 2 0 [_, _, ⟨some g2, 25, _, 4, true⟩] [_, _, _, _] rfl rfl rfl rfl ti25 rfl rfl rfl rfl rfl ?_
 refine run_nil ?_
 refine at_tn ?_
 refine at_ret ?_
 refine at_end1 rfl (res_cell 2 rfl rfl ti25 (vs := [_, _, _, _]) rfl rfl (Nat.le_of_ble_eq_true rfl) rfl) (fun w hL => ⟨?_, hL.below⟩)
 exact rfl
set_option maxRecDepth 20000 in
theorem c_ref07_PointSegment2 (p : P2) (s : S2) (hp : szP p ≤ 1000) (hs : szS s ≤ 1000) : PCall Tryz.prog 44 #[Pt p, Sg s] (Q (ps2 p s)) := by
 refine ⟨by kernel_rfl, fun w => ?_⟩
 refine calls_at (args := [Pt p, Sg s]) Tryz.func44 rfl (Nat.le_of_ble_eq_true rfl) (LRel.nil w) ?_
 show At w ⟨16, [(0, Pt p), (1, Sg s)], []⟩ _
 refine at_seq ?_
 refine at_region ?_
 refine r_box [_, _, _, _, _, _, _, _] 8 (fun g => [⟨some g, 27, _, 8, true⟩]) rfl rfl rfl rfl rfl (fun _ => rfl) (fun g0 => ?_)
 refine r_box [_, _, _, _, _, _, _, _, _, _, _, _, _, _, _, _] 16 (fun g => [_, ⟨some g, 36, _, 16, true⟩]) rfl rfl rfl rfl rfl (fun _ => rfl) (fun g1 => ?_)
 refine r_alloc [_, _, _, _] 4 (fun g => [_, _, ⟨some g, 25, _, 4, true⟩]) rfl rfl z25 rfl rfl (fun _ => rfl) (fun g2 => ?_)
 refine run_nil ?_
 refine at_tn ?_
 refine at_seq ?_
 refine at_region ?_
 refine r_load 0 0 [_, _, _, _, _, _, _, _] rfl rfl rfl rfl ti27 rfl rfl rfl rfl ?_
 refine r_load 1 0 [_, _, _, _, _, _, _, _, _, _, _, _, _, _, _, _] rfl rfl rfl rfl ti36 rfl rfl rfl rfl ?_
 refine r_pcall [_, _] rfl rfl rfl (c_ref07_Nearest p s hp hs) ?_
 refine r_move rfl rfl rfl ?_
 refine r_extract (vs := [_, _]) rfl rfl rfl rfl ?_
 refine r_extract (vs := [_, _]) rfl rfl rfl rfl ?_
 refine r_alloc [_, _, _, _, _, _, _, _] 8 (fun g => [_, _, _, ⟨some g, 27, _, 8, true⟩]) rfl rfl z27 rfl rfl (fun _ => rfl) (fun g3 => ?_)
 refine r_alloc [_, _, _, _] 4 (fun g => [_, _, _, _, ⟨some g, 25, _, 4, true⟩]) rfl rfl z25 rfl rfl (fun _ => rfl) (fun g4 => ?_)
 refine r_store rfl 3 0 [_, _, _, ⟨some g3, 27, _, 8, true⟩, _] [_, _, _, _, _, _, _, _] rfl rfl rfl rfl ti27 rfl rfl rfl rfl rfl ?_
 refine r_store rfl 4 0 [_, _, _, _, ⟨some g4, 25, _, 4, true⟩] [_, _, _, _] rfl rfl rfl rfl ti25 rfl rfl rfl rfl rfl ?_
 refine run_nil ?_
 refine at_tn ?_
 refine at_seq ?_
 refine at_region ?_
 refine r_load 0 0 [_, _, _, _, _, _, _, _] rfl rfl rfl rfl ti27 rfl rfl rfl rfl ?_
 refine r_load 3 0 [_, _, _, _, _, _, _, _] rfl rfl rfl rfl ti27 rfl rfl rfl rfl ?_
 refine r_pcall [_, _] rfl rfl rfl (c_ref07_Distance2 p (nearP p s).1 (szPm (Nat.le_trans (szP1 hp) (Nat.le_of_ble_eq_true rfl)) (Nat.le_trans (szP2 hp) (Nat.le_of_ble_eq_true rfl))) (szNear hp hs)) ?_
 refine r_store rfl 2 0 [_, _, ⟨some g2, 25, _, 4, true⟩, _, _] [_, _, _, _] rfl rfl rfl rfl ti25 rfl rfl rfl rfl rfl ?_
 refine run_nil ?_
 refine at_tn ?_
 refine at_ret ?_
 refine at_end1 rfl (res_cell 2 rfl rfl ti25 (vs := [_, _, _, _]) rfl rfl (Nat.le_of_ble_eq_true rfl) rfl) (fun w hL => ⟨?_, hL.below⟩)
 exact rfl
end Go.Proofs.YthnlafhnpphdhaaGreatDoor
