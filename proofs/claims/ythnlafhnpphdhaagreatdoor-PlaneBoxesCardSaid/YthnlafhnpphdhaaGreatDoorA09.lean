/-
  Part 9: lemmas, and walks through the functions that the laws of chapter 07 call. Each theorem states its own conditions.
-/
import Derived.Test.YthnlafhnpphdhaaGreatDoorA08
set_option linter.unusedVariables false
set_option linter.unusedVariables false
namespace Go.Proofs.YthnlafhnpphdhaaGreatDoor
open Go Go.RowKit Go.Via
set_option maxRecDepth 20000 in
theorem c_ref02_Sub (p q : Rat) (hp : szQ p ≤ 4194303) (hq : szQ q ≤ 4194303) : PCall Tryz.prog 64 #[Q p, Q q] (Q (p - q)) := by
 refine ⟨by kernel_rfl, fun w => ?_⟩
 refine calls_at (args := [Q p, Q q]) Tryz.func64 rfl (Nat.le_of_ble_eq_true rfl) (LRel.nil w) ?_
 show At w ⟨9, [(0, Q p), (1, Q q)], []⟩ _
 refine at_seq ?_
 refine at_region ?_
 refine r_box [_, _, _, _] 4 (fun g => [⟨some g, 25, _, 4, true⟩]) rfl rfl rfl rfl rfl (fun _ => rfl) (fun g0 => ?_)
 refine r_box [_, _, _, _] 4 (fun g => [_, ⟨some g, 25, _, 4, true⟩]) rfl rfl rfl rfl rfl (fun _ => rfl) (fun g1 => ?_)
 refine r_alloc [_, _, _, _] 4 (fun g => [_, _, ⟨some g, 25, _, 4, true⟩]) rfl rfl z25 rfl rfl (fun _ => rfl) (fun g2 => ?_)
 refine run_nil ?_
 refine at_tn ?_
 refine at_seq ?_
 refine at_drawn (l' := [⟨_,_,_,_,_,_⟩, ⟨_,_,_,_,_,_⟩, ⟨_,_,_,_,_,_⟩, ⟨_,_,_,_,_,_⟩, ⟨_,_,_,_,_,_⟩]) [] [0, 1, 2, 3, 4] mixed (by kernel_rfl) rfl (by kernel_rfl) ?_
 refine r_load 0 0 [_, _, _, _] rfl rfl rfl rfl ti25 rfl rfl rfl rfl ?_
 refine r_load 1 0 [_, _, _, _] rfl rfl rfl rfl ti25 rfl rfl rfl rfl ?_
 refine r_pcall [_] rfl rfl rfl (c_ref02_Neg q) ?_
 refine r_pcall [_, _] rfl rfl rfl (c_ref02_Add p (-q) hp (Nat.le_trans (lQ_neg q) hq)) ?_
 refine r_store rfl 2 0 [_, _, ⟨some g2, 25, _, 4, true⟩] [_, _, _, _] rfl rfl rfl rfl ti25 rfl rfl rfl rfl rfl ?_
 refine run_nil ?_
 refine at_tn ?_
 refine at_ret ?_
 refine at_end1 rfl (res_cell 2 rfl rfl ti25 (vs := [_, _, _, _]) rfl rfl (Nat.le_of_ble_eq_true rfl) rfl) (fun w hL => ⟨?_, hL.below⟩)
 exact congrArg (fun z => Ending.returned (Q z)) (Rat.sub_eq_add_neg p q).symm
set_option maxRecDepth 20000 in
theorem c_ref02_Compare (p q : Rat) (hp : szQ p ≤ 4194303) (hq : szQ q ≤ 4194303) : PCall Tryz.prog 47 #[Q p, Q q] (.int .i64 (cmpQ p q)) := by
 refine ⟨by kernel_rfl, fun w => ?_⟩
 refine calls_at (args := [Q p, Q q]) Tryz.func47 rfl (Nat.le_of_ble_eq_true rfl) (LRel.nil w) ?_
 show At w ⟨9, [(0, Q p), (1, Q q)], []⟩ _
 refine at_seq ?_
 refine at_region ?_
 refine r_box [_, _, _, _] 4 (fun g => [⟨some g, 25, _, 4, true⟩]) rfl rfl rfl rfl rfl (fun _ => rfl) (fun g0 => ?_)
 refine r_box [_, _, _, _] 4 (fun g => [_, ⟨some g, 25, _, 4, true⟩]) rfl rfl rfl rfl rfl (fun _ => rfl) (fun g1 => ?_)
 refine r_assign rfl rfl rfl ?_
 refine run_nil ?_
 refine at_tn ?_
 refine at_seq ?_
 refine at_region ?_
 refine r_load 0 0 [_, _, _, _] rfl rfl rfl rfl ti25 rfl rfl rfl rfl ?_
 refine r_load 1 0 [_, _, _, _] rfl rfl rfl rfl ti25 rfl rfl rfl rfl ?_
 refine r_pcall [_, _] rfl rfl rfl (c_ref02_Sub p q hp hq) ?_
 refine r_pcall [_] rfl rfl rfl (c_ref02_Sign (p - q)) ?_
 refine r_assign rfl rfl rfl ?_
 refine run_nil ?_
 refine at_tn ?_
 refine at_ret ?_
 refine at_end1 rfl (res_tmp rfl) (fun w hL => ⟨?_, hL.below⟩)
 exact congrArg (fun z => Ending.returned (.int .i64 z)) (sign_sub p q)
set_option maxRecDepth 20000 in
theorem c_ref02_Floor (q : Rat) (hq : szQ q ≤ 4194302) : PCall Tryz.prog 90 #[Q q] (Q (q.floor : Rat)) := by
 have e1 := nb_num hq
 have e2 := nb_den hq
 have dq : 0 < q.den := Nat.pos_of_ne_zero q.den_nz
 refine ⟨by kernel_rfl, fun w => ?_⟩
 refine calls_at (args := [Q q]) Tryz.func90 rfl (Nat.le_of_ble_eq_true rfl) (LRel.nil w) ?_
 show At w ⟨33, [(0, Q q)], []⟩ _
 refine at_seq ?_
 refine at_region ?_
 refine r_box [_, _, _, _] 4 (fun g => [⟨some g, 25, _, 4, true⟩]) rfl rfl rfl rfl rfl (fun _ => rfl) (fun g0 => ?_)
 refine r_alloc [_, _, _, _] 4 (fun g => [_, ⟨some g, 25, _, 4, true⟩]) rfl rfl z25 rfl rfl (fun _ => rfl) (fun g1 => ?_)
 refine run_nil ?_
 refine at_tn ?_
 refine at_seq ?_
 refine at_region ?_
 refine r_load 0 0 [_, _, _, _] rfl rfl rfl rfl ti25 rfl rfl rfl rfl ?_
 refine r_scallA [_] [] rfl rfl rfl ((c_ref02_of q (Nat.le_trans hq (Nat.le_of_ble_eq_true rfl))).weakA own2) trivial rfl rfl (fun x => ?_)
 refine r_alloc [_, _, _] 3 (fun g => [_, _, _, _, ⟨some g, 97, _, 3, true⟩]) rfl rfl z97 rfl rfl (fun _ => rfl) (fun g2 => ?_)
 refine r_store rfl 4 0 [_, _, _, _, ⟨some g2, 97, _, 3, true⟩] [_, _, _] rfl rfl rfl rfl ti97 rfl rfl rfl rfl rfl ?_
 refine run_nil ?_
 refine at_tn ?_
 refine at_seq ?_
 refine at_region ?_
 refine r_fieldAddr 4 0 1 rfl rfl rfl rfl rfl ti97 rfl rfl ?_
 refine r_load 4 1 [_] rfl rfl rfl rfl ti85 rfl rfl rfl rfl ?_
 refine r_fieldAddr 4 0 2 rfl rfl rfl rfl rfl ti97 rfl rfl ?_
 refine r_load 4 2 [_] rfl rfl rfl rfl ti85 rfl rfl rfl rfl ?_
 refine r_scallA [_, _] [2, 3] rfl rfl rfl (div_two (fun g hg => ⟨_, List.mem_cons_self, hg⟩) rfl (c_ref02_divide q.num.natAbs q.den dq (by omega) (by omega) x.1 x.2)) ⟨⟨_, rfl, le_share⟩, ⟨_, rfl, le_share⟩, trivial⟩ rfl rfl (fun z => ?_)
 refine r_move rfl rfl rfl ?_
 refine r_extract (vs := [_, _]) rfl rfl rfl rfl ?_
 refine r_extract (vs := [_, _]) rfl rfl rfl rfl ?_
 refine r_assign rfl rfl rfl ?_
 refine r_assign rfl rfl rfl ?_
 refine run_nil ?_
 refine at_tn ?_
 refine at_seq ?_
 refine at_region ?_
 refine r_move rfl rfl rfl ?_
 refine r_fieldAddr 4 0 0 rfl rfl rfl rfl rfl ti97 rfl rfl ?_
 refine r_load 4 0 [_] rfl rfl rfl rfl ti4 rfl rfl rfl rfl ?_
 refine r_scall0 [_, _] [5] rfl rfl rfl (c_ref02_whole (q.num.natAbs / q.den) (decide (q.num < 0)) (by have := nb_div q.num.natAbs q.den; omega) z.1) ⟨⟨_, rfl, le_share⟩, trivial⟩ rfl ?_
 refine r_build [(0, _)] rfl rfl rfl (bd25_1) ?_
 refine r_alloc [_, _, _, _] 4 (fun g => [_, _, _, _, _, _, _, ⟨some g, 25, _, 4, true⟩]) rfl rfl z25 rfl rfl (fun _ => rfl) (fun g3 => ?_)
 refine r_store rfl 7 0 [_, _, _, _, _, _, _, ⟨some g3, 25, _, 4, true⟩] [_, _, _, _] rfl rfl rfl rfl ti25 rfl rfl rfl rfl rfl ?_
 refine run_nil ?_
 refine at_tn ?_
 refine at_seq ?_
 refine at_seq ?_
 refine at_region ?_
 refine r_fieldAddr 4 0 0 rfl rfl rfl rfl rfl ti97 rfl rfl ?_
 refine r_load 4 0 [_] rfl rfl rfl rfl ti4 rfl rfl rfl rfl ?_
 refine r_move rfl rfl rfl ?_
 refine r_split 24 rfl (fun hb0 => ?_) (fun hb0 => ?_)
 ·
  have hneg : q.num < 0 := of_decide_eq_true hb0
  refine r_move rfl rfl rfl ?_
  refine r_lenS u85 rfl rfl rfl ?_
  refine r_cmpInt rfl rfl rfl rfl rfl ?_
  refine r_pickT rfl rfl rfl rfl ?_
  refine run_nil ?_
  refine at_tn ?_
  refine at_cond rfl (fun hb1 => ?_) (fun hb1 => ?_)
  ·
   have hr : q.num.natAbs % q.den ≠ 0 := fun e => by rw [e, nb_zero] at hb1; cases hb1
   refine at_drawn (l' := [⟨_,_,_,_,_,_⟩, ⟨_,_,_,_,_,_⟩, ⟨_,_,_,_,_,_⟩, ⟨_,_,_,_,_,_⟩]) [] [0, 1, 2, 3] mixed (by kernel_rfl) rfl (by kernel_rfl) ?_
   refine r_load 7 0 [_, _, _, _] rfl rfl rfl rfl ti25 rfl rfl rfl rfl ?_
   refine r_know 29 (Q ((sg true (q.num.natAbs / q.den) : Int) : Rat)) rfl (flo_q hneg) ?_
   refine r_pcall [_, _] rfl rfl rfl (c_ref02_Of 1 1 (by omega) (by omega) (by omega) (by omega) (by omega)) ?_
   refine r_know 30 (Q 1) rfl (by rw [of_one]) ?_
   refine r_pcall [_, _] rfl rfl rfl (c_ref02_Sub ((sg true (q.num.natAbs / q.den) : Int) : Rat) 1 (Nat.le_trans (szQ_cast _) (by show nb (sg true (q.num.natAbs / q.den)).natAbs + 1 ≤ _; rw [sg_natAbs]; have := nb_div q.num.natAbs q.den; omega)) (Nat.le_trans szQ_one (Nat.le_of_ble_eq_true rfl))) ?_
   refine r_know 31 (Q (q.floor : Rat)) rfl (congrArg Q (floor_neg hneg hr)) ?_
   refine r_store rfl 7 0 [_, _, _, _, _, _, _, ⟨some g3, 25, _, 4, true⟩] [_, _, _, _] rfl rfl rfl rfl ti25 rfl rfl rfl rfl rfl ?_
   refine run_nil ?_
   refine at_tn ?_
   refine at_seq ?_
   refine at_region ?_
   refine r_load 7 0 [_, _, _, _] rfl rfl rfl rfl ti25 rfl rfl rfl rfl ?_
   refine r_store rfl 1 0 [_, ⟨some g1, 25, _, 4, true⟩, _, _, _, _, _, _] [_, _, _, _] rfl rfl rfl rfl ti25 rfl rfl rfl rfl rfl ?_
   refine run_nil ?_
   refine at_tn ?_
   refine at_ret ?_
   refine at_end1 rfl (res_cell 1 rfl rfl ti25 (vs := [_, _, _, _]) rfl rfl (Nat.le_of_ble_eq_true rfl) rfl) (fun w hL => ⟨?_, hL.below⟩)
   exact rfl
  ·
   have hr : q.num.natAbs % q.den = 0 := Classical.byContradiction fun e => by have := nb_pos e; have hz : ¬ ((0 : Int) < ((nb (q.num.natAbs % q.den) : Nat) : Int)) := of_decide_eq_false hb1; omega
   refine at_skip ?_
   refine at_tn ?_
   refine at_seq ?_
   refine at_region ?_
   refine r_load 7 0 [_, _, _, _] rfl rfl rfl rfl ti25 rfl rfl rfl rfl ?_
   refine r_store rfl 1 0 [_, ⟨some g1, 25, _, 4, true⟩, _, _, _, _, _, _] [_, _, _, _] rfl rfl rfl rfl ti25 rfl rfl rfl rfl rfl ?_
   refine run_nil ?_
   refine at_tn ?_
   refine at_ret ?_
   refine at_end1 rfl (res_cell 1 rfl rfl ti25 (vs := [_, _, _, _]) rfl rfl (Nat.le_of_ble_eq_true rfl) rfl) (fun w hL => ⟨?_, hL.below⟩)
   exact congrArg Ending.returned (floor8 hr)
 ·
  have hneg : ¬ q.num < 0 := of_decide_eq_false hb0
  refine r_no rfl rfl rfl ?_
  refine r_no rfl rfl rfl ?_
  refine r_no rfl rfl rfl ?_
  refine r_pickF rfl rfl rfl rfl ?_
  refine run_nil ?_
  refine at_tn ?_
  refine at_condF rfl ?_
  refine at_skip ?_
  refine at_tn ?_
  refine at_seq ?_
  refine at_region ?_
  refine r_load 7 0 [_, _, _, _] rfl rfl rfl rfl ti25 rfl rfl rfl rfl ?_
  refine r_store rfl 1 0 [_, ⟨some g1, 25, _, 4, true⟩, _, _, _, _, _, _] [_, _, _, _] rfl rfl rfl rfl ti25 rfl rfl rfl rfl rfl ?_
  refine run_nil ?_
  refine at_tn ?_
  refine at_ret ?_
  refine at_end1 rfl (res_cell 1 rfl rfl ti25 (vs := [_, _, _, _]) rfl rfl (Nat.le_of_ble_eq_true rfl) rfl) (fun w hL => ⟨?_, hL.below⟩)
  exact congrArg Ending.returned (floor8n hneg)
set_option maxRecDepth 20000 in
theorem c_ref02_IsInt (b : Bool) (s : ByteArray) : PCall Tryz.prog 82 #[.agg #[.bool b, .string s]] (.bool (!badI b s)) := by
 refine ⟨by kernel_rfl, fun w => ?_⟩
 refine calls_at (args := [.agg #[.bool b, .string s]]) Tryz.func82 rfl (Nat.le_of_ble_eq_true rfl) (LRel.nil w) ?_
 show At w ⟨14, [(0, .agg #[.bool b, .string s])], []⟩ _
 refine at_seq ?_
 refine at_region ?_
 refine r_box [_, _] 2 (fun g => [⟨some g, 23, _, 2, true⟩]) rfl rfl rfl rfl rfl (fun _ => rfl) (fun g0 => ?_)
 refine r_assign rfl rfl rfl ?_
 refine run_nil ?_
 refine at_tn ?_
 refine at_seq ?_
 refine at_seq ?_
 refine at_region ?_
 refine r_fieldAddr 0 0 1 rfl rfl rfl rfl rfl ti23 rfl rfl ?_
 refine r_load 0 1 [_] rfl rfl rfl rfl ti9 rfl rfl rfl rfl ?_
 refine r_len rfl u9 rfl rfl ?_
 refine r_cmpInt rfl rfl rfl rfl rfl ?_
 refine run_nil ?_
 refine at_tn ?_
 refine at_cond rfl (fun hb0 => ?_) (fun hb0 => ?_)
 ·
  have he := ba_size0 hb0
  refine at_seq ?_
  refine at_region ?_
  refine r_fieldAddr 0 0 0 rfl rfl rfl rfl rfl ti23 rfl rfl ?_
  refine r_load 0 0 [_] rfl rfl rfl rfl ti4 rfl rfl rfl rfl ?_
  refine r_not rfl rfl rfl ?_
  refine r_assign rfl rfl rfl ?_
  refine run_nil ?_
  refine at_tn ?_
  refine at_ret ?_
  refine at_tr ?_
  refine at_end1 rfl (res_tmp rfl) (fun w hL => ⟨?_, hL.below⟩)
  rw [badI_nil he]
 ·
  obtain ⟨x, l, he⟩ := ba_sizeN hb0
  refine at_skip ?_
  refine at_tn ?_
  refine at_seq ?_
  refine at_region ?_
  refine r_fieldAddr 0 0 1 rfl rfl rfl rfl rfl ti23 rfl rfl ?_
  refine r_load 0 1 [_] rfl rfl rfl rfl ti9 rfl rfl rfl rfl ?_
  refine r_idxS (b := x) (r := (x.toNat : Int)) u9 rfl rfl rfl rfl (by omega) (by rw [he]; rfl) rfl ?_
  refine r_cmpInt rfl rfl rfl rfl rfl ?_
  refine r_assign rfl rfl rfl ?_
  refine run_nil ?_
  refine at_tn ?_
  refine at_ret ?_
  refine at_end1 rfl (res_tmp rfl) (fun w hL => ⟨?_, hL.below⟩)
  rw [badI_cons he]
end Go.Proofs.YthnlafhnpphdhaaGreatDoor
set_option linter.unusedVariables false
namespace Go.Proofs.YthnlafhnpphdhaaGreatDoor
open Go Go.RowKit Go.Via
set_option maxRecDepth 20000 in
theorem c_ref02_Check (b1 : Bool) (s1 : ByteArray) (b2 : Bool) (s2 : ByteArray) (hs1 : s1.size ≤ 1000) (hs2 : s2.size ≤ 1000) : PCall Tryz.prog 48 #[.agg #[.bool b1, .string s1, .bool b2, .string s2]] (.bool (isQ b1 s1 b2 s2)) := by
 refine ⟨by kernel_rfl, fun w => ?_⟩
 refine calls_at (args := [.agg #[.bool b1, .string s1, .bool b2, .string s2]]) Tryz.func48 rfl (Nat.le_of_ble_eq_true rfl) (LRel.nil w) ?_
 show At w ⟨45, [(0, .agg #[.bool b1, .string s1, .bool b2, .string s2])], []⟩ _
 refine at_seq ?_
 refine at_region ?_
 refine r_box [_, _, _, _] 4 (fun g => [⟨some g, 25, _, 4, true⟩]) rfl rfl rfl rfl rfl (fun _ => rfl) (fun g0 => ?_)
 refine r_assign rfl rfl rfl ?_
 refine run_nil ?_
 refine at_tn ?_
 refine at_seq ?_
 refine at_seq ?_
 refine at_region ?_
 refine r_fieldAddr 0 0 0 rfl rfl rfl rfl rfl ti25 rfl rfl ?_
 refine r_load 0 0 [_, _] rfl rfl rfl rfl ti23 rfl rfl rfl rfl ?_
 refine r_pcall [_] rfl rfl rfl (c_ref02_IsInt b1 s1) ?_
 refine r_not rfl rfl rfl ?_
 refine r_move rfl rfl rfl ?_
 refine r_split 8 rfl (fun hb0 => ?_) (fun hb0 => ?_)
 ·
  have hI1 : badI b1 s1 = true := by simpa using hb0
  refine r_no rfl rfl rfl ?_
  refine r_no rfl rfl rfl ?_
  refine r_no rfl rfl rfl ?_
  refine r_no rfl rfl rfl ?_
  refine r_pickT rfl rfl rfl rfl ?_
  refine r_move rfl rfl rfl ?_
  refine r_no rfl rfl rfl ?_
  refine r_no rfl rfl rfl ?_
  refine r_no rfl rfl rfl ?_
  refine r_pickT rfl rfl rfl rfl ?_
  refine run_nil ?_
  refine at_tn ?_
  refine at_condT rfl ?_
  refine at_seq ?_
  refine at_region ?_
  refine r_assign rfl rfl rfl ?_
  refine run_nil ?_
  refine at_tn ?_
  refine at_ret ?_
  refine at_tr ?_
  refine at_end1 rfl (res_tmp rfl) (fun w hL => ⟨?_, hL.below⟩)
  rw [isQ_1 hI1]
 ·
  have hI1 : badI b1 s1 = false := by simpa using hb0
  refine r_fieldAddr 0 0 2 rfl rfl rfl rfl rfl ti25 rfl rfl ?_
  refine r_load 0 2 [_, _] rfl rfl rfl rfl ti23 rfl rfl rfl rfl ?_
  refine r_pcall [_] rfl rfl rfl (c_ref02_IsInt b2 s2) ?_
  refine r_not rfl rfl rfl ?_
  refine r_pickF rfl rfl rfl rfl ?_
  refine r_move rfl rfl rfl ?_
  refine r_split 14 rfl (fun hb1 => ?_) (fun hb1 => ?_)
  ·
   have hI2 : badI b2 s2 = true := by simpa using hb1
   refine r_no rfl rfl rfl ?_
   refine r_no rfl rfl rfl ?_
   refine r_no rfl rfl rfl ?_
   refine r_pickT rfl rfl rfl rfl ?_
   refine run_nil ?_
   refine at_tn ?_
   refine at_condT rfl ?_
   refine at_seq ?_
   refine at_region ?_
   refine r_assign rfl rfl rfl ?_
   refine run_nil ?_
   refine at_tn ?_
   refine at_ret ?_
   refine at_tr ?_
   refine at_end1 rfl (res_tmp rfl) (fun w hL => ⟨?_, hL.below⟩)
   rw [isQ_2 hI2]
  ·
   have hI2 : badI b2 s2 = false := by simpa using hb1
   refine r_fieldAddr 0 0 2 rfl rfl rfl rfl rfl ti25 rfl rfl ?_
   refine r_fieldAddr 0 2 0 rfl rfl rfl rfl rfl ti23 rfl rfl ?_
   refine r_load 0 2 [_] rfl rfl rfl rfl ti4 rfl rfl rfl rfl ?_
   refine r_pickF rfl rfl rfl rfl ?_
   refine run_nil ?_
   refine at_tn ?_
   refine at_cond rfl (fun hb2 => ?_) (fun hb2 => ?_)
   ·
    subst hb2
    refine at_seq ?_
    refine at_region ?_
    refine r_assign rfl rfl rfl ?_
    refine run_nil ?_
    refine at_tn ?_
    refine at_ret ?_
    refine at_tr ?_
    refine at_end1 rfl (res_tmp rfl) (fun w hL => ⟨?_, hL.below⟩)
    rw [isQ_3]
   ·
    subst hb2
    refine at_skip ?_
    refine at_tn ?_
    refine at_seq ?_
    refine at_seq ?_
    refine at_region ?_
    refine r_fieldAddr 0 0 2 rfl rfl rfl rfl rfl ti25 rfl rfl ?_
    refine r_fieldAddr 0 2 1 rfl rfl rfl rfl rfl ti23 rfl rfl ?_
    refine r_load 0 3 [_] rfl rfl rfl rfl ti9 rfl rfl rfl rfl ?_
    refine r_eqlStr rfl rfl rfl rfl ?_
    refine run_nil ?_
    refine at_tn ?_
    refine at_cond rfl (fun hb3 => ?_) (fun hb3 => ?_)
    ·
     have he2 := ba_nil hb3
     refine at_seq ?_
     refine at_region ?_
     refine r_assign rfl rfl rfl ?_
     refine run_nil ?_
     refine at_tn ?_
     refine at_ret ?_
     refine at_tr ?_
     refine at_end1 rfl (res_tmp rfl) (fun w hL => ⟨?_, hL.below⟩)
     rw [isQ_4 hI1 he2]
    ·
     obtain ⟨z, rfl, rfl⟩ := okI_z hI1
     obtain ⟨d, hd0, rfl⟩ := okI_d hb3 hI2
     rw [mag_size] at hs1 hs2
     have hz1 : szI z ≤ 1000 := hs1
     have hz2 : szI (d : Int) ≤ 1000 := szI_cast hs2
     have hz3 : nb z.natAbs ≤ 1000 := hs1
     refine at_skip ?_
     refine at_tn ?_
     refine at_seq ?_
     refine at_drawn (l' := [⟨_,_,_,_,_,_⟩, ⟨_,_,_,_,_,_⟩, ⟨_,_,_,_,_,_⟩, ⟨_,_,_,_,_,_⟩, ⟨_,_,_,_,_,_⟩, ⟨_,_,_,_,_,_⟩, ⟨_,_,_,_,_,_⟩, ⟨_,_,_,_,_,_⟩]) [] [0, 1, 3, 4, 2, 5, 6, 7] mixed (by kernel_rfl) rfl (by kernel_rfl) ?_
     refine r_fieldAddr 0 0 0 rfl rfl rfl rfl rfl ti25 rfl rfl ?_
     refine r_load 0 0 [_, _] rfl rfl rfl rfl ti23 rfl rfl rfl rfl ?_
     refine r_fieldAddr 0 0 2 rfl rfl rfl rfl rfl ti25 rfl rfl ?_
     refine r_load 0 2 [_, _] rfl rfl rfl rfl ti23 rfl rfl rfl rfl ?_
     refine r_know 27 (I (d : Int)) rfl (I_nat d) ?_
     refine r_scallA [_] [] rfl rfl rfl ((c_ref02_digits z (by omega)).weakA (fun x b hb => by rw [List.mem_singleton.1 hb])) trivial rfl rfl (fun xn => ?_)
     refine r_scallA [_] [] rfl rfl rfl ((c_ref02_digits (d : Int) (by omega)).weakA (fun x b hb => by rw [List.mem_singleton.1 hb])) trivial rfl rfl (fun xd => ?_)
     refine r_scallA [_, _] [1, 2] rfl rfl rfl (c_ref02_common z.natAbs d (by omega) (by omega) xn xd) ⟨⟨_, rfl, le_share⟩, ⟨_, rfl, le_share⟩, trivial⟩ rfl rfl (fun zg => ?_)
     refine r_assign rfl rfl rfl ?_
     refine run_nil ?_
     refine at_tn ?_
     refine at_seq ?_
     refine at_region ?_
     refine r_fieldAddr 0 0 2 rfl rfl rfl rfl rfl ti25 rfl rfl ?_
     refine r_fieldAddr 0 2 1 rfl rfl rfl rfl rfl ti23 rfl rfl ?_
     refine r_load 0 3 [_] rfl rfl rfl rfl ti9 rfl rfl rfl rfl ?_
     refine r_neqStr rfl rfl rfl rfl ?_
     refine r_move rfl rfl rfl ?_
     refine r_split 34 rfl (fun hb4 => ?_) (fun hb4 => ?_)
     ·
      have hd1 : d ≠ 1 := mag_ne1 hb4
      refine r_move rfl rfl rfl ?_
      refine r_lenS u85 rfl rfl rfl ?_
      refine r_cmpInt rfl rfl rfl rfl rfl ?_
      refine r_pickT rfl rfl rfl rfl ?_
      refine r_move rfl rfl rfl ?_
      refine r_split 39 rfl (fun hb5 => ?_) (fun hb5 => ?_)
      ·
       have hg1 : nb (Nat.gcd z.natAbs d) = 1 := by have := eq_of_beq hb5; omega
       refine r_move rfl rfl rfl ?_
       refine r_indexAddr 3 (0) u85 ti3 rfl rfl rfl rfl rfl (by omega) (by omega) (NV_ne (by rw [D8_length]; omega)) (by show 0 + Int.toNat _ * 1 = _; omega) ?_
       refine r_load1 3 (0) ti3 rfl rfl rfl rfl (NV_get (D8_get (by omega))) ?_
       refine r_cmpInt rfl rfl rfl rfl rfl ?_
       refine r_pickT rfl rfl rfl rfl ?_
       refine r_assign rfl rfl rfl ?_
       refine run_nil ?_
       refine at_tn ?_
       refine at_ret ?_
       refine at_end1 rfl (res_tmp rfl) (fun w hL => ⟨?_, hL.below⟩)
       exact congrArg (fun b => Ending.returned (.bool b)) (isQ_5 hd0 hd1 hg1)
      ·
       have hg1 : Nat.gcd z.natAbs d ≠ 1 := not_one_of_nb (by simpa using hb5)
       refine r_no rfl rfl rfl ?_
       refine r_no rfl rfl rfl ?_
       refine r_no rfl rfl rfl ?_
       refine r_no rfl rfl rfl ?_
       refine r_pickF rfl rfl rfl rfl ?_
       refine r_assign rfl rfl rfl ?_
       refine run_nil ?_
       refine at_tn ?_
       refine at_ret ?_
       refine at_end1 rfl (res_tmp rfl) (fun w hL => ⟨?_, hL.below⟩)
       exact congrArg (fun b => Ending.returned (.bool b)) (isQ_6 hd0 hg1)
     ·
      have hd1 : d = 1 := mag_eq1 hb4
      refine r_no rfl rfl rfl ?_
      refine r_no rfl rfl rfl ?_
      refine r_no rfl rfl rfl ?_
      refine r_pickF rfl rfl rfl rfl ?_
      refine r_move rfl rfl rfl ?_
      refine r_no rfl rfl rfl ?_
      refine r_no rfl rfl rfl ?_
      refine r_no rfl rfl rfl ?_
      refine r_no rfl rfl rfl ?_
      refine r_pickF rfl rfl rfl rfl ?_
      refine r_assign rfl rfl rfl ?_
      refine run_nil ?_
      refine at_tn ?_
      refine at_ret ?_
      refine at_end1 rfl (res_tmp rfl) (fun w hL => ⟨?_, hL.below⟩)
      exact congrArg (fun b => Ending.returned (.bool b)) (isQ_7 hd1)
end Go.Proofs.YthnlafhnpphdhaaGreatDoor
set_option linter.unusedVariables false
set_option linter.unusedSimpArgs false
namespace Go.Via
open Go Go.RowKit
/-! ### points and segments over the rational numbers -/
abbrev P2 := Rat × Rat
abbrev S2 := P2 × P2
def szP (p : P2) : Nat := max (szQ p.1) (szQ p.2)
def szS (s : S2) : Nat := max (szP s.1) (szP s.2)
theorem szP1 {p : P2} {n : Nat} (h : szP p ≤ n) : szQ p.1 ≤ n := by unfold szP at h; omega
theorem szP2 {p : P2} {n : Nat} (h : szP p ≤ n) : szQ p.2 ≤ n := by unfold szP at h; omega
theorem szPm {p : P2} {n : Nat} (h1 : szQ p.1 ≤ n) (h2 : szQ p.2 ≤ n) : szP p ≤ n := by unfold szP; omega
theorem szS1 {s : S2} {n : Nat} (h : szS s ≤ n) : szP s.1 ≤ n := by unfold szS at h; omega
theorem szS2 {s : S2} {n : Nat} (h : szS s ≤ n) : szP s.2 ≤ n := by unfold szS at h; omega
theorem szSm {s : S2} {n : Nat} (h1 : szP s.1 ≤ n) (h2 : szP s.2 ≤ n) : szS s ≤ n := by unfold szS; omega
def pAdd (p q : P2) : P2 := (p.1 + q.1, p.2 + q.2)
def pSub (p q : P2) : P2 := (p.1 - q.1, p.2 - q.2)
def pScale (p : P2) (r : Rat) : P2 := (p.1 * r, p.2 * r)
def dot (p q : P2) : Rat := p.1 * q.1 + p.2 * q.2
def crs (p q : P2) : Rat := p.1 * q.2 - p.2 * q.1
def sgn (q : Rat) : Int := q.num.sign
def cmpP (p q : P2) : Int := if cmpQ p.1 q.1 = 0 then cmpQ p.2 q.2 else cmpQ p.1 q.1
def ori (a b c : P2) : Int := sgn (crs (pSub b a) (pSub c a))
def divP (s : S2) (r : Rat) : P2 := pAdd s.1 (pScale (pSub s.2 s.1) r)
/-- the program's test whether a point lies on a segment -/
def onS (p : P2) (s : S2) : Prop := ori s.1 s.2 p = 0 ∧ 0 ≤ cmpP s.1 p * cmpP p s.2 ∧ (s.1 ≠ s.2 ∨ p = s.1)
instance (p : P2) (s : S2) : Decidable (onS p s) := inferInstanceAs (Decidable (_ ∧ _ ∧ _))
/-- that of the reference -/
def btw (x a b : Rat) : Prop := (¬ x < a ∧ ¬ b < x) ∨ (¬ x < b ∧ ¬ a < x)
instance (x a b : Rat) : Decidable (btw x a b) := inferInstanceAs (Decidable (_ ∨ _))
def onR (p : P2) (s : S2) : Prop := ori s.1 s.2 p = 0 ∧ btw p.1 s.1.1 s.2.1 ∧ btw p.2 s.1.2 s.2.2
instance (p : P2) (s : S2) : Decidable (onR p s) := inferInstanceAs (Decidable (_ ∧ _ ∧ _))
theorem Q_zero' : Value.agg #[.bool false, .string ⟨#[]⟩, .bool false, .string ⟨#[]⟩] = Q 0 := Q_zero.symm
theorem cmpQ_cases (p q : Rat) : cmpQ p q = -1 ∨ cmpQ p q = 0 ∨ cmpQ p q = 1 := by
  unfold cmpQ
  by_cases h : p < q
  · rw [if_pos h]; exact .inl rfl
  · rw [if_neg h]
    by_cases h2 : q < p
    · rw [if_pos h2]; exact .inr (.inr rfl)
    · rw [if_neg h2]; exact .inr (.inl rfl)
theorem cmpP_cases (p q : P2) : cmpP p q = -1 ∨ cmpP p q = 0 ∨ cmpP p q = 1 := by
  unfold cmpP; split
  · exact cmpQ_cases _ _
  · exact cmpQ_cases _ _
theorem cmpP_T {p q : P2} (h : (cmpQ p.1 q.1 != 0) = true) : cmpQ p.1 q.1 = cmpP p q := by
  have : cmpQ p.1 q.1 ≠ 0 := by simpa using h
  unfold cmpP; rw [if_neg this]
theorem cmpP_F {p q : P2} (h : (cmpQ p.1 q.1 != 0) = false) : cmpQ p.2 q.2 = cmpP p q := by
  have : cmpQ p.1 q.1 = 0 := by simpa using h
  unfold cmpP; rw [if_pos this]
theorem sgn_bound (q : Rat) : -1 ≤ sgn q ∧ sgn q ≤ 1 := by
  unfold sgn
  rcases Int.lt_trichotomy q.num 0 with h | h | h
  · rw [Int.sign_eq_neg_one_of_neg h]; omega
  · rw [h]; decide
  · rw [Int.sign_eq_one_of_pos h]; omega
theorem cmpQ_less {a b : Rat} : decide (cmpQ a b < 0) = decide (a < b) := by
  refine decide_eq_decide.2 ?_
  unfold cmpQ
  by_cases h : a < b
  · rw [if_pos h]; simp [h]
  · rw [if_neg h]
    by_cases h2 : b < a
    · rw [if_pos h2]; simp [h]
    · rw [if_neg h2]; simp [h]
end Go.Via
namespace Go.Proofs.YthnlafhnpphdhaaGreatDoor
open Go Go.RowKit Go.Via
theorem eq27 (p q : P2) (w : World) : (Op.equalIn 10000 27 (Pt p) (Pt q)).run Tryz.prog w = .ok (decide (p = q)) w := eq27d 9996 p q w
end Go.Proofs.YthnlafhnpphdhaaGreatDoor
set_option linter.unusedVariables false
namespace Go.Proofs.YthnlafhnpphdhaaGreatDoor
open Go Go.RowKit Go.Via
set_option maxRecDepth 20000 in
theorem c_plane_Add (p q : P2) (hp : szP p ≤ 1000000) (hq : szP q ≤ 1000000) : PCall Tryz.prog 16 #[Pt p, Pt q] (Pt (pAdd p q)) := by
 refine ⟨by kernel_rfl, fun w => ?_⟩
 refine calls_at (args := [Pt p, Pt q]) Tryz.func16 rfl (Nat.le_of_ble_eq_true rfl) (LRel.nil w) ?_
 show At w ⟨16, [(0, Pt p), (1, Pt q)], []⟩ _
 refine at_seq ?_
 refine at_region ?_
 refine r_box [_, _, _, _, _, _, _, _] 8 (fun g => [⟨some g, 27, _, 8, true⟩]) rfl rfl rfl rfl rfl (fun _ => rfl) (fun g0 => ?_)
 refine r_box [_, _, _, _, _, _, _, _] 8 (fun g => [_, ⟨some g, 27, _, 8, true⟩]) rfl rfl rfl rfl rfl (fun _ => rfl) (fun g1 => ?_)
 refine r_alloc [_, _, _, _, _, _, _, _] 8 (fun g => [_, _, ⟨some g, 27, _, 8, true⟩]) rfl rfl z27 rfl rfl (fun _ => rfl) (fun g2 => ?_)
 refine run_nil ?_
 refine at_tn ?_
 refine at_seq ?_
 refine at_drawn (l' := [⟨_,_,_,_,_,_⟩, ⟨_,_,_,_,_,_⟩, ⟨_,_,_,_,_,_⟩, ⟨_,_,_,_,_,_⟩, ⟨_,_,_,_,_,_⟩, ⟨_,_,_,_,_,_⟩, ⟨_,_,_,_,_,_⟩, ⟨_,_,_,_,_,_⟩, ⟨_,_,_,_,_,_⟩, ⟨_,_,_,_,_,_⟩, ⟨_,_,_,_,_,_⟩, ⟨_,_,_,_,_,_⟩]) [] [0, 1, 2, 3, 5, 6, 7, 8, 4, 9, 10, 11] mixed (by kernel_rfl) rfl (by kernel_rfl) ?_
 refine r_fieldAddr 0 0 0 rfl rfl rfl rfl rfl ti27 rfl rfl ?_
 refine r_load 0 0 [_, _, _, _] rfl rfl rfl rfl ti25 rfl rfl rfl rfl ?_
 refine r_fieldAddr 1 0 0 rfl rfl rfl rfl rfl ti27 rfl rfl ?_
 refine r_load 1 0 [_, _, _, _] rfl rfl rfl rfl ti25 rfl rfl rfl rfl ?_
 refine r_fieldAddr 0 0 4 rfl rfl rfl rfl rfl ti27 rfl rfl ?_
 refine r_load 0 4 [_, _, _, _] rfl rfl rfl rfl ti25 rfl rfl rfl rfl ?_
 refine r_fieldAddr 1 0 4 rfl rfl rfl rfl rfl ti27 rfl rfl ?_
 refine r_load 1 4 [_, _, _, _] rfl rfl rfl rfl ti25 rfl rfl rfl rfl ?_
 refine r_pcall [_, _] rfl rfl rfl (c_rational_Add p.1 q.1 (Nat.le_trans (szP1 hp) (Nat.le_of_ble_eq_true rfl)) (Nat.le_trans (szP1 hq) (Nat.le_of_ble_eq_true rfl))) ?_
 refine r_pcall [_, _] rfl rfl rfl (c_rational_Add p.2 q.2 (Nat.le_trans (szP2 hp) (Nat.le_of_ble_eq_true rfl)) (Nat.le_trans (szP2 hq) (Nat.le_of_ble_eq_true rfl))) ?_
 refine r_build [(0, _), (1, _)] rfl rfl rfl (bd27_2) ?_
 refine r_store rfl 2 0 [_, _, ⟨some g2, 27, _, 8, true⟩] [_, _, _, _, _, _, _, _] rfl rfl rfl rfl ti27 rfl rfl rfl rfl rfl ?_
 refine run_nil ?_
 refine at_tn ?_
 refine at_ret ?_
 refine at_end1 rfl (res_cell 2 rfl rfl ti27 (vs := [_, _, _, _, _, _, _, _]) rfl rfl (Nat.le_of_ble_eq_true rfl) rfl) (fun w hL => ⟨?_, hL.below⟩)
 exact rfl
set_option maxRecDepth 20000 in
theorem c_plane_Scale (p : P2) (r : Rat) (hp : szP p ≤ 1000000) (hr : szQ r ≤ 1000000) : PCall Tryz.prog 20 #[Pt p, Q r] (Pt (pScale p r)) := by
 refine ⟨by kernel_rfl, fun w => ?_⟩
 refine calls_at (args := [Pt p, Q r]) Tryz.func20 rfl (Nat.le_of_ble_eq_true rfl) (LRel.nil w) ?_
 show At w ⟨14, [(0, Pt p), (1, Q r)], []⟩ _
 refine at_seq ?_
 refine at_region ?_
 refine r_box [_, _, _, _, _, _, _, _] 8 (fun g => [⟨some g, 27, _, 8, true⟩]) rfl rfl rfl rfl rfl (fun _ => rfl) (fun g0 => ?_)
 refine r_box [_, _, _, _] 4 (fun g => [_, ⟨some g, 25, _, 4, true⟩]) rfl rfl rfl rfl rfl (fun _ => rfl) (fun g1 => ?_)
 refine r_alloc [_, _, _, _, _, _, _, _] 8 (fun g => [_, _, ⟨some g, 27, _, 8, true⟩]) rfl rfl z27 rfl rfl (fun _ => rfl) (fun g2 => ?_)
 refine run_nil ?_
 refine at_tn ?_
 refine at_seq ?_
 refine at_drawn (l' := [⟨_,_,_,_,_,_⟩, ⟨_,_,_,_,_,_⟩, ⟨_,_,_,_,_,_⟩, ⟨_,_,_,_,_,_⟩, ⟨_,_,_,_,_,_⟩, ⟨_,_,_,_,_,_⟩, ⟨_,_,_,_,_,_⟩, ⟨_,_,_,_,_,_⟩, ⟨_,_,_,_,_,_⟩, ⟨_,_,_,_,_,_⟩]) [] [0, 1, 2, 4, 5, 6, 3, 7, 8, 9] mixed (by kernel_rfl) rfl (by kernel_rfl) ?_
 refine r_fieldAddr 0 0 0 rfl rfl rfl rfl rfl ti27 rfl rfl ?_
 refine r_load 0 0 [_, _, _, _] rfl rfl rfl rfl ti25 rfl rfl rfl rfl ?_
 refine r_load 1 0 [_, _, _, _] rfl rfl rfl rfl ti25 rfl rfl rfl rfl ?_
 refine r_fieldAddr 0 0 4 rfl rfl rfl rfl rfl ti27 rfl rfl ?_
 refine r_load 0 4 [_, _, _, _] rfl rfl rfl rfl ti25 rfl rfl rfl rfl ?_
 refine r_load 1 0 [_, _, _, _] rfl rfl rfl rfl ti25 rfl rfl rfl rfl ?_
 refine r_pcall [_, _] rfl rfl rfl (c_rational_Mul p.1 r (Nat.le_trans (szP1 hp) (Nat.le_of_ble_eq_true rfl)) (Nat.le_trans hr (Nat.le_of_ble_eq_true rfl))) ?_
 refine r_pcall [_, _] rfl rfl rfl (c_rational_Mul p.2 r (Nat.le_trans (szP2 hp) (Nat.le_of_ble_eq_true rfl)) (Nat.le_trans hr (Nat.le_of_ble_eq_true rfl))) ?_
 refine r_build [(0, _), (1, _)] rfl rfl rfl (bd27_2) ?_
 refine r_store rfl 2 0 [_, _, ⟨some g2, 27, _, 8, true⟩] [_, _, _, _, _, _, _, _] rfl rfl rfl rfl ti27 rfl rfl rfl rfl rfl ?_
 refine run_nil ?_
 refine at_tn ?_
 refine at_ret ?_
 refine at_end1 rfl (res_cell 2 rfl rfl ti27 (vs := [_, _, _, _, _, _, _, _]) rfl rfl (Nat.le_of_ble_eq_true rfl) rfl) (fun w hL => ⟨?_, hL.below⟩)
 exact rfl
set_option maxRecDepth 20000 in
theorem c_plane_Sub (p q : P2) (hp : szP p ≤ 900000) (hq : szP q ≤ 900000) : PCall Tryz.prog 18 #[Pt p, Pt q] (Pt (pSub p q)) := by
 refine ⟨by kernel_rfl, fun w => ?_⟩
 refine calls_at (args := [Pt p, Pt q]) Tryz.func18 rfl (Nat.le_of_ble_eq_true rfl) (LRel.nil w) ?_
 show At w ⟨16, [(0, Pt p), (1, Pt q)], []⟩ _
 refine at_seq ?_
 refine at_region ?_
 refine r_box [_, _, _, _, _, _, _, _] 8 (fun g => [⟨some g, 27, _, 8, true⟩]) rfl rfl rfl rfl rfl (fun _ => rfl) (fun g0 => ?_)
 refine r_box [_, _, _, _, _, _, _, _] 8 (fun g => [_, ⟨some g, 27, _, 8, true⟩]) rfl rfl rfl rfl rfl (fun _ => rfl) (fun g1 => ?_)
 refine r_alloc [_, _, _, _, _, _, _, _] 8 (fun g => [_, _, ⟨some g, 27, _, 8, true⟩]) rfl rfl z27 rfl rfl (fun _ => rfl) (fun g2 => ?_)
 refine run_nil ?_
 refine at_tn ?_
 refine at_seq ?_
 refine at_drawn (l' := [⟨_,_,_,_,_,_⟩, ⟨_,_,_,_,_,_⟩, ⟨_,_,_,_,_,_⟩, ⟨_,_,_,_,_,_⟩, ⟨_,_,_,_,_,_⟩, ⟨_,_,_,_,_,_⟩, ⟨_,_,_,_,_,_⟩, ⟨_,_,_,_,_,_⟩, ⟨_,_,_,_,_,_⟩, ⟨_,_,_,_,_,_⟩, ⟨_,_,_,_,_,_⟩, ⟨_,_,_,_,_,_⟩]) [] [0, 1, 2, 3, 5, 6, 7, 8, 4, 9, 10, 11] mixed (by kernel_rfl) rfl (by kernel_rfl) ?_
 refine r_fieldAddr 0 0 0 rfl rfl rfl rfl rfl ti27 rfl rfl ?_
 refine r_load 0 0 [_, _, _, _] rfl rfl rfl rfl ti25 rfl rfl rfl rfl ?_
 refine r_fieldAddr 1 0 0 rfl rfl rfl rfl rfl ti27 rfl rfl ?_
 refine r_load 1 0 [_, _, _, _] rfl rfl rfl rfl ti25 rfl rfl rfl rfl ?_
 refine r_fieldAddr 0 0 4 rfl rfl rfl rfl rfl ti27 rfl rfl ?_
 refine r_load 0 4 [_, _, _, _] rfl rfl rfl rfl ti25 rfl rfl rfl rfl ?_
 refine r_fieldAddr 1 0 4 rfl rfl rfl rfl rfl ti27 rfl rfl ?_
 refine r_load 1 4 [_, _, _, _] rfl rfl rfl rfl ti25 rfl rfl rfl rfl ?_
 refine r_pcall [_, _] rfl rfl rfl (c_rational_Sub p.1 q.1 (Nat.le_trans (szP1 hp) (Nat.le_of_ble_eq_true rfl)) (Nat.le_trans (szP1 hq) (Nat.le_of_ble_eq_true rfl))) ?_
 refine r_pcall [_, _] rfl rfl rfl (c_rational_Sub p.2 q.2 (Nat.le_trans (szP2 hp) (Nat.le_of_ble_eq_true rfl)) (Nat.le_trans (szP2 hq) (Nat.le_of_ble_eq_true rfl))) ?_
 refine r_build [(0, _), (1, _)] rfl rfl rfl (bd27_2) ?_
 refine r_store rfl 2 0 [_, _, ⟨some g2, 27, _, 8, true⟩] [_, _, _, _, _, _, _, _] rfl rfl rfl rfl ti27 rfl rfl rfl rfl rfl ?_
 refine run_nil ?_
 refine at_tn ?_
 refine at_ret ?_
 refine at_end1 rfl (res_cell 2 rfl rfl ti27 (vs := [_, _, _, _, _, _, _, _]) rfl rfl (Nat.le_of_ble_eq_true rfl) rfl) (fun w hL => ⟨?_, hL.below⟩)
 exact rfl
set_option maxRecDepth 20000 in
theorem c_plane_Dot (p q : P2) (hp : szP p ≤ 300000) (hq : szP q ≤ 300000) : PCall Tryz.prog 22 #[Pt p, Pt q] (Q (dot p q)) := by
 refine ⟨by kernel_rfl, fun w => ?_⟩
 refine calls_at (args := [Pt p, Pt q]) Tryz.func22 rfl (Nat.le_of_ble_eq_true rfl) (LRel.nil w) ?_
 show At w ⟨16, [(0, Pt p), (1, Pt q)], []⟩ _
 refine at_seq ?_
 refine at_region ?_
 refine r_box [_, _, _, _, _, _, _, _] 8 (fun g => [⟨some g, 27, _, 8, true⟩]) rfl rfl rfl rfl rfl (fun _ => rfl) (fun g0 => ?_)
 refine r_box [_, _, _, _, _, _, _, _] 8 (fun g => [_, ⟨some g, 27, _, 8, true⟩]) rfl rfl rfl rfl rfl (fun _ => rfl) (fun g1 => ?_)
 refine r_alloc [_, _, _, _] 4 (fun g => [_, _, ⟨some g, 25, _, 4, true⟩]) rfl rfl z25 rfl rfl (fun _ => rfl) (fun g2 => ?_)
 refine run_nil ?_
 refine at_tn ?_
 refine at_seq ?_
 refine at_drawn (l' := [⟨_,_,_,_,_,_⟩, ⟨_,_,_,_,_,_⟩, ⟨_,_,_,_,_,_⟩, ⟨_,_,_,_,_,_⟩, ⟨_,_,_,_,_,_⟩, ⟨_,_,_,_,_,_⟩, ⟨_,_,_,_,_,_⟩, ⟨_,_,_,_,_,_⟩, ⟨_,_,_,_,_,_⟩, ⟨_,_,_,_,_,_⟩, ⟨_,_,_,_,_,_⟩, ⟨_,_,_,_,_,_⟩]) [] [0, 1, 2, 3, 5, 6, 7, 8, 4, 9, 10, 11] mixed (by kernel_rfl) rfl (by kernel_rfl) ?_
 refine r_fieldAddr 0 0 0 rfl rfl rfl rfl rfl ti27 rfl rfl ?_
 refine r_load 0 0 [_, _, _, _] rfl rfl rfl rfl ti25 rfl rfl rfl rfl ?_
 refine r_fieldAddr 1 0 0 rfl rfl rfl rfl rfl ti27 rfl rfl ?_
 refine r_load 1 0 [_, _, _, _] rfl rfl rfl rfl ti25 rfl rfl rfl rfl ?_
 refine r_fieldAddr 0 0 4 rfl rfl rfl rfl rfl ti27 rfl rfl ?_
 refine r_load 0 4 [_, _, _, _] rfl rfl rfl rfl ti25 rfl rfl rfl rfl ?_
 refine r_fieldAddr 1 0 4 rfl rfl rfl rfl rfl ti27 rfl rfl ?_
 refine r_load 1 4 [_, _, _, _] rfl rfl rfl rfl ti25 rfl rfl rfl rfl ?_
 refine r_pcall [_, _] rfl rfl rfl (c_rational_Mul p.1 q.1 (Nat.le_trans (szP1 hp) (Nat.le_of_ble_eq_true rfl)) (Nat.le_trans (szP1 hq) (Nat.le_of_ble_eq_true rfl))) ?_
 refine r_pcall [_, _] rfl rfl rfl (c_rational_Mul p.2 q.2 (Nat.le_trans (szP2 hp) (Nat.le_of_ble_eq_true rfl)) (Nat.le_trans (szP2 hq) (Nat.le_of_ble_eq_true rfl))) ?_
 refine r_pcall [_, _] rfl rfl rfl (c_rational_Add (p.1 * q.1) (p.2 * q.2) (Nat.le_trans (szQ_mul (szP1 hp) (szP1 hq)) (Nat.le_of_ble_eq_true rfl)) (Nat.le_trans (szQ_mul (szP2 hp) (szP2 hq)) (Nat.le_of_ble_eq_true rfl))) ?_
 refine r_store rfl 2 0 [_, _, ⟨some g2, 25, _, 4, true⟩] [_, _, _, _] rfl rfl rfl rfl ti25 rfl rfl rfl rfl rfl ?_
 refine run_nil ?_
 refine at_tn ?_
 refine at_ret ?_
 refine at_end1 rfl (res_cell 2 rfl rfl ti25 (vs := [_, _, _, _]) rfl rfl (Nat.le_of_ble_eq_true rfl) rfl) (fun w hL => ⟨?_, hL.below⟩)
 exact rfl
set_option maxRecDepth 20000 in
theorem c_plane_CrossProduct (p q : P2) (hp : szP p ≤ 300000) (hq : szP q ≤ 300000) : PCall Tryz.prog 24 #[Pt p, Pt q] (Q (crs p q)) := by
 refine ⟨by kernel_rfl, fun w => ?_⟩
 refine calls_at (args := [Pt p, Pt q]) Tryz.func24 rfl (Nat.le_of_ble_eq_true rfl) (LRel.nil w) ?_
 show At w ⟨16, [(0, Pt p), (1, Pt q)], []⟩ _
 refine at_seq ?_
 refine at_region ?_
 refine r_box [_, _, _, _, _, _, _, _] 8 (fun g => [⟨some g, 27, _, 8, true⟩]) rfl rfl rfl rfl rfl (fun _ => rfl) (fun g0 => ?_)
 refine r_box [_, _, _, _, _, _, _, _] 8 (fun g => [_, ⟨some g, 27, _, 8, true⟩]) rfl rfl rfl rfl rfl (fun _ => rfl) (fun g1 => ?_)
 refine r_alloc [_, _, _, _] 4 (fun g => [_, _, ⟨some g, 25, _, 4, true⟩]) rfl rfl z25 rfl rfl (fun _ => rfl) (fun g2 => ?_)
 refine run_nil ?_
 refine at_tn ?_
 refine at_seq ?_
 refine at_drawn (l' := [⟨_,_,_,_,_,_⟩, ⟨_,_,_,_,_,_⟩, ⟨_,_,_,_,_,_⟩, ⟨_,_,_,_,_,_⟩, ⟨_,_,_,_,_,_⟩, ⟨_,_,_,_,_,_⟩, ⟨_,_,_,_,_,_⟩, ⟨_,_,_,_,_,_⟩, ⟨_,_,_,_,_,_⟩, ⟨_,_,_,_,_,_⟩, ⟨_,_,_,_,_,_⟩, ⟨_,_,_,_,_,_⟩]) [] [0, 1, 2, 3, 5, 6, 7, 8, 4, 9, 10, 11] mixed (by kernel_rfl) rfl (by kernel_rfl) ?_
 refine r_fieldAddr 0 0 0 rfl rfl rfl rfl rfl ti27 rfl rfl ?_
 refine r_load 0 0 [_, _, _, _] rfl rfl rfl rfl ti25 rfl rfl rfl rfl ?_
 refine r_fieldAddr 1 0 4 rfl rfl rfl rfl rfl ti27 rfl rfl ?_
 refine r_load 1 4 [_, _, _, _] rfl rfl rfl rfl ti25 rfl rfl rfl rfl ?_
 refine r_fieldAddr 0 0 4 rfl rfl rfl rfl rfl ti27 rfl rfl ?_
 refine r_load 0 4 [_, _, _, _] rfl rfl rfl rfl ti25 rfl rfl rfl rfl ?_
 refine r_fieldAddr 1 0 0 rfl rfl rfl rfl rfl ti27 rfl rfl ?_
 refine r_load 1 0 [_, _, _, _] rfl rfl rfl rfl ti25 rfl rfl rfl rfl ?_
 refine r_pcall [_, _] rfl rfl rfl (c_rational_Mul p.1 q.2 (Nat.le_trans (szP1 hp) (Nat.le_of_ble_eq_true rfl)) (Nat.le_trans (szP2 hq) (Nat.le_of_ble_eq_true rfl))) ?_
 refine r_pcall [_, _] rfl rfl rfl (c_rational_Mul p.2 q.1 (Nat.le_trans (szP2 hp) (Nat.le_of_ble_eq_true rfl)) (Nat.le_trans (szP1 hq) (Nat.le_of_ble_eq_true rfl))) ?_
 refine r_pcall [_, _] rfl rfl rfl (c_rational_Sub (p.1 * q.2) (p.2 * q.1) (Nat.le_trans (szQ_mul (szP1 hp) (szP2 hq)) (Nat.le_of_ble_eq_true rfl)) (Nat.le_trans (szQ_mul (szP2 hp) (szP1 hq)) (Nat.le_of_ble_eq_true rfl))) ?_
 refine r_store rfl 2 0 [_, _, ⟨some g2, 25, _, 4, true⟩] [_, _, _, _] rfl rfl rfl rfl ti25 rfl rfl rfl rfl rfl ?_
 refine run_nil ?_
 refine at_tn ?_
 refine at_ret ?_
 refine at_end1 rfl (res_cell 2 rfl rfl ti25 (vs := [_, _, _, _]) rfl rfl (Nat.le_of_ble_eq_true rfl) rfl) (fun w hL => ⟨?_, hL.below⟩)
 exact rfl
set_option maxRecDepth 20000 in
theorem c_plane_Compare (p q : P2) (hp : szP p ≤ 1000000) (hq : szP q ≤ 1000000) : PCall Tryz.prog 31 #[Pt p, Pt q] (.int .i64 (cmpP p q)) := by
 refine ⟨by kernel_rfl, fun w => ?_⟩
 refine calls_at (args := [Pt p, Pt q]) Tryz.func31 rfl (Nat.le_of_ble_eq_true rfl) (LRel.nil w) ?_
 show At w ⟨19, [(0, Pt p), (1, Pt q)], []⟩ _
 refine at_seq ?_
 refine at_region ?_
 refine r_box [_, _, _, _, _, _, _, _] 8 (fun g => [⟨some g, 27, _, 8, true⟩]) rfl rfl rfl rfl rfl (fun _ => rfl) (fun g0 => ?_)
 refine r_box [_, _, _, _, _, _, _, _] 8 (fun g => [_, ⟨some g, 27, _, 8, true⟩]) rfl rfl rfl rfl rfl (fun _ => rfl) (fun g1 => ?_)
 refine r_assign rfl rfl rfl ?_
 refine run_nil ?_
 refine at_tn ?_
 refine at_seq ?_
 refine at_seq ?_
 refine at_region ?_
 refine r_fieldAddr 0 0 0 rfl rfl rfl rfl rfl ti27 rfl rfl ?_
 refine r_load 0 0 [_, _, _, _] rfl rfl rfl rfl ti25 rfl rfl rfl rfl ?_
 refine r_fieldAddr 1 0 0 rfl rfl rfl rfl rfl ti27 rfl rfl ?_
 refine r_load 1 0 [_, _, _, _] rfl rfl rfl rfl ti25 rfl rfl rfl rfl ?_
 refine r_pcall [_, _] rfl rfl rfl (c_rational_Compare p.1 q.1 (Nat.le_trans (szP1 hp) (Nat.le_of_ble_eq_true rfl)) (Nat.le_trans (szP1 hq) (Nat.le_of_ble_eq_true rfl))) ?_
 refine r_assign rfl rfl rfl ?_
 refine run_nil ?_
 refine at_tn ?_
 refine at_seq ?_
 refine at_region ?_
 refine r_move rfl rfl rfl ?_
 refine r_cmpInt rfl rfl rfl rfl rfl ?_
 refine run_nil ?_
 refine at_tn ?_
 refine at_cond rfl (fun hb0 => ?_) (fun hb0 => ?_)
 ·
  refine at_seq ?_
  refine at_region ?_
  refine r_move rfl rfl rfl ?_
  refine r_assign rfl rfl rfl ?_
  refine run_nil ?_
  refine at_tn ?_
  refine at_ret ?_
  refine at_tr ?_
  refine at_end1 rfl (res_tmp rfl) (fun w hL => ⟨?_, hL.below⟩)
  exact congrArg (fun z => Ending.returned (.int .i64 z)) (cmpP_T hb0)
 ·
  refine at_skip ?_
  refine at_tn ?_
  refine at_seq ?_
  refine at_region ?_
  refine r_fieldAddr 0 0 4 rfl rfl rfl rfl rfl ti27 rfl rfl ?_
  refine r_load 0 4 [_, _, _, _] rfl rfl rfl rfl ti25 rfl rfl rfl rfl ?_
  refine r_fieldAddr 1 0 4 rfl rfl rfl rfl rfl ti27 rfl rfl ?_
  refine r_load 1 4 [_, _, _, _] rfl rfl rfl rfl ti25 rfl rfl rfl rfl ?_
  refine r_pcall [_, _] rfl rfl rfl (c_rational_Compare p.2 q.2 (Nat.le_trans (szP2 hp) (Nat.le_of_ble_eq_true rfl)) (Nat.le_trans (szP2 hq) (Nat.le_of_ble_eq_true rfl))) ?_
  refine r_assign rfl rfl rfl ?_
  refine run_nil ?_
  refine at_tn ?_
  refine at_ret ?_
  refine at_end1 rfl (res_tmp rfl) (fun w hL => ⟨?_, hL.below⟩)
  exact congrArg (fun z => Ending.returned (.int .i64 z)) (cmpP_F hb0)
set_option maxRecDepth 20000 in
theorem c_plane_Orientation (a b c : P2) (ha : szP a ≤ 100000) (hb : szP b ≤ 100000) (hc : szP c ≤ 100000) : PCall Tryz.prog 37 #[Pt a, Pt b, Pt c] (.int .i64 (ori a b c)) := by
 refine ⟨by kernel_rfl, fun w => ?_⟩
 refine calls_at (args := [Pt a, Pt b, Pt c]) Tryz.func37 rfl (Nat.le_of_ble_eq_true rfl) (LRel.nil w) ?_
 show At w ⟨15, [(0, Pt a), (1, Pt b), (2, Pt c)], []⟩ _
 refine at_seq ?_
 refine at_region ?_
 refine r_box [_, _, _, _, _, _, _, _] 8 (fun g => [⟨some g, 27, _, 8, true⟩]) rfl rfl rfl rfl rfl (fun _ => rfl) (fun g0 => ?_)
 refine r_box [_, _, _, _, _, _, _, _] 8 (fun g => [_, ⟨some g, 27, _, 8, true⟩]) rfl rfl rfl rfl rfl (fun _ => rfl) (fun g1 => ?_)
 refine r_box [_, _, _, _, _, _, _, _] 8 (fun g => [_, _, ⟨some g, 27, _, 8, true⟩]) rfl rfl rfl rfl rfl (fun _ => rfl) (fun g2 => ?_)
 refine r_assign rfl rfl rfl ?_
 refine run_nil ?_
 refine at_tn ?_
 refine at_seq ?_
 refine at_drawn (l' := [⟨_,_,_,_,_,_⟩, ⟨_,_,_,_,_,_⟩, ⟨_,_,_,_,_,_⟩, ⟨_,_,_,_,_,_⟩, ⟨_,_,_,_,_,_⟩, ⟨_,_,_,_,_,_⟩, ⟨_,_,_,_,_,_⟩, ⟨_,_,_,_,_,_⟩, ⟨_,_,_,_,_,_⟩]) [] [0, 1, 3, 4, 2, 5, 6, 7, 8] mixed (by kernel_rfl) rfl (by kernel_rfl) ?_
 refine r_load 1 0 [_, _, _, _, _, _, _, _] rfl rfl rfl rfl ti27 rfl rfl rfl rfl ?_
 refine r_load 0 0 [_, _, _, _, _, _, _, _] rfl rfl rfl rfl ti27 rfl rfl rfl rfl ?_
 refine r_load 2 0 [_, _, _, _, _, _, _, _] rfl rfl rfl rfl ti27 rfl rfl rfl rfl ?_
 refine r_load 0 0 [_, _, _, _, _, _, _, _] rfl rfl rfl rfl ti27 rfl rfl rfl rfl ?_
 refine r_pcall [_, _] rfl rfl rfl (c_plane_Sub b a (szPm (Nat.le_trans (szP1 hb) (Nat.le_of_ble_eq_true rfl)) (Nat.le_trans (szP2 hb) (Nat.le_of_ble_eq_true rfl))) (szPm (Nat.le_trans (szP1 ha) (Nat.le_of_ble_eq_true rfl)) (Nat.le_trans (szP2 ha) (Nat.le_of_ble_eq_true rfl)))) ?_
 refine r_pcall [_, _] rfl rfl rfl (c_plane_Sub c a (szPm (Nat.le_trans (szP1 hc) (Nat.le_of_ble_eq_true rfl)) (Nat.le_trans (szP2 hc) (Nat.le_of_ble_eq_true rfl))) (szPm (Nat.le_trans (szP1 ha) (Nat.le_of_ble_eq_true rfl)) (Nat.le_trans (szP2 ha) (Nat.le_of_ble_eq_true rfl)))) ?_
 refine r_pcall [_, _] rfl rfl rfl (c_plane_CrossProduct (pSub b a) (pSub c a) (szPm (Nat.le_trans (szQ_sub (szP1 hb) (szP1 ha)) (Nat.le_of_ble_eq_true rfl)) (Nat.le_trans (szQ_sub (szP2 hb) (szP2 ha)) (Nat.le_of_ble_eq_true rfl))) (szPm (Nat.le_trans (szQ_sub (szP1 hc) (szP1 ha)) (Nat.le_of_ble_eq_true rfl)) (Nat.le_trans (szQ_sub (szP2 hc) (szP2 ha)) (Nat.le_of_ble_eq_true rfl)))) ?_
 refine r_pcall [_] rfl rfl rfl (c_rational_Sign (crs (pSub b a) (pSub c a))) ?_
 refine r_assign rfl rfl rfl ?_
 refine run_nil ?_
 refine at_tn ?_
 refine at_ret ?_
 refine at_end1 rfl (res_tmp rfl) (fun w hL => ⟨?_, hL.below⟩)
 exact rfl
set_option maxRecDepth 20000 in
theorem c_plane_Divide (s : S2) (r : Rat) (hs : szS s ≤ 200000) (hr : szQ r ≤ 200000) : PCall Tryz.prog 29 #[Sg s, Q r] (Pt (divP s r)) := by
 refine ⟨by kernel_rfl, fun w => ?_⟩
 refine calls_at (args := [Sg s, Q r]) Tryz.func29 rfl (Nat.le_of_ble_eq_true rfl) (LRel.nil w) ?_
 show At w ⟨15, [(0, Sg s), (1, Q r)], []⟩ _
 refine at_seq ?_
 refine at_region ?_
 refine r_box [_, _, _, _, _, _, _, _, _, _, _, _, _, _, _, _] 16 (fun g => [⟨some g, 36, _, 16, true⟩]) rfl rfl rfl rfl rfl (fun _ => rfl) (fun g0 => ?_)
 refine r_box [_, _, _, _] 4 (fun g => [_, ⟨some g, 25, _, 4, true⟩]) rfl rfl rfl rfl rfl (fun _ => rfl) (fun g1 => ?_)
 refine r_alloc [_, _, _, _, _, _, _, _] 8 (fun g => [_, _, ⟨some g, 27, _, 8, true⟩]) rfl rfl z27 rfl rfl (fun _ => rfl) (fun g2 => ?_)
 refine run_nil ?_
 refine at_tn ?_
 refine at_seq ?_
 refine at_drawn (l' := [⟨_,_,_,_,_,_⟩, ⟨_,_,_,_,_,_⟩, ⟨_,_,_,_,_,_⟩, ⟨_,_,_,_,_,_⟩, ⟨_,_,_,_,_,_⟩, ⟨_,_,_,_,_,_⟩, ⟨_,_,_,_,_,_⟩, ⟨_,_,_,_,_,_⟩, ⟨_,_,_,_,_,_⟩, ⟨_,_,_,_,_,_⟩, ⟨_,_,_,_,_,_⟩]) [] [0, 1, 2, 3, 4, 5, 7, 6, 8, 9, 10] mixed (by kernel_rfl) rfl (by kernel_rfl) ?_
 refine r_fieldAddr 0 0 0 rfl rfl rfl rfl rfl ti36 rfl rfl ?_
 refine r_load 0 0 [_, _, _, _, _, _, _, _] rfl rfl rfl rfl ti27 rfl rfl rfl rfl ?_
 refine r_fieldAddr 0 0 8 rfl rfl rfl rfl rfl ti36 rfl rfl ?_
 refine r_load 0 8 [_, _, _, _, _, _, _, _] rfl rfl rfl rfl ti27 rfl rfl rfl rfl ?_
 refine r_fieldAddr 0 0 0 rfl rfl rfl rfl rfl ti36 rfl rfl ?_
 refine r_load 0 0 [_, _, _, _, _, _, _, _] rfl rfl rfl rfl ti27 rfl rfl rfl rfl ?_
 refine r_load 1 0 [_, _, _, _] rfl rfl rfl rfl ti25 rfl rfl rfl rfl ?_
 refine r_pcall [_, _] rfl rfl rfl (c_plane_Sub s.2 s.1 (szPm (Nat.le_trans (szP1 (szS2 hs)) (Nat.le_of_ble_eq_true rfl)) (Nat.le_trans (szP2 (szS2 hs)) (Nat.le_of_ble_eq_true rfl))) (szPm (Nat.le_trans (szP1 (szS1 hs)) (Nat.le_of_ble_eq_true rfl)) (Nat.le_trans (szP2 (szS1 hs)) (Nat.le_of_ble_eq_true rfl)))) ?_
 refine r_pcall [_, _] rfl rfl rfl (c_plane_Scale (pSub s.2 s.1) r (szPm (Nat.le_trans (szQ_sub (szP1 (szS2 hs)) (szP1 (szS1 hs))) (Nat.le_of_ble_eq_true rfl)) (Nat.le_trans (szQ_sub (szP2 (szS2 hs)) (szP2 (szS1 hs))) (Nat.le_of_ble_eq_true rfl))) (Nat.le_trans hr (Nat.le_of_ble_eq_true rfl))) ?_
 refine r_pcall [_, _] rfl rfl rfl (c_plane_Add s.1 (pScale (pSub s.2 s.1) r) (szPm (Nat.le_trans (szP1 (szS1 hs)) (Nat.le_of_ble_eq_true rfl)) (Nat.le_trans (szP2 (szS1 hs)) (Nat.le_of_ble_eq_true rfl))) (szPm (Nat.le_trans (szQ_mul (szQ_sub (szP1 (szS2 hs)) (szP1 (szS1 hs))) hr) (Nat.le_of_ble_eq_true rfl)) (Nat.le_trans (szQ_mul (szQ_sub (szP2 (szS2 hs)) (szP2 (szS1 hs))) hr) (Nat.le_of_ble_eq_true rfl)))) ?_
 refine r_store rfl 2 0 [_, _, ⟨some g2, 27, _, 8, true⟩] [_, _, _, _, _, _, _, _] rfl rfl rfl rfl ti27 rfl rfl rfl rfl rfl ?_
 refine run_nil ?_
 refine at_tn ?_
 refine at_ret ?_
 refine at_end1 rfl (res_cell 2 rfl rfl ti27 (vs := [_, _, _, _, _, _, _, _]) rfl rfl (Nat.le_of_ble_eq_true rfl) rfl) (fun w hL => ⟨?_, hL.below⟩)
 exact rfl
end Go.Proofs.YthnlafhnpphdhaaGreatDoor
set_option linter.unusedVariables false
namespace Go.Proofs.YthnlafhnpphdhaaGreatDoor
open Go Go.RowKit Go.Via
set_option maxRecDepth 20000 in
theorem c_plane_OnSegment (p : P2) (s : S2) (hp : szP p ≤ 100000) (hs : szS s ≤ 100000) : PCall Tryz.prog 28 #[Pt p, Sg s] (.bool (decide (onS p s))) := by
 have hc1 := cmpP_cases s.1 p
 have hc2 := cmpP_cases p s.2
 have hc3 : -1 ≤ cmpP s.1 p * cmpP p s.2 ∧ cmpP s.1 p * cmpP p s.2 ≤ 1 := by rcases hc1 with h | h | h <;> rcases hc2 with g | g | g <;> rw [h, g] <;> decide
 refine ⟨by kernel_rfl, fun w => ?_⟩
 refine calls_at (args := [Pt p, Sg s]) Tryz.func28 rfl (Nat.le_of_ble_eq_true rfl) (LRel.nil w) ?_
 show At w ⟨39, [(0, Pt p), (1, Sg s)], []⟩ _
 refine at_seq ?_
 refine at_region ?_
 refine r_box [_, _, _, _, _, _, _, _] 8 (fun g => [⟨some g, 27, _, 8, true⟩]) rfl rfl rfl rfl rfl (fun _ => rfl) (fun g0 => ?_)
 refine r_box [_, _, _, _, _, _, _, _, _, _, _, _, _, _, _, _] 16 (fun g => [_, ⟨some g, 36, _, 16, true⟩]) rfl rfl rfl rfl rfl (fun _ => rfl) (fun g1 => ?_)
 refine r_assign rfl rfl rfl ?_
 refine run_nil ?_
 refine at_tn ?_
 refine at_seq ?_
 refine at_seq ?_
 refine at_region ?_
 refine r_fieldAddr 1 0 0 rfl rfl rfl rfl rfl ti36 rfl rfl ?_
 refine r_load 1 0 [_, _, _, _, _, _, _, _] rfl rfl rfl rfl ti27 rfl rfl rfl rfl ?_
 refine r_fieldAddr 1 0 8 rfl rfl rfl rfl rfl ti36 rfl rfl ?_
 refine r_load 1 8 [_, _, _, _, _, _, _, _] rfl rfl rfl rfl ti27 rfl rfl rfl rfl ?_
 refine r_load 0 0 [_, _, _, _, _, _, _, _] rfl rfl rfl rfl ti27 rfl rfl rfl rfl ?_
 refine r_pcall [_, _, _] rfl rfl rfl (c_plane_Orientation s.1 s.2 p (szPm (Nat.le_trans (szP1 (szS1 hs)) (Nat.le_of_ble_eq_true rfl)) (Nat.le_trans (szP2 (szS1 hs)) (Nat.le_of_ble_eq_true rfl))) (szPm (Nat.le_trans (szP1 (szS2 hs)) (Nat.le_of_ble_eq_true rfl)) (Nat.le_trans (szP2 (szS2 hs)) (Nat.le_of_ble_eq_true rfl))) (szPm (Nat.le_trans (szP1 hp) (Nat.le_of_ble_eq_true rfl)) (Nat.le_trans (szP2 hp) (Nat.le_of_ble_eq_true rfl)))) ?_
 refine r_cmpInt rfl rfl rfl rfl rfl ?_
 refine run_nil ?_
 refine at_tn ?_
 refine at_cond rfl (fun hb0 => ?_) (fun hb0 => ?_)
 ·
  refine at_seq ?_
  refine at_region ?_
  refine r_assign rfl rfl rfl ?_
  refine run_nil ?_
  refine at_tn ?_
  refine at_ret ?_
  refine at_tr ?_
  refine at_end1 rfl (res_tmp rfl) (fun w hL => ⟨?_, hL.below⟩)
  clear hc1 hc2 hc3
  exact congrArg (fun z => Ending.returned (.bool z)) (by first | (simp_all [onS]; done) | (simp_all [onS]; omega))
 ·
  refine at_skip ?_
  refine at_tn ?_
  refine at_seq ?_
  refine at_drawn (l' := [⟨_,_,_,_,_,_⟩, ⟨_,_,_,_,_,_⟩, ⟨_,_,_,_,_,_⟩, ⟨_,_,_,_,_,_⟩, ⟨_,_,_,_,_,_⟩, ⟨_,_,_,_,_,_⟩, ⟨_,_,_,_,_,_⟩, ⟨_,_,_,_,_,_⟩, ⟨_,_,_,_,_,_⟩, ⟨_,_,_,_,_,_⟩]) [] [0, 1, 2, 4, 5, 6, 3, 7, 8, 9] mixed (by kernel_rfl) rfl (by kernel_rfl) ?_
  refine r_fieldAddr 1 0 0 rfl rfl rfl rfl rfl ti36 rfl rfl ?_
  refine r_load 1 0 [_, _, _, _, _, _, _, _] rfl rfl rfl rfl ti27 rfl rfl rfl rfl ?_
  refine r_load 0 0 [_, _, _, _, _, _, _, _] rfl rfl rfl rfl ti27 rfl rfl rfl rfl ?_
  refine r_load 0 0 [_, _, _, _, _, _, _, _] rfl rfl rfl rfl ti27 rfl rfl rfl rfl ?_
  refine r_fieldAddr 1 0 8 rfl rfl rfl rfl rfl ti36 rfl rfl ?_
  refine r_load 1 8 [_, _, _, _, _, _, _, _] rfl rfl rfl rfl ti27 rfl rfl rfl rfl ?_
  refine r_pcall [_, _] rfl rfl rfl (c_plane_Compare s.1 p (szPm (Nat.le_trans (szP1 (szS1 hs)) (Nat.le_of_ble_eq_true rfl)) (Nat.le_trans (szP2 (szS1 hs)) (Nat.le_of_ble_eq_true rfl))) (szPm (Nat.le_trans (szP1 hp) (Nat.le_of_ble_eq_true rfl)) (Nat.le_trans (szP2 hp) (Nat.le_of_ble_eq_true rfl)))) ?_
  refine r_pcall [_, _] rfl rfl rfl (c_plane_Compare p s.2 (szPm (Nat.le_trans (szP1 hp) (Nat.le_of_ble_eq_true rfl)) (Nat.le_trans (szP2 hp) (Nat.le_of_ble_eq_true rfl))) (szPm (Nat.le_trans (szP1 (szS2 hs)) (Nat.le_of_ble_eq_true rfl)) (Nat.le_trans (szP2 (szS2 hs)) (Nat.le_of_ble_eq_true rfl)))) ?_
  refine r_assign rfl rfl rfl ?_
  refine r_assign rfl rfl rfl ?_
  refine run_nil ?_
  refine at_tn ?_
  refine at_seq ?_
  refine at_region ?_
  refine r_move rfl rfl rfl ?_
  refine r_move rfl rfl rfl ?_
  refine r_arith (r := cmpP s.1 p * cmpP p s.2) rfl rfl rfl rfl (congrArg some (wi (by omega) (by omega) rfl)) ?_
  refine r_cmpInt rfl rfl rfl rfl rfl ?_
  refine r_move rfl rfl rfl ?_
  refine r_split 26 rfl (fun hb1 => ?_) (fun hb1 => ?_)
  ·
   refine r_fieldAddr 1 0 0 rfl rfl rfl rfl rfl ti36 rfl rfl ?_
   refine r_load 1 0 [_, _, _, _, _, _, _, _] rfl rfl rfl rfl ti27 rfl rfl rfl rfl ?_
   refine r_fieldAddr 1 0 8 rfl rfl rfl rfl rfl ti36 rfl rfl ?_
   refine r_load 1 8 [_, _, _, _, _, _, _, _] rfl rfl rfl rfl ti27 rfl rfl rfl rfl ?_
   refine r_neqAgg rfl rfl rfl rfl gd27 (eq27 _ _) ?_
   refine r_move rfl rfl rfl ?_
   refine r_split 32 rfl (fun hb2 => ?_) (fun hb2 => ?_)
   ·
    refine r_no rfl rfl rfl ?_
    refine r_no rfl rfl rfl ?_
    refine r_no rfl rfl rfl ?_
    refine r_no rfl rfl rfl ?_
    refine r_pickT rfl rfl rfl rfl ?_
    refine r_pickT rfl rfl rfl rfl ?_
    refine r_assign rfl rfl rfl ?_
    refine run_nil ?_
    refine at_tn ?_
    refine at_ret ?_
    refine at_end1 rfl (res_tmp rfl) (fun w hL => ⟨?_, hL.below⟩)
    clear hc1 hc2 hc3
    exact congrArg (fun z => Ending.returned (.bool z)) (by first | (simp_all [onS]; done) | (simp_all [onS]; omega))
   ·
    refine r_load 0 0 [_, _, _, _, _, _, _, _] rfl rfl rfl rfl ti27 rfl rfl rfl rfl ?_
    refine r_fieldAddr 1 0 0 rfl rfl rfl rfl rfl ti36 rfl rfl ?_
    refine r_load 1 0 [_, _, _, _, _, _, _, _] rfl rfl rfl rfl ti27 rfl rfl rfl rfl ?_
    refine r_eqlAgg rfl rfl rfl rfl gd27 (eq27 _ _) ?_
    refine r_pickF rfl rfl rfl rfl ?_
    refine r_pickT rfl rfl rfl rfl ?_
    refine r_assign rfl rfl rfl ?_
    refine run_nil ?_
    refine at_tn ?_
    refine at_ret ?_
    refine at_end1 rfl (res_tmp rfl) (fun w hL => ⟨?_, hL.below⟩)
    clear hc1 hc2 hc3
    exact congrArg (fun z => Ending.returned (.bool z)) (by first | (simp_all [onS]; done) | (simp_all [onS]; omega))
  ·
   refine r_no rfl rfl rfl ?_
   refine r_no rfl rfl rfl ?_
   refine r_no rfl rfl rfl ?_
   refine r_no rfl rfl rfl ?_
   refine r_no rfl rfl rfl ?_
   refine r_no rfl rfl rfl ?_
   refine r_no rfl rfl rfl ?_
   refine r_no rfl rfl rfl ?_
   refine r_no rfl rfl rfl ?_
   refine r_no rfl rfl rfl ?_
   refine r_no rfl rfl rfl ?_
   refine r_pickF rfl rfl rfl rfl ?_
   refine r_assign rfl rfl rfl ?_
   refine run_nil ?_
   refine at_tn ?_
   refine at_ret ?_
   refine at_end1 rfl (res_tmp rfl) (fun w hL => ⟨?_, hL.below⟩)
   clear hc1 hc2 hc3
   exact congrArg (fun z => Ending.returned (.bool z)) (by first | (simp_all [onS]; done) | (simp_all [onS]; omega))
end Go.Proofs.YthnlafhnpphdhaaGreatDoor
set_option linter.unusedVariables false
namespace Go.Proofs.YthnlafhnpphdhaaGreatDoor
open Go Go.RowKit Go.Via
set_option maxRecDepth 20000 in
theorem c_ref07_Whole (z : Int) (h1 : -9223372036854775808 ≤ z) (h2 : z ≤ 9223372036854775807) : PCall Tryz.prog 57 #[.int .i64 z] (Q (z : Rat)) := by
 refine ⟨by kernel_rfl, fun w => ?_⟩
 refine calls_at (args := [.int .i64 z]) Tryz.func57 rfl (Nat.le_of_ble_eq_true rfl) (LRel.nil w) ?_
 show At w ⟨6, [(0, .int .i64 z)], []⟩ _
 refine at_seq ?_
 refine at_region ?_
 refine r_alloc [_, _, _, _] 4 (fun g => [⟨some g, 25, _, 4, true⟩]) rfl rfl z25 rfl rfl (fun _ => rfl) (fun g0 => ?_)
 refine run_nil ?_
 refine at_tn ?_
 refine at_seq ?_
 refine at_region ?_
 refine r_move rfl rfl rfl ?_
 refine r_pcall [_] rfl rfl rfl (c_ref02_Int z h1 h2) ?_
 refine r_build [(0, _)] rfl rfl rfl (bd25_1) ?_
 refine r_store rfl 0 0 [⟨some g0, 25, _, 4, true⟩] [_, _, _, _] rfl rfl rfl rfl ti25 rfl rfl rfl rfl rfl ?_
 refine run_nil ?_
 refine at_tn ?_
 refine at_ret ?_
 refine at_end1 rfl (res_cell 0 rfl rfl ti25 (vs := [_, _, _, _]) rfl rfl (Nat.le_of_ble_eq_true rfl) rfl) (fun w hL => ⟨?_, hL.below⟩)
 exact rfl
set_option maxRecDepth 20000 in
theorem c_ref07_At (x y : Int) (h1 : -9223372036854775808 ≤ x) (h2 : x ≤ 9223372036854775807) (h3 : -9223372036854775808 ≤ y) (h4 : y ≤ 9223372036854775807) : PCall Tryz.prog 53 #[.int .i64 x, .int .i64 y] (Pt ((x : Rat), (y : Rat))) := by
 refine ⟨by kernel_rfl, fun w => ?_⟩
 refine calls_at (args := [.int .i64 x, .int .i64 y]) Tryz.func53 rfl (Nat.le_of_ble_eq_true rfl) (LRel.nil w) ?_
 show At w ⟨10, [(0, .int .i64 x), (1, .int .i64 y)], []⟩ _
 refine at_seq ?_
 refine at_region ?_
 refine r_alloc [_, _, _, _, _, _, _, _] 8 (fun g => [⟨some g, 27, _, 8, true⟩]) rfl rfl z27 rfl rfl (fun _ => rfl) (fun g0 => ?_)
 refine run_nil ?_
 refine at_tn ?_
 refine at_seq ?_
 refine at_region ?_
 refine r_move rfl rfl rfl ?_
 refine r_pcall [_] rfl rfl rfl (c_ref07_Whole x h1 h2) ?_
 refine r_move rfl rfl rfl ?_
 refine r_pcall [_] rfl rfl rfl (c_ref07_Whole y h3 h4) ?_
 refine r_build [(0, _), (1, _)] rfl rfl rfl (bd27_2) ?_
 refine r_store rfl 0 0 [⟨some g0, 27, _, 8, true⟩] [_, _, _, _, _, _, _, _] rfl rfl rfl rfl ti27 rfl rfl rfl rfl rfl ?_
 refine run_nil ?_
 refine at_tn ?_
 refine at_ret ?_
 refine at_end1 rfl (res_cell 0 rfl rfl ti27 (vs := [_, _, _, _, _, _, _, _]) rfl rfl (Nat.le_of_ble_eq_true rfl) rfl) (fun w hL => ⟨?_, hL.below⟩)
 exact rfl
set_option maxRecDepth 20000 in
theorem c_ref07_less (a b : Rat) (ha : szQ a ≤ 1000000) (hb : szQ b ≤ 1000000) : PCall Tryz.prog 76 #[Q a, Q b] (.bool (decide (a < b))) := by
 refine ⟨by kernel_rfl, fun w => ?_⟩
 refine calls_at (args := [Q a, Q b]) Tryz.func76 rfl (Nat.le_of_ble_eq_true rfl) (LRel.nil w) ?_
 show At w ⟨9, [(0, Q a), (1, Q b)], []⟩ _
 refine at_seq ?_
 refine at_region ?_
 refine r_box [_, _, _, _] 4 (fun g => [⟨some g, 25, _, 4, true⟩]) rfl rfl rfl rfl rfl (fun _ => rfl) (fun g0 => ?_)
 refine r_box [_, _, _, _] 4 (fun g => [_, ⟨some g, 25, _, 4, true⟩]) rfl rfl rfl rfl rfl (fun _ => rfl) (fun g1 => ?_)
 refine r_assign rfl rfl rfl ?_
 refine run_nil ?_
 refine at_tn ?_
 refine at_seq ?_
 refine at_region ?_
 refine r_load 0 0 [_, _, _, _] rfl rfl rfl rfl ti25 rfl rfl rfl rfl ?_
 refine r_load 1 0 [_, _, _, _] rfl rfl rfl rfl ti25 rfl rfl rfl rfl ?_
 refine r_pcall [_, _] rfl rfl rfl (c_ref02_Compare a b (Nat.le_trans ha (Nat.le_of_ble_eq_true rfl)) (Nat.le_trans hb (Nat.le_of_ble_eq_true rfl))) ?_
 refine r_cmpInt rfl rfl rfl rfl rfl ?_
 refine r_assign rfl rfl rfl ?_
 refine run_nil ?_
 refine at_tn ?_
 refine at_ret ?_
 refine at_end1 rfl (res_tmp rfl) (fun w hL => ⟨?_, hL.below⟩)
 rw [cmpQ_less]
end Go.Proofs.YthnlafhnpphdhaaGreatDoor
set_option linter.unusedVariables false
set_option linter.unusedSimpArgs false
namespace Go.Via
open Go Go.RowKit
def nearQ (p : P2) (s : S2) : Rat := max 0 (min (dot (pSub p s.1) (pSub s.2 s.1) / dot (pSub s.2 s.1) (pSub s.2 s.1)) 1)
def nearP (p : P2) (s : S2) : P2 × Rat := if dot (pSub s.2 s.1) (pSub s.2 s.1) = 0 then (s.1, 0) else (divP s (nearQ p s), nearQ p s)
/-- a meeting: its kind, what is in common -/
def Mt (m : Int × S2) : Value := .agg #[.int .i64 m.1, .bool (decide (m.2.1.1.num < 0)), .string (mag m.2.1.1.num.natAbs), .bool false, .string (dm m.2.1.1), .bool (decide (m.2.1.2.num < 0)), .string (mag m.2.1.2.num.natAbs), .bool false, .string (dm m.2.1.2),
  .bool (decide (m.2.2.1.num < 0)), .string (mag m.2.2.1.num.natAbs), .bool false, .string (dm m.2.2.1), .bool (decide (m.2.2.2.num < 0)), .string (mag m.2.2.2.num.natAbs), .bool false, .string (dm m.2.2.2)]
def crossP (s t : S2) : Int × S2 :=
  if 0 ≤ ori s.1 s.2 t.1 * ori s.1 s.2 t.2 ∨ 0 ≤ ori t.1 t.2 s.1 * ori t.1 t.2 s.2 then (0, ((0, 0), (0, 0)))
  else (2, (divP s (crs (pSub t.1 s.1) (pSub t.2 t.1) / crs (pSub s.2 s.1) (pSub t.2 t.1)), divP s (crs (pSub t.1 s.1) (pSub t.2 t.1) / crs (pSub s.2 s.1) (pSub t.2 t.1))))
theorem Mt_zero : Value.agg #[.int .i64 0, .bool false, .string ⟨#[]⟩, .bool false, .string ⟨#[]⟩, .bool false, .string ⟨#[]⟩, .bool false, .string ⟨#[]⟩, .bool false, .string ⟨#[]⟩, .bool false, .string ⟨#[]⟩, .bool false, .string ⟨#[]⟩, .bool false, .string ⟨#[]⟩] = Mt (0, ((0, 0), (0, 0))) := by
  have h := Q_zero
  unfold Q at h
  simp only [Value.agg.injEq, Array.mk.injEq, List.cons.injEq, Value.bool.injEq, Value.string.injEq, and_true] at h
  obtain ⟨h1, h2, h3, h4⟩ := h
  unfold Mt
  simp only [h1, h2, h4]
theorem div_err0 {x : Rat} (h : ((if x = 0 then (6 : Int) else 0) != 0) = true) : x = 0 := by
  by_cases e : x = 0
  · exact e
  · rw [if_neg e] at h; cases h
theorem div_err1 {x : Rat} (h : ((if x = 0 then (6 : Int) else 0) != 0) = false) : x ≠ 0 := fun e => by
  rw [if_pos e] at h; cases h
theorem near_T {p : P2} {s : S2} (h : dot (pSub s.2 s.1) (pSub s.2 s.1) = 0) : nearP p s = (s.1, 0) := by unfold nearP; rw [if_pos h]
theorem near_F {p : P2} {s : S2} (h : dot (pSub s.2 s.1) (pSub s.2 s.1) ≠ 0) : nearP p s = (divP s (nearQ p s), nearQ p s) := by unfold nearP; rw [if_neg h]
theorem szQ_max {a b : Rat} {m n : Nat} (h1 : szQ a ≤ m) (h2 : szQ b ≤ n) : szQ (max a b) ≤ m + n := by
  rw [show max a b = if a ≤ b then b else a from rfl]
  split <;> omega
theorem szQ_min {a b : Rat} {m n : Nat} (h1 : szQ a ≤ m) (h2 : szQ b ≤ n) : szQ (min a b) ≤ m + n := by
  rw [show min a b = if a ≤ b then a else b from rfl]
  split <;> omega
theorem szQ_0 : szQ 0 ≤ 1 := by
  show max (nb (0 : Int).natAbs) (nb 1) ≤ 1
  rw [show (0 : Int).natAbs = 0 from rfl, nb_zero, nb_one]; omega
theorem szQ_c1 : szQ ((1 : Int) : Rat) ≤ 1 := szQ_one
theorem cross_T1 {s t : S2} (h : 0 ≤ ori s.1 s.2 t.1 * ori s.1 s.2 t.2) : crossP s t = (0, ((0, 0), (0, 0))) := by unfold crossP; rw [if_pos (.inl h)]
theorem cross_T2 {s t : S2} (h : 0 ≤ ori t.1 t.2 s.1 * ori t.1 t.2 s.2) : crossP s t = (0, ((0, 0), (0, 0))) := by unfold crossP; rw [if_pos (.inr h)]
theorem cross_FF {s t : S2} (h : ¬ 0 ≤ ori s.1 s.2 t.1 * ori s.1 s.2 t.2) (h' : ¬ 0 ≤ ori t.1 t.2 s.1 * ori t.1 t.2 s.2) : crossP s t = (2, (divP s (crs (pSub t.1 s.1) (pSub t.2 t.1) / crs (pSub s.2 s.1) (pSub t.2 t.1)), divP s (crs (pSub t.1 s.1) (pSub t.2 t.1) / crs (pSub s.2 s.1) (pSub t.2 t.1)))) := by
  unfold crossP; rw [if_neg (fun c => c.elim h h')]
theorem ori_bound (a b c d e f : P2) : -1 ≤ ori a b c * ori d e f ∧ ori a b c * ori d e f ≤ 1 := by
  unfold ori
  have h1 := sgn_bound (crs (pSub b a) (pSub c a))
  have h2 := sgn_bound (crs (pSub e d) (pSub f d))
  generalize sgn (crs (pSub b a) (pSub c a)) = x at *
  generalize sgn (crs (pSub e d) (pSub f d)) = y at *
  have hx : x = -1 ∨ x = 0 ∨ x = 1 := by omega
  rcases hx with rfl | rfl | rfl <;> omega
end Go.Via
namespace Go.Via
end Go.Via
set_option linter.unusedVariables false
namespace Go.Proofs.YthnlafhnpphdhaaGreatDoor
open Go Go.RowKit Go.Via
set_option maxRecDepth 20000 in
theorem c_plane_Nearest (p : P2) (s : S2) (hp : szP p ≤ 1000) (hs : szS s ≤ 1000) : PCall Tryz.prog 32 #[Pt p, Sg s] (.tuple #[Pt (nearP p s).1, Q (nearP p s).2]) := by
 refine ⟨by kernel_rfl, fun w => ?_⟩
 refine calls_at (args := [Pt p, Sg s]) Tryz.func32 rfl (Nat.le_of_ble_eq_true rfl) (LRel.nil w) ?_
 show At w ⟨41, [(0, Pt p), (1, Sg s)], []⟩ _
 refine at_seq ?_
 refine at_region ?_
 refine r_box [_, _, _, _, _, _, _, _] 8 (fun g => [⟨some g, 27, _, 8, true⟩]) rfl rfl rfl rfl rfl (fun _ => rfl) (fun g0 => ?_)
 refine r_box [_, _, _, _, _, _, _, _, _, _, _, _, _, _, _, _] 16 (fun g => [_, ⟨some g, 36, _, 16, true⟩]) rfl rfl rfl rfl rfl (fun _ => rfl) (fun g1 => ?_)
 refine r_alloc [_, _, _, _, _, _, _, _] 8 (fun g => [_, _, ⟨some g, 27, _, 8, true⟩]) rfl rfl z27 rfl rfl (fun _ => rfl) (fun g2 => ?_)
 refine r_alloc [_, _, _, _] 4 (fun g => [_, _, _, ⟨some g, 25, _, 4, true⟩]) rfl rfl z25 rfl rfl (fun _ => rfl) (fun g3 => ?_)
 refine run_nil ?_
 refine at_tn ?_
 refine at_seq ?_
 refine at_region ?_
 refine r_fieldAddr 1 0 8 rfl rfl rfl rfl rfl ti36 rfl rfl ?_
 refine r_load 1 8 [_, _, _, _, _, _, _, _] rfl rfl rfl rfl ti27 rfl rfl rfl rfl ?_
 refine r_fieldAddr 1 0 0 rfl rfl rfl rfl rfl ti36 rfl rfl ?_
 refine r_load 1 0 [_, _, _, _, _, _, _, _] rfl rfl rfl rfl ti27 rfl rfl rfl rfl ?_
 refine r_pcall [_, _] rfl rfl rfl (c_plane_Sub s.2 s.1 (szPm (Nat.le_trans (szP1 (szS2 hs)) (Nat.le_of_ble_eq_true rfl)) (Nat.le_trans (szP2 (szS2 hs)) (Nat.le_of_ble_eq_true rfl))) (szPm (Nat.le_trans (szP1 (szS1 hs)) (Nat.le_of_ble_eq_true rfl)) (Nat.le_trans (szP2 (szS1 hs)) (Nat.le_of_ble_eq_true rfl)))) ?_
 refine r_alloc [_, _, _, _, _, _, _, _] 8 (fun g => [_, _, _, _, ⟨some g, 27, _, 8, true⟩]) rfl rfl z27 rfl rfl (fun _ => rfl) (fun g4 => ?_)
 refine r_store rfl 4 0 [_, _, _, _, ⟨some g4, 27, _, 8, true⟩] [_, _, _, _, _, _, _, _] rfl rfl rfl rfl ti27 rfl rfl rfl rfl rfl ?_
 refine run_nil ?_
 refine at_tn ?_
 refine at_seq ?_
 refine at_drawnA (l' := [⟨_,_,_,_,_,_⟩, ⟨_,_,_,_,_,_⟩, ⟨_,_,_,_,_,_⟩, ⟨_,_,_,_,_,_⟩, ⟨_,_,_,_,_,_⟩, ⟨_,_,_,_,_,_⟩, ⟨_,_,_,_,_,_⟩, ⟨_,_,_,_,_,_⟩, ⟨_,_,_,_,_,_⟩, ⟨_,_,_,_,_,_⟩, ⟨_,_,_,_,_,_⟩, ⟨_,_,_,_,_,_⟩, ⟨_,_,_,_,_,_⟩, ⟨_,_,_,_,_,_⟩, ⟨_,_,_,_,_,_⟩, ⟨_,_,_,_,_,_⟩]) [3000000] [0, 1, 2, 4, 6, 7, 3, 5, 8, 9, 10, 11, 13, 14, 12, 15] mixed (by kernel_rfl) rfl ?_
 refine r_load 0 0 [_, _, _, _, _, _, _, _] rfl rfl rfl rfl ti27 rfl rfl rfl rfl ?_
 refine r_fieldAddr 1 0 0 rfl rfl rfl rfl rfl ti36 rfl rfl ?_
 refine r_load 1 0 [_, _, _, _, _, _, _, _] rfl rfl rfl rfl ti27 rfl rfl rfl rfl ?_
 refine r_load 4 0 [_, _, _, _, _, _, _, _] rfl rfl rfl rfl ti27 rfl rfl rfl rfl ?_
 refine r_load 4 0 [_, _, _, _, _, _, _, _] rfl rfl rfl rfl ti27 rfl rfl rfl rfl ?_
 refine r_load 4 0 [_, _, _, _, _, _, _, _] rfl rfl rfl rfl ti27 rfl rfl rfl rfl ?_
 refine r_pcall [_, _] rfl rfl rfl (c_plane_Sub p s.1 (szPm (Nat.le_trans (szP1 hp) (Nat.le_of_ble_eq_true rfl)) (Nat.le_trans (szP2 hp) (Nat.le_of_ble_eq_true rfl))) (szPm (Nat.le_trans (szP1 (szS1 hs)) (Nat.le_of_ble_eq_true rfl)) (Nat.le_trans (szP2 (szS1 hs)) (Nat.le_of_ble_eq_true rfl)))) ?_
 refine r_pcall [_, _] rfl rfl rfl (c_plane_Dot (pSub p s.1) (pSub s.2 s.1) (szPm (Nat.le_trans (szQ_sub (szP1 hp) (szP1 (szS1 hs))) (Nat.le_of_ble_eq_true rfl)) (Nat.le_trans (szQ_sub (szP2 hp) (szP2 (szS1 hs))) (Nat.le_of_ble_eq_true rfl))) (szPm (Nat.le_trans (szQ_sub (szP1 (szS2 hs)) (szP1 (szS1 hs))) (Nat.le_of_ble_eq_true rfl)) (Nat.le_trans (szQ_sub (szP2 (szS2 hs)) (szP2 (szS1 hs))) (Nat.le_of_ble_eq_true rfl)))) ?_
 refine r_pcall [_, _] rfl rfl rfl (c_plane_Dot (pSub s.2 s.1) (pSub s.2 s.1) (szPm (Nat.le_trans (szQ_sub (szP1 (szS2 hs)) (szP1 (szS1 hs))) (Nat.le_of_ble_eq_true rfl)) (Nat.le_trans (szQ_sub (szP2 (szS2 hs)) (szP2 (szS1 hs))) (Nat.le_of_ble_eq_true rfl))) (szPm (Nat.le_trans (szQ_sub (szP1 (szS2 hs)) (szP1 (szS1 hs))) (Nat.le_of_ble_eq_true rfl)) (Nat.le_trans (szQ_sub (szP2 (szS2 hs)) (szP2 (szS1 hs))) (Nat.le_of_ble_eq_true rfl)))) ?_
 refine r_pcall [_, _] rfl rfl rfl (c_rational_Div (dot (pSub p s.1) (pSub s.2 s.1)) (dot (pSub s.2 s.1) (pSub s.2 s.1)) (Nat.le_trans (szQ_add (szQ_mul (szQ_sub (szP1 hp) (szP1 (szS1 hs))) (szQ_sub (szP1 (szS2 hs)) (szP1 (szS1 hs)))) (szQ_mul (szQ_sub (szP2 hp) (szP2 (szS1 hs))) (szQ_sub (szP2 (szS2 hs)) (szP2 (szS1 hs))))) (Nat.le_of_ble_eq_true rfl)) (Nat.le_trans (szQ_add (szQ_mul (szQ_sub (szP1 (szS2 hs)) (szP1 (szS1 hs))) (szQ_sub (szP1 (szS2 hs)) (szP1 (szS1 hs)))) (szQ_mul (szQ_sub (szP2 (szS2 hs)) (szP2 (szS1 hs))) (szQ_sub (szP2 (szS2 hs)) (szP2 (szS1 hs))))) (Nat.le_of_ble_eq_true rfl))) ?_
 refine r_move rfl rfl rfl ?_
 refine r_extract (vs := [_, _]) rfl rfl rfl rfl ?_
 refine r_alloc [_, _, _, _] 4 (fun g => [_, _, _, _, _, ⟨some g, 25, _, 4, true⟩]) rfl rfl z25 rfl rfl (fun _ => rfl) (fun g5 => ?_)
 refine r_store rfl 5 0 [_, _, _, _, _, ⟨some g5, 25, _, 4, true⟩] [_, _, _, _] rfl rfl rfl rfl ti25 rfl rfl rfl rfl rfl ?_
 refine r_extract (vs := [_, _]) rfl rfl rfl rfl ?_
 refine r_assign rfl rfl rfl ?_
 refine run_nil ?_
 refine at_tn ?_
 refine at_seq ?_
 refine at_seq ?_
 refine at_region ?_
 refine r_move rfl rfl rfl ?_
 refine r_cmpInt rfl rfl rfl rfl rfl ?_
 refine run_nil ?_
 refine at_tn ?_
 refine at_cond rfl (fun hb0 => ?_) (fun hb0 => ?_)
 ·
  have h0 := div_err0 hb0
  refine at_seq ?_
  refine at_region ?_
  refine r_fieldAddr 1 0 0 rfl rfl rfl rfl rfl ti36 rfl rfl ?_
  refine r_load 1 0 [_, _, _, _, _, _, _, _] rfl rfl rfl rfl ti27 rfl rfl rfl rfl ?_
  refine r_build [] rfl rfl rfl (bd25_0) ?_
  refine r_know 31 (Q 0) rfl Q_zero' ?_
  refine r_store rfl 2 0 [_, _, ⟨some g2, 27, _, 8, true⟩, _, _, _] [_, _, _, _, _, _, _, _] rfl rfl rfl rfl ti27 rfl rfl rfl rfl rfl ?_
  refine r_store rfl 3 0 [_, _, _, ⟨some g3, 25, _, 4, true⟩, _, _] [_, _, _, _] rfl rfl rfl rfl ti25 rfl rfl rfl rfl rfl ?_
  refine run_nil ?_
  refine at_tn ?_
  refine at_ret ?_
  refine at_tr ?_
  refine at_end2 rfl (res_cell 2 rfl rfl ti27 (vs := [_, _, _, _, _, _, _, _]) rfl rfl (Nat.le_of_ble_eq_true rfl) rfl) (res_cell 3 rfl rfl ti25 (vs := [_, _, _, _]) rfl rfl (Nat.le_of_ble_eq_true rfl) rfl) (fun w hL => ⟨?_, hL.below⟩)
  rw [near_T h0]; rfl
 ·
  have h0 := div_err1 hb0
  refine at_skip ?_
  refine at_tn ?_
  refine at_seq ?_
  refine at_drawn (l' := [⟨_,_,_,_,_,_⟩, ⟨_,_,_,_,_,_⟩, ⟨_,_,_,_,_,_⟩, ⟨_,_,_,_,_,_⟩, ⟨_,_,_,_,_,_⟩, ⟨_,_,_,_,_,_⟩]) [] [0, 1, 2, 3, 4, 5] mixed (by kernel_rfl) rfl (by kernel_rfl) ?_
  refine r_build [] rfl rfl rfl (bd25_0) ?_
  refine r_know 32 (Q 0) rfl Q_zero' ?_
  refine r_load 5 0 [_, _, _, _] rfl rfl rfl rfl ti25 rfl rfl rfl rfl ?_
  refine r_pcall [_] rfl rfl rfl (c_rational_FromInt 1 (by omega) (by omega)) ?_
  refine r_pcall [_, _] rfl rfl rfl (c_rational_Min ((dot (pSub p s.1) (pSub s.2 s.1)) / (dot (pSub s.2 s.1) (pSub s.2 s.1))) ((1 : Int) : Rat) (Nat.le_trans (szQ_div (szQ_add (szQ_mul (szQ_sub (szP1 hp) (szP1 (szS1 hs))) (szQ_sub (szP1 (szS2 hs)) (szP1 (szS1 hs)))) (szQ_mul (szQ_sub (szP2 hp) (szP2 (szS1 hs))) (szQ_sub (szP2 (szS2 hs)) (szP2 (szS1 hs))))) (szQ_add (szQ_mul (szQ_sub (szP1 (szS2 hs)) (szP1 (szS1 hs))) (szQ_sub (szP1 (szS2 hs)) (szP1 (szS1 hs)))) (szQ_mul (szQ_sub (szP2 (szS2 hs)) (szP2 (szS1 hs))) (szQ_sub (szP2 (szS2 hs)) (szP2 (szS1 hs)))))) (Nat.le_of_ble_eq_true rfl)) (Nat.le_trans szQ_c1 (Nat.le_of_ble_eq_true rfl))) ?_
  refine r_pcall [_, _] rfl rfl rfl (c_rational_Max 0 (min ((dot (pSub p s.1) (pSub s.2 s.1)) / (dot (pSub s.2 s.1) (pSub s.2 s.1))) 1) (Nat.le_trans szQ_0 (Nat.le_of_ble_eq_true rfl)) (Nat.le_trans (szQ_min (szQ_div (szQ_add (szQ_mul (szQ_sub (szP1 hp) (szP1 (szS1 hs))) (szQ_sub (szP1 (szS2 hs)) (szP1 (szS1 hs)))) (szQ_mul (szQ_sub (szP2 hp) (szP2 (szS1 hs))) (szQ_sub (szP2 (szS2 hs)) (szP2 (szS1 hs))))) (szQ_add (szQ_mul (szQ_sub (szP1 (szS2 hs)) (szP1 (szS1 hs))) (szQ_sub (szP1 (szS2 hs)) (szP1 (szS1 hs)))) (szQ_mul (szQ_sub (szP2 (szS2 hs)) (szP2 (szS1 hs))) (szQ_sub (szP2 (szS2 hs)) (szP2 (szS1 hs)))))) szQ_one) (Nat.le_of_ble_eq_true rfl))) ?_
  refine r_store rfl 5 0 [_, _, _, _, _, ⟨some g5, 25, _, 4, true⟩] [_, _, _, _] rfl rfl rfl rfl ti25 rfl rfl rfl rfl rfl ?_
  refine run_nil ?_
  refine at_tn ?_
  refine at_seq ?_
  refine at_drawn (l' := [⟨_,_,_,_,_,_⟩, ⟨_,_,_,_,_,_⟩, ⟨_,_,_,_,_,_⟩, ⟨_,_,_,_,_,_⟩, ⟨_,_,_,_,_,_⟩, ⟨_,_,_,_,_,_⟩]) [2, 3] [0, 1, 3, 2, 4, 5] mixed (by kernel_rfl) rfl (by kernel_rfl) ?_
  refine r_load 1 0 [_, _, _, _, _, _, _, _, _, _, _, _, _, _, _, _] rfl rfl rfl rfl ti36 rfl rfl rfl rfl ?_
  refine r_load 5 0 [_, _, _, _] rfl rfl rfl rfl ti25 rfl rfl rfl rfl ?_
  refine r_load 5 0 [_, _, _, _] rfl rfl rfl rfl ti25 rfl rfl rfl rfl ?_
  refine r_pcall [_, _] rfl rfl rfl (c_plane_Divide s (nearQ p s) (szSm (szPm (Nat.le_trans (szP1 (szS1 hs)) (Nat.le_of_ble_eq_true rfl)) (Nat.le_trans (szP2 (szS1 hs)) (Nat.le_of_ble_eq_true rfl))) (szPm (Nat.le_trans (szP1 (szS2 hs)) (Nat.le_of_ble_eq_true rfl)) (Nat.le_trans (szP2 (szS2 hs)) (Nat.le_of_ble_eq_true rfl)))) (Nat.le_trans (szQ_max szQ_0 (szQ_min (szQ_div (szQ_add (szQ_mul (szQ_sub (szP1 hp) (szP1 (szS1 hs))) (szQ_sub (szP1 (szS2 hs)) (szP1 (szS1 hs)))) (szQ_mul (szQ_sub (szP2 hp) (szP2 (szS1 hs))) (szQ_sub (szP2 (szS2 hs)) (szP2 (szS1 hs))))) (szQ_add (szQ_mul (szQ_sub (szP1 (szS2 hs)) (szP1 (szS1 hs))) (szQ_sub (szP1 (szS2 hs)) (szP1 (szS1 hs)))) (szQ_mul (szQ_sub (szP2 (szS2 hs)) (szP2 (szS1 hs))) (szQ_sub (szP2 (szS2 hs)) (szP2 (szS1 hs)))))) szQ_one)) (Nat.le_of_ble_eq_true rfl))) ?_
  refine r_storeE 2 0 [_, _, ⟨some g2, 27, _, 8, true⟩, _, _, _] [_, _, _, _, _, _, _, _] rfl rfl rfl rfl ti27 rfl rfl rfl rfl rfl rfl ?_
  refine r_storeE 3 0 [_, _, _, ⟨some g3, 25, _, 4, true⟩, _, _] [_, _, _, _] rfl rfl rfl rfl ti25 rfl rfl rfl rfl rfl rfl ?_
  refine run_nil ?_
  refine at_tn ?_
  refine at_ret ?_
  refine at_end2 rfl (res_cell 2 rfl rfl ti27 (vs := [_, _, _, _, _, _, _, _]) rfl rfl (Nat.le_of_ble_eq_true rfl) rfl) (res_cell 3 rfl rfl ti25 (vs := [_, _, _, _]) rfl rfl (Nat.le_of_ble_eq_true rfl) rfl) (fun w hL => ⟨?_, hL.below⟩)
  rw [near_F h0]; rfl
end Go.Proofs.YthnlafhnpphdhaaGreatDoor
set_option linter.unusedVariables false
namespace Go.Proofs.YthnlafhnpphdhaaGreatDoor
open Go Go.RowKit Go.Via
set_option maxRecDepth 20000 in
theorem c_plane_cross (s t : S2) (hs : szS s ≤ 1000) (ht : szS t ≤ 1000) : PCall Tryz.prog 68 #[Sg s, Sg t] (Mt (crossP s t)) := by
 refine ⟨by kernel_rfl, fun w => ?_⟩
 refine calls_at (args := [Sg s, Sg t]) Tryz.func68 rfl (Nat.le_of_ble_eq_true rfl) (LRel.nil w) ?_
 show At w ⟨76, [(0, Sg s), (1, Sg t)], []⟩ _
 refine at_seq ?_
 refine at_region ?_
 refine r_box [_, _, _, _, _, _, _, _, _, _, _, _, _, _, _, _] 16 (fun g => [⟨some g, 36, _, 16, true⟩]) rfl rfl rfl rfl rfl (fun _ => rfl) (fun g0 => ?_)
 refine r_box [_, _, _, _, _, _, _, _, _, _, _, _, _, _, _, _] 16 (fun g => [_, ⟨some g, 36, _, 16, true⟩]) rfl rfl rfl rfl rfl (fun _ => rfl) (fun g1 => ?_)
 refine r_alloc [_, _, _, _, _, _, _, _, _, _, _, _, _, _, _, _, _] 17 (fun g => [_, _, ⟨some g, 40, _, 17, true⟩]) rfl rfl z40 rfl rfl (fun _ => rfl) (fun g2 => ?_)
 refine run_nil ?_
 refine at_tn ?_
 refine at_seq ?_
 refine at_seq ?_
 refine at_drawn (l' := (⟨_,_,_,_,_,_⟩ :: ⟨_,_,_,_,_,_⟩ :: ⟨_,_,_,_,_,_⟩ :: ⟨_,_,_,_,_,_⟩ :: ⟨_,_,_,_,_,_⟩ :: ⟨_,_,_,_,_,_⟩ :: ⟨_,_,_,_,_,_⟩ :: ⟨_,_,_,_,_,_⟩ :: ⟨_,_,_,_,_,_⟩ :: ⟨_,_,_,_,_,_⟩ :: ⟨_,_,_,_,_,_⟩ :: ⟨_,_,_,_,_,_⟩ :: ⟨_,_,_,_,_,_⟩ :: ⟨_,_,_,_,_,_⟩ :: ⟨_,_,_,_,_,_⟩ :: ⟨_,_,_,_,_,_⟩ :: ⟨_,_,_,_,_,_⟩ :: ⟨_,_,_,_,_,_⟩ :: ⟨_,_,_,_,_,_⟩ :: ⟨_,_,_,_,_,_⟩ :: ⟨_,_,_,_,_,_⟩ :: ⟨_,_,_,_,_,_⟩ :: ⟨_,_,_,_,_,_⟩ :: ⟨_,_,_,_,_,_⟩ :: ⟨_,_,_,_,_,_⟩ :: ⟨_,_,_,_,_,_⟩ :: ⟨_,_,_,_,_,_⟩ :: ⟨_,_,_,_,_,_⟩ :: ⟨_,_,_,_,_,_⟩ :: ⟨_,_,_,_,_,_⟩ :: ⟨_,_,_,_,_,_⟩ :: ⟨_,_,_,_,_,_⟩ :: ⟨_,_,_,_,_,_⟩ :: ⟨_,_,_,_,_,_⟩ :: [])) [] (0 :: 1 :: 2 :: 3 :: 4 :: 5 :: 7 :: 8 :: 9 :: 10 :: 11 :: 12 :: 6 :: 13 :: 14 :: 15 :: 16 :: 17 :: 18 :: 19 :: 20 :: 21 :: 22 :: 24 :: 25 :: 26 :: 27 :: 28 :: 29 :: 23 :: 30 :: 31 :: 32 :: 33 :: []) mixed (by kernel_rfl) rfl (by kernel_rfl) ?_
 refine r_fieldAddr 0 0 0 rfl rfl rfl rfl rfl ti36 rfl rfl ?_
 refine r_load 0 0 [_, _, _, _, _, _, _, _] rfl rfl rfl rfl ti27 rfl rfl rfl rfl ?_
 refine r_fieldAddr 0 0 8 rfl rfl rfl rfl rfl ti36 rfl rfl ?_
 refine r_load 0 8 [_, _, _, _, _, _, _, _] rfl rfl rfl rfl ti27 rfl rfl rfl rfl ?_
 refine r_fieldAddr 1 0 0 rfl rfl rfl rfl rfl ti36 rfl rfl ?_
 refine r_load 1 0 [_, _, _, _, _, _, _, _] rfl rfl rfl rfl ti27 rfl rfl rfl rfl ?_
 refine r_fieldAddr 0 0 0 rfl rfl rfl rfl rfl ti36 rfl rfl ?_
 refine r_load 0 0 [_, _, _, _, _, _, _, _] rfl rfl rfl rfl ti27 rfl rfl rfl rfl ?_
 refine r_fieldAddr 0 0 8 rfl rfl rfl rfl rfl ti36 rfl rfl ?_
 refine r_load 0 8 [_, _, _, _, _, _, _, _] rfl rfl rfl rfl ti27 rfl rfl rfl rfl ?_
 refine r_fieldAddr 1 0 8 rfl rfl rfl rfl rfl ti36 rfl rfl ?_
 refine r_load 1 8 [_, _, _, _, _, _, _, _] rfl rfl rfl rfl ti27 rfl rfl rfl rfl ?_
 refine r_pcall [_, _, _] rfl rfl rfl (c_plane_Orientation s.1 s.2 t.1 (szPm (Nat.le_trans (szP1 (szS1 hs)) (Nat.le_of_ble_eq_true rfl)) (Nat.le_trans (szP2 (szS1 hs)) (Nat.le_of_ble_eq_true rfl))) (szPm (Nat.le_trans (szP1 (szS2 hs)) (Nat.le_of_ble_eq_true rfl)) (Nat.le_trans (szP2 (szS2 hs)) (Nat.le_of_ble_eq_true rfl))) (szPm (Nat.le_trans (szP1 (szS1 ht)) (Nat.le_of_ble_eq_true rfl)) (Nat.le_trans (szP2 (szS1 ht)) (Nat.le_of_ble_eq_true rfl)))) ?_
 refine r_pcall [_, _, _] rfl rfl rfl (c_plane_Orientation s.1 s.2 t.2 (szPm (Nat.le_trans (szP1 (szS1 hs)) (Nat.le_of_ble_eq_true rfl)) (Nat.le_trans (szP2 (szS1 hs)) (Nat.le_of_ble_eq_true rfl))) (szPm (Nat.le_trans (szP1 (szS2 hs)) (Nat.le_of_ble_eq_true rfl)) (Nat.le_trans (szP2 (szS2 hs)) (Nat.le_of_ble_eq_true rfl))) (szPm (Nat.le_trans (szP1 (szS2 ht)) (Nat.le_of_ble_eq_true rfl)) (Nat.le_trans (szP2 (szS2 ht)) (Nat.le_of_ble_eq_true rfl)))) ?_
 refine r_arith (r := ori s.1 s.2 t.1 * ori s.1 s.2 t.2) rfl rfl rfl rfl (congrArg some (wi (by have := ori_bound s.1 s.2 t.1 s.1 s.2 t.2; omega) (by have := ori_bound s.1 s.2 t.1 s.1 s.2 t.2; omega) rfl)) ?_
 refine r_cmpInt rfl rfl rfl rfl rfl ?_
 refine r_move rfl rfl rfl ?_
 refine r_split 26 rfl (fun hb0 => ?_) (fun hb0 => ?_)
 ·
  refine r_no rfl rfl rfl ?_
  refine r_no rfl rfl rfl ?_
  refine r_no rfl rfl rfl ?_
  refine r_no rfl rfl rfl ?_
  refine r_no rfl rfl rfl ?_
  refine r_no rfl rfl rfl ?_
  refine r_no rfl rfl rfl ?_
  refine r_no rfl rfl rfl ?_
  refine r_no rfl rfl rfl ?_
  refine r_no rfl rfl rfl ?_
  refine r_no rfl rfl rfl ?_
  refine r_no rfl rfl rfl ?_
  refine r_no rfl rfl rfl ?_
  refine r_no rfl rfl rfl ?_
  refine r_no rfl rfl rfl ?_
  refine r_no rfl rfl rfl ?_
  refine r_pickT rfl rfl rfl rfl ?_
  refine run_nil ?_
  refine at_tn ?_
  refine at_condT rfl ?_
  refine at_seq ?_
  refine at_region ?_
  refine r_build [] rfl rfl rfl (bd40_0) ?_
  refine r_know 44 (Mt (0, ((0, 0), (0, 0)))) rfl Mt_zero ?_
  refine r_store rfl 2 0 [_, _, ⟨some g2, 40, _, 17, true⟩] [_, _, _, _, _, _, _, _, _, _, _, _, _, _, _, _, _] rfl rfl rfl rfl ti40 rfl rfl rfl rfl rfl ?_
  refine run_nil ?_
  refine at_tn ?_
  refine at_ret ?_
  refine at_tr ?_
  refine at_end1 rfl (res_cell 2 rfl rfl ti40 (vs := [_, _, _, _, _, _, _, _, _, _, _, _, _, _, _, _, _]) rfl rfl (Nat.le_of_ble_eq_true rfl) rfl) (fun w hL => ⟨?_, hL.below⟩)
  rw [cross_T1 (of_decide_eq_true hb0)]; rfl
 ·
  refine r_fieldAddr 1 0 0 rfl rfl rfl rfl rfl ti36 rfl rfl ?_
  refine r_load 1 0 [_, _, _, _, _, _, _, _] rfl rfl rfl rfl ti27 rfl rfl rfl rfl ?_
  refine r_fieldAddr 1 0 8 rfl rfl rfl rfl rfl ti36 rfl rfl ?_
  refine r_load 1 8 [_, _, _, _, _, _, _, _] rfl rfl rfl rfl ti27 rfl rfl rfl rfl ?_
  refine r_fieldAddr 0 0 0 rfl rfl rfl rfl rfl ti36 rfl rfl ?_
  refine r_load 0 0 [_, _, _, _, _, _, _, _] rfl rfl rfl rfl ti27 rfl rfl rfl rfl ?_
  refine r_fieldAddr 1 0 0 rfl rfl rfl rfl rfl ti36 rfl rfl ?_
  refine r_load 1 0 [_, _, _, _, _, _, _, _] rfl rfl rfl rfl ti27 rfl rfl rfl rfl ?_
  refine r_fieldAddr 1 0 8 rfl rfl rfl rfl rfl ti36 rfl rfl ?_
  refine r_load 1 8 [_, _, _, _, _, _, _, _] rfl rfl rfl rfl ti27 rfl rfl rfl rfl ?_
  refine r_fieldAddr 0 0 8 rfl rfl rfl rfl rfl ti36 rfl rfl ?_
  refine r_load 0 8 [_, _, _, _, _, _, _, _] rfl rfl rfl rfl ti27 rfl rfl rfl rfl ?_
  refine r_pcall [_, _, _] rfl rfl rfl (c_plane_Orientation t.1 t.2 s.1 (szPm (Nat.le_trans (szP1 (szS1 ht)) (Nat.le_of_ble_eq_true rfl)) (Nat.le_trans (szP2 (szS1 ht)) (Nat.le_of_ble_eq_true rfl))) (szPm (Nat.le_trans (szP1 (szS2 ht)) (Nat.le_of_ble_eq_true rfl)) (Nat.le_trans (szP2 (szS2 ht)) (Nat.le_of_ble_eq_true rfl))) (szPm (Nat.le_trans (szP1 (szS1 hs)) (Nat.le_of_ble_eq_true rfl)) (Nat.le_trans (szP2 (szS1 hs)) (Nat.le_of_ble_eq_true rfl)))) ?_
  refine r_pcall [_, _, _] rfl rfl rfl (c_plane_Orientation t.1 t.2 s.2 (szPm (Nat.le_trans (szP1 (szS1 ht)) (Nat.le_of_ble_eq_true rfl)) (Nat.le_trans (szP2 (szS1 ht)) (Nat.le_of_ble_eq_true rfl))) (szPm (Nat.le_trans (szP1 (szS2 ht)) (Nat.le_of_ble_eq_true rfl)) (Nat.le_trans (szP2 (szS2 ht)) (Nat.le_of_ble_eq_true rfl))) (szPm (Nat.le_trans (szP1 (szS2 hs)) (Nat.le_of_ble_eq_true rfl)) (Nat.le_trans (szP2 (szS2 hs)) (Nat.le_of_ble_eq_true rfl)))) ?_
  refine r_arith (r := ori t.1 t.2 s.1 * ori t.1 t.2 s.2) rfl rfl rfl rfl (congrArg some (wi (by have := ori_bound t.1 t.2 s.1 t.1 t.2 s.2; omega) (by have := ori_bound t.1 t.2 s.1 t.1 t.2 s.2; omega) rfl)) ?_
  refine r_cmpInt rfl rfl rfl rfl rfl ?_
  refine r_pickF rfl rfl rfl rfl ?_
  refine run_nil ?_
  refine at_tn ?_
  refine at_cond rfl (fun hb1 => ?_) (fun hb1 => ?_)
  ·
   refine at_seq ?_
   refine at_region ?_
   refine r_build [] rfl rfl rfl (bd40_0) ?_
   refine r_know 44 (Mt (0, ((0, 0), (0, 0)))) rfl Mt_zero ?_
   refine r_store rfl 2 0 [_, _, ⟨some g2, 40, _, 17, true⟩] [_, _, _, _, _, _, _, _, _, _, _, _, _, _, _, _, _] rfl rfl rfl rfl ti40 rfl rfl rfl rfl rfl ?_
   refine run_nil ?_
   refine at_tn ?_
   refine at_ret ?_
   refine at_tr ?_
   refine at_end1 rfl (res_cell 2 rfl rfl ti40 (vs := [_, _, _, _, _, _, _, _, _, _, _, _, _, _, _, _, _]) rfl rfl (Nat.le_of_ble_eq_true rfl) rfl) (fun w hL => ⟨?_, hL.below⟩)
   rw [cross_T2 (of_decide_eq_true hb1)]; rfl
  ·
   refine at_skip ?_
   refine at_tn ?_
   refine at_seq ?_
   refine at_drawnA (l' := [⟨_,_,_,_,_,_⟩, ⟨_,_,_,_,_,_⟩, ⟨_,_,_,_,_,_⟩, ⟨_,_,_,_,_,_⟩, ⟨_,_,_,_,_,_⟩, ⟨_,_,_,_,_,_⟩, ⟨_,_,_,_,_,_⟩, ⟨_,_,_,_,_,_⟩, ⟨_,_,_,_,_,_⟩, ⟨_,_,_,_,_,_⟩, ⟨_,_,_,_,_,_⟩, ⟨_,_,_,_,_,_⟩, ⟨_,_,_,_,_,_⟩, ⟨_,_,_,_,_,_⟩]) [3000000] [0, 1, 2, 3, 5, 6, 7, 8, 4, 9, 10, 11, 12, 13] mixed (by kernel_rfl) rfl ?_
   refine r_fieldAddr 0 0 8 rfl rfl rfl rfl rfl ti36 rfl rfl ?_
   refine r_load 0 8 [_, _, _, _, _, _, _, _] rfl rfl rfl rfl ti27 rfl rfl rfl rfl ?_
   refine r_fieldAddr 0 0 0 rfl rfl rfl rfl rfl ti36 rfl rfl ?_
   refine r_load 0 0 [_, _, _, _, _, _, _, _] rfl rfl rfl rfl ti27 rfl rfl rfl rfl ?_
   refine r_fieldAddr 1 0 8 rfl rfl rfl rfl rfl ti36 rfl rfl ?_
   refine r_load 1 8 [_, _, _, _, _, _, _, _] rfl rfl rfl rfl ti27 rfl rfl rfl rfl ?_
   refine r_fieldAddr 1 0 0 rfl rfl rfl rfl rfl ti36 rfl rfl ?_
   refine r_load 1 0 [_, _, _, _, _, _, _, _] rfl rfl rfl rfl ti27 rfl rfl rfl rfl ?_
   refine r_pcall [_, _] rfl rfl rfl (c_plane_Sub s.2 s.1 (szPm (Nat.le_trans (szP1 (szS2 hs)) (Nat.le_of_ble_eq_true rfl)) (Nat.le_trans (szP2 (szS2 hs)) (Nat.le_of_ble_eq_true rfl))) (szPm (Nat.le_trans (szP1 (szS1 hs)) (Nat.le_of_ble_eq_true rfl)) (Nat.le_trans (szP2 (szS1 hs)) (Nat.le_of_ble_eq_true rfl)))) ?_
   refine r_pcall [_, _] rfl rfl rfl (c_plane_Sub t.2 t.1 (szPm (Nat.le_trans (szP1 (szS2 ht)) (Nat.le_of_ble_eq_true rfl)) (Nat.le_trans (szP2 (szS2 ht)) (Nat.le_of_ble_eq_true rfl))) (szPm (Nat.le_trans (szP1 (szS1 ht)) (Nat.le_of_ble_eq_true rfl)) (Nat.le_trans (szP2 (szS1 ht)) (Nat.le_of_ble_eq_true rfl)))) ?_
   refine r_alloc [_, _, _, _, _, _, _, _] 8 (fun g => [_, _, _, ⟨some g, 27, _, 8, true⟩]) rfl rfl z27 rfl rfl (fun _ => rfl) (fun g3 => ?_)
   refine r_alloc [_, _, _, _, _, _, _, _] 8 (fun g => [_, _, _, _, ⟨some g, 27, _, 8, true⟩]) rfl rfl z27 rfl rfl (fun _ => rfl) (fun g4 => ?_)
   refine r_store rfl 3 0 [_, _, _, ⟨some g3, 27, _, 8, true⟩, _] [_, _, _, _, _, _, _, _] rfl rfl rfl rfl ti27 rfl rfl rfl rfl rfl ?_
   refine r_store rfl 4 0 [_, _, _, _, ⟨some g4, 27, _, 8, true⟩] [_, _, _, _, _, _, _, _] rfl rfl rfl rfl ti27 rfl rfl rfl rfl rfl ?_
   refine run_nil ?_
   refine at_tn ?_
   refine at_seq ?_
   refine at_drawnA (l' := [⟨_,_,_,_,_,_⟩, ⟨_,_,_,_,_,_⟩, ⟨_,_,_,_,_,_⟩, ⟨_,_,_,_,_,_⟩, ⟨_,_,_,_,_,_⟩, ⟨_,_,_,_,_,_⟩, ⟨_,_,_,_,_,_⟩, ⟨_,_,_,_,_,_⟩, ⟨_,_,_,_,_,_⟩, ⟨_,_,_,_,_,_⟩, ⟨_,_,_,_,_,_⟩, ⟨_,_,_,_,_,_⟩, ⟨_,_,_,_,_,_⟩, ⟨_,_,_,_,_,_⟩, ⟨_,_,_,_,_,_⟩, ⟨_,_,_,_,_,_⟩, ⟨_,_,_,_,_,_⟩]) [3000000] [0, 1, 2, 3, 5, 7, 8, 4, 6, 9, 10, 11, 12, 14, 15, 13, 16] mixed (by kernel_rfl) rfl ?_
   refine r_fieldAddr 1 0 0 rfl rfl rfl rfl rfl ti36 rfl rfl ?_
   refine r_load 1 0 [_, _, _, _, _, _, _, _] rfl rfl rfl rfl ti27 rfl rfl rfl rfl ?_
   refine r_fieldAddr 0 0 0 rfl rfl rfl rfl rfl ti36 rfl rfl ?_
   refine r_load 0 0 [_, _, _, _, _, _, _, _] rfl rfl rfl rfl ti27 rfl rfl rfl rfl ?_
   refine r_load 4 0 [_, _, _, _, _, _, _, _] rfl rfl rfl rfl ti27 rfl rfl rfl rfl ?_
   refine r_load 3 0 [_, _, _, _, _, _, _, _] rfl rfl rfl rfl ti27 rfl rfl rfl rfl ?_
   refine r_load 4 0 [_, _, _, _, _, _, _, _] rfl rfl rfl rfl ti27 rfl rfl rfl rfl ?_
   refine r_pcall [_, _] rfl rfl rfl (c_plane_Sub t.1 s.1 (szPm (Nat.le_trans (szP1 (szS1 ht)) (Nat.le_of_ble_eq_true rfl)) (Nat.le_trans (szP2 (szS1 ht)) (Nat.le_of_ble_eq_true rfl))) (szPm (Nat.le_trans (szP1 (szS1 hs)) (Nat.le_of_ble_eq_true rfl)) (Nat.le_trans (szP2 (szS1 hs)) (Nat.le_of_ble_eq_true rfl)))) ?_
   refine r_pcall [_, _] rfl rfl rfl (c_plane_CrossProduct (pSub t.1 s.1) (pSub t.2 t.1) (szPm (Nat.le_trans (szQ_sub (szP1 (szS1 ht)) (szP1 (szS1 hs))) (Nat.le_of_ble_eq_true rfl)) (Nat.le_trans (szQ_sub (szP2 (szS1 ht)) (szP2 (szS1 hs))) (Nat.le_of_ble_eq_true rfl))) (szPm (Nat.le_trans (szQ_sub (szP1 (szS2 ht)) (szP1 (szS1 ht))) (Nat.le_of_ble_eq_true rfl)) (Nat.le_trans (szQ_sub (szP2 (szS2 ht)) (szP2 (szS1 ht))) (Nat.le_of_ble_eq_true rfl)))) ?_
   refine r_pcall [_, _] rfl rfl rfl (c_plane_CrossProduct (pSub s.2 s.1) (pSub t.2 t.1) (szPm (Nat.le_trans (szQ_sub (szP1 (szS2 hs)) (szP1 (szS1 hs))) (Nat.le_of_ble_eq_true rfl)) (Nat.le_trans (szQ_sub (szP2 (szS2 hs)) (szP2 (szS1 hs))) (Nat.le_of_ble_eq_true rfl))) (szPm (Nat.le_trans (szQ_sub (szP1 (szS2 ht)) (szP1 (szS1 ht))) (Nat.le_of_ble_eq_true rfl)) (Nat.le_trans (szQ_sub (szP2 (szS2 ht)) (szP2 (szS1 ht))) (Nat.le_of_ble_eq_true rfl)))) ?_
   refine r_pcall [_, _] rfl rfl rfl (c_rational_Div (crs (pSub t.1 s.1) (pSub t.2 t.1)) (crs (pSub s.2 s.1) (pSub t.2 t.1)) (Nat.le_trans (szQ_sub (szQ_mul (szQ_sub (szP1 (szS1 ht)) (szP1 (szS1 hs))) (szQ_sub (szP2 (szS2 ht)) (szP2 (szS1 ht)))) (szQ_mul (szQ_sub (szP2 (szS1 ht)) (szP2 (szS1 hs))) (szQ_sub (szP1 (szS2 ht)) (szP1 (szS1 ht))))) (Nat.le_of_ble_eq_true rfl)) (Nat.le_trans (szQ_sub (szQ_mul (szQ_sub (szP1 (szS2 hs)) (szP1 (szS1 hs))) (szQ_sub (szP2 (szS2 ht)) (szP2 (szS1 ht)))) (szQ_mul (szQ_sub (szP2 (szS2 hs)) (szP2 (szS1 hs))) (szQ_sub (szP1 (szS2 ht)) (szP1 (szS1 ht))))) (Nat.le_of_ble_eq_true rfl))) ?_
   refine r_move rfl rfl rfl ?_
   refine r_extract (vs := [_, _]) rfl rfl rfl rfl ?_
   refine r_alloc [_, _, _, _] 4 (fun g => [_, _, _, _, _, ⟨some g, 25, _, 4, true⟩]) rfl rfl z25 rfl rfl (fun _ => rfl) (fun g5 => ?_)
   refine r_store rfl 5 0 [_, _, _, _, _, ⟨some g5, 25, _, 4, true⟩] [_, _, _, _] rfl rfl rfl rfl ti25 rfl rfl rfl rfl rfl ?_
   refine r_extract (vs := [_, _]) rfl rfl rfl rfl ?_
   refine r_assign rfl rfl rfl ?_
   refine run_nil ?_
   refine at_tn ?_
   refine at_seq ?_
   refine at_region ?_
   refine r_load 0 0 [_, _, _, _, _, _, _, _, _, _, _, _, _, _, _, _] rfl rfl rfl rfl ti36 rfl rfl rfl rfl ?_
   refine r_load 5 0 [_, _, _, _] rfl rfl rfl rfl ti25 rfl rfl rfl rfl ?_
   refine r_pcall [_, _] rfl rfl rfl (c_plane_Divide s ((crs (pSub t.1 s.1) (pSub t.2 t.1)) / (crs (pSub s.2 s.1) (pSub t.2 t.1))) (szSm (szPm (Nat.le_trans (szP1 (szS1 hs)) (Nat.le_of_ble_eq_true rfl)) (Nat.le_trans (szP2 (szS1 hs)) (Nat.le_of_ble_eq_true rfl))) (szPm (Nat.le_trans (szP1 (szS2 hs)) (Nat.le_of_ble_eq_true rfl)) (Nat.le_trans (szP2 (szS2 hs)) (Nat.le_of_ble_eq_true rfl)))) (Nat.le_trans (szQ_div (szQ_sub (szQ_mul (szQ_sub (szP1 (szS1 ht)) (szP1 (szS1 hs))) (szQ_sub (szP2 (szS2 ht)) (szP2 (szS1 ht)))) (szQ_mul (szQ_sub (szP2 (szS1 ht)) (szP2 (szS1 hs))) (szQ_sub (szP1 (szS2 ht)) (szP1 (szS1 ht))))) (szQ_sub (szQ_mul (szQ_sub (szP1 (szS2 hs)) (szP1 (szS1 hs))) (szQ_sub (szP2 (szS2 ht)) (szP2 (szS1 ht)))) (szQ_mul (szQ_sub (szP2 (szS2 hs)) (szP2 (szS1 hs))) (szQ_sub (szP1 (szS2 ht)) (szP1 (szS1 ht)))))) (Nat.le_of_ble_eq_true rfl))) ?_
   refine r_alloc [_, _, _, _, _, _, _, _] 8 (fun g => [_, _, _, _, _, _, ⟨some g, 27, _, 8, true⟩]) rfl rfl z27 rfl rfl (fun _ => rfl) (fun g6 => ?_)
   refine r_store rfl 6 0 [_, _, _, _, _, _, ⟨some g6, 27, _, 8, true⟩] [_, _, _, _, _, _, _, _] rfl rfl rfl rfl ti27 rfl rfl rfl rfl rfl ?_
   refine run_nil ?_
   refine at_tn ?_
   refine at_seq ?_
   refine at_region ?_
   refine r_load 6 0 [_, _, _, _, _, _, _, _] rfl rfl rfl rfl ti27 rfl rfl rfl rfl ?_
   refine r_load 6 0 [_, _, _, _, _, _, _, _] rfl rfl rfl rfl ti27 rfl rfl rfl rfl ?_
   refine r_build [(0, _), (1, _)] rfl rfl rfl (bd36_2) ?_
   refine r_build [(0, _), (1, _)] rfl rfl rfl (bd40_2) ?_
   refine r_store rfl 2 0 [_, _, ⟨some g2, 40, _, 17, true⟩, _, _, _, _] [_, _, _, _, _, _, _, _, _, _, _, _, _, _, _, _, _] rfl rfl rfl rfl ti40 rfl rfl rfl rfl rfl ?_
   refine run_nil ?_
   refine at_tn ?_
   refine at_ret ?_
   refine at_end1 rfl (res_cell 2 rfl rfl ti40 (vs := [_, _, _, _, _, _, _, _, _, _, _, _, _, _, _, _, _]) rfl rfl (Nat.le_of_ble_eq_true rfl) rfl) (fun w hL => ⟨?_, hL.below⟩)
   rw [cross_FF (of_decide_eq_false hb0) (of_decide_eq_false hb1)]; rfl
end Go.Proofs.YthnlafhnpphdhaaGreatDoor
set_option linter.unusedVariables false
set_option linter.unusedSimpArgs false
namespace Go.Via
open Go Go.RowKit
/-! ### functions without results, functions that are values -/
theorem at_end0 {P : Program} {B : World} {fn : Func} {R : Ending → World → Prop} {s : St} (hfn : fn.results = #[]) (hR : ∀ w, LRel B s.L w → R (.returned (.tuple #[])) w) : At B s (bodyPost P fn R .ret) := fun a w hr =>
  ⟨hr.df, .tuple #[], by simp [results, hfn], hR w hr.mem⟩
theorem at_end0n {P : Program} {B : World} {fn : Func} {R : Ending → World → Prop} {s : St} (hfn : fn.results = #[]) (hR : ∀ w, LRel B s.L w → R (.returned (.tuple #[])) w) : At B s (bodyPost P fn R .normal) := fun a w hr =>
  ⟨hr.df, .tuple #[], by simp [results, hfn], hR w hr.mem⟩
/-- A CALL THAT WRITES: what is known before it, what is known behind it. -/
def ECall (P : Program) (f : Nat) (L0 : List Blk) (args : List Value) (X : Type) (res : X → Value) (L1 : X → List Blk) : Prop :=
  plainF P f = true ∧ ∀ B w, LRel B L0 w → Calls P f args.toArray w fun e w' => ∃ x, e = .returned (res x) ∧ LRel B (L1 x) w'
section
variable {P : Program} {bl : List Nat} {ops : Array Oper} {K : St → Prop} {rest : List Oper} {nt : Nat} {t : List (Nat × Value)} {L : List Blk} {d : Nat} {ty : TypeId} {pos : String} {af : Array Edge} {g : Option (Nat × Bool)} {x y : Operand}
theorem r_makeFunc {f : Nat} {v : Value} (hd : Nat.blt d nt = true) (hg : wantedS ops ⟨some d, .makeFunc (.func f) #[] #[x], ty, pos, af, g⟩ t = some true) (hx : ev t x = some v) (h : Run P bl ops rest ⟨nt, (d, .func (.func f) #[] #[v]) :: t, L⟩ K) :
    Run P bl ops (⟨some d, .makeFunc (.func f) #[] #[x], ty, pos, af, g⟩ :: rest) ⟨nt, t, L⟩ K :=
  run_q hd hg rfl (fun B a w hr => by simp [execOp, Instr.makeFunc, hr.ev hx]) h
/-- a call of a function that is a value and holds one variable -/
theorem r_ecall {f : Nat} {args : List Operand} {ts : Array TypeId} {c : Value} (vs : List Value) {X : Type} {res : X → Value} {L1 : X → List Blk} (hM : isM bl = true) (hd : Nat.blt d nt = true)
    (hg : wantedS ops ⟨some d, .call { callee := .value x, args := args.toArray, argTypes := ts }, ty, pos, af, g⟩ t = some true) (hf : ev t x = some (.func (.func f) #[] #[c]))
    (hv : args.map (ev t) = vs.map some) (hc : ECall P f L (vs ++ [c]) X res L1) (h : ∀ z, Run P bl ops rest ⟨nt, (d, res z) :: t, L1 z⟩ K) :
    Run P bl ops (⟨some d, .call { callee := .value x, args := args.toArray, argTypes := ts }, ty, pos, af, g⟩ :: rest) ⟨nt, t, L⟩ K :=
  run_m hd hg hM (X := X) (nx := fun z => ⟨nt, (d, res z) :: t, L1 z⟩) (fun hd' B a w hr => by
    have h1 : (execOp a.eval ⟨some d, .call { callee := .value x, args := args.toArray, argTypes := ts }, ty, pos, af, g⟩).run P w = .ok (.enter f (vs ++ [c]).toArray) w := by
      have hfv := hr.ev hf
      have hva : args.toArray.map a.eval = vs.toArray := by simp [evs_spec hr hv]
      have hp := hc.1
      unfold plainF at hp
      cases hq : P.funcs[f]? with
      | none => rw [hq] at hp; cases hp
      | some fn =>
        rw [hq] at hp
        simp only [Bool.and_eq_true, Bool.not_eq_true'] at hp
        obtain ⟨h1, h2⟩ := hp
        have h3 : fn.body ≠ none := by intro hb; rw [hb] at h1; cases h1
        have h4 : ¬ fn.name = "runtime.NumGoroutine" := by simpa using h2
        simp [execOp, resolve, hfv, hva, Deferred.ofValue, invoke, callFunc, hq, h4, h3]
    unfold Oper.wp
    rw [h1]
    refine (hc.2 B w hr.mem).mono ?_
    rintro e w' ⟨z, rfl, hw⟩
    exact ⟨z, hr.put hd' hw⟩) h
end
end Go.Via
set_option linter.unusedVariables false
set_option linter.unusedSimpArgs false
namespace Go.Via
open Go Go.RowKit
/-! ### rows of points -/
def ptC (p : Rat × Rat) : List Value := [.bool (decide (p.1.num < 0)), .string (mag p.1.num.natAbs), .bool false, .string (dm p.1), .bool (decide (p.2.num < 0)), .string (mag p.2.num.natAbs), .bool false, .string (dm p.2)]
def PLc : List (Rat × Rat) → List Value
  | [] => []
  | p :: l => ptC p ++ PLc l
theorem PLc_length (l : List (Rat × Rat)) : (PLc l).length = l.length * 8 := by
  induction l with
  | nil => rfl
  | cons p l ih => rw [PLc, List.length_append, ih]; simp [ptC]; omega
theorem PLc_append (l m : List (Rat × Rat)) : PLc (l ++ m) = PLc l ++ PLc m := by
  induction l with
  | nil => rfl
  | cons p l ih => rw [List.cons_append, PLc, PLc, ih, List.append_assoc]
theorem PLc_snoc (l : List (Rat × Rat)) (p : Rat × Rat) : PLc l ++ ptC p = PLc (l ++ [p]) := by rw [PLc_append]; show _ = _ ++ (ptC p ++ []); rw [List.append_nil]
theorem PLc_get {l : List (Rat × Rat)} {i : Nat} {p : Rat × Rat} (h : l[i]? = some p) : ((PLc l).drop (i * 8)).take 8 = ptC p := by
  induction l generalizing i with
  | nil => simp at h
  | cons q l ih =>
    cases i with
    | zero =>
      simp at h; subst h
      rw [Nat.zero_mul, List.drop_zero, PLc]
      exact List.take_left' (by simp [ptC])
    | succ i =>
      rw [List.getElem?_cons_succ] at h
      rw [PLc, Nat.succ_mul, Nat.add_comm, ← List.drop_drop, List.drop_left' (by simp [ptC])]
      exact ih h
theorem ptC_one (p : Rat × Rat) : ∀ v ∈ ptC p, v.oneCell' = true := by
  intro v hv
  simp only [ptC, List.mem_cons, List.mem_nil_iff, or_false] at hv
  rcases hv with rfl | rfl | rfl | rfl | rfl | rfl | rfl | rfl <;> rfl
theorem PLc_ne {l : List (Rat × Rat)} (h : 0 < l.length) : PLc l ≠ [] := fun e => by
  have := congrArg List.length e
  rw [PLc_length] at this
  simp at this; omega
def addE (l : List P2) (p : P2) (on : S2) : List P2 := if onS p on ∧ p ∉ l then l ++ [p] else l
theorem addE_1 {l : List P2} {p : P2} {on : S2} (h : ¬ onS p on) : addE l p on = l := by unfold addE; rw [if_neg (fun c => h c.1)]
theorem addE_2 {l : List P2} {p : P2} {on : S2} (h : p ∈ l) : addE l p on = l := by unfold addE; rw [if_neg (fun c => c.2 h)]
theorem addE_3 {l : List P2} {p : P2} {on : S2} (h : onS p on) (h2 : p ∉ l) : addE l p on = l ++ [p] := by unfold addE; rw [if_pos ⟨h, h2⟩]
theorem addE_len (l : List P2) (p : P2) (on : S2) : (addE l p on).length ≤ l.length + 1 := by unfold addE; split <;> simp
theorem addE_mem {l : List P2} {p q : P2} {on : S2} (h : q ∈ addE l p on) : q ∈ l ∨ q = p := by
  unfold addE at h
  split at h
  · rcases List.mem_append.1 h with h | h
    · exact .inl h
    · exact .inr (List.mem_singleton.1 h)
  · exact .inl h
/-- the ends of two segments that lie on the other one -/
def endsP (s t : S2) : List P2 := addE (addE (addE (addE [] s.1 t) s.2 t) t.1 s) t.2 s
theorem endsP_sz {s t : S2} {n : Nat} (hs : szS s ≤ n) (ht : szS t ≤ n) {p : P2} (h : p ∈ endsP s t) : szP p ≤ n := by
  unfold endsP at h
  rcases addE_mem h with h | rfl
  · rcases addE_mem h with h | rfl
    · rcases addE_mem h with h | rfl
      · rcases addE_mem h with h | rfl
        · cases h
        · exact szS1 hs
      · exact szS2 hs
    · exact szS1 ht
  · exact szS2 ht
def meetP (s t : S2) : Int × S2 := match endsP s t with
  | [] => crossP s t
  | [a] => (1, (a, a))
  | a :: b :: _ => if 0 < cmpP a b then (3, (b, a)) else (3, (a, b))
theorem meet_0 {s t : S2} (h : endsP s t = []) : meetP s t = crossP s t := by unfold meetP; rw [h]
theorem meet_1 {s t : S2} {a : P2} (h : endsP s t = [a]) : meetP s t = (1, (a, a)) := by unfold meetP; rw [h]
theorem meet_2 {s t : S2} {a b : P2} {l : List P2} (h : endsP s t = a :: b :: l) (h2 : 0 < cmpP a b) : meetP s t = (3, (b, a)) := by unfold meetP; rw [h]; exact if_pos h2
theorem meet_3 {s t : S2} {a b : P2} {l : List P2} (h : endsP s t = a :: b :: l) (h2 : ¬ 0 < cmpP a b) : meetP s t = (3, (a, b)) := by unfold meetP; rw [h]; exact if_neg h2
theorem len0 {l : List P2} (h : (((l.length : Nat) : Int) == 0) = true) : l = [] := List.eq_nil_of_length_eq_zero (by have := eq_of_beq h; omega)
theorem len1 {l : List P2} (h : (((l.length : Nat) : Int) == 1) = true) : ∃ a, l = [a] := List.length_eq_one_iff.1 (by have := eq_of_beq h; omega)
theorem len2 {l : List P2} (h0 : (((l.length : Nat) : Int) == 0) = false) (h : (((l.length : Nat) : Int) == 1) = false) : ∃ a b m, l = a :: b :: m := by
  have h1 := ne_of_beq_false h0
  have h2 := ne_of_beq_false h
  match l, h1, h2 with
  | [], h1, _ => exact absurd rfl h1
  | [a], _, h2 => exact absurd rfl h2
  | a :: b :: m, _, _ => exact ⟨a, b, m, rfl⟩
/-- a row of points that grows: the points, where it lies, how many cells, its room -/
abbrev RowG (L : List P2) := {x : List P2 × Option Nat × Nat × Nat // x.1 = L ∧ x.1.length ≤ x.2.2.2 ∧ x.2.2.2 * 8 ≤ x.2.2.1}
end Go.Via
namespace Go.Via
theorem apart5 (a b c : Bool) : apartB [some 0, some 1, some 2, some 3, some 4] [a, b, c, true, true] = true := by cases a <;> cases b <;> cases c <;> rfl
theorem apart6 (a b c : Bool) : apartB [some 0, some 1, some 2, some 3, some 4, some 5] [a, b, c, true, true, true] = true := by cases a <;> cases b <;> cases c <;> rfl
theorem no_step {l : List P2} {p q : P2} {i : Nat} (h : ∀ j, j < i → l[j]? ≠ some p) (hq : l[i]? = some q) (hne : p ≠ q) : ∀ j, j < i + 1 → l[j]? ≠ some p := fun j hj => by
  by_cases e : j = i
  · subst e; rw [hq]; exact fun e => hne (Option.some.inj e).symm
  · exact h j (by omega)
theorem no_mem {l : List P2} {p : P2} (h : ∀ j, j < l.length → l[j]? ≠ some p) : p ∉ l := fun hm => by
  obtain ⟨j, hj⟩ := List.mem_iff_getElem?.1 hm
  exact h j (List.getElem?_eq_some_iff.1 hj).1 hj
end Go.Via
namespace Go.Via
theorem row_base {b : Option Nat} {a : P2} {m : List P2} (h : b = none → PLc (a :: m) = []) : ∃ g, b = some g := by
  cases b with
  | none => exact absurd (h rfl) (PLc_ne (by simp))
  | some g => exact ⟨g, rfl⟩
theorem PLc_fit {a b : P2} {m : List P2} {n : Nat} (h : n ≤ 16) : Nat.ble n (PLc (a :: b :: m)).length = true := by
  rw [PLc_length]; simp only [List.length_cons]
  exact Nat.ble_eq_true_of_le (by omega)
end Go.Via
namespace Go.Via
theorem one_len (a : P2) : (0 : Int) < ((List.length (α := P2) [a] : Nat) : Int) := by simp
end Go.Via
namespace Go.Via
theorem two_len0 (a b : P2) (m : List P2) : (0 : Int) < ((List.length (α := P2) (a :: b :: m) : Nat) : Int) := by simp; omega
theorem two_len1 (a b : P2) (m : List P2) : (1 : Int) < ((List.length (α := P2) (a :: b :: m) : Nat) : Int) := by simp; omega
end Go.Via
set_option linter.unusedVariables false
namespace Go.Proofs.YthnlafhnpphdhaaGreatDoor
open Go Go.RowKit Go.Via
set_option maxRecDepth 20000 in
theorem c_meet_add (r0 r1 r2 : Blk) (gc : Nat) (l : List P2) (ob : Option Nat) (oN oc : Nat) (h1 : l.length ≤ oc) (h2 : oc * 8 ≤ oN) (hl : l.length ≤ 4) (p : P2) (on : S2) (hp : szP p ≤ 1000) (hs : szS on ≤ 1000) : ECall Tryz.prog 67 [r0, r1, r2, ⟨some gc, 61, [slv ob 0 l.length oc], 1, true⟩, ⟨ob, 27, PLc l, oN, true⟩] [Pt p, Sg on, .pointer (some ⟨gc, 0, none⟩)] (RowG (addE l p on)) (fun _ => .tuple #[]) (fun x => [r0, r1, r2, ⟨some gc, 61, [slv x.1.2.1 0 x.1.1.length x.1.2.2.2], 1, true⟩, ⟨x.1.2.1, 27, PLc x.1.1, x.1.2.2.1, true⟩]) := by
 refine ⟨by kernel_rfl, fun B w hL0 => ?_⟩
 refine calls_atB (args := [Pt p, Sg on, .pointer (some ⟨gc, 0, none⟩)]) Tryz.func67 rfl (Nat.le_of_ble_eq_true rfl) hL0 ?_
 show At B ⟨25, [(0, Pt p), (1, Sg on), (2, .pointer (some ⟨gc, 0, none⟩))], [r0, r1, r2, ⟨some gc, 61, [slv ob 0 l.length oc], 1, true⟩, ⟨ob, 27, PLc l, oN, true⟩]⟩ _
 refine at_seq ?_
 refine at_region ?_
 refine r_box [_, _, _, _, _, _, _, _] 8 (fun g => [_, _, _, _, _, ⟨some g, 27, _, 8, true⟩]) rfl rfl rfl rfl rfl (fun _ => rfl) (fun g0 => ?_)
 refine r_box [_, _, _, _, _, _, _, _, _, _, _, _, _, _, _, _] 16 (fun g => [_, _, _, _, _, _, ⟨some g, 36, _, 16, true⟩]) rfl rfl rfl rfl rfl (fun _ => rfl) (fun g1 => ?_)
 refine run_nil ?_
 refine at_tn ?_
 refine at_seq ?_
 refine at_seq ?_
 refine at_region ?_
 refine r_load 5 0 [_, _, _, _, _, _, _, _] rfl rfl rfl rfl ti27 rfl rfl rfl rfl ?_
 refine r_load 6 0 [_, _, _, _, _, _, _, _, _, _, _, _, _, _, _, _] rfl rfl rfl rfl ti36 rfl rfl rfl rfl ?_
 refine r_pcall [_, _] rfl rfl rfl (c_plane_OnSegment p on (Nat.le_trans hp (Nat.le_of_ble_eq_true rfl)) (Nat.le_trans hs (Nat.le_of_ble_eq_true rfl))) ?_
 refine r_not rfl rfl rfl ?_
 refine run_nil ?_
 refine at_tn ?_
 refine at_cond rfl (fun hb0 => ?_) (fun hb0 => ?_)
 ·
  have hon : ¬ onS p on := by simpa using hb0
  refine at_ret ?_
  refine at_tr ?_
  refine at_end0 rfl  (fun w hL => ⟨⟨(l, ob, oN, oc), (addE_1 hon).symm, h1, h2⟩, rfl, hL.picks [some 0, some 1, some 2, some 3, some 4] ⟨⟨_, rfl, Blk.le_refl _⟩, ⟨_, rfl, Blk.le_refl _⟩, ⟨_, rfl, Blk.le_refl _⟩, ⟨_, rfl, Blk.le_refl _⟩, ⟨_, rfl, Blk.le_refl _⟩, trivial⟩ rfl (apart5 _ _ _)⟩)
 ·
  have hon : onS p on := by simpa using hb0
  refine at_skip ?_
  refine at_tn ?_
  refine at_seq ?_
  refine at_seq ?_
  refine at_region ?_
  refine r_load 3 0 [_] rfl rfl rfl rfl ti61 rfl rfl rfl rfl ?_
  refine r_lenS u61 rfl rfl rfl ?_
  refine r_move rfl rfl rfl ?_
  refine run_nil ?_
  refine at_tn ?_
  refine at_block ?_
  refine enterL (nt := 25) (ι := {i : Nat // i ≤ l.length ∧ ∀ j, j < i → l[j]? ≠ some p}) (fun ⟨i, hi, hno⟩ => [(2, .pointer (some ⟨gc, 0, none⟩)), (3, .pointer (some ⟨g0, 0, none⟩)), (11, slv ob 0 l.length oc), (12, .int .i64 (l.length : Nat)), (13, .int .i64 (i : Nat))]) (fun ⟨i, hi, hno⟩ => [r0, r1, r2, ⟨some gc, 61, [slv ob 0 l.length oc], 1, true⟩, ⟨ob, 27, PLc l, oN, true⟩, ⟨some g0, 27, ptC p, 8, true⟩]) (fun ⟨i, hi, hno⟩ => l.length - i) ⟨0, Nat.zero_le _, fun j hj => absurd hj (by omega)⟩ ⟨rfl, rfl, rfl, rfl, rfl, trivial⟩ (weak_picks [some 0, some 1, some 2, some 3, some 4, some 5] ⟨⟨_, rfl, Blk.le_refl _⟩, ⟨_, rfl, Blk.le_refl _⟩, ⟨_, rfl, Blk.le_refl _⟩, ⟨_, rfl, Blk.le_refl _⟩, ⟨_, rfl, Blk.le_refl _⟩, ⟨_, rfl, Blk.le_refl _⟩, trivial⟩ rfl (apart6 _ _ _)) ?_
  rintro ⟨i, hi, hno⟩
  show At _ ⟨25, [(2, .pointer (some ⟨gc, 0, none⟩)), (3, .pointer (some ⟨g0, 0, none⟩)), (11, slv ob 0 l.length oc), (12, .int .i64 (l.length : Nat)), (13, .int .i64 (i : Nat))], [r0, r1, r2, ⟨some gc, 61, [slv ob 0 l.length oc], 1, true⟩, ⟨ob, 27, PLc l, oN, true⟩, ⟨some g0, 27, ptC p, 8, true⟩]⟩ _
  refine at_seq ?_
  refine at_region ?_
  refine r_cmpInt rfl rfl rfl rfl rfl ?_
  refine run_nil ?_
  refine at_tn ?_
  refine at_seq ?_
  refine at_cond rfl (fun hb2 => ?_) (fun hb2 => ?_)
  ·
   have hlt : i < l.length := (by have := of_decide_eq_true hb2; omega)
   obtain ⟨q, hq⟩ : ∃ q, l[i]? = some q := ⟨l[i], List.getElem?_eq_getElem hlt⟩
   refine at_skip ?_
   refine at_tn ?_
   refine at_seq ?_
   refine at_block ?_
   refine at_seq ?_
   refine at_region ?_
   refine r_indexAddr 4 (i * 8) u61 ti27 rfl rfl rfl rfl rfl (by omega) (by omega) (PLc_ne (by omega)) (by show 0 + Int.toNat _ * 8 = _; omega) ?_
   refine r_load (v := Pt q) 4 (i * 8) _ rfl rfl rfl rfl ti27 (PLc_get hq) rfl (by decide) rfl ?_
   refine r_alloc [_, _, _, _, _, _, _, _] 8 (fun g => [_, _, _, _, _, _, ⟨some g, 27, _, 8, true⟩]) rfl rfl z27 rfl rfl (fun _ => rfl) (fun g2 => ?_)
   refine r_store rfl 6 0 [_, _, _, _, _, _, ⟨some g2, 27, _, 8, true⟩] [_, _, _, _, _, _, _, _] rfl rfl rfl rfl ti27 rfl rfl rfl rfl rfl ?_
   refine run_nil ?_
   refine at_tn ?_
   refine at_seq ?_
   refine at_region ?_
   refine r_load 5 0 [_, _, _, _, _, _, _, _] rfl rfl rfl rfl ti27 rfl rfl rfl rfl ?_
   refine r_load 6 0 [_, _, _, _, _, _, _, _] rfl rfl rfl rfl ti27 rfl rfl rfl rfl ?_
   refine r_eqlAgg rfl rfl rfl rfl gd27 (eq27 _ _) ?_
   refine run_nil ?_
   refine at_tn ?_
   refine at_cond rfl (fun hb3 => ?_) (fun hb3 => ?_)
   ·
    have hin : p ∈ l := (of_decide_eq_true hb3) ▸ List.mem_of_getElem? hq
    refine at_ret ?_
    refine at_br ?_
    refine at_tr ?_
    refine at_tr ?_
    refine at_br ?_
    refine at_tr ?_
    refine at_end0 rfl  (fun w hL => ⟨⟨(l, ob, oN, oc), (addE_2 hin).symm, h1, h2⟩, rfl, hL.picks [some 0, some 1, some 2, some 3, some 4] ⟨⟨_, rfl, Blk.le_refl _⟩, ⟨_, rfl, Blk.le_refl _⟩, ⟨_, rfl, Blk.le_refl _⟩, ⟨_, rfl, Blk.le_refl _⟩, ⟨_, rfl, Blk.le_refl _⟩, trivial⟩ rfl (apart5 _ _ _)⟩)
   ·
    have hne : p ≠ q := of_decide_eq_false hb3
    refine at_skip ?_
    refine at_bn ?_
    refine at_tn ?_
    refine at_region ?_
    refine r_arith (r := ((i + 1 : Nat) : Int)) rfl rfl rfl rfl (congrArg some (wi (by omega) (by omega) (by omega))) ?_
    refine r_move rfl rfl rfl ?_
    refine run_nil ?_
    refine at_tn ?_
    exact nextL ⟨i + 1, hlt, no_step hno hq hne⟩ (by simp only []; omega) ⟨rfl, rfl, rfl, rfl, rfl, trivial⟩ (weak_picks [some 0, some 1, some 2, some 3, some 4, some 5] ⟨⟨_, rfl, Blk.le_refl _⟩, ⟨_, rfl, Blk.le_refl _⟩, ⟨_, rfl, Blk.le_refl _⟩, ⟨_, rfl, Blk.le_refl _⟩, ⟨_, rfl, Blk.le_refl _⟩, ⟨_, rfl, Blk.le_refl _⟩, trivial⟩ rfl (apart6 _ _ _))
  ·
   have hge : i = l.length := (by have := of_decide_eq_false hb2; omega)
   subst hge
   have hnot := no_mem hno
   refine at_exit ?_
   refine at_te ?_
   refine at_te ?_
   refine at_be ?_
   refine at_tn ?_
   refine at_region ?_
   refine r_load 3 0 [_] rfl rfl rfl rfl ti61 rfl rfl rfl rfl ?_
   refine r_load 5 0 [_, _, _, _, _, _, _, _] rfl rfl rfl rfl ti27 rfl rfl rfl rfl ?_
   refine r_buildSlice [(0, _)] (fun g => [_, _, _, _, _, _, ⟨some g, 27, _, 8, true⟩]) rfl rfl rfl (bs61_1) rfl (fun _ => rfl) (fun g2 => ?_)
   refine q_append (s := 8) (len := l.length) (n2 := 1) 4 6 (fun r => [_, _, _, _, ⟨some r.g, 27, PLc (l ++ [p]), r.n, true⟩, _, _]) u61 el27 rfl rfl rfl rfl rfl rfl rfl rfl rfl rfl rfl rfl (PLc_length l) h1 h2 rfl (ptC_one p) (by omega) (fun r => congrArg (fun c => [_, _, _, _, (⟨some r.g, 27, c, r.n, true⟩ : Blk), _, _]) (PLc_snoc l p)) (fun r => ?_)
   refine r_store rfl 3 0 [_, _, _, ⟨some gc, 61, _, 1, true⟩, _, _, _] [_] rfl rfl rfl rfl ti61 rfl rfl rfl rfl rfl ?_
   refine run_nil ?_
   -- end of the body
   refine at_end0n rfl  (fun w hL => ⟨⟨(l ++ [p], some r.g, r.n, r.cap), (addE_3 hon hnot).symm, by rw [List.length_append]; exact r.h, r.hn⟩, ?_, ?_⟩)
   · rfl
   · refine hL.picks [some 0, some 1, some 2, some 3, some 4] ⟨⟨_, rfl, Blk.le_refl _⟩, ⟨_, rfl, Blk.le_refl _⟩, ⟨_, rfl, Blk.le_refl _⟩, ⟨_, rfl, le_same (congrArg (fun n => (⟨some gc, 61, [slv (some r.g) 0 n r.cap], 1, true⟩ : Blk)) (show (l ++ [p]).length = l.length + 1 from List.length_append))⟩, ⟨_, rfl, Blk.le_refl _⟩, trivial⟩ rfl (apart5 _ _ _)
end Go.Proofs.YthnlafhnpphdhaaGreatDoor
set_option linter.unusedVariables false
namespace Go.Proofs.YthnlafhnpphdhaaGreatDoor
open Go Go.RowKit Go.Via
set_option maxRecDepth 20000 in
theorem c_plane_Meet (s t : S2) (hs : szS s ≤ 1000) (ht : szS t ≤ 1000) : PCall Tryz.prog 27 #[Sg s, Sg t] (Mt (meetP s t)) := by
 refine ⟨by kernel_rfl, fun w => ?_⟩
 refine calls_at (args := [Sg s, Sg t]) Tryz.func27 rfl (Nat.le_of_ble_eq_true rfl) (LRel.nil w) ?_
 show At w ⟨71, [(0, Sg s), (1, Sg t)], []⟩ _
 refine at_seq ?_
 refine at_region ?_
 refine r_box [_, _, _, _, _, _, _, _, _, _, _, _, _, _, _, _] 16 (fun g => [⟨some g, 36, _, 16, true⟩]) rfl rfl rfl rfl rfl (fun _ => rfl) (fun g0 => ?_)
 refine r_box [_, _, _, _, _, _, _, _, _, _, _, _, _, _, _, _] 16 (fun g => [_, ⟨some g, 36, _, 16, true⟩]) rfl rfl rfl rfl rfl (fun _ => rfl) (fun g1 => ?_)
 refine r_alloc [_, _, _, _, _, _, _, _, _, _, _, _, _, _, _, _, _] 17 (fun g => [_, _, ⟨some g, 40, _, 17, true⟩]) rfl rfl z40 rfl rfl (fun _ => rfl) (fun g2 => ?_)
 refine run_nil ?_
 refine at_tn ?_
 refine at_seq ?_
 refine at_region ?_
 refine r_alloc [_] 1 (fun g => [_, _, _, ⟨some g, 61, _, 1, true⟩]) rfl rfl z61 rfl rfl (fun _ => rfl) (fun g3 => ?_)
 refine run_nil ?_
 refine at_tn ?_
 refine at_seq ?_
 refine at_weak _ (weak_picks (L' := [_, _, _, _, ⟨none, 27, PLc [], 0, true⟩]) [some 0, some 1, some 2, some 3, none] ⟨⟨_, rfl, Blk.le_refl _⟩, ⟨_, rfl, Blk.le_refl _⟩, ⟨_, rfl, Blk.le_refl _⟩, ⟨_, rfl, Blk.le_refl _⟩, ⟨rfl, rfl, rfl⟩, trivial⟩ rfl rfl) ?_
 refine at_region ?_
 refine r_makeFunc rfl rfl rfl ?_
 refine r_assign rfl rfl rfl ?_
 refine run_nil ?_
 refine at_tn ?_
 refine at_seq ?_
 refine at_regionM ?_
 refine r_move rfl rfl rfl ?_
 refine r_fieldAddr 0 0 0 rfl rfl rfl rfl rfl ti36 rfl rfl ?_
 refine r_load 0 0 [_, _, _, _, _, _, _, _] rfl rfl rfl rfl ti27 rfl rfl rfl rfl ?_
 refine r_load 1 0 [_, _, _, _, _, _, _, _, _, _, _, _, _, _, _, _] rfl rfl rfl rfl ti36 rfl rfl rfl rfl ?_
 refine r_ecall [Pt s.1, Sg t] rfl rfl rfl rfl rfl (c_meet_add _ _ _ g3 [] none 0 0 (Nat.le_refl _) (Nat.le_refl _) (by decide) s.1 t (szS1 hs) ht) (fun z => ?_)
 obtain ⟨⟨l1, b1, N1, c1⟩, he1, h11, h21⟩ := z
 replace he1 : l1 = addE [] s.1 t := he1
 replace h11 : l1.length ≤ c1 := h11
 replace h21 : c1 * 8 ≤ N1 := h21
 have hlen1 := addE_len ([] : List P2) s.1 t
 rw [← he1] at hlen1
 replace hlen1 : l1.length ≤ 1 := hlen1
 refine run_nil ?_
 refine at_tn ?_
 refine at_seq ?_
 refine at_regionM ?_
 refine r_move rfl rfl rfl ?_
 refine r_fieldAddr 0 0 8 rfl rfl rfl rfl rfl ti36 rfl rfl ?_
 refine r_load 0 8 [_, _, _, _, _, _, _, _] rfl rfl rfl rfl ti27 rfl rfl rfl rfl ?_
 refine r_load 1 0 [_, _, _, _, _, _, _, _, _, _, _, _, _, _, _, _] rfl rfl rfl rfl ti36 rfl rfl rfl rfl ?_
 refine r_ecall [Pt s.2, Sg t] rfl rfl rfl rfl rfl (c_meet_add _ _ _ g3 l1 b1 N1 c1 h11 h21 (by omega) s.2 t (szS2 hs) ht) (fun z => ?_)
 obtain ⟨⟨l2, b2, N2, c2⟩, he2, h12, h22⟩ := z
 replace he2 : l2 = addE l1 s.2 t := he2
 replace h12 : l2.length ≤ c2 := h12
 replace h22 : c2 * 8 ≤ N2 := h22
 have hlen2 := addE_len (l1 : List P2) s.2 t
 rw [← he2] at hlen2
 refine run_nil ?_
 refine at_tn ?_
 refine at_seq ?_
 refine at_regionM ?_
 refine r_move rfl rfl rfl ?_
 refine r_fieldAddr 1 0 0 rfl rfl rfl rfl rfl ti36 rfl rfl ?_
 refine r_load 1 0 [_, _, _, _, _, _, _, _] rfl rfl rfl rfl ti27 rfl rfl rfl rfl ?_
 refine r_load 0 0 [_, _, _, _, _, _, _, _, _, _, _, _, _, _, _, _] rfl rfl rfl rfl ti36 rfl rfl rfl rfl ?_
 refine r_ecall [Pt t.1, Sg s] rfl rfl rfl rfl rfl (c_meet_add _ _ _ g3 l2 b2 N2 c2 h12 h22 (by omega) t.1 s (szS1 ht) hs) (fun z => ?_)
 obtain ⟨⟨l3, b3, N3, c3⟩, he3, h13, h23⟩ := z
 replace he3 : l3 = addE l2 t.1 s := he3
 replace h13 : l3.length ≤ c3 := h13
 replace h23 : c3 * 8 ≤ N3 := h23
 have hlen3 := addE_len (l2 : List P2) t.1 s
 rw [← he3] at hlen3
 refine run_nil ?_
 refine at_tn ?_
 refine at_seq ?_
 refine at_regionM ?_
 refine r_move rfl rfl rfl ?_
 refine r_fieldAddr 1 0 8 rfl rfl rfl rfl rfl ti36 rfl rfl ?_
 refine r_load 1 8 [_, _, _, _, _, _, _, _] rfl rfl rfl rfl ti27 rfl rfl rfl rfl ?_
 refine r_load 0 0 [_, _, _, _, _, _, _, _, _, _, _, _, _, _, _, _] rfl rfl rfl rfl ti36 rfl rfl rfl rfl ?_
 refine r_ecall [Pt t.2, Sg s] rfl rfl rfl rfl rfl (c_meet_add _ _ _ g3 l3 b3 N3 c3 h13 h23 (by omega) t.2 s (szS2 ht) hs) (fun z => ?_)
 obtain ⟨⟨l4, b4, N4, c4⟩, he4, h14, h24⟩ := z
 replace he4 : l4 = addE l3 t.2 s := he4
 replace h14 : l4.length ≤ c4 := h14
 replace h24 : c4 * 8 ≤ N4 := h24
 have hlen4 := addE_len (l3 : List P2) t.2 s
 rw [← he4] at hlen4
 refine run_nil ?_
 refine at_tn ?_
 refine at_seq ?_
 refine at_seq ?_
 refine at_region ?_
 refine r_load 3 0 [_] rfl rfl rfl rfl ti61 rfl rfl rfl rfl ?_
 refine r_lenS u61 rfl rfl rfl ?_
 refine run_nil ?_
 refine at_tn ?_
 refine at_block ?_
 refine at_seq ?_
 refine at_region ?_
 refine r_cmpInt rfl rfl rfl rfl rfl ?_
 refine r_assign rfl rfl rfl ?_
 refine run_nil ?_
 refine at_tn ?_
 refine at_cond rfl (fun hb0 => ?_) (fun hb0 => ?_)
 ·
  have hends : endsP s t = l4 := by unfold endsP; rw [he4, he3, he2, he1]
  have h0 := len0 hb0
  refine at_seq ?_
  refine at_region ?_
  refine r_load 0 0 [_, _, _, _, _, _, _, _, _, _, _, _, _, _, _, _] rfl rfl rfl rfl ti36 rfl rfl rfl rfl ?_
  refine r_load 1 0 [_, _, _, _, _, _, _, _, _, _, _, _, _, _, _, _] rfl rfl rfl rfl ti36 rfl rfl rfl rfl ?_
  refine r_pcall [_, _] rfl rfl rfl (c_plane_cross s t hs ht) ?_
  refine r_store rfl 2 0 [_, _, ⟨some g2, 40, _, 17, true⟩, _, _] [_, _, _, _, _, _, _, _, _, _, _, _, _, _, _, _, _] rfl rfl rfl rfl ti40 rfl rfl rfl rfl rfl ?_
  refine run_nil ?_
  refine at_tn ?_
  refine at_ret ?_
  refine at_br ?_
  refine at_tr ?_
  refine at_end1 rfl (res_cell 2 rfl rfl ti40 (vs := [_, _, _, _, _, _, _, _, _, _, _, _, _, _, _, _, _]) rfl rfl (Nat.le_of_ble_eq_true rfl) rfl) (fun w hL => ⟨?_, hL.below⟩)
  rw [meet_0 (hends.trans h0)]; rfl
 ·
  have hends : endsP s t = l4 := by unfold endsP; rw [he4, he3, he2, he1]
  refine at_seq ?_
  refine at_region ?_
  refine r_cmpInt rfl rfl rfl rfl rfl ?_
  refine r_assign rfl rfl rfl ?_
  refine run_nil ?_
  refine at_tn ?_
  refine at_cond rfl (fun hb1 => ?_) (fun hb1 => ?_)
  ·
   obtain ⟨a, rfl⟩ := len1 hb1
   have hll : 1 ≤ ([a] : List P2).length := Nat.le_refl _
   refine at_seq ?_
   refine at_drawn (l' := [⟨_,_,_,_,_,_⟩, ⟨_,_,_,_,_,_⟩, ⟨_,_,_,_,_,_⟩, ⟨_,_,_,_,_,_⟩, ⟨_,_,_,_,_,_⟩, ⟨_,_,_,_,_,_⟩, ⟨_,_,_,_,_,_⟩, ⟨_,_,_,_,_,_⟩, ⟨_,_,_,_,_,_⟩]) [] [0, 1, 2, 3, 4, 5, 6, 7, 8] mixed (by kernel_rfl) rfl (by kernel_rfl) ?_
   refine r_load 3 0 [_] rfl rfl rfl rfl ti61 rfl rfl rfl rfl ?_
   refine r_indexAddr 4 (0 * 8) u61 ti27 rfl rfl rfl rfl rfl (by omega) (one_len a) (PLc_ne (by simp)) (by show 0 + Int.toNat _ * 8 = _; omega) ?_
   refine r_load (v := Pt a) 4 (0 * 8) _ rfl rfl rfl rfl ti27 (PLc_get rfl) rfl (by decide) rfl ?_
   refine r_load 3 0 [_] rfl rfl rfl rfl ti61 rfl rfl rfl rfl ?_
   refine r_indexAddr 4 (0 * 8) u61 ti27 rfl rfl rfl rfl rfl (by omega) (one_len a) (PLc_ne (by simp)) (by show 0 + Int.toNat _ * 8 = _; omega) ?_
   refine r_load (v := Pt a) 4 (0 * 8) _ rfl rfl rfl rfl ti27 (PLc_get rfl) rfl (by decide) rfl ?_
   refine r_build [(0, _), (1, _)] rfl rfl rfl (bd36_2) ?_
   refine r_build [(0, _), (1, _)] rfl rfl rfl (bd40_2) ?_
   refine r_store rfl 2 0 [_, _, ⟨some g2, 40, _, 17, true⟩, _, _] [_, _, _, _, _, _, _, _, _, _, _, _, _, _, _, _, _] rfl rfl rfl rfl ti40 rfl rfl rfl rfl rfl ?_
   refine run_nil ?_
   refine at_tn ?_
   refine at_ret ?_
   refine at_br ?_
   refine at_tr ?_
   refine at_end1 rfl (res_cell 2 rfl rfl ti40 (vs := [_, _, _, _, _, _, _, _, _, _, _, _, _, _, _, _, _]) rfl rfl (Nat.le_of_ble_eq_true rfl) rfl) (fun w hL => ⟨?_, hL.below⟩)
   rw [meet_1 hends]; rfl
  ·
   obtain ⟨a, b, m, rfl⟩ := len2 hb0 hb1
   have hza : szP a ≤ 1000 := endsP_sz hs ht (p := a) (by rw [hends]; simp)
   have hzb : szP b ≤ 1000 := endsP_sz hs ht (p := b) (by rw [hends]; simp)
   have hll : 2 ≤ (a :: b :: m).length := by simp
   refine at_skip ?_
   refine at_bn ?_
   refine at_tn ?_
   refine at_seq ?_
   refine at_seq ?_
   refine at_drawn (l' := [⟨_,_,_,_,_,_⟩, ⟨_,_,_,_,_,_⟩, ⟨_,_,_,_,_,_⟩, ⟨_,_,_,_,_,_⟩, ⟨_,_,_,_,_,_⟩, ⟨_,_,_,_,_,_⟩, ⟨_,_,_,_,_,_⟩, ⟨_,_,_,_,_,_⟩]) [] [0, 1, 2, 3, 4, 5, 6, 7] mixed (by kernel_rfl) rfl (by kernel_rfl) ?_
   refine r_load 3 0 [_] rfl rfl rfl rfl ti61 rfl rfl rfl rfl ?_
   refine r_indexAddr 4 (0 * 8) u61 ti27 rfl rfl rfl rfl rfl (by omega) (two_len0 a b m) (PLc_ne (by simp)) (by show 0 + Int.toNat _ * 8 = _; omega) ?_
   refine r_load (v := Pt a) 4 (0 * 8) _ rfl rfl rfl rfl ti27 (PLc_get rfl) rfl (by decide) rfl ?_
   refine r_load 3 0 [_] rfl rfl rfl rfl ti61 rfl rfl rfl rfl ?_
   refine r_indexAddr 4 (1 * 8) u61 ti27 rfl rfl rfl rfl rfl (by omega) (two_len1 a b m) (PLc_ne (by simp)) (by show 0 + Int.toNat _ * 8 = _; omega) ?_
   refine r_load (v := Pt b) 4 (1 * 8) _ rfl rfl rfl rfl ti27 (PLc_get rfl) rfl (by decide) rfl ?_
   refine r_pcall [_, _] rfl rfl rfl (c_plane_Compare a b (Nat.le_trans hza (Nat.le_of_ble_eq_true rfl)) (Nat.le_trans hzb (Nat.le_of_ble_eq_true rfl))) ?_
   refine r_cmpInt rfl rfl rfl rfl rfl ?_
   refine run_nil ?_
   refine at_tn ?_
   refine at_cond rfl (fun hb2 => ?_) (fun hb2 => ?_)
   ·
    have hgt : 0 < cmpP a b := of_decide_eq_true hb2
    refine at_base 4 rfl (fun hbase => ?_)
    obtain ⟨g4, hg4⟩ := row_base hbase
    replace hg4 : b4 = some g4 := hg4
    subst hg4
    refine at_drawnT (l' := [⟨_,_,_,_,_,_⟩, ⟨_,_,_,_,_,_⟩, ⟨_,_,_,_,_,_⟩, ⟨_,_,_,_,_,_⟩, ⟨_,_,_,_,_,_⟩, ⟨_,_,_,_,_,_⟩, ⟨_,_,_,_,_,_⟩]) [2000000] [0, 2, 3, 4, 5, 6, 7] [1, 8, 9, 10, 11] mixed (by kernel_rfl) rfl ?_
    refine r_load 3 0 [_] rfl rfl rfl rfl ti61 rfl rfl rfl rfl ?_
    refine r_load 3 0 [_] rfl rfl rfl rfl ti61 rfl rfl rfl rfl ?_
    refine r_indexAddr 4 (1 * 8) u61 ti27 rfl rfl rfl rfl rfl (by omega) (two_len1 a b m) (PLc_ne (by simp)) (by show 0 + Int.toNat _ * 8 = _; omega) ?_
    refine r_load (v := Pt b) 4 (1 * 8) _ rfl rfl rfl rfl ti27 (PLc_get rfl) rfl (by decide) rfl ?_
    refine r_load 3 0 [_] rfl rfl rfl rfl ti61 rfl rfl rfl rfl ?_
    refine r_indexAddr 4 (0 * 8) u61 ti27 rfl rfl rfl rfl rfl (by omega) (two_len0 a b m) (PLc_ne (by simp)) (by show 0 + Int.toNat _ * 8 = _; omega) ?_
    refine r_load (v := Pt a) 4 (0 * 8) _ rfl rfl rfl rfl ti27 (PLc_get rfl) rfl (by decide) rfl ?_
    refine run_nil ?_
    refine tt_node [1, 8] (by kernel_rfl) ⟨⟨_, rfl, ?_⟩, ⟨_, rfl, ?_⟩, trivial⟩
    ·
     refine r_load 3 0 [_] rfl rfl rfl rfl ti61 rfl rfl rfl rfl ?_
     refine run_nil ?_
     refine tt_node [8] (by kernel_rfl) ⟨⟨_, rfl, ?_⟩, trivial⟩
     ·
      refine r_indexAddr 4 (0 * 8) u61 ti27 rfl rfl rfl rfl rfl (by omega) (two_len0 a b m) (PLc_ne (by simp)) (by show 0 + Int.toNat _ * 8 = _; omega) ?_
      refine run_nil ?_
      refine tt_node [9] (by kernel_rfl) ⟨⟨_, rfl, ?_⟩, trivial⟩
      ·
       refine r_store rfl 4 (0 * 8) [_, _, _, _, ⟨some g4, 27, _, N4, true⟩] (PLc (b :: b :: m)) rfl rfl rfl rfl ti27 rfl (PLc_fit (Nat.le_of_ble_eq_true rfl)) rfl rfl rfl ?_
       refine run_nil ?_
       refine tt_node [10] (by kernel_rfl) ⟨⟨_, rfl, ?_⟩, trivial⟩
       ·
        refine r_indexAddr 4 (1 * 8) u61 ti27 rfl rfl rfl rfl rfl (by omega) (two_len1 a b m) (PLc_ne (by simp)) (by show 0 + Int.toNat _ * 8 = _; omega) ?_
        refine run_nil ?_
        refine tt_node [11] (by kernel_rfl) ⟨⟨_, rfl, ?_⟩, trivial⟩
        ·
         refine r_store rfl 4 (1 * 8) [_, _, _, _, ⟨some g4, 27, _, N4, true⟩] (PLc (b :: a :: m)) rfl rfl rfl rfl ti27 rfl (PLc_fit (Nat.le_of_ble_eq_true rfl)) rfl rfl rfl ?_
         refine run_nil ?_
         refine tt_nil rfl ?_
         refine at_tn ?_
         refine at_seq ?_
         refine at_drawn (l' := [⟨_,_,_,_,_,_⟩, ⟨_,_,_,_,_,_⟩, ⟨_,_,_,_,_,_⟩, ⟨_,_,_,_,_,_⟩, ⟨_,_,_,_,_,_⟩, ⟨_,_,_,_,_,_⟩, ⟨_,_,_,_,_,_⟩, ⟨_,_,_,_,_,_⟩, ⟨_,_,_,_,_,_⟩]) [] [0, 1, 2, 3, 4, 5, 6, 7, 8] mixed (by kernel_rfl) rfl (by kernel_rfl) ?_
         refine r_load 3 0 [_] rfl rfl rfl rfl ti61 rfl rfl rfl rfl ?_
         refine r_indexAddr 4 (0 * 8) u61 ti27 rfl rfl rfl rfl rfl (by omega) (two_len0 a b m) (PLc_ne (by simp)) (by show 0 + Int.toNat _ * 8 = _; omega) ?_
         refine r_load (v := Pt b) 4 (0 * 8) _ rfl rfl rfl rfl ti27 (PLc_get rfl) rfl (by decide) rfl ?_
         refine r_load 3 0 [_] rfl rfl rfl rfl ti61 rfl rfl rfl rfl ?_
         refine r_indexAddr 4 (1 * 8) u61 ti27 rfl rfl rfl rfl rfl (by omega) (two_len1 a b m) (PLc_ne (by simp)) (by show 0 + Int.toNat _ * 8 = _; omega) ?_
         refine r_load (v := Pt a) 4 (1 * 8) _ rfl rfl rfl rfl ti27 (PLc_get rfl) rfl (by decide) rfl ?_
         refine r_build [(0, _), (1, _)] rfl rfl rfl (bd36_2) ?_
         refine r_build [(0, _), (1, _)] rfl rfl rfl (bd40_2) ?_
         refine r_store rfl 2 0 [_, _, ⟨some g2, 40, _, 17, true⟩, _, _] [_, _, _, _, _, _, _, _, _, _, _, _, _, _, _, _, _] rfl rfl rfl rfl ti40 rfl rfl rfl rfl rfl ?_
         refine run_nil ?_
         refine at_tn ?_
         refine at_ret ?_
         refine at_end1 rfl (res_cell 2 rfl rfl ti40 (vs := [_, _, _, _, _, _, _, _, _, _, _, _, _, _, _, _, _]) rfl rfl (Nat.le_of_ble_eq_true rfl) rfl) (fun w hL => ⟨?_, hL.below⟩)
         rw [meet_2 hends hgt]; rfl
    ·
     refine r_indexAddr 4 (0 * 8) u61 ti27 rfl rfl rfl rfl rfl (by omega) (two_len0 a b m) (PLc_ne (by simp)) (by show 0 + Int.toNat _ * 8 = _; omega) ?_
     refine run_nil ?_
     refine tt_node [1, 9] (by kernel_rfl) ⟨⟨_, rfl, ?_⟩, ⟨_, rfl, ?_⟩, trivial⟩
     ·
      refine r_load 3 0 [_] rfl rfl rfl rfl ti61 rfl rfl rfl rfl ?_
      refine run_nil ?_
      refine tt_node [9] (by kernel_rfl) ⟨⟨_, rfl, ?_⟩, trivial⟩
      ·
       refine r_store rfl 4 (0 * 8) [_, _, _, _, ⟨some g4, 27, _, N4, true⟩] (PLc (b :: b :: m)) rfl rfl rfl rfl ti27 rfl (PLc_fit (Nat.le_of_ble_eq_true rfl)) rfl rfl rfl ?_
       refine run_nil ?_
       refine tt_node [10] (by kernel_rfl) ⟨⟨_, rfl, ?_⟩, trivial⟩
       ·
        refine r_indexAddr 4 (1 * 8) u61 ti27 rfl rfl rfl rfl rfl (by omega) (two_len1 a b m) (PLc_ne (by simp)) (by show 0 + Int.toNat _ * 8 = _; omega) ?_
        refine run_nil ?_
        refine tt_node [11] (by kernel_rfl) ⟨⟨_, rfl, ?_⟩, trivial⟩
        ·
         refine r_store rfl 4 (1 * 8) [_, _, _, _, ⟨some g4, 27, _, N4, true⟩] (PLc (b :: a :: m)) rfl rfl rfl rfl ti27 rfl (PLc_fit (Nat.le_of_ble_eq_true rfl)) rfl rfl rfl ?_
         refine run_nil ?_
         refine tt_nil rfl ?_
         refine at_tn ?_
         refine at_seq ?_
         refine at_drawn (l' := [⟨_,_,_,_,_,_⟩, ⟨_,_,_,_,_,_⟩, ⟨_,_,_,_,_,_⟩, ⟨_,_,_,_,_,_⟩, ⟨_,_,_,_,_,_⟩, ⟨_,_,_,_,_,_⟩, ⟨_,_,_,_,_,_⟩, ⟨_,_,_,_,_,_⟩, ⟨_,_,_,_,_,_⟩]) [] [0, 1, 2, 3, 4, 5, 6, 7, 8] mixed (by kernel_rfl) rfl (by kernel_rfl) ?_
         refine r_load 3 0 [_] rfl rfl rfl rfl ti61 rfl rfl rfl rfl ?_
         refine r_indexAddr 4 (0 * 8) u61 ti27 rfl rfl rfl rfl rfl (by omega) (two_len0 a b m) (PLc_ne (by simp)) (by show 0 + Int.toNat _ * 8 = _; omega) ?_
         refine r_load (v := Pt b) 4 (0 * 8) _ rfl rfl rfl rfl ti27 (PLc_get rfl) rfl (by decide) rfl ?_
         refine r_load 3 0 [_] rfl rfl rfl rfl ti61 rfl rfl rfl rfl ?_
         refine r_indexAddr 4 (1 * 8) u61 ti27 rfl rfl rfl rfl rfl (by omega) (two_len1 a b m) (PLc_ne (by simp)) (by show 0 + Int.toNat _ * 8 = _; omega) ?_
         refine r_load (v := Pt a) 4 (1 * 8) _ rfl rfl rfl rfl ti27 (PLc_get rfl) rfl (by decide) rfl ?_
         refine r_build [(0, _), (1, _)] rfl rfl rfl (bd36_2) ?_
         refine r_build [(0, _), (1, _)] rfl rfl rfl (bd40_2) ?_
         refine r_store rfl 2 0 [_, _, ⟨some g2, 40, _, 17, true⟩, _, _] [_, _, _, _, _, _, _, _, _, _, _, _, _, _, _, _, _] rfl rfl rfl rfl ti40 rfl rfl rfl rfl rfl ?_
         refine run_nil ?_
         refine at_tn ?_
         refine at_ret ?_
         refine at_end1 rfl (res_cell 2 rfl rfl ti40 (vs := [_, _, _, _, _, _, _, _, _, _, _, _, _, _, _, _, _]) rfl rfl (Nat.le_of_ble_eq_true rfl) rfl) (fun w hL => ⟨?_, hL.below⟩)
         rw [meet_2 hends hgt]; rfl
     ·
      refine r_store rfl 4 (0 * 8) [_, _, _, _, ⟨some g4, 27, _, N4, true⟩] (PLc (b :: b :: m)) rfl rfl rfl rfl ti27 rfl (PLc_fit (Nat.le_of_ble_eq_true rfl)) rfl rfl rfl ?_
      refine run_nil ?_
      refine tt_node [1] (by kernel_rfl) ⟨⟨_, rfl, ?_⟩, trivial⟩
      ·
       refine r_load 3 0 [_] rfl rfl rfl rfl ti61 rfl rfl rfl rfl ?_
       refine run_nil ?_
       refine tt_node [10] (by kernel_rfl) ⟨⟨_, rfl, ?_⟩, trivial⟩
       ·
        refine r_indexAddr 4 (1 * 8) u61 ti27 rfl rfl rfl rfl rfl (by omega) (two_len1 a b m) (PLc_ne (by simp)) (by show 0 + Int.toNat _ * 8 = _; omega) ?_
        refine run_nil ?_
        refine tt_node [11] (by kernel_rfl) ⟨⟨_, rfl, ?_⟩, trivial⟩
        ·
         refine r_store rfl 4 (1 * 8) [_, _, _, _, ⟨some g4, 27, _, N4, true⟩] (PLc (b :: a :: m)) rfl rfl rfl rfl ti27 rfl (PLc_fit (Nat.le_of_ble_eq_true rfl)) rfl rfl rfl ?_
         refine run_nil ?_
         refine tt_nil rfl ?_
         refine at_tn ?_
         refine at_seq ?_
         refine at_drawn (l' := [⟨_,_,_,_,_,_⟩, ⟨_,_,_,_,_,_⟩, ⟨_,_,_,_,_,_⟩, ⟨_,_,_,_,_,_⟩, ⟨_,_,_,_,_,_⟩, ⟨_,_,_,_,_,_⟩, ⟨_,_,_,_,_,_⟩, ⟨_,_,_,_,_,_⟩, ⟨_,_,_,_,_,_⟩]) [] [0, 1, 2, 3, 4, 5, 6, 7, 8] mixed (by kernel_rfl) rfl (by kernel_rfl) ?_
         refine r_load 3 0 [_] rfl rfl rfl rfl ti61 rfl rfl rfl rfl ?_
         refine r_indexAddr 4 (0 * 8) u61 ti27 rfl rfl rfl rfl rfl (by omega) (two_len0 a b m) (PLc_ne (by simp)) (by show 0 + Int.toNat _ * 8 = _; omega) ?_
         refine r_load (v := Pt b) 4 (0 * 8) _ rfl rfl rfl rfl ti27 (PLc_get rfl) rfl (by decide) rfl ?_
         refine r_load 3 0 [_] rfl rfl rfl rfl ti61 rfl rfl rfl rfl ?_
         refine r_indexAddr 4 (1 * 8) u61 ti27 rfl rfl rfl rfl rfl (by omega) (two_len1 a b m) (PLc_ne (by simp)) (by show 0 + Int.toNat _ * 8 = _; omega) ?_
         refine r_load (v := Pt a) 4 (1 * 8) _ rfl rfl rfl rfl ti27 (PLc_get rfl) rfl (by decide) rfl ?_
         refine r_build [(0, _), (1, _)] rfl rfl rfl (bd36_2) ?_
         refine r_build [(0, _), (1, _)] rfl rfl rfl (bd40_2) ?_
         refine r_store rfl 2 0 [_, _, ⟨some g2, 40, _, 17, true⟩, _, _] [_, _, _, _, _, _, _, _, _, _, _, _, _, _, _, _, _] rfl rfl rfl rfl ti40 rfl rfl rfl rfl rfl ?_
         refine run_nil ?_
         refine at_tn ?_
         refine at_ret ?_
         refine at_end1 rfl (res_cell 2 rfl rfl ti40 (vs := [_, _, _, _, _, _, _, _, _, _, _, _, _, _, _, _, _]) rfl rfl (Nat.le_of_ble_eq_true rfl) rfl) (fun w hL => ⟨?_, hL.below⟩)
         rw [meet_2 hends hgt]; rfl
   ·
    have hgt : ¬ 0 < cmpP a b := of_decide_eq_false hb2
    refine at_skip ?_
    refine at_tn ?_
    refine at_seq ?_
    refine at_drawn (l' := [⟨_,_,_,_,_,_⟩, ⟨_,_,_,_,_,_⟩, ⟨_,_,_,_,_,_⟩, ⟨_,_,_,_,_,_⟩, ⟨_,_,_,_,_,_⟩, ⟨_,_,_,_,_,_⟩, ⟨_,_,_,_,_,_⟩, ⟨_,_,_,_,_,_⟩, ⟨_,_,_,_,_,_⟩]) [] [0, 1, 2, 3, 4, 5, 6, 7, 8] mixed (by kernel_rfl) rfl (by kernel_rfl) ?_
    refine r_load 3 0 [_] rfl rfl rfl rfl ti61 rfl rfl rfl rfl ?_
    refine r_indexAddr 4 (0 * 8) u61 ti27 rfl rfl rfl rfl rfl (by omega) (two_len0 a b m) (PLc_ne (by simp)) (by show 0 + Int.toNat _ * 8 = _; omega) ?_
    refine r_load (v := Pt a) 4 (0 * 8) _ rfl rfl rfl rfl ti27 (PLc_get rfl) rfl (by decide) rfl ?_
    refine r_load 3 0 [_] rfl rfl rfl rfl ti61 rfl rfl rfl rfl ?_
    refine r_indexAddr 4 (1 * 8) u61 ti27 rfl rfl rfl rfl rfl (by omega) (two_len1 a b m) (PLc_ne (by simp)) (by show 0 + Int.toNat _ * 8 = _; omega) ?_
    refine r_load (v := Pt b) 4 (1 * 8) _ rfl rfl rfl rfl ti27 (PLc_get rfl) rfl (by decide) rfl ?_
    refine r_build [(0, _), (1, _)] rfl rfl rfl (bd36_2) ?_
    refine r_build [(0, _), (1, _)] rfl rfl rfl (bd40_2) ?_
    refine r_store rfl 2 0 [_, _, ⟨some g2, 40, _, 17, true⟩, _, _] [_, _, _, _, _, _, _, _, _, _, _, _, _, _, _, _, _] rfl rfl rfl rfl ti40 rfl rfl rfl rfl rfl ?_
    refine run_nil ?_
    refine at_tn ?_
    refine at_ret ?_
    refine at_end1 rfl (res_cell 2 rfl rfl ti40 (vs := [_, _, _, _, _, _, _, _, _, _, _, _, _, _, _, _, _]) rfl rfl (Nat.le_of_ble_eq_true rfl) rfl) (fun w hL => ⟨?_, hL.below⟩)
    rw [meet_3 hends hgt]; rfl
end Go.Proofs.YthnlafhnpphdhaaGreatDoor
