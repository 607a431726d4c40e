/-
  For any two segments with small canonical points, Distance2, PointSegment2 and Segments2 return the squared distances. No further conditions.
-/
import Derived.Test.YthnlafhnpphdhaaGreatDoorA10
import Derived.Test.YthnlafhnpphdhaaGreatDoorA11
set_option linter.unusedVariables false
set_option linter.unusedVariables false
namespace Go.Proofs.YthnlafhnpphdhaaGreatDoor
open Go Go.RowKit Go.Via
set_option maxRecDepth 20000 in
theorem c_PlaneDistances (ab1 : Bool) (as1 : ByteArray) (ab2 : Bool) (as2 : ByteArray) (ab3 : Bool) (as3 : ByteArray) (ab4 : Bool) (as4 : ByteArray) (bb1 : Bool) (bs1 : ByteArray) (bb2 : Bool) (bs2 : ByteArray) (bb3 : Bool) (bs3 : ByteArray) (bb4 : Bool) (bs4 : ByteArray) (cb1 : Bool) (cs1 : ByteArray) (cb2 : Bool) (cs2 : ByteArray) (cb3 : Bool) (cs3 : ByteArray) (cb4 : Bool) (cs4 : ByteArray) (db1 : Bool) (ds1 : ByteArray) (db2 : Bool) (ds2 : ByteArray) (db3 : Bool) (ds3 : ByteArray) (db4 : Bool) (ds4 : ByteArray) (hza : szR ⟨ab1, as1, ab2, as2, ab3, as3, ab4, as4⟩) (hzb : szR ⟨bb1, bs1, bb2, bs2, bb3, bs3, bb4, bs4⟩) (hzc : szR ⟨cb1, cs1, cb2, cs2, cb3, cs3, cb4, cs4⟩) (hzd : szR ⟨db1, ds1, db2, ds2, db3, ds3, db4, ds4⟩) : PCall Tryz.prog 9 #[.agg #[.bool ab1, .string as1, .bool ab2, .string as2, .bool ab3, .string as3, .bool ab4, .string as4, .bool bb1, .string bs1, .bool bb2, .string bs2, .bool bb3, .string bs3, .bool bb4, .string bs4], .agg #[.bool cb1, .string cs1, .bool cb2, .string cs2, .bool cb3, .string cs3, .bool cb4, .string cs4, .bool db1, .string ds1, .bool db2, .string ds2, .bool db3, .string ds3, .bool db4, .string ds4]] (.bool true) := by
 refine ⟨by kernel_rfl, fun w => ?_⟩
 refine calls_at (args := [.agg #[.bool ab1, .string as1, .bool ab2, .string as2, .bool ab3, .string as3, .bool ab4, .string as4, .bool bb1, .string bs1, .bool bb2, .string bs2, .bool bb3, .string bs3, .bool bb4, .string bs4], .agg #[.bool cb1, .string cs1, .bool cb2, .string cs2, .bool cb3, .string cs3, .bool cb4, .string cs4, .bool db1, .string ds1, .bool db2, .string ds2, .bool db3, .string ds3, .bool db4, .string ds4]]) Tryz.func9 rfl (Nat.le_of_ble_eq_true rfl) (LRel.nil w) ?_
 show At w ⟨52, [(0, .agg #[.bool ab1, .string as1, .bool ab2, .string as2, .bool ab3, .string as3, .bool ab4, .string as4, .bool bb1, .string bs1, .bool bb2, .string bs2, .bool bb3, .string bs3, .bool bb4, .string bs4]), (1, .agg #[.bool cb1, .string cs1, .bool cb2, .string cs2, .bool cb3, .string cs3, .bool cb4, .string cs4, .bool db1, .string ds1, .bool db2, .string ds2, .bool db3, .string ds3, .bool db4, .string ds4])], []⟩ _
 refine at_seq ?_
 refine at_region ?_
 refine r_box [_, _, _, _, _, _, _, _, _, _, _, _, _, _, _, _] 16 (fun g => [⟨some g, 36, _, 16, true⟩]) rfl rfl rfl rfl rfl (fun _ => rfl) (fun g0 => ?_)
 refine r_box [_, _, _, _, _, _, _, _, _, _, _, _, _, _, _, _] 16 (fun g => [_, ⟨some g, 36, _, 16, true⟩]) rfl rfl rfl rfl rfl (fun _ => rfl) (fun g1 => ?_)
 refine r_assign rfl rfl rfl ?_
 refine run_nil ?_
 refine at_tn ?_
 refine at_seq ?_
 refine at_seq ?_
 refine at_region ?_
 refine r_pcall [] rfl rfl rfl (c_law_known) ?_
 refine r_not rfl rfl rfl ?_
 refine r_move rfl rfl rfl ?_
 refine r_fieldAddr 0 0 0 rfl rfl rfl rfl rfl ti36 rfl rfl ?_
 refine r_load 0 0 [_, _, _, _, _, _, _, _] rfl rfl rfl rfl ti27 rfl rfl rfl rfl ?_
 refine r_fieldAddr 0 0 8 rfl rfl rfl rfl rfl ti36 rfl rfl ?_
 refine r_load 0 8 [_, _, _, _, _, _, _, _] rfl rfl rfl rfl ti27 rfl rfl rfl rfl ?_
 refine r_fieldAddr 1 0 0 rfl rfl rfl rfl rfl ti36 rfl rfl ?_
 refine r_load 1 0 [_, _, _, _, _, _, _, _] rfl rfl rfl rfl ti27 rfl rfl rfl rfl ?_
 refine r_fieldAddr 1 0 8 rfl rfl rfl rfl rfl ti36 rfl rfl ?_
 refine r_load 1 8 [_, _, _, _, _, _, _, _] rfl rfl rfl rfl ti27 rfl rfl rfl rfl ?_
 refine r_buildSlice [(0, _), (1, _), (2, _), (3, _)] (fun g => [_, _, ⟨some g, 27, _, 32, true⟩]) rfl rfl rfl (bs61_4) rfl (fun _ => rfl) (fun g2 => ?_)
 refine r_scall0 [_] [2] rfl rfl rfl (c_law_points [⟨ab1, as1, ab2, as2, ab3, as3, ab4, as4⟩, ⟨bb1, bs1, bb2, bs2, bb3, bs3, bb4, bs4⟩, ⟨cb1, cs1, cb2, cs2, cb3, cs3, cb4, cs4⟩, ⟨db1, ds1, db2, ds2, db3, ds3, db4, ds4⟩] (by simp only [List.forall_mem_cons]; exact ⟨hza, hzb, hzc, hzd, fun _ h => by cases h⟩) (Nat.le_of_ble_eq_true rfl) (some g2) _ _ (Nat.le_refl _)) ⟨⟨_, rfl, le_share⟩, trivial⟩ rfl ?_
 refine r_not rfl rfl rfl ?_
 refine r_pickF rfl rfl rfl rfl ?_
 refine run_nil ?_
 refine at_tn ?_
 refine at_cond rfl (fun hb0 => ?_) (fun hb0 => ?_)
 ·
  refine at_seq ?_
  refine at_region ?_
  refine r_pcall [] rfl rfl rfl (c_law_known) ?_
  refine r_assign rfl rfl rfl ?_
  refine run_nil ?_
  refine at_tn ?_
  refine at_ret ?_
  refine at_tr ?_
  refine at_end1 rfl (res_tmp rfl) (fun w hL => ⟨?_, hL.below⟩)
  exact rfl
 ·
  have hall : [(⟨ab1, as1, ab2, as2, ab3, as3, ab4, as4⟩ : RawP), ⟨bb1, bs1, bb2, bs2, bb3, bs3, bb4, bs4⟩, ⟨cb1, cs1, cb2, cs2, cb3, cs3, cb4, cs4⟩, ⟨db1, ds1, db2, ds2, db3, ds3, db4, ds4⟩].all smallP = true := by simpa using hb0
  simp only [List.all_cons, List.all_nil, Bool.and_true, Bool.and_eq_true] at hall
  obtain ⟨hp_a, hp_b, hp_c, hp_d⟩ := hall
  obtain ⟨a, ⟨⟨hx1, hx2, hx3, hx4⟩, ⟨hy1, hy2, hy3, hy4⟩⟩, hwa⟩ := smallP_q hp_a
  dsimp only at hx1 hx2 hx3 hx4 hy1 hy2 hy3 hy4
  subst hx1; subst hx2; subst hx3; subst hx4; subst hy1; subst hy2; subst hy3; subst hy4
  obtain ⟨b, ⟨⟨hx1, hx2, hx3, hx4⟩, ⟨hy1, hy2, hy3, hy4⟩⟩, hwb⟩ := smallP_q hp_b
  dsimp only at hx1 hx2 hx3 hx4 hy1 hy2 hy3 hy4
  subst hx1; subst hx2; subst hx3; subst hx4; subst hy1; subst hy2; subst hy3; subst hy4
  obtain ⟨c, ⟨⟨hx1, hx2, hx3, hx4⟩, ⟨hy1, hy2, hy3, hy4⟩⟩, hwc⟩ := smallP_q hp_c
  dsimp only at hx1 hx2 hx3 hx4 hy1 hy2 hy3 hy4
  subst hx1; subst hx2; subst hx3; subst hx4; subst hy1; subst hy2; subst hy3; subst hy4
  obtain ⟨d, ⟨⟨hx1, hx2, hx3, hx4⟩, ⟨hy1, hy2, hy3, hy4⟩⟩, hwd⟩ := smallP_q hp_d
  dsimp only at hx1 hx2 hx3 hx4 hy1 hy2 hy3 hy4
  subst hx1; subst hx2; subst hx3; subst hx4; subst hy1; subst hy2; subst hy3; subst hy4
  refine at_skip ?_
  refine at_tn ?_
  refine at_seq ?_
  refine at_drawn (l' := (⟨_,_,_,_,_,_⟩ :: ⟨_,_,_,_,_,_⟩ :: ⟨_,_,_,_,_,_⟩ :: ⟨_,_,_,_,_,_⟩ :: ⟨_,_,_,_,_,_⟩ :: ⟨_,_,_,_,_,_⟩ :: ⟨_,_,_,_,_,_⟩ :: ⟨_,_,_,_,_,_⟩ :: ⟨_,_,_,_,_,_⟩ :: ⟨_,_,_,_,_,_⟩ :: ⟨_,_,_,_,_,_⟩ :: ⟨_,_,_,_,_,_⟩ :: ⟨_,_,_,_,_,_⟩ :: ⟨_,_,_,_,_,_⟩ :: ⟨_,_,_,_,_,_⟩ :: ⟨_,_,_,_,_,_⟩ :: ⟨_,_,_,_,_,_⟩ :: ⟨_,_,_,_,_,_⟩ :: ⟨_,_,_,_,_,_⟩ :: ⟨_,_,_,_,_,_⟩ :: ⟨_,_,_,_,_,_⟩ :: ⟨_,_,_,_,_,_⟩ :: ⟨_,_,_,_,_,_⟩ :: ⟨_,_,_,_,_,_⟩ :: ⟨_,_,_,_,_,_⟩ :: ⟨_,_,_,_,_,_⟩ :: ⟨_,_,_,_,_,_⟩ :: ⟨_,_,_,_,_,_⟩ :: ⟨_,_,_,_,_,_⟩ :: ⟨_,_,_,_,_,_⟩ :: ⟨_,_,_,_,_,_⟩ :: ⟨_,_,_,_,_,_⟩ :: [])) [] (0 :: 1 :: 2 :: 3 :: 5 :: 6 :: 7 :: 8 :: 4 :: 9 :: 10 :: 11 :: 12 :: 13 :: 14 :: 16 :: 17 :: 18 :: 15 :: 19 :: 20 :: 21 :: 22 :: 23 :: 24 :: 26 :: 27 :: 25 :: 28 :: 29 :: 30 :: 31 :: []) mixed (drawnM (0 :: 1 :: 0 :: 4 :: 15 :: 0 :: 32 :: 0 :: 128 :: 511 :: 1023 :: 2047 :: 4095 :: 8191 :: 4095 :: 32767 :: 4095 :: 69631 :: 4095 :: 524287 :: 1048575 :: 2097151 :: 4194303 :: 8388607 :: 8388607 :: 33554431 :: 8388607 :: 8388607 :: 268435455 :: 536870911 :: 1073741823 :: 2147483647 :: []) (by kernel_rfl)) rfl (by kernel_rfl) ?_
  refine r_fieldAddr 0 0 0 rfl rfl rfl rfl rfl ti36 rfl rfl ?_
  refine r_load 0 0 [_, _, _, _, _, _, _, _] rfl rfl rfl rfl ti27 rfl rfl rfl rfl ?_
  refine r_fieldAddr 1 0 0 rfl rfl rfl rfl rfl ti36 rfl rfl ?_
  refine r_load 1 0 [_, _, _, _, _, _, _, _] rfl rfl rfl rfl ti27 rfl rfl rfl rfl ?_
  refine r_fieldAddr 0 0 0 rfl rfl rfl rfl rfl ti36 rfl rfl ?_
  refine r_load 0 0 [_, _, _, _, _, _, _, _] rfl rfl rfl rfl ti27 rfl rfl rfl rfl ?_
  refine r_fieldAddr 1 0 0 rfl rfl rfl rfl rfl ti36 rfl rfl ?_
  refine r_load 1 0 [_, _, _, _, _, _, _, _] rfl rfl rfl rfl ti27 rfl rfl rfl rfl ?_
  refine r_pcall [_, _] rfl rfl rfl (c_plane_Distance2 a c (szPm (Nat.le_trans (szP1 hwa) (Nat.le_of_ble_eq_true rfl)) (Nat.le_trans (szP2 hwa) (Nat.le_of_ble_eq_true rfl))) (szPm (Nat.le_trans (szP1 hwc) (Nat.le_of_ble_eq_true rfl)) (Nat.le_trans (szP2 hwc) (Nat.le_of_ble_eq_true rfl)))) ?_
  refine r_pcall [_, _] rfl rfl rfl (c_ref07_Distance2 a c (szPm (Nat.le_trans (szP1 hwa) (Nat.le_of_ble_eq_true rfl)) (Nat.le_trans (szP2 hwa) (Nat.le_of_ble_eq_true rfl))) (szPm (Nat.le_trans (szP1 hwc) (Nat.le_of_ble_eq_true rfl)) (Nat.le_trans (szP2 hwc) (Nat.le_of_ble_eq_true rfl)))) ?_
  refine r_eqlAgg rfl rfl rfl rfl gd25 (eq25 _ _) ?_
  refine r_know 31 (.bool true) rfl (congrArg Value.bool (decide_eq_true rfl)) ?_
  refine r_move rfl rfl rfl ?_
  refine r_fieldAddr 0 0 0 rfl rfl rfl rfl rfl ti36 rfl rfl ?_
  refine r_load 0 0 [_, _, _, _, _, _, _, _] rfl rfl rfl rfl ti27 rfl rfl rfl rfl ?_
  refine r_load 1 0 [_, _, _, _, _, _, _, _, _, _, _, _, _, _, _, _] rfl rfl rfl rfl ti36 rfl rfl rfl rfl ?_
  refine r_fieldAddr 0 0 0 rfl rfl rfl rfl rfl ti36 rfl rfl ?_
  refine r_load 0 0 [_, _, _, _, _, _, _, _] rfl rfl rfl rfl ti27 rfl rfl rfl rfl ?_
  refine r_load 1 0 [_, _, _, _, _, _, _, _, _, _, _, _, _, _, _, _] rfl rfl rfl rfl ti36 rfl rfl rfl rfl ?_
  refine r_pcall [_, _] rfl rfl rfl (c_plane_PointSegment2 a (c, d) (szPm (Nat.le_trans (szP1 hwa) (Nat.le_of_ble_eq_true rfl)) (Nat.le_trans (szP2 hwa) (Nat.le_of_ble_eq_true rfl))) (szSm (szPm (Nat.le_trans (szP1 hwc) (Nat.le_of_ble_eq_true rfl)) (Nat.le_trans (szP2 hwc) (Nat.le_of_ble_eq_true rfl))) (szPm (Nat.le_trans (szP1 hwd) (Nat.le_of_ble_eq_true rfl)) (Nat.le_trans (szP2 hwd) (Nat.le_of_ble_eq_true rfl))))) ?_
  refine r_pcall [_, _] rfl rfl rfl (c_ref07_PointSegment2 a (c, d) (szPm (Nat.le_trans (szP1 hwa) (Nat.le_of_ble_eq_true rfl)) (Nat.le_trans (szP2 hwa) (Nat.le_of_ble_eq_true rfl))) (szSm (szPm (Nat.le_trans (szP1 hwc) (Nat.le_of_ble_eq_true rfl)) (Nat.le_trans (szP2 hwc) (Nat.le_of_ble_eq_true rfl))) (szPm (Nat.le_trans (szP1 hwd) (Nat.le_of_ble_eq_true rfl)) (Nat.le_trans (szP2 hwd) (Nat.le_of_ble_eq_true rfl))))) ?_
  refine r_eqlAgg rfl rfl rfl rfl gd25 (eq25 _ _) ?_
  refine r_know 41 (.bool true) rfl (congrArg Value.bool (decide_eq_true rfl)) ?_
  refine r_pickT rfl rfl rfl rfl ?_
  refine r_move rfl rfl rfl ?_
  refine r_load 0 0 [_, _, _, _, _, _, _, _, _, _, _, _, _, _, _, _] rfl rfl rfl rfl ti36 rfl rfl rfl rfl ?_
  refine r_load 1 0 [_, _, _, _, _, _, _, _, _, _, _, _, _, _, _, _] rfl rfl rfl rfl ti36 rfl rfl rfl rfl ?_
  refine r_load 0 0 [_, _, _, _, _, _, _, _, _, _, _, _, _, _, _, _] rfl rfl rfl rfl ti36 rfl rfl rfl rfl ?_
  refine r_load 1 0 [_, _, _, _, _, _, _, _, _, _, _, _, _, _, _, _] rfl rfl rfl rfl ti36 rfl rfl rfl rfl ?_
  refine r_pcall [_, _] rfl rfl rfl (c_plane_Segments2 (a, b) (c, d) (szSm (szPm (Nat.le_trans (szP1 hwa) (Nat.le_of_ble_eq_true rfl)) (Nat.le_trans (szP2 hwa) (Nat.le_of_ble_eq_true rfl))) (szPm (Nat.le_trans (szP1 hwb) (Nat.le_of_ble_eq_true rfl)) (Nat.le_trans (szP2 hwb) (Nat.le_of_ble_eq_true rfl)))) (szSm (szPm (Nat.le_trans (szP1 hwc) (Nat.le_of_ble_eq_true rfl)) (Nat.le_trans (szP2 hwc) (Nat.le_of_ble_eq_true rfl))) (szPm (Nat.le_trans (szP1 hwd) (Nat.le_of_ble_eq_true rfl)) (Nat.le_trans (szP2 hwd) (Nat.le_of_ble_eq_true rfl))))) ?_
  refine r_pcall [_, _] rfl rfl rfl (c_ref07_Segments2 (a, b) (c, d) (szSm (szPm (Nat.le_trans (szP1 hwa) (Nat.le_of_ble_eq_true rfl)) (Nat.le_trans (szP2 hwa) (Nat.le_of_ble_eq_true rfl))) (szPm (Nat.le_trans (szP1 hwb) (Nat.le_of_ble_eq_true rfl)) (Nat.le_trans (szP2 hwb) (Nat.le_of_ble_eq_true rfl)))) (szSm (szPm (Nat.le_trans (szP1 hwc) (Nat.le_of_ble_eq_true rfl)) (Nat.le_trans (szP2 hwc) (Nat.le_of_ble_eq_true rfl))) (szPm (Nat.le_trans (szP1 hwd) (Nat.le_of_ble_eq_true rfl)) (Nat.le_trans (szP2 hwd) (Nat.le_of_ble_eq_true rfl))))) ?_
  refine r_eqlAgg rfl rfl rfl rfl gd25 (eq25 _ _) ?_
  refine r_know 50 (.bool true) rfl (congrArg Value.bool (decide_eq_true rfl)) ?_
  refine r_pickT rfl rfl rfl rfl ?_
  refine r_assign rfl rfl rfl ?_
  refine run_nil ?_
  refine at_tn ?_
  refine at_ret ?_
  refine at_end1 rfl (res_tmp rfl) (fun w hL => ⟨?_, hL.below⟩)
  exact rfl
end Go.Proofs.YthnlafhnpphdhaaGreatDoor
set_option linter.unusedVariables false
namespace Go.Proofs.YthnlafhnpphdhaaGreatDoor.planeDistances
open Go Go.ChangeShapes Go.WideShapes Go.ChangeAt Go.RowKit Go.Via
theorem big {n : Nat} (h : n ≤ reachBytes) : n ≤ BIG := Nat.le_trans h (by decide)
set_option maxRecDepth 20000 in
theorem contract (H : Type) (enc : TypeId × Value → H) (W : World) (base : Nat) (args : Array Value) (ds gs : List (DataW H)) (before : List MemPlace)
    (hval : ∀ (j : Nat) t v, Tryz.f9.params[j]? = some t → args[j]? = some v → Value.okWide Tryz.prog W .any base t v)
    (hW : DataW.Whole enc Tryz.prog Tryz.f9.params.toList Rows.planeDistancesSpec.vars false W args.toList ds gs before)
    (hsz : (DataW.weightsEach Tryz.prog (Tryz.f9.params.toList ++ (OpenSpec.ofChange Rows.planeDistancesSpec).bare.plain.varTypes Tryz.prog) (ds ++ gs)).all (· ≤ reachBytes) = true) :
    Calls Tryz.prog 9 args W fun e W' => ∃ v, e = .returned v ∧ Rows.planeDistancesSpec.post enc Tryz.prog Tryz.f9 false true false false W args v W' := by
  have hW' := hW
  obtain ⟨p, q, hA0, hV, rfl, hfz, hnd⟩ := hW
  have hA : DataW.TrodAll enc Tryz.prog W 0 (fun _ => true) true Tryz.f9.params.toList args.toList ds p := hA0
  rw [Tryz.params9] at hA hval
  obtain ⟨v0, vs0, d0, ds0, p0, q0, hargs, rfl, rfl, h0, r0⟩ := trodAll_cons hA
  obtain ⟨v1, vs1, d1, ds1, p1, q1, rfl, rfl, rfl, h1, r1⟩ := trodAll_cons r0
  obtain ⟨rfl, rfl, rfl⟩ := trodAll_nil r1
  obtain rfl : args = #[v0, v1] := by cases args; simp_all
  obtain ⟨rfl, rfl⟩ := trodVars_none hV
  obtain ⟨a0, c0, rfl, rfl, rfl, s0⟩ := openS (hval 0 36 v0 rfl rfl) h0
  obtain ⟨a1, c1, rfl, rfl, rfl, s1⟩ := openS (hval 1 36 v1 rfl rfl) h1
  clear hA0
  simp only [List.append_nil] at hW'
  have hz : ([a0.s1.size, a0.s2.size, a0.s3.size, a0.s4.size, c0.s1.size, c0.s2.size, c0.s3.size, c0.s4.size] ++ ([a1.s1.size, a1.s2.size, a1.s3.size, a1.s4.size, c1.s1.size, c1.s2.size, c1.s3.size, c1.s4.size] ++ [])).all (· ≤ reachBytes) = true := by
    have h : (DataW.weightsEach Tryz.prog [36, 36] [(dSg a0 c0 : DataW H), dSg a1 c1]).all (· ≤ reachBytes) = true := hsz
    rw [DataW.weightsEach, DataW.weightsEach, DataW.weightsEach, wSg, wSg] at h
    · exact h
    all_goals (intros; simp_all)
  simp only [List.all_append, List.all_cons, List.all_nil, Bool.and_true, Bool.and_eq_true, decide_eq_true_eq] at hz
  obtain ⟨⟨z01, z02, z03, z04, y01, y02, y03, y04⟩, z11, z12, z13, z14, y11, y12, y13, y14⟩ := hz
  have walk := (c_PlaneDistances a0.a1 a0.s1 a0.a2 a0.s2 a0.a3 a0.s3 a0.a4 a0.s4 c0.a1 c0.s1 c0.a2 c0.s2 c0.a3 c0.s3 c0.a4 c0.s4 a1.a1 a1.s1 a1.a2 a1.s2 a1.a3 a1.s3 a1.a4 a1.s4 c1.a1 c1.s1 c1.a2 c1.s2 c1.a3 c1.s3 c1.a4 c1.s4 ⟨big z01, big z02, big z03, big z04⟩ ⟨big y01, big y02, big y03, big y04⟩ ⟨big z11, big z12, big z13, big z14⟩ ⟨big y11, big y12, big y13, big y14⟩).2 W
  refine walk.mono fun e W' ⟨he, hg⟩ => ?_
  subst he
  exact ⟨_, rfl, post_plain rfl hW' (fun _ _ _ => trodAll_cons_mk (shut_bool Tryz.underlying4 _) trodAll_mk0)
    (fun _ => trodAll_cons_mk (s0 _ _ _ _) (trodAll_cons_mk (s1 _ _ _ _) (trodAll_mk0))) rfl hg (ok_one (by kernel_rfl) rfl (okWide_bool_mk Tryz.underlying4 _))⟩
abbrev wit : Array Value := #[.agg #[.bool false, .string ⟨#[]⟩, .bool false, .string ⟨#[]⟩, .bool false, .string ⟨#[]⟩, .bool false, .string ⟨#[]⟩, .bool false, .string ⟨#[]⟩, .bool false, .string ⟨#[]⟩, .bool false, .string ⟨#[]⟩, .bool false, .string ⟨#[]⟩], .agg #[.bool false, .string ⟨#[]⟩, .bool false, .string ⟨#[]⟩, .bool false, .string ⟨#[]⟩, .bool false, .string ⟨#[]⟩, .bool false, .string ⟨#[]⟩, .bool false, .string ⟨#[]⟩, .bool false, .string ⟨#[]⟩, .bool false, .string ⟨#[]⟩]]
abbrev wi {H : Type} : DataW H := .agg [.lit (.bool false), .lit (.string [])]
abbrev wq {H : Type} : DataW H := .agg [wi, wi]
theorem reads (os : Os) {H : Type} (enc : TypeId × Value → H) : ∃ places, DataW.whole enc Tryz.prog ((laidWorld os).forCall (fun _ _ => 0) ⟨#[], wit, []⟩).memory Tryz.f9.params.toList Rows.planeDistancesSpec.vars false wit.toList 8 = some ([.agg [.agg [wq, wq], .agg [wq, wq]], .agg [.agg [wq, wq], .agg [wq, wq]]], [], places) :=
  ⟨[], by kernel_rfl⟩
set_option maxRecDepth 100000 in
theorem lifted (os : Os) (started : os.Started) (H : Type) (enc : TypeId × Value → H) (F : Stop.Interp) :
    ReturnsInHanded {} Tryz.checked os 9 .any ((OpenSpec.ofChange Rows.planeDistancesSpec).preRow enc Tryz.prog Tryz.f9 Rows.planeDistancesRow.domain false Rows.planeDistancesRow.laid) (((OpenSpec.ofChange Rows.planeDistancesSpec).at F).post enc Tryz.prog Tryz.f9 false true false false) := by
  obtain ⟨places, hx⟩ := reads os enc
  refine returnsInHanded_of_row (C := Tryz.checked) (s := OpenSpec.ofChange Rows.planeDistancesSpec) own started (by kernel_rfl) Tryz.func9
    (witness_row_at (enc := enc) (C := Tryz.checked) false (laidWorld os) wit rfl (by kernel_rfl) (by kernel_rfl) (by kernel_rfl)
      (OpenSpec.preRow_of_cond 8 hx (by kernel_rfl) (fun k hk => by cases hk) (by kernel_rfl) (laid_met os _))) ?_
  intro W base args ds gs before hval hW _ _ hsz hL _ _
  exact contract H enc W base args ds gs before hval hW hsz
theorem said : Rows.PlaneDistancesSaid :=
  OpenClaim.holds_of_cond 9 Tryz.f9 rfl rfl rfl rfl rfl rfl rfl ⟨rfl, rfl, rfl, rfl, rfl⟩ rfl rfl rfl rfl rfl (by kernel_rfl) Tryz.func9 (by kernel_rfl)
    (of_decide_eq_true (by kernel_rfl)) (by unfold Func.isWrapper; first | (rw [if_pos (by decide +kernel)]; kernel_rfl) | (rw [if_neg (by decide +kernel)]; exact ⟨rfl, rfl⟩))
    (fun os started H enc _ F => by rw [OpenClaim.pre_eq_preRow]; exact lifted os started H enc F)
/-- No parameter wants a stand-in; the program's own looks are off. -/
theorem plain (f : FuncId) (fn : Func) (hf : Tryz.pinned.checked.prog.funcNamed "viator/viatorlaw07.PlaneDistances" = some f) (hfn : Tryz.pinned.checked.prog.funcs[f]? = some fn) :
    false = Tryz.pinned.checked.prog.looks [] ∧ ∀ (j : Nat) t, fn.params[j]? = some t → Tryz.pinned.checked.prog.wantsStandIn t = false := by
  obtain rfl : f = 9 := Option.some.inj ((show Tryz.prog.funcNamed "viator/viatorlaw07.PlaneDistances" = some 9 by kernel_rfl).symm.trans hf) |>.symm
  obtain rfl : fn = Tryz.f9 := (Option.some.inj (Tryz.func9.symm.trans hfn)).symm
  refine ⟨by kernel_rfl, fun j t ht => ?_⟩
  rw [Tryz.params9] at ht
  have hm : t ∈ ([36, 36] : List Nat) := by simpa using Array.mem_of_getElem? ht
  have hw : ∀ t ∈ ([36, 36] : List Nat), Tryz.prog.wantsStandIn t = false := by
    intro t ht
    simp only [List.mem_cons, List.mem_nil_iff, or_false] at ht
    rcases ht with rfl | rfl
    · exact (show Tryz.prog.wantsStandIn 36 = false by kernel_rfl)
    · exact (show Tryz.prog.wantsStandIn 36 = false by kernel_rfl)
  exact hw t hm
/-- ████ THE CARD ████ -/
theorem card : Rows.PlaneDistancesCardSaid :=
  Claim7.holds_tied_plain_at .later [] _ _ _ _ said (fun _ h => by cases h) (by kernel_rfl) (fun _ h => by cases h) planeDistances_row_tie rfl ⟨rfl, rfl⟩ (by kernel_rfl) rfl plain (by kernel_rfl)
end Go.Proofs.YthnlafhnpphdhaaGreatDoor.planeDistances
namespace Go.Proofs.YthnlafhnpphdhaaGreatDoor
/-- the card -/
theorem planeDistances_holds : Rows.PlaneDistancesCardSaid := planeDistances.card
end Go.Proofs.YthnlafhnpphdhaaGreatDoor
