/-
  The law PlaneVectors answers true at every input, tied to the listed variables as its card says. Part 13 of 13: lemmas and walks. No further conditions.
-/
import Derived.ChangeSame
import Derived.OpenShut
import Derived.RowKit3
import Derived.ProofKit
import Derived.Test.YthnlafhnpphdhaaGreatDoorCards
import Derived.Test.YthnlafhnpphdhaaGreatDoorTie
import Derived.WalkKit
import Derived.Deep.DeepHandedRow
import Derived.Lib.LaidTab
import Derived.Test.YthnlafhnpphdhaaGreatDoorA12
set_option linter.unusedVariables false
set_option linter.unusedVariables false
namespace Go.Proofs.YthnlafhnpphdhaaGreatDoor
open Go Go.RowKit Go.Via
set_option maxRecDepth 20000 in
theorem c_PlaneVectors (pb1 : Bool) (ps1 : ByteArray) (pb2 : Bool) (ps2 : ByteArray) (pb3 : Bool) (ps3 : ByteArray) (pb4 : Bool) (ps4 : ByteArray) (qb1 : Bool) (qs1 : ByteArray) (qb2 : Bool) (qs2 : ByteArray) (qb3 : Bool) (qs3 : ByteArray) (qb4 : Bool) (qs4 : ByteArray) (rb1 : Bool) (rs1 : ByteArray) (rb2 : Bool) (rs2 : ByteArray) (hzp : szR ⟨pb1, ps1, pb2, ps2, pb3, ps3, pb4, ps4⟩) (hzq : szR ⟨qb1, qs1, qb2, qs2, qb3, qs3, qb4, qs4⟩) (hzr : rs1.size ≤ BIG ∧ rs2.size ≤ BIG) : PCall Tryz.prog 3 #[.agg #[.bool pb1, .string ps1, .bool pb2, .string ps2, .bool pb3, .string ps3, .bool pb4, .string ps4], .agg #[.bool qb1, .string qs1, .bool qb2, .string qs2, .bool qb3, .string qs3, .bool qb4, .string qs4], .agg #[.bool rb1, .string rs1, .bool rb2, .string rs2]] (.bool true) := by
  refine ⟨by kernel_rfl, fun w => ?_⟩
  refine calls_at (args := [.agg #[.bool pb1, .string ps1, .bool pb2, .string ps2, .bool pb3, .string ps3, .bool pb4, .string ps4], .agg #[.bool qb1, .string qs1, .bool qb2, .string qs2, .bool qb3, .string qs3, .bool qb4, .string qs4], .agg #[.bool rb1, .string rs1, .bool rb2, .string rs2]]) Tryz.func3 rfl (Nat.le_of_ble_eq_true rfl) (LRel.nil w) ?_
  show At w ⟨65, [(0, .agg #[.bool pb1, .string ps1, .bool pb2, .string ps2, .bool pb3, .string ps3, .bool pb4, .string ps4]), (1, .agg #[.bool qb1, .string qs1, .bool qb2, .string qs2, .bool qb3, .string qs3, .bool qb4, .string qs4]), (2, .agg #[.bool rb1, .string rs1, .bool rb2, .string rs2])], []⟩ _
  refine at_seq ?_
  refine at_region ?_
  refine r_box [_, _, _, _, _, _, _, _] 8 (fun g => [⟨some g, 27, _, 8, true⟩]) rfl rfl rfl rfl rfl (fun _ => rfl) (fun g0 => ?_)
  refine r_box [_, _, _, _, _, _, _, _] 8 (fun g => [_, ⟨some g, 27, _, 8, true⟩]) rfl rfl rfl rfl rfl (fun _ => rfl) (fun g1 => ?_)
  refine r_box [_, _, _, _] 4 (fun g => [_, _, ⟨some g, 25, _, 4, true⟩]) rfl rfl rfl rfl rfl (fun _ => rfl) (fun g2 => ?_)
  refine r_assign rfl rfl rfl ?_
  refine run_nil ?_
  refine at_tn ?_
  refine at_seq ?_
  refine at_seq ?_
  refine at_region ?_
  refine r_pcall [] rfl rfl rfl (c_law_known) ?_
  refine r_not rfl rfl rfl ?_
  refine r_move rfl rfl rfl ?_
  refine r_load 0 0 [_, _, _, _, _, _, _, _] rfl rfl rfl rfl ti27 rfl rfl rfl rfl ?_
  refine r_load 1 0 [_, _, _, _, _, _, _, _] rfl rfl rfl rfl ti27 rfl rfl rfl rfl ?_
  refine r_buildSlice [(0, _), (1, _)] (fun g => [_, _, _, ⟨some g, 27, _, 16, true⟩]) rfl rfl rfl (bs61_2) rfl (fun _ => rfl) (fun g3 => ?_)
  refine r_scall0 [_] [3] rfl rfl rfl (c_law_points [⟨pb1, ps1, pb2, ps2, pb3, ps3, pb4, ps4⟩, ⟨qb1, qs1, qb2, qs2, qb3, qs3, qb4, qs4⟩] (by simp only [List.forall_mem_cons]; exact ⟨hzp, hzq, fun _ h => by cases h⟩) (Nat.le_of_ble_eq_true rfl) (some g3) _ _ (Nat.le_refl _)) ⟨⟨_, rfl, le_share⟩, trivial⟩ rfl ?_
  refine r_not rfl rfl rfl ?_
  refine r_pickF rfl rfl rfl rfl ?_
  refine r_move rfl rfl rfl ?_
  refine r_split 16 rfl (fun hb0 => ?_) (fun hb0 => ?_)
  ·
    refine r_no rfl rfl rfl ?_
    refine r_no rfl rfl rfl ?_
    refine r_no rfl rfl rfl ?_
    refine r_pickT rfl rfl rfl rfl ?_
    refine run_nil ?_
    refine at_tn ?_
    refine at_condT rfl ?_
    refine at_seq ?_
    refine at_region ?_
    refine r_pcall [] rfl rfl rfl (c_law_known) ?_
    refine r_assign rfl rfl rfl ?_
    refine run_nil ?_
    refine at_tn ?_
    refine at_ret ?_
    refine at_tr ?_
    refine at_end1 rfl (res_tmp rfl) (fun w hL => ⟨?_, hL.below⟩)
    exact rfl
  ·
    have hall : [(⟨pb1, ps1, pb2, ps2, pb3, ps3, pb4, ps4⟩ : RawP), ⟨qb1, qs1, qb2, qs2, qb3, qs3, qb4, qs4⟩].all smallP = true := by simpa using hb0
    simp only [List.all_cons, List.all_nil, Bool.and_true, Bool.and_eq_true] at hall
    obtain ⟨hp_p, hp_q⟩ := hall
    obtain ⟨p, ⟨⟨hx1, hx2, hx3, hx4⟩, ⟨hy1, hy2, hy3, hy4⟩⟩, hwp⟩ := smallP_q hp_p
    dsimp only at hx1 hx2 hx3 hx4 hy1 hy2 hy3 hy4
    subst hx1; subst hx2; subst hx3; subst hx4; subst hy1; subst hy2; subst hy3; subst hy4
    obtain ⟨q, ⟨⟨hx1, hx2, hx3, hx4⟩, ⟨hy1, hy2, hy3, hy4⟩⟩, hwq⟩ := smallP_q hp_q
    dsimp only at hx1 hx2 hx3 hx4 hy1 hy2 hy3 hy4
    subst hx1; subst hx2; subst hx3; subst hx4; subst hy1; subst hy2; subst hy3; subst hy4
    refine r_load 2 0 [_, _, _, _] rfl rfl rfl rfl ti25 rfl rfl rfl rfl ?_
    refine r_pcall [_] rfl rfl rfl (c_law_small rb1 rs1 rb2 rs2 hzr.1 hzr.2) ?_
    refine r_not rfl rfl rfl ?_
    refine r_pickF rfl rfl rfl rfl ?_
    refine run_nil ?_
    refine at_tn ?_
    refine at_cond rfl (fun hb1 => ?_) (fun hb1 => ?_)
    ·
      refine at_seq ?_
      refine at_region ?_
      refine r_pcall [] rfl rfl rfl (c_law_known) ?_
      refine r_assign rfl rfl rfl ?_
      refine run_nil ?_
      refine at_tn ?_
      refine at_ret ?_
      refine at_tr ?_
      refine at_end1 rfl (res_tmp rfl) (fun w hL => ⟨?_, hL.below⟩)
      exact rfl
    ·
      have hall_r : smallB rb1 rs1 rb2 rs2 = true := by simpa using hb1
      obtain ⟨r, ⟨hx1, hx2, hx3, hx4⟩, hwr⟩ := small_q hall_r
      subst hx1; subst hx2; subst hx3; subst hx4
      refine at_skip ?_
      refine at_tn ?_
      refine at_seq ?_
      refine at_drawn (l' := (⟨_,_,_,_,_,_⟩ :: ⟨_,_,_,_,_,_⟩ :: ⟨_,_,_,_,_,_⟩ :: ⟨_,_,_,_,_,_⟩ :: ⟨_,_,_,_,_,_⟩ :: ⟨_,_,_,_,_,_⟩ :: ⟨_,_,_,_,_,_⟩ :: ⟨_,_,_,_,_,_⟩ :: ⟨_,_,_,_,_,_⟩ :: ⟨_,_,_,_,_,_⟩ :: ⟨_,_,_,_,_,_⟩ :: ⟨_,_,_,_,_,_⟩ :: ⟨_,_,_,_,_,_⟩ :: ⟨_,_,_,_,_,_⟩ :: ⟨_,_,_,_,_,_⟩ :: ⟨_,_,_,_,_,_⟩ :: ⟨_,_,_,_,_,_⟩ :: ⟨_,_,_,_,_,_⟩ :: ⟨_,_,_,_,_,_⟩ :: ⟨_,_,_,_,_,_⟩ :: ⟨_,_,_,_,_,_⟩ :: ⟨_,_,_,_,_,_⟩ :: ⟨_,_,_,_,_,_⟩ :: ⟨_,_,_,_,_,_⟩ :: ⟨_,_,_,_,_,_⟩ :: ⟨_,_,_,_,_,_⟩ :: ⟨_,_,_,_,_,_⟩ :: ⟨_,_,_,_,_,_⟩ :: ⟨_,_,_,_,_,_⟩ :: ⟨_,_,_,_,_,_⟩ :: ⟨_,_,_,_,_,_⟩ :: ⟨_,_,_,_,_,_⟩ :: ⟨_,_,_,_,_,_⟩ :: ⟨_,_,_,_,_,_⟩ :: ⟨_,_,_,_,_,_⟩ :: ⟨_,_,_,_,_,_⟩ :: ⟨_,_,_,_,_,_⟩ :: ⟨_,_,_,_,_,_⟩ :: ⟨_,_,_,_,_,_⟩ :: ⟨_,_,_,_,_,_⟩ :: ⟨_,_,_,_,_,_⟩ :: ⟨_,_,_,_,_,_⟩ :: ⟨_,_,_,_,_,_⟩ :: ⟨_,_,_,_,_,_⟩ :: [])) [] (0 :: 1 :: 3 :: 4 :: 2 :: 5 :: 6 :: 7 :: 8 :: 9 :: 11 :: 12 :: 10 :: 13 :: 14 :: 15 :: 16 :: 17 :: 18 :: 20 :: 21 :: 19 :: 22 :: 23 :: 24 :: 25 :: 26 :: 27 :: 29 :: 30 :: 28 :: 31 :: 32 :: 33 :: 34 :: 35 :: 36 :: 38 :: 39 :: 37 :: 40 :: 41 :: 42 :: 43 :: []) mixed (drawnM (0 :: 0 :: 3 :: 0 :: 0 :: 31 :: 63 :: 127 :: 255 :: 255 :: 1023 :: 255 :: 255 :: 8191 :: 16383 :: 32767 :: 65535 :: 131071 :: 131071 :: 524287 :: 131071 :: 131071 :: 4194303 :: 8388607 :: 16777215 :: 33554431 :: 67108863 :: 67108863 :: 268435455 :: 67108863 :: 67108863 :: 2147483647 :: 4294967295 :: 8589934591 :: 17179869183 :: 34359738367 :: 34359738367 :: 137438953471 :: 34359738367 :: 34359738367 :: 1099511627775 :: 2199023255551 :: 4398046511103 :: 8796093022207 :: []) (by kernel_rfl)) rfl (by kernel_rfl) ?_
      refine r_load 0 0 [_, _, _, _, _, _, _, _] rfl rfl rfl rfl ti27 rfl rfl rfl rfl ?_
      refine r_load 1 0 [_, _, _, _, _, _, _, _] rfl rfl rfl rfl ti27 rfl rfl rfl rfl ?_
      refine r_load 0 0 [_, _, _, _, _, _, _, _] rfl rfl rfl rfl ti27 rfl rfl rfl rfl ?_
      refine r_load 1 0 [_, _, _, _, _, _, _, _] rfl rfl rfl rfl ti27 rfl rfl rfl rfl ?_
      refine r_pcall [_, _] rfl rfl rfl (c_plane_Add p q (szPm (Nat.le_trans (szP1 hwp) (Nat.le_of_ble_eq_true rfl)) (Nat.le_trans (szP2 hwp) (Nat.le_of_ble_eq_true rfl))) (szPm (Nat.le_trans (szP1 hwq) (Nat.le_of_ble_eq_true rfl)) (Nat.le_trans (szP2 hwq) (Nat.le_of_ble_eq_true rfl)))) ?_
      refine r_pcall [_, _] rfl rfl rfl (c_ref07_Add p q (szPm (Nat.le_trans (szP1 hwp) (Nat.le_of_ble_eq_true rfl)) (Nat.le_trans (szP2 hwp) (Nat.le_of_ble_eq_true rfl))) (szPm (Nat.le_trans (szP1 hwq) (Nat.le_of_ble_eq_true rfl)) (Nat.le_trans (szP2 hwq) (Nat.le_of_ble_eq_true rfl)))) ?_
      refine r_eqlAgg rfl rfl rfl rfl gd27 (eq27 _ _) ?_
      refine r_know 28 (.bool true) rfl (congrArg Value.bool (decide_eq_true rfl)) ?_
      refine r_move rfl rfl rfl ?_
      refine r_load 0 0 [_, _, _, _, _, _, _, _] rfl rfl rfl rfl ti27 rfl rfl rfl rfl ?_
      refine r_load 1 0 [_, _, _, _, _, _, _, _] rfl rfl rfl rfl ti27 rfl rfl rfl rfl ?_
      refine r_load 0 0 [_, _, _, _, _, _, _, _] rfl rfl rfl rfl ti27 rfl rfl rfl rfl ?_
      refine r_load 1 0 [_, _, _, _, _, _, _, _] rfl rfl rfl rfl ti27 rfl rfl rfl rfl ?_
      refine r_pcall [_, _] rfl rfl rfl (c_plane_Sub p q (szPm (Nat.le_trans (szP1 hwp) (Nat.le_of_ble_eq_true rfl)) (Nat.le_trans (szP2 hwp) (Nat.le_of_ble_eq_true rfl))) (szPm (Nat.le_trans (szP1 hwq) (Nat.le_of_ble_eq_true rfl)) (Nat.le_trans (szP2 hwq) (Nat.le_of_ble_eq_true rfl)))) ?_
      refine r_pcall [_, _] rfl rfl rfl (c_ref07_Sub p q (szPm (Nat.le_trans (szP1 hwp) (Nat.le_of_ble_eq_true rfl)) (Nat.le_trans (szP2 hwp) (Nat.le_of_ble_eq_true rfl))) (szPm (Nat.le_trans (szP1 hwq) (Nat.le_of_ble_eq_true rfl)) (Nat.le_trans (szP2 hwq) (Nat.le_of_ble_eq_true rfl)))) ?_
      refine r_eqlAgg rfl rfl rfl rfl gd27 (eq27 _ _) ?_
      refine r_know 36 (.bool true) rfl (congrArg Value.bool (decide_eq_true rfl)) ?_
      refine r_pickT rfl rfl rfl rfl ?_
      refine r_move rfl rfl rfl ?_
      refine r_load 0 0 [_, _, _, _, _, _, _, _] rfl rfl rfl rfl ti27 rfl rfl rfl rfl ?_
      refine r_load 2 0 [_, _, _, _] rfl rfl rfl rfl ti25 rfl rfl rfl rfl ?_
      refine r_load 0 0 [_, _, _, _, _, _, _, _] rfl rfl rfl rfl ti27 rfl rfl rfl rfl ?_
      refine r_load 2 0 [_, _, _, _] rfl rfl rfl rfl ti25 rfl rfl rfl rfl ?_
      refine r_pcall [_, _] rfl rfl rfl (c_plane_Scale p r (szPm (Nat.le_trans (szP1 hwp) (Nat.le_of_ble_eq_true rfl)) (Nat.le_trans (szP2 hwp) (Nat.le_of_ble_eq_true rfl))) (Nat.le_trans hwr (Nat.le_of_ble_eq_true rfl))) ?_
      refine r_pcall [_, _] rfl rfl rfl (c_ref07_Scale p r (szPm (Nat.le_trans (szP1 hwp) (Nat.le_of_ble_eq_true rfl)) (Nat.le_trans (szP2 hwp) (Nat.le_of_ble_eq_true rfl))) (Nat.le_trans hwr (Nat.le_of_ble_eq_true rfl))) ?_
      refine r_eqlAgg rfl rfl rfl rfl gd27 (eq27 _ _) ?_
      refine r_know 45 (.bool true) rfl (congrArg Value.bool (decide_eq_true rfl)) ?_
      refine r_pickT rfl rfl rfl rfl ?_
      refine r_move rfl rfl rfl ?_
      refine r_load 0 0 [_, _, _, _, _, _, _, _] rfl rfl rfl rfl ti27 rfl rfl rfl rfl ?_
      refine r_load 1 0 [_, _, _, _, _, _, _, _] rfl rfl rfl rfl ti27 rfl rfl rfl rfl ?_
      refine r_load 0 0 [_, _, _, _, _, _, _, _] rfl rfl rfl rfl ti27 rfl rfl rfl rfl ?_
      refine r_load 1 0 [_, _, _, _, _, _, _, _] rfl rfl rfl rfl ti27 rfl rfl rfl rfl ?_
      refine r_pcall [_, _] rfl rfl rfl (c_plane_Dot p q (szPm (Nat.le_trans (szP1 hwp) (Nat.le_of_ble_eq_true rfl)) (Nat.le_trans (szP2 hwp) (Nat.le_of_ble_eq_true rfl))) (szPm (Nat.le_trans (szP1 hwq) (Nat.le_of_ble_eq_true rfl)) (Nat.le_trans (szP2 hwq) (Nat.le_of_ble_eq_true rfl)))) ?_
      refine r_pcall [_, _] rfl rfl rfl (c_ref07_Dot p q (szPm (Nat.le_trans (szP1 hwp) (Nat.le_of_ble_eq_true rfl)) (Nat.le_trans (szP2 hwp) (Nat.le_of_ble_eq_true rfl))) (szPm (Nat.le_trans (szP1 hwq) (Nat.le_of_ble_eq_true rfl)) (Nat.le_trans (szP2 hwq) (Nat.le_of_ble_eq_true rfl)))) ?_
      refine r_eqlAgg rfl rfl rfl rfl gd25 (eq25 _ _) ?_
      refine r_know 54 (.bool true) rfl (congrArg Value.bool (decide_eq_true rfl)) ?_
      refine r_pickT rfl rfl rfl rfl ?_
      refine r_move rfl rfl rfl ?_
      refine r_load 0 0 [_, _, _, _, _, _, _, _] rfl rfl rfl rfl ti27 rfl rfl rfl rfl ?_
      refine r_load 1 0 [_, _, _, _, _, _, _, _] rfl rfl rfl rfl ti27 rfl rfl rfl rfl ?_
      refine r_load 0 0 [_, _, _, _, _, _, _, _] rfl rfl rfl rfl ti27 rfl rfl rfl rfl ?_
      refine r_load 1 0 [_, _, _, _, _, _, _, _] rfl rfl rfl rfl ti27 rfl rfl rfl rfl ?_
      refine r_pcall [_, _] rfl rfl rfl (c_plane_CrossProduct p q (szPm (Nat.le_trans (szP1 hwp) (Nat.le_of_ble_eq_true rfl)) (Nat.le_trans (szP2 hwp) (Nat.le_of_ble_eq_true rfl))) (szPm (Nat.le_trans (szP1 hwq) (Nat.le_of_ble_eq_true rfl)) (Nat.le_trans (szP2 hwq) (Nat.le_of_ble_eq_true rfl)))) ?_
      refine r_pcall [_, _] rfl rfl rfl (c_ref07_Product p q (szPm (Nat.le_trans (szP1 hwp) (Nat.le_of_ble_eq_true rfl)) (Nat.le_trans (szP2 hwp) (Nat.le_of_ble_eq_true rfl))) (szPm (Nat.le_trans (szP1 hwq) (Nat.le_of_ble_eq_true rfl)) (Nat.le_trans (szP2 hwq) (Nat.le_of_ble_eq_true rfl)))) ?_
      refine r_eqlAgg rfl rfl rfl rfl gd25 (eq25 _ _) ?_
      refine r_know 63 (.bool true) rfl (congrArg Value.bool (decide_eq_true rfl)) ?_
      refine r_pickT rfl rfl rfl rfl ?_
      refine r_assign rfl rfl rfl ?_
      refine run_nil ?_
      refine at_tn ?_
      refine at_ret ?_
      refine at_end1 rfl (res_tmp rfl) (fun w hL => ⟨?_, hL.below⟩)
      exact rfl

end Go.Proofs.YthnlafhnpphdhaaGreatDoor
set_option linter.unusedVariables false
namespace Go.Proofs.YthnlafhnpphdhaaGreatDoor
open Go Go.RowKit Go.Via Go.ChangeShapes Go.WideShapes

theorem below_kept {w w' : World} (h : Below w.heap.size w w') (may : MemPlace → Prop) : w.keptBut w' may := by
  have hb : ∀ b, b < w.heap.size → w'.heap[b]? = w.heap[b]? := h.block
  refine ⟨h.os, h.output, fun i hi => ?_⟩
  rw [hb i hi]
  split
  · rename_i e1 e2
    rw [e1] at e2; cases e2
    exact ⟨rfl, rfl, rfl, fun _ _ => rfl⟩
  · rename_i e1 e2
    rw [e1] at e2; cases e2
    exact Or.inr ⟨rfl, rfl⟩
  · rfl

/-- what a call leaves that only computes, over arguments that reach no memory -/
theorem post_plain {H : Type} {enc : TypeId × Value → H} {P : Program} {f : Func} {s : ChangeSpec} {fresh handsOn again : Bool} {W W' : World} {args : Array Value} {v : Value} {ds : List (DataW H)}
    (hv : s.vars = []) (hW : DataW.Whole enc P f.params.toList s.vars false W args.toList ds [] [])
    (hres : ∀ (b : Nat) (sp : Nat → Bool) (hd : Bool), DataW.TrodAll enc P W' b sp hd f.resultTypes.toList (v.resultList f.resultTypes.size) (s.fn H (ds ++ [])).results [])
    (hargs : ∀ sp : Nat → Bool, DataW.TrodAll enc P W' 0 sp true f.params.toList args.toList (s.fn H (ds ++ [])).args [])
    (hvars : (s.fn H (ds ++ [])).vars = []) (hk : Below W.heap.size W W')
    (hok : ∀ (j : Nat) (t : TypeId) (r : Value), f.resultTypes[j]? = some t → (v.resultList f.resultTypes.size)[j]? = some r → Value.okWide P W' .any 0 t r) :
    s.post enc P f false fresh handsOn again W args v W' := by
  have hV : ∀ sp : Nat → Bool, DataW.TrodVars enc P W' sp s.vars (s.fn H (ds ++ [])).vars [] := fun sp => by rw [hv, hvars]; rfl
  refine ⟨ds, [], [], [], [], [], hW, hres _ _ _, hargs _, hV _, below_kept hk _, fun _ => ⟨hok, _, _, ([] ++ []) ++ [], ⟨[] ++ [], [], trodAll_append (hargs _) (hres _ _ _), hV _, rfl, ?_, ?_⟩, ?_⟩⟩
  · intro b off hp; cases hp
  · intro ha; cases ha
  · intro p hp; cases hp

section
variable {H : Type} {enc : TypeId × Value → H} {w : World} {base : Nat} {spare : Nat → Bool} {held : Bool}

def dB (b : Bool) : DataW H := .lit (.bool b)
def dS (s : ByteArray) : DataW H := .lit (.string s.data.toList)
def dI (b : Bool) (s : ByteArray) : DataW H := .agg [dB b, dS s]
def dQ (b1 : Bool) (s1 : ByteArray) (b2 : Bool) (s2 : ByteArray) : DataW H := .agg [dI b1 s1, dI b2 s2]
def dP (p : RawP) : DataW H := .agg [dQ p.a1 p.s1 p.a2 p.s2, dQ p.a3 p.s3 p.a4 p.s4]

theorem ce23 : Tryz.prog.cellsOf 23 = 2 := by kernel_rfl
theorem ce25 : Tryz.prog.cellsOf 25 = 4 := by kernel_rfl
theorem ce27 : Tryz.prog.cellsOf 27 = 8 := by kernel_rfl
theorem ce4 : Tryz.prog.cellsOf 4 = 1 := by kernel_rfl
theorem ce9 : Tryz.prog.cellsOf 9 = 1 := by kernel_rfl

theorem o23 {fuel : Nat} {cs : List Value} {x : DataW H × List MemPlace} (h : DataW.trod enc Tryz.prog w base spare held fuel 23 cs = some x) :
    ∃ b s, cs = [.bool b, .string s] ∧ x = (dI b s, []) ∧ s.size ≤ maxLen := by
  obtain ⟨y0, y1, n, rfl, hl, h0, h1⟩ := trod_struct2 Tryz.underlying23 h
  rw [ce4] at h0
  rw [ce9] at h1
  rw [ce23] at hl
  obtain ⟨b, e0, rfl⟩ := DataW.trod_bool Tryz.underlying4 h0
  obtain ⟨s, e1, rfl, hs⟩ := DataW.trod_string Tryz.underlying9 h1
  refine ⟨b, s, ?_, rfl, hs⟩
  match cs, hl with
  | [c0, c1], _ => simp at e0 e1; simp [e0, e1]

theorem o25 {fuel : Nat} {cs : List Value} {x : DataW H × List MemPlace} (h : DataW.trod enc Tryz.prog w base spare held fuel 25 cs = some x) :
    ∃ b1 s1 b2 s2, cs = [.bool b1, .string s1, .bool b2, .string s2] ∧ x = (dQ b1 s1 b2 s2, []) ∧ s1.size ≤ maxLen ∧ s2.size ≤ maxLen := by
  obtain ⟨y0, y1, n, rfl, hl, h0, h1⟩ := trod_struct2 Tryz.underlying25 h
  rw [ce23] at h0 h1
  rw [ce25] at hl
  obtain ⟨b1, s1, e0, rfl, z1⟩ := o23 h0
  obtain ⟨b2, s2, e1, rfl, z2⟩ := o23 h1
  refine ⟨b1, s1, b2, s2, ?_, rfl, z1, z2⟩
  match cs, hl with
  | [c0, c1, c2, c3], _ => simp at e0 e1; simp [e0, e1]

theorem o27 {fuel : Nat} {cs : List Value} {x : DataW H × List MemPlace} (h : DataW.trod enc Tryz.prog w base spare held fuel 27 cs = some x) :
    ∃ p : RawP, cs = rpC p ∧ x = (dP p, []) ∧ (p.s1.size ≤ maxLen ∧ p.s2.size ≤ maxLen ∧ p.s3.size ≤ maxLen ∧ p.s4.size ≤ maxLen) := by
  obtain ⟨y0, y1, n, rfl, hl, h0, h1⟩ := trod_struct2 Tryz.underlying27 h
  rw [ce25] at h0 h1
  rw [ce27] at hl
  obtain ⟨b1, s1, b2, s2, e0, rfl, z1, z2⟩ := o25 h0
  obtain ⟨b3, s3, b4, s4, e1, rfl, z3, z4⟩ := o25 h1
  refine ⟨⟨b1, s1, b2, s2, b3, s3, b4, s4⟩, ?_, rfl, z1, z2, z3, z4⟩
  match cs, hl with
  | [c0, c1, c2, c3, c4, c5, c6, c7], _ => simp at e0 e1; simp [rpC, e0, e1]

theorem s4 (n : Nat) (b : Bool) : DataW.trod enc Tryz.prog w base spare held (n + 1) 4 [.bool b] = some (dB b, []) := by
  simp [DataW.trod, Tryz.underlying4, dB]
theorem s9 (n : Nat) {s : ByteArray} (h : s.size ≤ maxLen) : DataW.trod enc Tryz.prog w base spare held (n + 1) 9 [.string s] = some (dS s, []) := by
  simp [DataW.trod, Tryz.underlying9, dS, h]
theorem s23 (n : Nat) (b : Bool) {s : ByteArray} (h : s.size ≤ maxLen) : DataW.trod enc Tryz.prog w base spare held (n + 1 + 1) 23 [.bool b, .string s] = some (dI b s, []) := by
  have h0 := s4 (enc := enc) (w := w) (base := base) (spare := spare) (held := held) n b
  have h1 := s9 (enc := enc) (w := w) (base := base) (spare := spare) (held := held) n h
  exact trod_struct2_mk (n := n + 1) (cs := [.bool b, .string s]) (y0 := (dB b, [])) (y1 := (dS s, [])) Tryz.underlying23 ce23.symm (by rw [ce4]; exact h0) (by rw [ce9]; exact h1)
theorem s25 (n : Nat) (b1 b2 : Bool) {s1 s2 : ByteArray} (z1 : s1.size ≤ maxLen) (z2 : s2.size ≤ maxLen) : DataW.trod enc Tryz.prog w base spare held (n + 1 + 1 + 1) 25 [.bool b1, .string s1, .bool b2, .string s2] = some (dQ b1 s1 b2 s2, []) := by
  have h0 := s23 (enc := enc) (w := w) (base := base) (spare := spare) (held := held) n b1 z1
  have h1 := s23 (enc := enc) (w := w) (base := base) (spare := spare) (held := held) n b2 z2
  exact trod_struct2_mk (n := n + 1 + 1) (cs := [.bool b1, .string s1, .bool b2, .string s2]) (y0 := (dI b1 s1, [])) (y1 := (dI b2 s2, [])) Tryz.underlying25 ce25.symm (by rw [ce23]; exact h0) (by rw [ce23]; exact h1)
theorem s27 (n : Nat) (p : RawP) (h : p.s1.size ≤ maxLen ∧ p.s2.size ≤ maxLen ∧ p.s3.size ≤ maxLen ∧ p.s4.size ≤ maxLen) : DataW.trod enc Tryz.prog w base spare held (n + 1 + 1 + 1 + 1) 27 (rpC p) = some (dP p, []) := by
  have h0 := s25 (enc := enc) (w := w) (base := base) (spare := spare) (held := held) n p.a1 p.a2 h.1 h.2.1
  have h1 := s25 (enc := enc) (w := w) (base := base) (spare := spare) (held := held) n p.a3 p.a4 h.2.2.1 h.2.2.2
  exact trod_struct2_mk (n := n + 1 + 1 + 1) (cs := rpC p) (y0 := (dQ p.a1 p.s1 p.a2 p.s2, [])) (y1 := (dQ p.a3 p.s3 p.a4 p.s4, [])) Tryz.underlying27 ce27.symm (by rw [ce25]; exact h0) (by rw [ce25]; exact h1)

set_option maxRecDepth 20000 in
/-- a point, opened: its cells, and that every world reads it alike -/
theorem openP {r : Reach} {b0 : Nat} {v : Value} {d : DataW H} {ps : List MemPlace} (hval : Value.okWide Tryz.prog w r b0 27 v) (hd : DataW.Trod enc Tryz.prog w base spare held 27 v d ps) :
    ∃ p : RawP, v = .agg (rpC p).toArray ∧ d = dP p ∧ ps = [] ∧ ∀ (w' : World) (b' : Nat) (sp' : Nat → Bool) (hd' : Bool), DataW.Trod enc Tryz.prog w' b' sp' hd' 27 v d [] := by
  obtain ⟨cs, rfl, _⟩ := okWide_struct (P := Tryz.prog) (t := 27) (w := w) (r := r) (base := b0) (v := v) Tryz.underlying27 hval
  obtain ⟨fuel, hf⟩ := hd
  obtain ⟨p, e, e2, hz⟩ := o27 hf
  cases e2
  have e' : cs = (rpC p).toArray := Array.toList_inj.1 e
  subst e'
  exact ⟨p, rfl, rfl, rfl, fun w' b' sp' hd' => ⟨4, s27 0 p hz⟩⟩

set_option maxRecDepth 20000 in
theorem openQ {r : Reach} {b0 : Nat} {v : Value} {d : DataW H} {ps : List MemPlace} (hval : Value.okWide Tryz.prog w r b0 25 v) (hd : DataW.Trod enc Tryz.prog w base spare held 25 v d ps) :
    ∃ b1 s1 b2 s2, v = .agg #[.bool b1, .string s1, .bool b2, .string s2] ∧ d = dQ b1 s1 b2 s2 ∧ ps = [] ∧ ∀ (w' : World) (b' : Nat) (sp' : Nat → Bool) (hd' : Bool), DataW.Trod enc Tryz.prog w' b' sp' hd' 25 v d [] := by
  obtain ⟨cs, rfl, _⟩ := okWide_struct (P := Tryz.prog) (t := 25) (w := w) (r := r) (base := b0) (v := v) Tryz.underlying25 hval
  obtain ⟨fuel, hf⟩ := hd
  obtain ⟨b1, s1, b2, s2, e, e2, z1, z2⟩ := o25 hf
  cases e2
  have e' : cs = #[.bool b1, .string s1, .bool b2, .string s2] := Array.toList_inj.1 e
  subst e'
  exact ⟨b1, s1, b2, s2, rfl, rfl, rfl, fun w' b' sp' hd' => ⟨3, s25 0 b1 b2 z1 z2⟩⟩

theorem wB (b : Bool) : (dB b : DataW H).weights Tryz.prog 4 = [] := by rw [dB, DataW.weights]; intro x h; cases h
theorem wS (s : ByteArray) : (dS s : DataW H).weights Tryz.prog 9 = [s.size] := by rw [dS, DataW.weights]; show [s.data.toList.length] = [s.size]; rw [Array.length_toList]; rfl
theorem wI (b : Bool) (s : ByteArray) : (dI b s : DataW H).weights Tryz.prog 23 = [s.size] := by
  rw [dI, DataW.weights, Tryz.underlying23]
  show DataW.weightsEach Tryz.prog [4, 9] [dB b, dS s] = _
  rw [DataW.weightsEach, DataW.weightsEach, DataW.weightsEach, wB, wS]
  rfl
  all_goals (intros; simp_all)
theorem wQ (b1 b2 : Bool) (s1 s2 : ByteArray) : (dQ b1 s1 b2 s2 : DataW H).weights Tryz.prog 25 = [s1.size, s2.size] := by
  rw [dQ, DataW.weights, Tryz.underlying25]
  show DataW.weightsEach Tryz.prog [23, 23] [dI b1 s1, dI b2 s2] = _
  rw [DataW.weightsEach, DataW.weightsEach, DataW.weightsEach, wI, wI]
  rfl
  all_goals (intros; simp_all)
theorem wP (p : RawP) : (dP p : DataW H).weights Tryz.prog 27 = [p.s1.size, p.s2.size, p.s3.size, p.s4.size] := by
  rw [dP, DataW.weights, Tryz.underlying27]
  show DataW.weightsEach Tryz.prog [25, 25] [dQ p.a1 p.s1 p.a2 p.s2, dQ p.a3 p.s3 p.a4 p.s4] = _
  rw [DataW.weightsEach, DataW.weightsEach, DataW.weightsEach, wQ, wQ]
  rfl
  all_goals (intros; simp_all)
end
end Go.Proofs.YthnlafhnpphdhaaGreatDoor
set_option linter.unusedVariables false
namespace Go.Proofs.YthnlafhnpphdhaaGreatDoor
open Go.ChangeShapes Go.WideShapes Go.ChangeAt Go.RowKit

theorem own : ownKnob Tryz.prog.godebug = none := by kernel_rfl

/-- A WORLD FOR THE WITNESS: the settled one, the two listed tables holding what their initialisers lay. -/
noncomputable def laidWorld (os : Os) : World :=
  let w0 := World.holding Tryz.prog os ⟨#[], #[], []⟩
  { w0 with heap := (w0.heap.modify 2 fun
      | .cells _ t frozen => .cells (List.map (Value.int .u8) ([128, 191, 160, 191, 128, 159, 144, 191, 128, 143] ++ List.replicate 22 0)).toArray t frozen
      | o => o).modify 1 fun
      | .cells _ t frozen => .cells (List.map (fun (z : Nat) => Value.int .u8 z) Go.Pinned.utf8FirstZ).toArray t frozen
      | o => o }
set_option maxRecDepth 100000 in
theorem laid_met (os : Os) (args : Array Value) : laidMet Tryz.prog [("unicode/utf8.acceptRanges", Rows.laid_unicode_utf8_acceptRanges), ("unicode/utf8.first", Rows.laid_unicode_utf8_first)] ((laidWorld os).forCall (fun _ _ => 0) ⟨#[], args, []⟩).memory :=
  laidMet_of_run' 8 (by kernel_rfl) (by kernel_rfl)
end Go.Proofs.YthnlafhnpphdhaaGreatDoor
set_option linter.unusedVariables false
namespace Go.Proofs.YthnlafhnpphdhaaGreatDoor.planeVectors
open Go Go.ChangeShapes Go.WideShapes Go.ChangeAt Go.RowKit Go.Via

theorem big {n : Nat} (h : n ≤ reachBytes) : n ≤ BIG := Nat.le_trans h (by decide)

set_option maxRecDepth 20000 in
theorem contract (H : Type) (enc : TypeId × Value → H) (W : World) (base : Nat) (args : Array Value) (ds gs : List (DataW H)) (before : List MemPlace)
    (hval : ∀ (j : Nat) t v, Tryz.f3.params[j]? = some t → args[j]? = some v → Value.okWide Tryz.prog W .any base t v)
    (hW : DataW.Whole enc Tryz.prog Tryz.f3.params.toList Rows.planeVectorsSpec.vars false W args.toList ds gs before)
    (hsz : (DataW.weightsEach Tryz.prog (Tryz.f3.params.toList ++ (OpenSpec.ofChange Rows.planeVectorsSpec).bare.plain.varTypes Tryz.prog) (ds ++ gs)).all (· ≤ reachBytes) = true) :
    Calls Tryz.prog 3 args W fun e W' => ∃ v, e = .returned v ∧ Rows.planeVectorsSpec.post enc Tryz.prog Tryz.f3 false true false false W args v W' := by
  have hW' := hW
  obtain ⟨p, q, hA0, hV, rfl, hfz, hnd⟩ := hW
  have hA : DataW.TrodAll enc Tryz.prog W 0 (fun _ => true) true Tryz.f3.params.toList args.toList ds p := hA0
  rw [Tryz.params3] at hA hval
  obtain ⟨v0, vs0, d0, ds0, p0, q0, hargs, rfl, rfl, h0, r0⟩ := trodAll_cons hA
  obtain ⟨v1, vs1, d1, ds1, p1, q1, rfl, rfl, rfl, h1, r1⟩ := trodAll_cons r0
  obtain ⟨v2, vs2, d2, ds2, p2, q2, rfl, rfl, rfl, h2, r2⟩ := trodAll_cons r1
  obtain ⟨rfl, rfl, rfl⟩ := trodAll_nil r2
  obtain rfl : args = #[v0, v1, v2] := by cases args; simp_all
  obtain ⟨rfl, rfl⟩ := trodVars_none hV
  obtain ⟨a, rfl, rfl, rfl, s0⟩ := openP (hval 0 27 v0 rfl rfl) h0
  obtain ⟨b, rfl, rfl, rfl, s1⟩ := openP (hval 1 27 v1 rfl rfl) h1
  obtain ⟨c1, t1, c2, t2, rfl, rfl, rfl, s2⟩ := openQ (hval 2 25 v2 rfl rfl) h2
  clear hA0
  simp only [List.append_nil] at hW'
  have hz : ([a.s1.size, a.s2.size, a.s3.size, a.s4.size] ++ ([b.s1.size, b.s2.size, b.s3.size, b.s4.size] ++ ([t1.size, t2.size] ++ []))).all (· ≤ reachBytes) = true := by
    have h : (DataW.weightsEach Tryz.prog [27, 27, 25] [(dP a : DataW H), dP b, dQ c1 t1 c2 t2]).all (· ≤ reachBytes) = true := hsz
    rw [DataW.weightsEach, DataW.weightsEach, DataW.weightsEach, DataW.weightsEach, wP, wP, wQ] at h
    · exact h
    all_goals (intros; simp_all)
  simp only [List.all_append, List.all_cons, List.all_nil, Bool.and_true, Bool.and_eq_true, decide_eq_true_eq] at hz
  obtain ⟨⟨a1, a2, a3, a4⟩, ⟨b1, b2, b3, b4⟩, e1, e2⟩ := hz
  have walk := (c_PlaneVectors a.a1 a.s1 a.a2 a.s2 a.a3 a.s3 a.a4 a.s4 b.a1 b.s1 b.a2 b.s2 b.a3 b.s3 b.a4 b.s4 c1 t1 c2 t2 ⟨big a1, big a2, big a3, big a4⟩ ⟨big b1, big b2, big b3, big b4⟩ ⟨big e1, big e2⟩).2 W
  refine walk.mono fun e W' ⟨he, hg⟩ => ?_
  subst he
  exact ⟨_, rfl, post_plain rfl hW' (fun _ _ _ => trodAll_cons_mk (shut_bool Tryz.underlying4 _) trodAll_mk0)
    (fun _ => trodAll_cons_mk (s0 _ _ _ _) (trodAll_cons_mk (s1 _ _ _ _) (trodAll_cons_mk (s2 _ _ _ _) trodAll_mk0))) rfl hg (ok_one (by kernel_rfl) rfl (okWide_bool_mk Tryz.underlying4 _))⟩

abbrev wit : Array Value := #[.agg #[.bool false, .string ⟨#[]⟩, .bool false, .string ⟨#[]⟩, .bool false, .string ⟨#[]⟩, .bool false, .string ⟨#[]⟩], .agg #[.bool false, .string ⟨#[]⟩, .bool false, .string ⟨#[]⟩, .bool false, .string ⟨#[]⟩, .bool false, .string ⟨#[]⟩], .agg #[.bool false, .string ⟨#[]⟩, .bool false, .string ⟨#[]⟩]]
abbrev wi {H : Type} : DataW H := .agg [.lit (.bool false), .lit (.string [])]
abbrev wq {H : Type} : DataW H := .agg [wi, wi]
theorem reads (os : Os) {H : Type} (enc : TypeId × Value → H) : ∃ places, DataW.whole enc Tryz.prog ((laidWorld os).forCall (fun _ _ => 0) ⟨#[], wit, []⟩).memory Tryz.f3.params.toList Rows.planeVectorsSpec.vars false wit.toList 8 = some ([.agg [wq, wq], .agg [wq, wq], wq], [], places) :=
  ⟨[], by kernel_rfl⟩

set_option maxRecDepth 100000 in
theorem lifted (os : Os) (started : os.Started) (H : Type) (enc : TypeId × Value → H) (F : Stop.Interp) :
    ReturnsInHanded {} Tryz.checked os 3 .any ((OpenSpec.ofChange Rows.planeVectorsSpec).preRow enc Tryz.prog Tryz.f3 Rows.planeVectorsRow.domain false Rows.planeVectorsRow.laid) (((OpenSpec.ofChange Rows.planeVectorsSpec).at F).post enc Tryz.prog Tryz.f3 false true false false) := by
  obtain ⟨places, hx⟩ := reads os enc
  refine returnsInHanded_of_row (C := Tryz.checked) (s := OpenSpec.ofChange Rows.planeVectorsSpec) own started (by kernel_rfl) Tryz.func3
    (witness_row_at (enc := enc) (C := Tryz.checked) false (laidWorld os) wit rfl (by kernel_rfl) (by kernel_rfl) (by kernel_rfl)
      (OpenSpec.preRow_of_cond 8 hx (by kernel_rfl) (fun k hk => by cases hk) (by kernel_rfl) (laid_met os _))) ?_
  intro W base args ds gs before hval hW _ _ hsz hL _ _
  exact contract H enc W base args ds gs before hval hW hsz

theorem said : Rows.PlaneVectorsSaid :=
  OpenClaim.holds_of_cond 3 Tryz.f3 rfl rfl rfl rfl rfl rfl rfl ⟨rfl, rfl, rfl, rfl, rfl⟩ rfl rfl rfl rfl rfl (by kernel_rfl) Tryz.func3 (by kernel_rfl)
    (of_decide_eq_true (by kernel_rfl)) (by unfold Func.isWrapper; first | (rw [if_pos (by decide +kernel)]; kernel_rfl) | (rw [if_neg (by decide +kernel)]; exact ⟨rfl, rfl⟩))
    (fun os started H enc _ F => by rw [OpenClaim.pre_eq_preRow]; exact lifted os started H enc F)

/-- No parameter wants a stand-in; the program's own looks are off. -/
theorem plain (f : FuncId) (fn : Func) (hf : Tryz.pinned.checked.prog.funcNamed "viator/viatorlaw07.PlaneVectors" = some f) (hfn : Tryz.pinned.checked.prog.funcs[f]? = some fn) :
    false = Tryz.pinned.checked.prog.looks [] ∧ ∀ (j : Nat) t, fn.params[j]? = some t → Tryz.pinned.checked.prog.wantsStandIn t = false := by
  obtain rfl : f = 3 := Option.some.inj ((show Tryz.prog.funcNamed "viator/viatorlaw07.PlaneVectors" = some 3 by kernel_rfl).symm.trans hf) |>.symm
  obtain rfl : fn = Tryz.f3 := (Option.some.inj (Tryz.func3.symm.trans hfn)).symm
  refine ⟨by kernel_rfl, fun j t ht => ?_⟩
  rw [Tryz.params3] at ht
  have : t = 27 ∨ t = 27 ∨ t = 25 := by simpa using Array.mem_of_getElem? ht
  rcases this with rfl | rfl | rfl
  · exact (show Tryz.prog.wantsStandIn 27 = false by kernel_rfl)
  · exact (show Tryz.prog.wantsStandIn 27 = false by kernel_rfl)
  · exact (show Tryz.prog.wantsStandIn 25 = false by kernel_rfl)

/-- ████ THE CARD ████ -/
theorem card : Rows.PlaneVectorsCardSaid :=
  Claim7.holds_tied_plain_at .later [] _ _ _ _ said (fun _ h => by cases h) (by kernel_rfl) (fun _ h => by cases h) planeVectors_row_tie rfl ⟨rfl, rfl⟩ (by kernel_rfl) rfl plain (by kernel_rfl)
end Go.Proofs.YthnlafhnpphdhaaGreatDoor.planeVectors
namespace Go.Proofs.YthnlafhnpphdhaaGreatDoor
/-- the card -/
theorem planeVectors_holds : Rows.PlaneVectorsCardSaid := planeVectors.card
end Go.Proofs.YthnlafhnpphdhaaGreatDoor
