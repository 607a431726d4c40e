/-
  For any two segments with small canonical points, Meet returns what they have in common, in both orders and for both orders of the ends of the first one. No further conditions.
-/
import Derived.Test.YthnlafhnpphdhaaGreatDoorA08
import Derived.Test.YthnlafhnpphdhaaGreatDoorA10
import Derived.Test.YthnlafhnpphdhaaGreatDoorA11
set_option linter.unusedVariables false
set_option linter.unusedVariables false
namespace Go.Proofs.YthnlafhnpphdhaaGreatDoor
open Go Go.RowKit Go.Via
set_option maxRecDepth 20000 in
theorem c_ref07_Meet (s t : S2) (hs : szS s ≤ 1000) (ht : szS t ≤ 1000) : PCall Tryz.prog 26 #[Sg s, Sg t] (.tuple #[.int .i64 (meetP s t).1, Sg (meetP s t).2]) := by
  have hcl4 : (commonR s t).length ≤ 4 := comN_len s t 4
  refine ⟨by kernel_rfl, fun w => ?_⟩
  refine calls_at (args := [Sg s, Sg t]) Tryz.func26 rfl (Nat.le_of_ble_eq_true rfl) (LRel.nil w) ?_
  show At w ⟨77, [(0, Sg s), (1, Sg t)], []⟩ _
  refine at_seq ?_
  refine at_region ?_
  refine r_box [_, _, _, _, _, _, _, _, _, _, _, _, _, _, _, _] 16 (fun g => [⟨some g, 36, _, 16, true⟩]) rfl rfl rfl rfl rfl (fun _ => rfl) (fun g0 => ?_)
  refine r_box [_, _, _, _, _, _, _, _, _, _, _, _, _, _, _, _] 16 (fun g => [_, ⟨some g, 36, _, 16, true⟩]) rfl rfl rfl rfl rfl (fun _ => rfl) (fun g1 => ?_)
  refine r_assign rfl rfl rfl ?_
  refine r_alloc [_, _, _, _, _, _, _, _, _, _, _, _, _, _, _, _] 16 (fun g => [_, _, ⟨some g, 36, _, 16, true⟩]) rfl rfl z36 rfl rfl (fun _ => rfl) (fun g2 => ?_)
  refine run_nil ?_
  refine at_tn ?_
  refine at_seq ?_
  refine at_region ?_
  refine r_load 0 0 [_, _, _, _, _, _, _, _, _, _, _, _, _, _, _, _] rfl rfl rfl rfl ti36 rfl rfl rfl rfl ?_
  refine r_load 1 0 [_, _, _, _, _, _, _, _, _, _, _, _, _, _, _, _] rfl rfl rfl rfl ti36 rfl rfl rfl rfl ?_
  refine r_scall [_, _] [] rfl rfl rfl (c_ref07_common s t hs ht) trivial rfl (.inr (fun z b hb => by rw [List.mem_singleton.1 hb])) (fun z => ?_)
  refine r_assign rfl rfl rfl ?_
  refine run_nil ?_
  refine at_tn ?_
  refine at_seq ?_
  refine at_seq ?_
  refine at_region ?_
  refine r_move rfl rfl rfl ?_
  refine r_lenS u61 rfl rfl rfl ?_
  refine r_cmpInt rfl rfl rfl rfl rfl ?_
  refine run_nil ?_
  refine at_tn ?_
  refine at_cond rfl (fun hb0 => ?_) (fun hb0 => ?_)
  ·
    have hl1 : 1 < (commonR s t).length := (by have := of_decide_eq_true hb0; omega)
    obtain ⟨a, ha⟩ : ∃ a, (commonR s t)[0]? = some a := ⟨_, List.getElem?_eq_getElem (by omega)⟩
    obtain ⟨e, he⟩ : ∃ e, (commonR s t)[(commonR s t).length - 1]? = some e := ⟨_, List.getElem?_eq_getElem (by omega)⟩
    refine at_seq ?_
    refine at_drawn (l' := [⟨_,_,_,_,_,_⟩, ⟨_,_,_,_,_,_⟩, ⟨_,_,_,_,_,_⟩, ⟨_,_,_,_,_,_⟩, ⟨_,_,_,_,_,_⟩, ⟨_,_,_,_,_,_⟩, ⟨_,_,_,_,_,_⟩, ⟨_,_,_,_,_,_⟩, ⟨_,_,_,_,_,_⟩, ⟨_,_,_,_,_,_⟩, ⟨_,_,_,_,_,_⟩, ⟨_,_,_,_,_,_⟩]) [2000000] [0, 1, 2, 3, 4, 5, 6, 7, 8, 9, 10, 11] mixed (by kernel_rfl) rfl (by kernel_rfl) ?_
    refine r_move rfl rfl rfl ?_
    refine r_indexAddr 3 (0 * 8) u61 ti27 rfl rfl rfl rfl rfl (by omega) (by omega) (PLc_ne (by omega)) (by show 0 + Int.toNat _ * 8 = _; omega) ?_
    refine r_load (v := Pt a) 3 (0 * 8) _ rfl rfl rfl rfl ti27 (PLc_get ha) rfl (by decide) rfl ?_
    refine r_move rfl rfl rfl ?_
    refine r_move rfl rfl rfl ?_
    refine r_lenS u61 rfl rfl rfl ?_
    refine r_arith (r := ((((commonR s t).length - 1 : Nat)) : Int)) rfl rfl rfl rfl (congrArg some (wi (by omega) (by omega) (by omega))) ?_
    refine r_indexAddr 3 (((commonR s t).length - 1) * 8) u61 ti27 rfl rfl rfl rfl rfl (by omega) (by omega) (PLc_ne (by omega)) (by show 0 + Int.toNat _ * 8 = _; omega) ?_
    refine r_load (v := Pt e) 3 (((commonR s t).length - 1) * 8) _ rfl rfl rfl rfl ti27 (PLc_get he) rfl (by decide) rfl ?_
    refine r_build [(0, _), (1, _)] rfl rfl rfl (bd36_2) ?_
    refine r_assign rfl rfl rfl ?_
    refine r_store rfl 2 0 [_, _, ⟨some g2, 36, _, 16, true⟩, _] [_, _, _, _, _, _, _, _, _, _, _, _, _, _, _, _] rfl rfl rfl rfl ti36 rfl rfl rfl rfl rfl ?_
    refine run_nil ?_
    refine at_tn ?_
    refine at_ret ?_
    refine at_tr ?_
    refine at_end2 rfl (res_tmp rfl) (res_cell 2 rfl rfl ti36 (vs := [_, _, _, _, _, _, _, _, _, _, _, _, _, _, _, _]) rfl rfl (Nat.le_of_ble_eq_true rfl) rfl) (fun w hL => ⟨?_, hL.below⟩)
    refine congrArg Ending.returned ?_
    rw [← meetR_eq, meetR_gt ha he hl1]; rfl
  ·
    have hl1 : ¬ 1 < (commonR s t).length := (by have := of_decide_eq_false hb0; omega)
    refine at_skip ?_
    refine at_tn ?_
    refine at_seq ?_
    refine at_seq ?_
    refine at_region ?_
    refine r_move rfl rfl rfl ?_
    refine r_lenS u61 rfl rfl rfl ?_
    refine r_cmpInt rfl rfl rfl rfl rfl ?_
    refine run_nil ?_
    refine at_tn ?_
    refine at_cond rfl (fun hb1 => ?_) (fun hb1 => ?_)
    ·
      have hl2 : (commonR s t).length = 1 := by have := eq_of_beq hb1; omega
      obtain ⟨a, ha⟩ : ∃ a, (commonR s t)[0]? = some a := ⟨_, List.getElem?_eq_getElem (by omega)⟩
      refine at_seq ?_
      refine at_drawn (l' := [⟨_,_,_,_,_,_⟩, ⟨_,_,_,_,_,_⟩, ⟨_,_,_,_,_,_⟩, ⟨_,_,_,_,_,_⟩, ⟨_,_,_,_,_,_⟩, ⟨_,_,_,_,_,_⟩, ⟨_,_,_,_,_,_⟩, ⟨_,_,_,_,_,_⟩, ⟨_,_,_,_,_,_⟩]) [2000000] [0, 1, 2, 3, 4, 5, 6, 7, 8] mixed (by kernel_rfl) rfl (by kernel_rfl) ?_
      refine r_move rfl rfl rfl ?_
      refine r_indexAddr 3 (0 * 8) u61 ti27 rfl rfl rfl rfl rfl (by omega) (by omega) (PLc_ne (by omega)) (by show 0 + Int.toNat _ * 8 = _; omega) ?_
      refine r_load (v := Pt a) 3 (0 * 8) _ rfl rfl rfl rfl ti27 (PLc_get ha) rfl (by decide) rfl ?_
      refine r_move rfl rfl rfl ?_
      refine r_indexAddr 3 (0 * 8) u61 ti27 rfl rfl rfl rfl rfl (by omega) (by omega) (PLc_ne (by omega)) (by show 0 + Int.toNat _ * 8 = _; omega) ?_
      refine r_load (v := Pt a) 3 (0 * 8) _ rfl rfl rfl rfl ti27 (PLc_get ha) rfl (by decide) rfl ?_
      refine r_build [(0, _), (1, _)] rfl rfl rfl (bd36_2) ?_
      refine r_assign rfl rfl rfl ?_
      refine r_store rfl 2 0 [_, _, ⟨some g2, 36, _, 16, true⟩, _] [_, _, _, _, _, _, _, _, _, _, _, _, _, _, _, _] rfl rfl rfl rfl ti36 rfl rfl rfl rfl rfl ?_
      refine run_nil ?_
      refine at_tn ?_
      refine at_ret ?_
      refine at_tr ?_
      refine at_end2 rfl (res_tmp rfl) (res_cell 2 rfl rfl ti36 (vs := [_, _, _, _, _, _, _, _, _, _, _, _, _, _, _, _]) rfl rfl (Nat.le_of_ble_eq_true rfl) rfl) (fun w hL => ⟨?_, hL.below⟩)
      refine congrArg Ending.returned ?_
      rw [← meetR_eq, meetR_one ha hl2]; rfl
    ·
      have hl2 : (commonR s t).length = 0 := by have := ne_of_beq_false hb1; omega
      refine at_skip ?_
      refine at_tn ?_
      refine at_seq ?_
      refine at_drawnA (l' := [⟨_,_,_,_,_,_⟩, ⟨_,_,_,_,_,_⟩, ⟨_,_,_,_,_,_⟩, ⟨_,_,_,_,_,_⟩, ⟨_,_,_,_,_,_⟩, ⟨_,_,_,_,_,_⟩, ⟨_,_,_,_,_,_⟩, ⟨_,_,_,_,_,_⟩, ⟨_,_,_,_,_,_⟩, ⟨_,_,_,_,_,_⟩, ⟨_,_,_,_,_,_⟩, ⟨_,_,_,_,_,_⟩, ⟨_,_,_,_,_,_⟩, ⟨_,_,_,_,_,_⟩]) [3000000] [0, 1, 2, 3, 5, 6, 7, 8, 4, 9, 10, 11, 12, 13] mixed (by kernel_rfl) rfl ?_
      refine r_fieldAddr 0 0 8 rfl rfl rfl rfl rfl ti36 rfl rfl ?_
      refine r_load 0 8 [_, _, _, _, _, _, _, _] rfl rfl rfl rfl ti27 rfl rfl rfl rfl ?_
      refine r_fieldAddr 0 0 0 rfl rfl rfl rfl rfl ti36 rfl rfl ?_
      refine r_load 0 0 [_, _, _, _, _, _, _, _] rfl rfl rfl rfl ti27 rfl rfl rfl rfl ?_
      refine r_fieldAddr 1 0 8 rfl rfl rfl rfl rfl ti36 rfl rfl ?_
      refine r_load 1 8 [_, _, _, _, _, _, _, _] rfl rfl rfl rfl ti27 rfl rfl rfl rfl ?_
      refine r_fieldAddr 1 0 0 rfl rfl rfl rfl rfl ti36 rfl rfl ?_
      refine r_load 1 0 [_, _, _, _, _, _, _, _] rfl rfl rfl rfl ti27 rfl rfl rfl rfl ?_
      refine r_pcall [_, _] rfl rfl rfl (c_ref07_Sub s.2 s.1 (szPm (Nat.le_trans (szP1 (szS2 hs)) (Nat.le_of_ble_eq_true rfl)) (Nat.le_trans (szP2 (szS2 hs)) (Nat.le_of_ble_eq_true rfl))) (szPm (Nat.le_trans (szP1 (szS1 hs)) (Nat.le_of_ble_eq_true rfl)) (Nat.le_trans (szP2 (szS1 hs)) (Nat.le_of_ble_eq_true rfl)))) ?_
      refine r_pcall [_, _] rfl rfl rfl (c_ref07_Sub t.2 t.1 (szPm (Nat.le_trans (szP1 (szS2 ht)) (Nat.le_of_ble_eq_true rfl)) (Nat.le_trans (szP2 (szS2 ht)) (Nat.le_of_ble_eq_true rfl))) (szPm (Nat.le_trans (szP1 (szS1 ht)) (Nat.le_of_ble_eq_true rfl)) (Nat.le_trans (szP2 (szS1 ht)) (Nat.le_of_ble_eq_true rfl)))) ?_
      refine r_alloc [_, _, _, _, _, _, _, _] 8 (fun g => [_, _, _, _, ⟨some g, 27, _, 8, true⟩]) rfl rfl z27 rfl rfl (fun _ => rfl) (fun g3 => ?_)
      refine r_alloc [_, _, _, _, _, _, _, _] 8 (fun g => [_, _, _, _, _, ⟨some g, 27, _, 8, true⟩]) rfl rfl z27 rfl rfl (fun _ => rfl) (fun g4 => ?_)
      refine r_store rfl 4 0 [_, _, _, _, ⟨some g3, 27, _, 8, true⟩, _] [_, _, _, _, _, _, _, _] rfl rfl rfl rfl ti27 rfl rfl rfl rfl rfl ?_
      refine r_store rfl 5 0 [_, _, _, _, _, ⟨some g4, 27, _, 8, true⟩] [_, _, _, _, _, _, _, _] rfl rfl rfl rfl ti27 rfl rfl rfl rfl rfl ?_
      refine run_nil ?_
      refine at_tn ?_
      refine at_seq ?_
      refine at_region ?_
      refine r_load 4 0 [_, _, _, _, _, _, _, _] rfl rfl rfl rfl ti27 rfl rfl rfl rfl ?_
      refine r_load 5 0 [_, _, _, _, _, _, _, _] rfl rfl rfl rfl ti27 rfl rfl rfl rfl ?_
      refine r_pcall [_, _] rfl rfl rfl (c_ref07_Product (pSub s.2 s.1) (pSub t.2 t.1) (szPm (Nat.le_trans (szQ_sub (szP1 (szS2 hs)) (szP1 (szS1 hs))) (Nat.le_of_ble_eq_true rfl)) (Nat.le_trans (szQ_sub (szP2 (szS2 hs)) (szP2 (szS1 hs))) (Nat.le_of_ble_eq_true rfl))) (szPm (Nat.le_trans (szQ_sub (szP1 (szS2 ht)) (szP1 (szS1 ht))) (Nat.le_of_ble_eq_true rfl)) (Nat.le_trans (szQ_sub (szP2 (szS2 ht)) (szP2 (szS1 ht))) (Nat.le_of_ble_eq_true rfl)))) ?_
      refine r_alloc [_, _, _, _] 4 (fun g => [_, _, _, _, _, _, ⟨some g, 25, _, 4, true⟩]) rfl rfl z25 rfl rfl (fun _ => rfl) (fun g5 => ?_)
      refine r_store rfl 6 0 [_, _, _, _, _, _, ⟨some g5, 25, _, 4, true⟩] [_, _, _, _] rfl rfl rfl rfl ti25 rfl rfl rfl rfl rfl ?_
      refine run_nil ?_
      refine at_tn ?_
      refine at_seq ?_
      refine at_seq ?_
      refine at_region ?_
      refine r_load 6 0 [_, _, _, _] rfl rfl rfl rfl ti25 rfl rfl rfl rfl ?_
      refine r_pcall [_] rfl rfl rfl (c_ref02_Sign (crs (pSub s.2 s.1) (pSub t.2 t.1))) ?_
      refine r_cmpInt rfl rfl rfl rfl rfl ?_
      refine run_nil ?_
      refine at_tn ?_
      refine at_cond rfl (fun hb2 => ?_) (fun hb2 => ?_)
      ·
        have hD : uv s t = 0 := sgn_z.1 (eq_of_beq hb2)
        refine at_seq ?_
        refine at_region ?_
        refine r_build [] rfl rfl rfl (bd36_0) ?_
        refine r_know 53 (Sg ((0, 0), (0, 0))) rfl Sg_zero ?_
        refine r_assign rfl rfl rfl ?_
        refine r_store rfl 2 0 [_, _, ⟨some g2, 36, _, 16, true⟩, _, _, _, _] [_, _, _, _, _, _, _, _, _, _, _, _, _, _, _, _] rfl rfl rfl rfl ti36 rfl rfl rfl rfl rfl ?_
        refine run_nil ?_
        refine at_tn ?_
        refine at_ret ?_
        refine at_tr ?_
        refine at_end2 rfl (res_tmp rfl) (res_cell 2 rfl rfl ti36 (vs := [_, _, _, _, _, _, _, _, _, _, _, _, _, _, _, _]) rfl rfl (Nat.le_of_ble_eq_true rfl) rfl) (fun w hL => ⟨?_, hL.below⟩)
        refine congrArg Ending.returned ?_
        rw [← meetR_eq, meetR_nil hl2, crossR_0 hD]; rfl
      ·
        have hD : uv s t ≠ 0 := fun e => ne_of_beq_false hb2 (sgn_z.2 e)
        refine at_skip ?_
        refine at_tn ?_
        refine at_seq ?_
        refine at_drawnA (l' := [⟨_,_,_,_,_,_⟩, ⟨_,_,_,_,_,_⟩, ⟨_,_,_,_,_,_⟩, ⟨_,_,_,_,_,_⟩, ⟨_,_,_,_,_,_⟩, ⟨_,_,_,_,_,_⟩, ⟨_,_,_,_,_,_⟩, ⟨_,_,_,_,_,_⟩, ⟨_,_,_,_,_,_⟩, ⟨_,_,_,_,_,_⟩, ⟨_,_,_,_,_,_⟩, ⟨_,_,_,_,_,_⟩, ⟨_,_,_,_,_,_⟩]) [3000000] [0, 1, 2, 3, 4, 6, 8, 5, 7, 9, 10, 11, 12] mixed (by kernel_rfl) rfl ?_
        refine r_load 0 0 [_, _, _, _, _, _, _, _, _, _, _, _, _, _, _, _] rfl rfl rfl rfl ti36 rfl rfl rfl rfl ?_
        refine r_fieldAddr 1 0 0 rfl rfl rfl rfl rfl ti36 rfl rfl ?_
        refine r_load 1 0 [_, _, _, _, _, _, _, _] rfl rfl rfl rfl ti27 rfl rfl rfl rfl ?_
        refine r_fieldAddr 0 0 0 rfl rfl rfl rfl rfl ti36 rfl rfl ?_
        refine r_load 0 0 [_, _, _, _, _, _, _, _] rfl rfl rfl rfl ti27 rfl rfl rfl rfl ?_
        refine r_load 5 0 [_, _, _, _, _, _, _, _] rfl rfl rfl rfl ti27 rfl rfl rfl rfl ?_
        refine r_load 6 0 [_, _, _, _] rfl rfl rfl rfl ti25 rfl rfl rfl rfl ?_
        refine r_pcall [_, _] rfl rfl rfl (c_ref07_Sub t.1 s.1 (szPm (Nat.le_trans (szP1 (szS1 ht)) (Nat.le_of_ble_eq_true rfl)) (Nat.le_trans (szP2 (szS1 ht)) (Nat.le_of_ble_eq_true rfl))) (szPm (Nat.le_trans (szP1 (szS1 hs)) (Nat.le_of_ble_eq_true rfl)) (Nat.le_trans (szP2 (szS1 hs)) (Nat.le_of_ble_eq_true rfl)))) ?_
        refine r_pcall [_, _] rfl rfl rfl (c_ref07_Product (pSub t.1 s.1) (pSub t.2 t.1) (szPm (Nat.le_trans (szQ_sub (szP1 (szS1 ht)) (szP1 (szS1 hs))) (Nat.le_of_ble_eq_true rfl)) (Nat.le_trans (szQ_sub (szP2 (szS1 ht)) (szP2 (szS1 hs))) (Nat.le_of_ble_eq_true rfl))) (szPm (Nat.le_trans (szQ_sub (szP1 (szS2 ht)) (szP1 (szS1 ht))) (Nat.le_of_ble_eq_true rfl)) (Nat.le_trans (szQ_sub (szP2 (szS2 ht)) (szP2 (szS1 ht))) (Nat.le_of_ble_eq_true rfl)))) ?_
        refine r_pcall [_, _] rfl rfl rfl (c_ref02_Div (crs (pSub t.1 s.1) (pSub t.2 t.1)) (crs (pSub s.2 s.1) (pSub t.2 t.1)) hD (Nat.le_trans (szQ_sub (szQ_mul (szQ_sub (szP1 (szS1 ht)) (szP1 (szS1 hs))) (szQ_sub (szP2 (szS2 ht)) (szP2 (szS1 ht)))) (szQ_mul (szQ_sub (szP2 (szS1 ht)) (szP2 (szS1 hs))) (szQ_sub (szP1 (szS2 ht)) (szP1 (szS1 ht))))) (Nat.le_of_ble_eq_true rfl)) (Nat.le_trans (szQ_sub (szQ_mul (szQ_sub (szP1 (szS2 hs)) (szP1 (szS1 hs))) (szQ_sub (szP2 (szS2 ht)) (szP2 (szS1 ht)))) (szQ_mul (szQ_sub (szP2 (szS2 hs)) (szP2 (szS1 hs))) (szQ_sub (szP1 (szS2 ht)) (szP1 (szS1 ht))))) (Nat.le_of_ble_eq_true rfl))) ?_
        refine r_pcall [_, _] rfl rfl rfl (c_ref07_Divide s ((crs (pSub t.1 s.1) (pSub t.2 t.1)) / (crs (pSub s.2 s.1) (pSub t.2 t.1))) (szSm (szPm (Nat.le_trans (szP1 (szS1 hs)) (Nat.le_of_ble_eq_true rfl)) (Nat.le_trans (szP2 (szS1 hs)) (Nat.le_of_ble_eq_true rfl))) (szPm (Nat.le_trans (szP1 (szS2 hs)) (Nat.le_of_ble_eq_true rfl)) (Nat.le_trans (szP2 (szS2 hs)) (Nat.le_of_ble_eq_true rfl)))) (Nat.le_trans (szQ_div (szQ_sub (szQ_mul (szQ_sub (szP1 (szS1 ht)) (szP1 (szS1 hs))) (szQ_sub (szP2 (szS2 ht)) (szP2 (szS1 ht)))) (szQ_mul (szQ_sub (szP2 (szS1 ht)) (szP2 (szS1 hs))) (szQ_sub (szP1 (szS2 ht)) (szP1 (szS1 ht))))) (szQ_sub (szQ_mul (szQ_sub (szP1 (szS2 hs)) (szP1 (szS1 hs))) (szQ_sub (szP2 (szS2 ht)) (szP2 (szS1 ht)))) (szQ_mul (szQ_sub (szP2 (szS2 hs)) (szP2 (szS1 hs))) (szQ_sub (szP1 (szS2 ht)) (szP1 (szS1 ht)))))) (Nat.le_of_ble_eq_true rfl))) ?_
        refine r_alloc [_, _, _, _, _, _, _, _] 8 (fun g => [_, _, _, _, _, _, _, ⟨some g, 27, _, 8, true⟩]) rfl rfl z27 rfl rfl (fun _ => rfl) (fun g6 => ?_)
        refine r_store rfl 7 0 [_, _, _, _, _, _, _, ⟨some g6, 27, _, 8, true⟩] [_, _, _, _, _, _, _, _] rfl rfl rfl rfl ti27 rfl rfl rfl rfl rfl ?_
        refine run_nil ?_
        refine at_tn ?_
        refine at_seq ?_
        refine at_seq ?_
        refine at_region ?_
        refine r_load 7 0 [_, _, _, _, _, _, _, _] rfl rfl rfl rfl ti27 rfl rfl rfl rfl ?_
        refine r_load 0 0 [_, _, _, _, _, _, _, _, _, _, _, _, _, _, _, _] rfl rfl rfl rfl ti36 rfl rfl rfl rfl ?_
        refine r_pcall [_, _] rfl rfl rfl (c_ref07_OnSegment (divP s ((crs (pSub t.1 s.1) (pSub t.2 t.1)) / (crs (pSub s.2 s.1) (pSub t.2 t.1)))) s (szPm (Nat.le_trans (szQ_add (szP1 (szS1 hs)) (szQ_mul (szQ_sub (szP1 (szS2 hs)) (szP1 (szS1 hs))) (szQ_div (szQ_sub (szQ_mul (szQ_sub (szP1 (szS1 ht)) (szP1 (szS1 hs))) (szQ_sub (szP2 (szS2 ht)) (szP2 (szS1 ht)))) (szQ_mul (szQ_sub (szP2 (szS1 ht)) (szP2 (szS1 hs))) (szQ_sub (szP1 (szS2 ht)) (szP1 (szS1 ht))))) (szQ_sub (szQ_mul (szQ_sub (szP1 (szS2 hs)) (szP1 (szS1 hs))) (szQ_sub (szP2 (szS2 ht)) (szP2 (szS1 ht)))) (szQ_mul (szQ_sub (szP2 (szS2 hs)) (szP2 (szS1 hs))) (szQ_sub (szP1 (szS2 ht)) (szP1 (szS1 ht)))))))) (Nat.le_of_ble_eq_true rfl)) (Nat.le_trans (szQ_add (szP2 (szS1 hs)) (szQ_mul (szQ_sub (szP2 (szS2 hs)) (szP2 (szS1 hs))) (szQ_div (szQ_sub (szQ_mul (szQ_sub (szP1 (szS1 ht)) (szP1 (szS1 hs))) (szQ_sub (szP2 (szS2 ht)) (szP2 (szS1 ht)))) (szQ_mul (szQ_sub (szP2 (szS1 ht)) (szP2 (szS1 hs))) (szQ_sub (szP1 (szS2 ht)) (szP1 (szS1 ht))))) (szQ_sub (szQ_mul (szQ_sub (szP1 (szS2 hs)) (szP1 (szS1 hs))) (szQ_sub (szP2 (szS2 ht)) (szP2 (szS1 ht)))) (szQ_mul (szQ_sub (szP2 (szS2 hs)) (szP2 (szS1 hs))) (szQ_sub (szP1 (szS2 ht)) (szP1 (szS1 ht)))))))) (Nat.le_of_ble_eq_true rfl))) (szSm (szPm (Nat.le_trans (szP1 (szS1 hs)) (Nat.le_of_ble_eq_true rfl)) (Nat.le_trans (szP2 (szS1 hs)) (Nat.le_of_ble_eq_true rfl))) (szPm (Nat.le_trans (szP1 (szS2 hs)) (Nat.le_of_ble_eq_true rfl)) (Nat.le_trans (szP2 (szS2 hs)) (Nat.le_of_ble_eq_true rfl))))) ?_
        refine r_move rfl rfl rfl ?_
        refine r_split 68 rfl (fun hb3 => ?_) (fun hb3 => ?_)
        ·
          have hy1 : onR (divP s (wv s t / uv s t)) s := by have := hb3; exact of_decide_eq_true this
          refine r_load 7 0 [_, _, _, _, _, _, _, _] rfl rfl rfl rfl ti27 rfl rfl rfl rfl ?_
          refine r_load 1 0 [_, _, _, _, _, _, _, _, _, _, _, _, _, _, _, _] rfl rfl rfl rfl ti36 rfl rfl rfl rfl ?_
          refine r_pcall [_, _] rfl rfl rfl (c_ref07_OnSegment (divP s ((crs (pSub t.1 s.1) (pSub t.2 t.1)) / (crs (pSub s.2 s.1) (pSub t.2 t.1)))) t (szPm (Nat.le_trans (szQ_add (szP1 (szS1 hs)) (szQ_mul (szQ_sub (szP1 (szS2 hs)) (szP1 (szS1 hs))) (szQ_div (szQ_sub (szQ_mul (szQ_sub (szP1 (szS1 ht)) (szP1 (szS1 hs))) (szQ_sub (szP2 (szS2 ht)) (szP2 (szS1 ht)))) (szQ_mul (szQ_sub (szP2 (szS1 ht)) (szP2 (szS1 hs))) (szQ_sub (szP1 (szS2 ht)) (szP1 (szS1 ht))))) (szQ_sub (szQ_mul (szQ_sub (szP1 (szS2 hs)) (szP1 (szS1 hs))) (szQ_sub (szP2 (szS2 ht)) (szP2 (szS1 ht)))) (szQ_mul (szQ_sub (szP2 (szS2 hs)) (szP2 (szS1 hs))) (szQ_sub (szP1 (szS2 ht)) (szP1 (szS1 ht)))))))) (Nat.le_of_ble_eq_true rfl)) (Nat.le_trans (szQ_add (szP2 (szS1 hs)) (szQ_mul (szQ_sub (szP2 (szS2 hs)) (szP2 (szS1 hs))) (szQ_div (szQ_sub (szQ_mul (szQ_sub (szP1 (szS1 ht)) (szP1 (szS1 hs))) (szQ_sub (szP2 (szS2 ht)) (szP2 (szS1 ht)))) (szQ_mul (szQ_sub (szP2 (szS1 ht)) (szP2 (szS1 hs))) (szQ_sub (szP1 (szS2 ht)) (szP1 (szS1 ht))))) (szQ_sub (szQ_mul (szQ_sub (szP1 (szS2 hs)) (szP1 (szS1 hs))) (szQ_sub (szP2 (szS2 ht)) (szP2 (szS1 ht)))) (szQ_mul (szQ_sub (szP2 (szS2 hs)) (szP2 (szS1 hs))) (szQ_sub (szP1 (szS2 ht)) (szP1 (szS1 ht)))))))) (Nat.le_of_ble_eq_true rfl))) (szSm (szPm (Nat.le_trans (szP1 (szS1 ht)) (Nat.le_of_ble_eq_true rfl)) (Nat.le_trans (szP2 (szS1 ht)) (Nat.le_of_ble_eq_true rfl))) (szPm (Nat.le_trans (szP1 (szS2 ht)) (Nat.le_of_ble_eq_true rfl)) (Nat.le_trans (szP2 (szS2 ht)) (Nat.le_of_ble_eq_true rfl))))) ?_
          refine r_pickT rfl rfl rfl rfl ?_
          refine run_nil ?_
          refine at_tn ?_
          refine at_cond rfl (fun hb4 => ?_) (fun hb4 => ?_)
          ·
            have hy2 : onR (divP s (wv s t / uv s t)) t := of_decide_eq_true hb4
            refine at_seq ?_
            refine at_drawn (l' := [⟨_,_,_,_,_,_⟩, ⟨_,_,_,_,_,_⟩, ⟨_,_,_,_,_,_⟩, ⟨_,_,_,_,_,_⟩, ⟨_,_,_,_,_,_⟩]) [2000000] [0, 1, 2, 3, 4] mixed (by kernel_rfl) rfl (by kernel_rfl) ?_
            refine r_load 7 0 [_, _, _, _, _, _, _, _] rfl rfl rfl rfl ti27 rfl rfl rfl rfl ?_
            refine r_load 7 0 [_, _, _, _, _, _, _, _] rfl rfl rfl rfl ti27 rfl rfl rfl rfl ?_
            refine r_build [(0, _), (1, _)] rfl rfl rfl (bd36_2) ?_
            refine r_assign rfl rfl rfl ?_
            refine r_store rfl 2 0 [_, _, ⟨some g2, 36, _, 16, true⟩, _, _, _, _, _] [_, _, _, _, _, _, _, _, _, _, _, _, _, _, _, _] rfl rfl rfl rfl ti36 rfl rfl rfl rfl rfl ?_
            refine run_nil ?_
            refine at_tn ?_
            refine at_ret ?_
            refine at_tr ?_
            refine at_end2 rfl (res_tmp rfl) (res_cell 2 rfl rfl ti36 (vs := [_, _, _, _, _, _, _, _, _, _, _, _, _, _, _, _]) rfl rfl (Nat.le_of_ble_eq_true rfl) rfl) (fun w hL => ⟨?_, hL.below⟩)
            refine congrArg Ending.returned ?_
            rw [← meetR_eq, meetR_nil hl2, crossR_2 hD hy1 hy2]; rfl
          ·
            have hno : ¬ (onR (divP s (wv s t / uv s t)) s ∧ onR (divP s (wv s t / uv s t)) t) := fun c => of_decide_eq_false hb4 c.2
            refine at_skip ?_
            refine at_tn ?_
            refine at_seq ?_
            refine at_region ?_
            refine r_build [] rfl rfl rfl (bd36_0) ?_
            refine r_know 76 (Sg ((0, 0), (0, 0))) rfl Sg_zero ?_
            refine r_assign rfl rfl rfl ?_
            refine r_store rfl 2 0 [_, _, ⟨some g2, 36, _, 16, true⟩, _, _, _, _, _] [_, _, _, _, _, _, _, _, _, _, _, _, _, _, _, _] rfl rfl rfl rfl ti36 rfl rfl rfl rfl rfl ?_
            refine run_nil ?_
            refine at_tn ?_
            refine at_ret ?_
            refine at_end2 rfl (res_tmp rfl) (res_cell 2 rfl rfl ti36 (vs := [_, _, _, _, _, _, _, _, _, _, _, _, _, _, _, _]) rfl rfl (Nat.le_of_ble_eq_true rfl) rfl) (fun w hL => ⟨?_, hL.below⟩)
            refine congrArg Ending.returned ?_
            rw [← meetR_eq, meetR_nil hl2, crossR_1 hD hno]; rfl
        ·
          have hno : ¬ (onR (divP s (wv s t / uv s t)) s ∧ onR (divP s (wv s t / uv s t)) t) := fun c => of_decide_eq_false hb3 c.1
          refine r_no rfl rfl rfl ?_
          refine r_no rfl rfl rfl ?_
          refine r_no rfl rfl rfl ?_
          refine r_pickF rfl rfl rfl rfl ?_
          refine run_nil ?_
          refine at_tn ?_
          refine at_condF rfl ?_
          refine at_skip ?_
          refine at_tn ?_
          refine at_seq ?_
          refine at_region ?_
          refine r_build [] rfl rfl rfl (bd36_0) ?_
          refine r_know 76 (Sg ((0, 0), (0, 0))) rfl Sg_zero ?_
          refine r_assign rfl rfl rfl ?_
          refine r_store rfl 2 0 [_, _, ⟨some g2, 36, _, 16, true⟩, _, _, _, _, _] [_, _, _, _, _, _, _, _, _, _, _, _, _, _, _, _] rfl rfl rfl rfl ti36 rfl rfl rfl rfl rfl ?_
          refine run_nil ?_
          refine at_tn ?_
          refine at_ret ?_
          refine at_end2 rfl (res_tmp rfl) (res_cell 2 rfl rfl ti36 (vs := [_, _, _, _, _, _, _, _, _, _, _, _, _, _, _, _]) rfl rfl (Nat.le_of_ble_eq_true rfl) rfl) (fun w hL => ⟨?_, hL.below⟩)
          refine congrArg Ending.returned ?_
          rw [← meetR_eq, meetR_nil hl2, crossR_1 hD hno]; rfl
end Go.Proofs.YthnlafhnpphdhaaGreatDoor
set_option linter.unusedVariables false
set_option linter.unusedSimpArgs false
namespace Go.Proofs.YthnlafhnpphdhaaGreatDoor
open Go Go.RowKit Go.Via
theorem eq36d (d : Nat) (p q : (Rat × Rat) × (Rat × Rat)) (w : World) : (Op.equalIn (d + 5) 36 (Sg p) (Sg q)).run Tryz.prog w = .ok (decide (p = q)) w := by
  have e : decide (p = q) = (decide (p.1 = q.1) && (decide (p.2 = q.2) && true)) := by
    rw [Bool.eq_iff_iff]; simp [Prod.ext_iff]
  rw [e]
  have hf : ∃ f1 f2 : Field, (Tryz.prog.fieldsOf 36).toList = [f1, f2] ∧ f1.name ≠ "_" ∧ f2.name ≠ "_" ∧ f1.type = 27 ∧ f2.type = 27 ∧ f1.offset = 0 ∧ f2.offset = 8 := ⟨⟨"A", 27, 0, false, "", "", 0⟩, ⟨"B", 27, 8, false, "", "", 96⟩, by kernel_rfl, by decide, by decide, rfl, rfl, rfl, rfl⟩
  obtain ⟨f1, f2, h0, h1, h2, h3, h4, h5, h6⟩ := hf
  unfold Sg
  rw [run_equalIn_struct w (d + 4) 36 _ _ (by kernel_rfl) (by kernel_rfl), h0]
  have ti27 : (Tryz.prog.info? 27).map (·.size) = some 8 := by kernel_rfl
  have ia : (isAgg 27).run Tryz.prog w = .ok true w := by kernel_rfl
  have so : (sizeOf 27).run Tryz.prog w = .ok 8 w := by kernel_rfl
  refine eqPart (T := 27) h1 (x := Pt p.1) (y := Pt q.1) ?_ ?_ ?_ (eqPart (T := 27) h2 (x := Pt p.2) (y := Pt q.2) ?_ ?_ ?_ rfl)
  · rw [h3, h5]; simp [part, ia, so]; rfl
  · rw [h3, h5]; simp [part, ia, so]; rfl
  · rw [h3]; exact eq27d d _ _ w
  · rw [h4, h6]; simp [part, ia, so]; rfl
  · rw [h4, h6]; simp [part, ia, so]; rfl
  · rw [h4]; exact eq27d d _ _ w
theorem eq40 (m n : Int × S2) (w : World) : (Op.equalIn 10000 40 (Mt m) (Mt n)).run Tryz.prog w = .ok (decide (m = n)) w := by
  have e : decide (m = n) = ((m.1 == n.1) && (decide (m.2 = n.2) && true)) := by
    rw [Bool.eq_iff_iff]; simp [Prod.ext_iff]
  rw [e]
  have hf : ∃ f1 f2 : Field, (Tryz.prog.fieldsOf 40).toList = [f1, f2] ∧ f1.name ≠ "_" ∧ f2.name ≠ "_" ∧ f1.type = 3 ∧ f2.type = 36 ∧ f1.offset = 0 ∧ f2.offset = 1 := ⟨⟨"Kind", 3, 0, false, "", "", 0⟩, ⟨"Common", 36, 1, false, "", "", 8⟩, by kernel_rfl, by decide, by decide, rfl, rfl, rfl, rfl⟩
  obtain ⟨f1, f2, h0, h1, h2, h3, h4, h5, h6⟩ := hf
  unfold Mt
  rw [run_equalIn_struct w 9999 40 _ _ (by kernel_rfl) (by kernel_rfl), h0]
  have ia3 : (isAgg 3).run Tryz.prog w = .ok false w := by kernel_rfl
  have ia : (isAgg 36).run Tryz.prog w = .ok true w := by kernel_rfl
  have so : (sizeOf 36).run Tryz.prog w = .ok 16 w := by kernel_rfl
  refine eqPart (T := 3) h1 (x := .int .i64 m.1) (y := .int .i64 n.1) ?_ ?_ ?_ (eqPart (T := 36) h2 (x := Sg m.2) (y := Sg n.2) ?_ ?_ ?_ rfl)
  · rw [h3, h5]; simp [part, ia3]
  · rw [h3, h5]; simp [part, ia3]
  · rw [h3]; simp [go_sem]
  · rw [h4, h6]; simp [part, ia, so]; rfl
  · rw [h4, h6]; simp [part, ia, so]; rfl
  · rw [h4]; exact eq36d 9994 _ _ w
end Go.Proofs.YthnlafhnpphdhaaGreatDoor
set_option linter.unusedVariables false
namespace Go.Proofs.YthnlafhnpphdhaaGreatDoor
open Go Go.RowKit Go.Via
set_option maxRecDepth 20000 in
theorem c_PlaneMeets (ab1 : Bool) (as1 : ByteArray) (ab2 : Bool) (as2 : ByteArray) (ab3 : Bool) (as3 : ByteArray) (ab4 : Bool) (as4 : ByteArray) (bb1 : Bool) (bs1 : ByteArray) (bb2 : Bool) (bs2 : ByteArray) (bb3 : Bool) (bs3 : ByteArray) (bb4 : Bool) (bs4 : ByteArray) (cb1 : Bool) (cs1 : ByteArray) (cb2 : Bool) (cs2 : ByteArray) (cb3 : Bool) (cs3 : ByteArray) (cb4 : Bool) (cs4 : ByteArray) (db1 : Bool) (ds1 : ByteArray) (db2 : Bool) (ds2 : ByteArray) (db3 : Bool) (ds3 : ByteArray) (db4 : Bool) (ds4 : ByteArray) (hza : szR ⟨ab1, as1, ab2, as2, ab3, as3, ab4, as4⟩) (hzb : szR ⟨bb1, bs1, bb2, bs2, bb3, bs3, bb4, bs4⟩) (hzc : szR ⟨cb1, cs1, cb2, cs2, cb3, cs3, cb4, cs4⟩) (hzd : szR ⟨db1, ds1, db2, ds2, db3, ds3, db4, ds4⟩) : PCall Tryz.prog 4 #[.agg #[.bool ab1, .string as1, .bool ab2, .string as2, .bool ab3, .string as3, .bool ab4, .string as4, .bool bb1, .string bs1, .bool bb2, .string bs2, .bool bb3, .string bs3, .bool bb4, .string bs4], .agg #[.bool cb1, .string cs1, .bool cb2, .string cs2, .bool cb3, .string cs3, .bool cb4, .string cs4, .bool db1, .string ds1, .bool db2, .string ds2, .bool db3, .string ds3, .bool db4, .string ds4]] (.bool true) := by
  refine ⟨by kernel_rfl, fun w => ?_⟩
  refine calls_at (args := [.agg #[.bool ab1, .string as1, .bool ab2, .string as2, .bool ab3, .string as3, .bool ab4, .string as4, .bool bb1, .string bs1, .bool bb2, .string bs2, .bool bb3, .string bs3, .bool bb4, .string bs4], .agg #[.bool cb1, .string cs1, .bool cb2, .string cs2, .bool cb3, .string cs3, .bool cb4, .string cs4, .bool db1, .string ds1, .bool db2, .string ds2, .bool db3, .string ds3, .bool db4, .string ds4]]) Tryz.func4 rfl (Nat.le_of_ble_eq_true rfl) (LRel.nil w) ?_
  show At w ⟨58, [(0, .agg #[.bool ab1, .string as1, .bool ab2, .string as2, .bool ab3, .string as3, .bool ab4, .string as4, .bool bb1, .string bs1, .bool bb2, .string bs2, .bool bb3, .string bs3, .bool bb4, .string bs4]), (1, .agg #[.bool cb1, .string cs1, .bool cb2, .string cs2, .bool cb3, .string cs3, .bool cb4, .string cs4, .bool db1, .string ds1, .bool db2, .string ds2, .bool db3, .string ds3, .bool db4, .string ds4])], []⟩ _
  refine at_seq ?_
  refine at_region ?_
  refine r_box [_, _, _, _, _, _, _, _, _, _, _, _, _, _, _, _] 16 (fun g => [⟨some g, 36, _, 16, true⟩]) rfl rfl rfl rfl rfl (fun _ => rfl) (fun g0 => ?_)
  refine r_box [_, _, _, _, _, _, _, _, _, _, _, _, _, _, _, _] 16 (fun g => [_, ⟨some g, 36, _, 16, true⟩]) rfl rfl rfl rfl rfl (fun _ => rfl) (fun g1 => ?_)
  refine r_assign rfl rfl rfl ?_
  refine run_nil ?_
  refine at_tn ?_
  refine at_seq ?_
  refine at_seq ?_
  refine at_region ?_
  refine r_pcall [] rfl rfl rfl (c_law_known) ?_
  refine r_not rfl rfl rfl ?_
  refine r_move rfl rfl rfl ?_
  refine r_fieldAddr 0 0 0 rfl rfl rfl rfl rfl ti36 rfl rfl ?_
  refine r_load 0 0 [_, _, _, _, _, _, _, _] rfl rfl rfl rfl ti27 rfl rfl rfl rfl ?_
  refine r_fieldAddr 0 0 8 rfl rfl rfl rfl rfl ti36 rfl rfl ?_
  refine r_load 0 8 [_, _, _, _, _, _, _, _] rfl rfl rfl rfl ti27 rfl rfl rfl rfl ?_
  refine r_fieldAddr 1 0 0 rfl rfl rfl rfl rfl ti36 rfl rfl ?_
  refine r_load 1 0 [_, _, _, _, _, _, _, _] rfl rfl rfl rfl ti27 rfl rfl rfl rfl ?_
  refine r_fieldAddr 1 0 8 rfl rfl rfl rfl rfl ti36 rfl rfl ?_
  refine r_load 1 8 [_, _, _, _, _, _, _, _] rfl rfl rfl rfl ti27 rfl rfl rfl rfl ?_
  refine r_buildSlice [(0, _), (1, _), (2, _), (3, _)] (fun g => [_, _, ⟨some g, 27, _, 32, true⟩]) rfl rfl rfl (bs61_4) rfl (fun _ => rfl) (fun g2 => ?_)
  refine r_scall0 [_] [2] rfl rfl rfl (c_law_points [⟨ab1, as1, ab2, as2, ab3, as3, ab4, as4⟩, ⟨bb1, bs1, bb2, bs2, bb3, bs3, bb4, bs4⟩, ⟨cb1, cs1, cb2, cs2, cb3, cs3, cb4, cs4⟩, ⟨db1, ds1, db2, ds2, db3, ds3, db4, ds4⟩] (by simp only [List.forall_mem_cons]; exact ⟨hza, hzb, hzc, hzd, fun _ h => by cases h⟩) (Nat.le_of_ble_eq_true rfl) (some g2) _ _ (Nat.le_refl _)) ⟨⟨_, rfl, le_share⟩, trivial⟩ rfl ?_
  refine r_not rfl rfl rfl ?_
  refine r_pickF rfl rfl rfl rfl ?_
  refine run_nil ?_
  refine at_tn ?_
  refine at_cond rfl (fun hb0 => ?_) (fun hb0 => ?_)
  ·
    refine at_seq ?_
    refine at_region ?_
    refine r_pcall [] rfl rfl rfl (c_law_known) ?_
    refine r_assign rfl rfl rfl ?_
    refine run_nil ?_
    refine at_tn ?_
    refine at_ret ?_
    refine at_tr ?_
    refine at_end1 rfl (res_tmp rfl) (fun w hL => ⟨?_, hL.below⟩)
    exact rfl
  ·
    have hall : [(⟨ab1, as1, ab2, as2, ab3, as3, ab4, as4⟩ : RawP), ⟨bb1, bs1, bb2, bs2, bb3, bs3, bb4, bs4⟩, ⟨cb1, cs1, cb2, cs2, cb3, cs3, cb4, cs4⟩, ⟨db1, ds1, db2, ds2, db3, ds3, db4, ds4⟩].all smallP = true := by simpa using hb0
    simp only [List.all_cons, List.all_nil, Bool.and_true, Bool.and_eq_true] at hall
    obtain ⟨hp_a, hp_b, hp_c, hp_d⟩ := hall
    obtain ⟨a, ⟨⟨hx1, hx2, hx3, hx4⟩, ⟨hy1, hy2, hy3, hy4⟩⟩, hwa⟩ := smallP_q hp_a
    dsimp only at hx1 hx2 hx3 hx4 hy1 hy2 hy3 hy4
    subst hx1; subst hx2; subst hx3; subst hx4; subst hy1; subst hy2; subst hy3; subst hy4
    obtain ⟨b, ⟨⟨hx1, hx2, hx3, hx4⟩, ⟨hy1, hy2, hy3, hy4⟩⟩, hwb⟩ := smallP_q hp_b
    dsimp only at hx1 hx2 hx3 hx4 hy1 hy2 hy3 hy4
    subst hx1; subst hx2; subst hx3; subst hx4; subst hy1; subst hy2; subst hy3; subst hy4
    obtain ⟨c, ⟨⟨hx1, hx2, hx3, hx4⟩, ⟨hy1, hy2, hy3, hy4⟩⟩, hwc⟩ := smallP_q hp_c
    dsimp only at hx1 hx2 hx3 hx4 hy1 hy2 hy3 hy4
    subst hx1; subst hx2; subst hx3; subst hx4; subst hy1; subst hy2; subst hy3; subst hy4
    obtain ⟨d, ⟨⟨hx1, hx2, hx3, hx4⟩, ⟨hy1, hy2, hy3, hy4⟩⟩, hwd⟩ := smallP_q hp_d
    dsimp only at hx1 hx2 hx3 hx4 hy1 hy2 hy3 hy4
    subst hx1; subst hx2; subst hx3; subst hx4; subst hy1; subst hy2; subst hy3; subst hy4
    refine at_skip ?_
    refine at_tn ?_
    refine at_seq ?_
    refine at_region ?_
    refine r_load 0 0 [_, _, _, _, _, _, _, _, _, _, _, _, _, _, _, _] rfl rfl rfl rfl ti36 rfl rfl rfl rfl ?_
    refine r_load 1 0 [_, _, _, _, _, _, _, _, _, _, _, _, _, _, _, _] rfl rfl rfl rfl ti36 rfl rfl rfl rfl ?_
    refine r_pcall [_, _] rfl rfl rfl (c_ref07_Meet (a, b) (c, d) (szSm (szPm (Nat.le_trans (szP1 hwa) (Nat.le_of_ble_eq_true rfl)) (Nat.le_trans (szP2 hwa) (Nat.le_of_ble_eq_true rfl))) (szPm (Nat.le_trans (szP1 hwb) (Nat.le_of_ble_eq_true rfl)) (Nat.le_trans (szP2 hwb) (Nat.le_of_ble_eq_true rfl)))) (szSm (szPm (Nat.le_trans (szP1 hwc) (Nat.le_of_ble_eq_true rfl)) (Nat.le_trans (szP2 hwc) (Nat.le_of_ble_eq_true rfl))) (szPm (Nat.le_trans (szP1 hwd) (Nat.le_of_ble_eq_true rfl)) (Nat.le_trans (szP2 hwd) (Nat.le_of_ble_eq_true rfl))))) ?_
    refine r_move rfl rfl rfl ?_
    refine r_extract (vs := [_, _]) rfl rfl rfl rfl ?_
    refine r_extract (vs := [_, _]) rfl rfl rfl rfl ?_
    refine r_alloc [_, _, _, _, _, _, _, _, _, _, _, _, _, _, _, _] 16 (fun g => [_, _, _, ⟨some g, 36, _, 16, true⟩]) rfl rfl z36 rfl rfl (fun _ => rfl) (fun g3 => ?_)
    refine r_assign rfl rfl rfl ?_
    refine r_store rfl 3 0 [_, _, _, ⟨some g3, 36, _, 16, true⟩] [_, _, _, _, _, _, _, _, _, _, _, _, _, _, _, _] rfl rfl rfl rfl ti36 rfl rfl rfl rfl rfl ?_
    refine run_nil ?_
    refine at_tn ?_
    refine at_seq ?_
    refine at_region ?_
    refine r_move rfl rfl rfl ?_
    refine r_load 3 0 [_, _, _, _, _, _, _, _, _, _, _, _, _, _, _, _] rfl rfl rfl rfl ti36 rfl rfl rfl rfl ?_
    refine r_build [(0, _), (1, _)] rfl rfl rfl (bd40_2) ?_
    refine r_alloc [_, _, _, _, _, _, _, _, _, _, _, _, _, _, _, _, _] 17 (fun g => [_, _, _, _, ⟨some g, 40, _, 17, true⟩]) rfl rfl z40 rfl rfl (fun _ => rfl) (fun g4 => ?_)
    refine r_store rfl 4 0 [_, _, _, _, ⟨some g4, 40, _, 17, true⟩] [_, _, _, _, _, _, _, _, _, _, _, _, _, _, _, _, _] rfl rfl rfl rfl ti40 rfl rfl rfl rfl rfl ?_
    refine run_nil ?_
    refine at_tn ?_
    refine at_seq ?_
    refine at_region ?_
    refine r_fieldAddr 0 0 8 rfl rfl rfl rfl rfl ti36 rfl rfl ?_
    refine r_load 0 8 [_, _, _, _, _, _, _, _] rfl rfl rfl rfl ti27 rfl rfl rfl rfl ?_
    refine r_fieldAddr 0 0 0 rfl rfl rfl rfl rfl ti36 rfl rfl ?_
    refine r_load 0 0 [_, _, _, _, _, _, _, _] rfl rfl rfl rfl ti27 rfl rfl rfl rfl ?_
    refine r_build [(0, _), (1, _)] rfl rfl rfl (bd36_2) ?_
    refine r_alloc [_, _, _, _, _, _, _, _, _, _, _, _, _, _, _, _] 16 (fun g => [_, _, _, _, _, ⟨some g, 36, _, 16, true⟩]) rfl rfl z36 rfl rfl (fun _ => rfl) (fun g5 => ?_)
    refine r_store rfl 5 0 [_, _, _, _, _, ⟨some g5, 36, _, 16, true⟩] [_, _, _, _, _, _, _, _, _, _, _, _, _, _, _, _] rfl rfl rfl rfl ti36 rfl rfl rfl rfl rfl ?_
    refine run_nil ?_
    refine at_tn ?_
    refine at_seq ?_
    refine at_drawn (l' := [⟨_,_,_,_,_,_⟩, ⟨_,_,_,_,_,_⟩, ⟨_,_,_,_,_,_⟩, ⟨_,_,_,_,_,_⟩, ⟨_,_,_,_,_,_⟩, ⟨_,_,_,_,_,_⟩, ⟨_,_,_,_,_,_⟩, ⟨_,_,_,_,_,_⟩, ⟨_,_,_,_,_,_⟩, ⟨_,_,_,_,_,_⟩, ⟨_,_,_,_,_,_⟩, ⟨_,_,_,_,_,_⟩, ⟨_,_,_,_,_,_⟩, ⟨_,_,_,_,_,_⟩, ⟨_,_,_,_,_,_⟩, ⟨_,_,_,_,_,_⟩, ⟨_,_,_,_,_,_⟩, ⟨_,_,_,_,_,_⟩, ⟨_,_,_,_,_,_⟩, ⟨_,_,_,_,_,_⟩]) [] [0, 1, 3, 2, 4, 5, 6, 7, 9, 8, 10, 11, 12, 13, 14, 16, 15, 17, 18, 19] mixed (drawnM [0, 0, 3, 0, 15, 31, 63, 63, 255, 63, 1023, 2047, 4095, 8191, 8191, 32767, 8191, 131071, 262143, 524287] (by kernel_rfl)) rfl (by kernel_rfl) ?_
    refine r_load 0 0 [_, _, _, _, _, _, _, _, _, _, _, _, _, _, _, _] rfl rfl rfl rfl ti36 rfl rfl rfl rfl ?_
    refine r_load 1 0 [_, _, _, _, _, _, _, _, _, _, _, _, _, _, _, _] rfl rfl rfl rfl ti36 rfl rfl rfl rfl ?_
    refine r_load 4 0 [_, _, _, _, _, _, _, _, _, _, _, _, _, _, _, _, _] rfl rfl rfl rfl ti40 rfl rfl rfl rfl ?_
    refine r_pcall [_, _] rfl rfl rfl (c_plane_Meet (a, b) (c, d) (szSm (szPm (Nat.le_trans (szP1 hwa) (Nat.le_of_ble_eq_true rfl)) (Nat.le_trans (szP2 hwa) (Nat.le_of_ble_eq_true rfl))) (szPm (Nat.le_trans (szP1 hwb) (Nat.le_of_ble_eq_true rfl)) (Nat.le_trans (szP2 hwb) (Nat.le_of_ble_eq_true rfl)))) (szSm (szPm (Nat.le_trans (szP1 hwc) (Nat.le_of_ble_eq_true rfl)) (Nat.le_trans (szP2 hwc) (Nat.le_of_ble_eq_true rfl))) (szPm (Nat.le_trans (szP1 hwd) (Nat.le_of_ble_eq_true rfl)) (Nat.le_trans (szP2 hwd) (Nat.le_of_ble_eq_true rfl))))) ?_
    refine r_eqlAgg rfl rfl rfl rfl gd40 (eq40 (meetP (a, b) (c, d)) (meetP (a, b) (c, d))) ?_
    refine r_know 43 (.bool true) rfl (congrArg Value.bool (decide_eq_true rfl)) ?_
    refine r_move rfl rfl rfl ?_
    refine r_load 1 0 [_, _, _, _, _, _, _, _, _, _, _, _, _, _, _, _] rfl rfl rfl rfl ti36 rfl rfl rfl rfl ?_
    refine r_load 0 0 [_, _, _, _, _, _, _, _, _, _, _, _, _, _, _, _] rfl rfl rfl rfl ti36 rfl rfl rfl rfl ?_
    refine r_load 4 0 [_, _, _, _, _, _, _, _, _, _, _, _, _, _, _, _, _] rfl rfl rfl rfl ti40 rfl rfl rfl rfl ?_
    refine r_pcall [_, _] rfl rfl rfl (c_plane_Meet (c, d) (a, b) (szSm (szPm (Nat.le_trans (szP1 hwc) (Nat.le_of_ble_eq_true rfl)) (Nat.le_trans (szP2 hwc) (Nat.le_of_ble_eq_true rfl))) (szPm (Nat.le_trans (szP1 hwd) (Nat.le_of_ble_eq_true rfl)) (Nat.le_trans (szP2 hwd) (Nat.le_of_ble_eq_true rfl)))) (szSm (szPm (Nat.le_trans (szP1 hwa) (Nat.le_of_ble_eq_true rfl)) (Nat.le_trans (szP2 hwa) (Nat.le_of_ble_eq_true rfl))) (szPm (Nat.le_trans (szP1 hwb) (Nat.le_of_ble_eq_true rfl)) (Nat.le_trans (szP2 hwb) (Nat.le_of_ble_eq_true rfl))))) ?_
    refine r_eqlAgg rfl rfl rfl rfl gd40 (eq40 (meetP (c, d) (a, b)) (meetP (a, b) (c, d))) ?_
    refine r_know 49 (.bool true) rfl (congrArg Value.bool (decide_eq_true (meetP_swap (a, b) (c, d)))) ?_
    refine r_pickT rfl rfl rfl rfl ?_
    refine r_move rfl rfl rfl ?_
    refine r_load 5 0 [_, _, _, _, _, _, _, _, _, _, _, _, _, _, _, _] rfl rfl rfl rfl ti36 rfl rfl rfl rfl ?_
    refine r_load 1 0 [_, _, _, _, _, _, _, _, _, _, _, _, _, _, _, _] rfl rfl rfl rfl ti36 rfl rfl rfl rfl ?_
    refine r_load 4 0 [_, _, _, _, _, _, _, _, _, _, _, _, _, _, _, _, _] rfl rfl rfl rfl ti40 rfl rfl rfl rfl ?_
    refine r_pcall [_, _] rfl rfl rfl (c_plane_Meet (b, a) (c, d) (szSm (szPm (Nat.le_trans (szP1 hwb) (Nat.le_of_ble_eq_true rfl)) (Nat.le_trans (szP2 hwb) (Nat.le_of_ble_eq_true rfl))) (szPm (Nat.le_trans (szP1 hwa) (Nat.le_of_ble_eq_true rfl)) (Nat.le_trans (szP2 hwa) (Nat.le_of_ble_eq_true rfl)))) (szSm (szPm (Nat.le_trans (szP1 hwc) (Nat.le_of_ble_eq_true rfl)) (Nat.le_trans (szP2 hwc) (Nat.le_of_ble_eq_true rfl))) (szPm (Nat.le_trans (szP1 hwd) (Nat.le_of_ble_eq_true rfl)) (Nat.le_trans (szP2 hwd) (Nat.le_of_ble_eq_true rfl))))) ?_
    refine r_eqlAgg rfl rfl rfl rfl gd40 (eq40 (meetP (b, a) (c, d)) (meetP (a, b) (c, d))) ?_
    refine r_know 56 (.bool true) rfl (congrArg Value.bool (decide_eq_true (meetP_back (a, b) (c, d)))) ?_
    refine r_pickT rfl rfl rfl rfl ?_
    refine r_assign rfl rfl rfl ?_
    refine run_nil ?_
    refine at_tn ?_
    refine at_ret ?_
    refine at_end1 rfl (res_tmp rfl) (fun w hL => ⟨?_, hL.below⟩)
    exact rfl
end Go.Proofs.YthnlafhnpphdhaaGreatDoor
set_option linter.unusedVariables false
namespace Go.Proofs.YthnlafhnpphdhaaGreatDoor.planeMeets
open Go Go.ChangeShapes Go.WideShapes Go.ChangeAt Go.RowKit Go.Via
theorem big {n : Nat} (h : n ≤ reachBytes) : n ≤ BIG := Nat.le_trans h (by decide)
set_option maxRecDepth 20000 in
theorem contract (H : Type) (enc : TypeId × Value → H) (W : World) (base : Nat) (args : Array Value) (ds gs : List (DataW H)) (before : List MemPlace)
    (hval : ∀ (j : Nat) t v, Tryz.f4.params[j]? = some t → args[j]? = some v → Value.okWide Tryz.prog W .any base t v)
    (hW : DataW.Whole enc Tryz.prog Tryz.f4.params.toList Rows.planeMeetsSpec.vars false W args.toList ds gs before)
    (hsz : (DataW.weightsEach Tryz.prog (Tryz.f4.params.toList ++ (OpenSpec.ofChange Rows.planeMeetsSpec).bare.plain.varTypes Tryz.prog) (ds ++ gs)).all (· ≤ reachBytes) = true) :
    Calls Tryz.prog 4 args W fun e W' => ∃ v, e = .returned v ∧ Rows.planeMeetsSpec.post enc Tryz.prog Tryz.f4 false true false false W args v W' := by
  have hW' := hW
  obtain ⟨p, q, hA0, hV, rfl, hfz, hnd⟩ := hW
  have hA : DataW.TrodAll enc Tryz.prog W 0 (fun _ => true) true Tryz.f4.params.toList args.toList ds p := hA0
  rw [Tryz.params4] at hA hval
  obtain ⟨v0, vs0, d0, ds0, p0, q0, hargs, rfl, rfl, h0, r0⟩ := trodAll_cons hA
  obtain ⟨v1, vs1, d1, ds1, p1, q1, rfl, rfl, rfl, h1, r1⟩ := trodAll_cons r0
  obtain ⟨rfl, rfl, rfl⟩ := trodAll_nil r1
  obtain rfl : args = #[v0, v1] := by cases args; simp_all
  obtain ⟨rfl, rfl⟩ := trodVars_none hV
  obtain ⟨a0, c0, rfl, rfl, rfl, s0⟩ := openS (hval 0 36 v0 rfl rfl) h0
  obtain ⟨a1, c1, rfl, rfl, rfl, s1⟩ := openS (hval 1 36 v1 rfl rfl) h1
  clear hA0
  simp only [List.append_nil] at hW'
  have hz : ([a0.s1.size, a0.s2.size, a0.s3.size, a0.s4.size, c0.s1.size, c0.s2.size, c0.s3.size, c0.s4.size] ++ ([a1.s1.size, a1.s2.size, a1.s3.size, a1.s4.size, c1.s1.size, c1.s2.size, c1.s3.size, c1.s4.size] ++ [])).all (· ≤ reachBytes) = true := by
    have h : (DataW.weightsEach Tryz.prog [36, 36] [(dSg a0 c0 : DataW H), dSg a1 c1]).all (· ≤ reachBytes) = true := hsz
    rw [DataW.weightsEach, DataW.weightsEach, DataW.weightsEach, wSg, wSg] at h
    · exact h
    all_goals (intros; simp_all)
  simp only [List.all_append, List.all_cons, List.all_nil, Bool.and_true, Bool.and_eq_true, decide_eq_true_eq] at hz
  obtain ⟨⟨z01, z02, z03, z04, y01, y02, y03, y04⟩, z11, z12, z13, z14, y11, y12, y13, y14⟩ := hz
  have walk := (c_PlaneMeets a0.a1 a0.s1 a0.a2 a0.s2 a0.a3 a0.s3 a0.a4 a0.s4 c0.a1 c0.s1 c0.a2 c0.s2 c0.a3 c0.s3 c0.a4 c0.s4 a1.a1 a1.s1 a1.a2 a1.s2 a1.a3 a1.s3 a1.a4 a1.s4 c1.a1 c1.s1 c1.a2 c1.s2 c1.a3 c1.s3 c1.a4 c1.s4 ⟨big z01, big z02, big z03, big z04⟩ ⟨big y01, big y02, big y03, big y04⟩ ⟨big z11, big z12, big z13, big z14⟩ ⟨big y11, big y12, big y13, big y14⟩).2 W
  refine walk.mono fun e W' ⟨he, hg⟩ => ?_
  subst he
  exact ⟨_, rfl, post_plain rfl hW' (fun _ _ _ => trodAll_cons_mk (shut_bool Tryz.underlying4 _) trodAll_mk0)
    (fun _ => trodAll_cons_mk (s0 _ _ _ _) (trodAll_cons_mk (s1 _ _ _ _) (trodAll_mk0))) rfl hg (ok_one (by kernel_rfl) rfl (okWide_bool_mk Tryz.underlying4 _))⟩
abbrev wit : Array Value := #[.agg #[.bool false, .string ⟨#[]⟩, .bool false, .string ⟨#[]⟩, .bool false, .string ⟨#[]⟩, .bool false, .string ⟨#[]⟩, .bool false, .string ⟨#[]⟩, .bool false, .string ⟨#[]⟩, .bool false, .string ⟨#[]⟩, .bool false, .string ⟨#[]⟩], .agg #[.bool false, .string ⟨#[]⟩, .bool false, .string ⟨#[]⟩, .bool false, .string ⟨#[]⟩, .bool false, .string ⟨#[]⟩, .bool false, .string ⟨#[]⟩, .bool false, .string ⟨#[]⟩, .bool false, .string ⟨#[]⟩, .bool false, .string ⟨#[]⟩]]
abbrev wi {H : Type} : DataW H := .agg [.lit (.bool false), .lit (.string [])]
abbrev wq {H : Type} : DataW H := .agg [wi, wi]
theorem reads (os : Os) {H : Type} (enc : TypeId × Value → H) : ∃ places, DataW.whole enc Tryz.prog ((laidWorld os).forCall (fun _ _ => 0) ⟨#[], wit, []⟩).memory Tryz.f4.params.toList Rows.planeMeetsSpec.vars false wit.toList 8 = some ([.agg [.agg [wq, wq], .agg [wq, wq]], .agg [.agg [wq, wq], .agg [wq, wq]]], [], places) :=
  ⟨[], by kernel_rfl⟩
set_option maxRecDepth 100000 in
theorem lifted (os : Os) (started : os.Started) (H : Type) (enc : TypeId × Value → H) (F : Stop.Interp) :
    ReturnsInHanded {} Tryz.checked os 4 .any ((OpenSpec.ofChange Rows.planeMeetsSpec).preRow enc Tryz.prog Tryz.f4 Rows.planeMeetsRow.domain false Rows.planeMeetsRow.laid) (((OpenSpec.ofChange Rows.planeMeetsSpec).at F).post enc Tryz.prog Tryz.f4 false true false false) := by
  obtain ⟨places, hx⟩ := reads os enc
  refine returnsInHanded_of_row (C := Tryz.checked) (s := OpenSpec.ofChange Rows.planeMeetsSpec) own started (by kernel_rfl) Tryz.func4
    (witness_row_at (enc := enc) (C := Tryz.checked) false (laidWorld os) wit rfl (by kernel_rfl) (by kernel_rfl) (by kernel_rfl)
      (OpenSpec.preRow_of_cond 8 hx (by kernel_rfl) (fun k hk => by cases hk) (by kernel_rfl) (laid_met os _))) ?_
  intro W base args ds gs before hval hW _ _ hsz hL _ _
  exact contract H enc W base args ds gs before hval hW hsz
theorem said : Rows.PlaneMeetsSaid :=
  OpenClaim.holds_of_cond 4 Tryz.f4 rfl rfl rfl rfl rfl rfl rfl ⟨rfl, rfl, rfl, rfl, rfl⟩ rfl rfl rfl rfl rfl (by kernel_rfl) Tryz.func4 (by kernel_rfl)
    (of_decide_eq_true (by kernel_rfl)) (by unfold Func.isWrapper; first | (rw [if_pos (by decide +kernel)]; kernel_rfl) | (rw [if_neg (by decide +kernel)]; exact ⟨rfl, rfl⟩))
    (fun os started H enc _ F => by rw [OpenClaim.pre_eq_preRow]; exact lifted os started H enc F)
/-- No parameter wants a stand-in; the program's own looks are off. -/
theorem plain (f : FuncId) (fn : Func) (hf : Tryz.pinned.checked.prog.funcNamed "viator/viatorlaw07.PlaneMeets" = some f) (hfn : Tryz.pinned.checked.prog.funcs[f]? = some fn) :
    false = Tryz.pinned.checked.prog.looks [] ∧ ∀ (j : Nat) t, fn.params[j]? = some t → Tryz.pinned.checked.prog.wantsStandIn t = false := by
  obtain rfl : f = 4 := Option.some.inj ((show Tryz.prog.funcNamed "viator/viatorlaw07.PlaneMeets" = some 4 by kernel_rfl).symm.trans hf) |>.symm
  obtain rfl : fn = Tryz.f4 := (Option.some.inj (Tryz.func4.symm.trans hfn)).symm
  refine ⟨by kernel_rfl, fun j t ht => ?_⟩
  rw [Tryz.params4] at ht
  have hm : t ∈ ([36, 36] : List Nat) := by simpa using Array.mem_of_getElem? ht
  have hw : ∀ t ∈ ([36, 36] : List Nat), Tryz.prog.wantsStandIn t = false := by
    intro t ht
    simp only [List.mem_cons, List.mem_nil_iff, or_false] at ht
    rcases ht with rfl | rfl
    · exact (show Tryz.prog.wantsStandIn 36 = false by kernel_rfl)
    · exact (show Tryz.prog.wantsStandIn 36 = false by kernel_rfl)
  exact hw t hm
/-- ████ THE CARD ████ -/
theorem card : Rows.PlaneMeetsCardSaid :=
  Claim7.holds_tied_plain_at .later [] _ _ _ _ said (fun _ h => by cases h) (by kernel_rfl) (fun _ h => by cases h) planeMeets_row_tie rfl ⟨rfl, rfl⟩ (by kernel_rfl) rfl plain (by kernel_rfl)
end Go.Proofs.YthnlafhnpphdhaaGreatDoor.planeMeets
namespace Go.Proofs.YthnlafhnpphdhaaGreatDoor
/-- the card -/
theorem planeMeets_holds : Rows.PlaneMeetsCardSaid := planeMeets.card
end Go.Proofs.YthnlafhnpphdhaaGreatDoor
