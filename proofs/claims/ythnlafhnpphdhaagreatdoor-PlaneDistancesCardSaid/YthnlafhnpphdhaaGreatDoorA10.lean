/-
  Part 10: lemmas, and walks through the functions that the laws of chapter 07 call. Each theorem states its own conditions.
-/
import Derived.ChangeSame
import Derived.OpenShut
import Derived.RowKit3
import Derived.ProofKit
import Derived.Test.YthnlafhnpphdhaaGreatDoorCards
import Derived.Test.YthnlafhnpphdhaaGreatDoorTie
import Derived.WalkKit
import Derived.Deep.DeepHandedRow
import Derived.Lib.LaidTab
import Derived.Laws.Small
import Derived.Test.YthnlafhnpphdhaaGreatDoorA08
import Derived.Test.YthnlafhnpphdhaaGreatDoorA09
set_option linter.unusedVariables false
set_option linter.unusedVariables false
namespace Go.Proofs.YthnlafhnpphdhaaGreatDoor
open Go Go.RowKit Go.Via
set_option maxRecDepth 20000 in
theorem c_plane_cross (s t : S2) (hs : szS s ≤ 1000) (ht : szS t ≤ 1000) : PCall Tryz.prog 68 #[Sg s, Sg t] (Mt (crossP s t)) := by
 refine ⟨by kernel_rfl, fun w => ?_⟩
 refine calls_at (args := [Sg s, Sg t]) Tryz.func68 rfl (Nat.le_of_ble_eq_true rfl) (LRel.nil w) ?_
 show At w ⟨76, [(0, Sg s), (1, Sg t)], []⟩ _
 refine at_seq ?_
 refine at_region ?_
 refine r_box [_, _, _, _, _, _, _, _, _, _, _, _, _, _, _, _] 16 (fun g => [⟨some g, 36, _, 16, true⟩]) rfl rfl rfl rfl rfl (fun _ => rfl) (fun g0 => ?_)
 refine r_box [_, _, _, _, _, _, _, _, _, _, _, _, _, _, _, _] 16 (fun g => [_, ⟨some g, 36, _, 16, true⟩]) rfl rfl rfl rfl rfl (fun _ => rfl) (fun g1 => ?_)
 refine r_alloc [_, _, _, _, _, _, _, _, _, _, _, _, _, _, _, _, _] 17 (fun g => [_, _, ⟨some g, 40, _, 17, true⟩]) rfl rfl z40 rfl rfl (fun _ => rfl) (fun g2 => ?_)
 refine run_nil ?_
 refine at_tn ?_
 refine at_seq ?_
 refine at_seq ?_
 refine at_drawn (l' := (⟨_,_,_,_,_,_⟩ :: ⟨_,_,_,_,_,_⟩ :: ⟨_,_,_,_,_,_⟩ :: ⟨_,_,_,_,_,_⟩ :: ⟨_,_,_,_,_,_⟩ :: ⟨_,_,_,_,_,_⟩ :: ⟨_,_,_,_,_,_⟩ :: ⟨_,_,_,_,_,_⟩ :: ⟨_,_,_,_,_,_⟩ :: ⟨_,_,_,_,_,_⟩ :: ⟨_,_,_,_,_,_⟩ :: ⟨_,_,_,_,_,_⟩ :: ⟨_,_,_,_,_,_⟩ :: ⟨_,_,_,_,_,_⟩ :: ⟨_,_,_,_,_,_⟩ :: ⟨_,_,_,_,_,_⟩ :: ⟨_,_,_,_,_,_⟩ :: ⟨_,_,_,_,_,_⟩ :: ⟨_,_,_,_,_,_⟩ :: ⟨_,_,_,_,_,_⟩ :: ⟨_,_,_,_,_,_⟩ :: ⟨_,_,_,_,_,_⟩ :: ⟨_,_,_,_,_,_⟩ :: ⟨_,_,_,_,_,_⟩ :: ⟨_,_,_,_,_,_⟩ :: ⟨_,_,_,_,_,_⟩ :: ⟨_,_,_,_,_,_⟩ :: ⟨_,_,_,_,_,_⟩ :: ⟨_,_,_,_,_,_⟩ :: ⟨_,_,_,_,_,_⟩ :: ⟨_,_,_,_,_,_⟩ :: ⟨_,_,_,_,_,_⟩ :: ⟨_,_,_,_,_,_⟩ :: ⟨_,_,_,_,_,_⟩ :: [])) [] (0 :: 1 :: 2 :: 3 :: 4 :: 5 :: 7 :: 8 :: 9 :: 10 :: 11 :: 12 :: 6 :: 13 :: 14 :: 15 :: 16 :: 17 :: 18 :: 19 :: 20 :: 21 :: 22 :: 24 :: 25 :: 26 :: 27 :: 28 :: 29 :: 23 :: 30 :: 31 :: 32 :: 33 :: []) mixed (by kernel_rfl) rfl (by kernel_rfl) ?_
 refine r_fieldAddr 0 0 0 rfl rfl rfl rfl rfl ti36 rfl rfl ?_
 refine r_load 0 0 [_, _, _, _, _, _, _, _] rfl rfl rfl rfl ti27 rfl rfl rfl rfl ?_
 refine r_fieldAddr 0 0 8 rfl rfl rfl rfl rfl ti36 rfl rfl ?_
 refine r_load 0 8 [_, _, _, _, _, _, _, _] rfl rfl rfl rfl ti27 rfl rfl rfl rfl ?_
 refine r_fieldAddr 1 0 0 rfl rfl rfl rfl rfl ti36 rfl rfl ?_
 refine r_load 1 0 [_, _, _, _, _, _, _, _] rfl rfl rfl rfl ti27 rfl rfl rfl rfl ?_
 refine r_fieldAddr 0 0 0 rfl rfl rfl rfl rfl ti36 rfl rfl ?_
 refine r_load 0 0 [_, _, _, _, _, _, _, _] rfl rfl rfl rfl ti27 rfl rfl rfl rfl ?_
 refine r_fieldAddr 0 0 8 rfl rfl rfl rfl rfl ti36 rfl rfl ?_
 refine r_load 0 8 [_, _, _, _, _, _, _, _] rfl rfl rfl rfl ti27 rfl rfl rfl rfl ?_
 refine r_fieldAddr 1 0 8 rfl rfl rfl rfl rfl ti36 rfl rfl ?_
 refine r_load 1 8 [_, _, _, _, _, _, _, _] rfl rfl rfl rfl ti27 rfl rfl rfl rfl ?_
 refine r_pcall [_, _, _] rfl rfl rfl (c_plane_Orientation s.1 s.2 t.1 (szPm (Nat.le_trans (szP1 (szS1 hs)) (Nat.le_of_ble_eq_true rfl)) (Nat.le_trans (szP2 (szS1 hs)) (Nat.le_of_ble_eq_true rfl))) (szPm (Nat.le_trans (szP1 (szS2 hs)) (Nat.le_of_ble_eq_true rfl)) (Nat.le_trans (szP2 (szS2 hs)) (Nat.le_of_ble_eq_true rfl))) (szPm (Nat.le_trans (szP1 (szS1 ht)) (Nat.le_of_ble_eq_true rfl)) (Nat.le_trans (szP2 (szS1 ht)) (Nat.le_of_ble_eq_true rfl)))) ?_
 refine r_pcall [_, _, _] rfl rfl rfl (c_plane_Orientation s.1 s.2 t.2 (szPm (Nat.le_trans (szP1 (szS1 hs)) (Nat.le_of_ble_eq_true rfl)) (Nat.le_trans (szP2 (szS1 hs)) (Nat.le_of_ble_eq_true rfl))) (szPm (Nat.le_trans (szP1 (szS2 hs)) (Nat.le_of_ble_eq_true rfl)) (Nat.le_trans (szP2 (szS2 hs)) (Nat.le_of_ble_eq_true rfl))) (szPm (Nat.le_trans (szP1 (szS2 ht)) (Nat.le_of_ble_eq_true rfl)) (Nat.le_trans (szP2 (szS2 ht)) (Nat.le_of_ble_eq_true rfl)))) ?_
 refine r_arith (r := ori s.1 s.2 t.1 * ori s.1 s.2 t.2) rfl rfl rfl rfl (congrArg some (wi (by have := ori_bound s.1 s.2 t.1 s.1 s.2 t.2; omega) (by have := ori_bound s.1 s.2 t.1 s.1 s.2 t.2; omega) rfl)) ?_
 refine r_cmpInt rfl rfl rfl rfl rfl ?_
 refine r_move rfl rfl rfl ?_
 refine r_split 26 rfl (fun hb0 => ?_) (fun hb0 => ?_)
 ·
  refine r_no rfl rfl rfl ?_
  refine r_no rfl rfl rfl ?_
  refine r_no rfl rfl rfl ?_
  refine r_no rfl rfl rfl ?_
  refine r_no rfl rfl rfl ?_
  refine r_no rfl rfl rfl ?_
  refine r_no rfl rfl rfl ?_
  refine r_no rfl rfl rfl ?_
  refine r_no rfl rfl rfl ?_
  refine r_no rfl rfl rfl ?_
  refine r_no rfl rfl rfl ?_
  refine r_no rfl rfl rfl ?_
  refine r_no rfl rfl rfl ?_
  refine r_no rfl rfl rfl ?_
  refine r_no rfl rfl rfl ?_
  refine r_no rfl rfl rfl ?_
  refine r_pickT rfl rfl rfl rfl ?_
  refine run_nil ?_
  refine at_tn ?_
  refine at_condT rfl ?_
  refine at_seq ?_
  refine at_region ?_
  refine r_build [] rfl rfl rfl (bd40_0) ?_
  refine r_know 44 (Mt (0, ((0, 0), (0, 0)))) rfl Mt_zero ?_
  refine r_store rfl 2 0 [_, _, ⟨some g2, 40, _, 17, true⟩] [_, _, _, _, _, _, _, _, _, _, _, _, _, _, _, _, _] rfl rfl rfl rfl ti40 rfl rfl rfl rfl rfl ?_
  refine run_nil ?_
  refine at_tn ?_
  refine at_ret ?_
  refine at_tr ?_
  refine at_end1 rfl (res_cell 2 rfl rfl ti40 (vs := [_, _, _, _, _, _, _, _, _, _, _, _, _, _, _, _, _]) rfl rfl (Nat.le_of_ble_eq_true rfl) rfl) (fun w hL => ⟨?_, hL.below⟩)
  rw [cross_T1 (of_decide_eq_true hb0)]; rfl
 ·
  refine r_fieldAddr 1 0 0 rfl rfl rfl rfl rfl ti36 rfl rfl ?_
  refine r_load 1 0 [_, _, _, _, _, _, _, _] rfl rfl rfl rfl ti27 rfl rfl rfl rfl ?_
  refine r_fieldAddr 1 0 8 rfl rfl rfl rfl rfl ti36 rfl rfl ?_
  refine r_load 1 8 [_, _, _, _, _, _, _, _] rfl rfl rfl rfl ti27 rfl rfl rfl rfl ?_
  refine r_fieldAddr 0 0 0 rfl rfl rfl rfl rfl ti36 rfl rfl ?_
  refine r_load 0 0 [_, _, _, _, _, _, _, _] rfl rfl rfl rfl ti27 rfl rfl rfl rfl ?_
  refine r_fieldAddr 1 0 0 rfl rfl rfl rfl rfl ti36 rfl rfl ?_
  refine r_load 1 0 [_, _, _, _, _, _, _, _] rfl rfl rfl rfl ti27 rfl rfl rfl rfl ?_
  refine r_fieldAddr 1 0 8 rfl rfl rfl rfl rfl ti36 rfl rfl ?_
  refine r_load 1 8 [_, _, _, _, _, _, _, _] rfl rfl rfl rfl ti27 rfl rfl rfl rfl ?_
  refine r_fieldAddr 0 0 8 rfl rfl rfl rfl rfl ti36 rfl rfl ?_
  refine r_load 0 8 [_, _, _, _, _, _, _, _] rfl rfl rfl rfl ti27 rfl rfl rfl rfl ?_
  refine r_pcall [_, _, _] rfl rfl rfl (c_plane_Orientation t.1 t.2 s.1 (szPm (Nat.le_trans (szP1 (szS1 ht)) (Nat.le_of_ble_eq_true rfl)) (Nat.le_trans (szP2 (szS1 ht)) (Nat.le_of_ble_eq_true rfl))) (szPm (Nat.le_trans (szP1 (szS2 ht)) (Nat.le_of_ble_eq_true rfl)) (Nat.le_trans (szP2 (szS2 ht)) (Nat.le_of_ble_eq_true rfl))) (szPm (Nat.le_trans (szP1 (szS1 hs)) (Nat.le_of_ble_eq_true rfl)) (Nat.le_trans (szP2 (szS1 hs)) (Nat.le_of_ble_eq_true rfl)))) ?_
  refine r_pcall [_, _, _] rfl rfl rfl (c_plane_Orientation t.1 t.2 s.2 (szPm (Nat.le_trans (szP1 (szS1 ht)) (Nat.le_of_ble_eq_true rfl)) (Nat.le_trans (szP2 (szS1 ht)) (Nat.le_of_ble_eq_true rfl))) (szPm (Nat.le_trans (szP1 (szS2 ht)) (Nat.le_of_ble_eq_true rfl)) (Nat.le_trans (szP2 (szS2 ht)) (Nat.le_of_ble_eq_true rfl))) (szPm (Nat.le_trans (szP1 (szS2 hs)) (Nat.le_of_ble_eq_true rfl)) (Nat.le_trans (szP2 (szS2 hs)) (Nat.le_of_ble_eq_true rfl)))) ?_
  refine r_arith (r := ori t.1 t.2 s.1 * ori t.1 t.2 s.2) rfl rfl rfl rfl (congrArg some (wi (by have := ori_bound t.1 t.2 s.1 t.1 t.2 s.2; omega) (by have := ori_bound t.1 t.2 s.1 t.1 t.2 s.2; omega) rfl)) ?_
  refine r_cmpInt rfl rfl rfl rfl rfl ?_
  refine r_pickF rfl rfl rfl rfl ?_
  refine run_nil ?_
  refine at_tn ?_
  refine at_cond rfl (fun hb1 => ?_) (fun hb1 => ?_)
  ·
   refine at_seq ?_
   refine at_region ?_
   refine r_build [] rfl rfl rfl (bd40_0) ?_
   refine r_know 44 (Mt (0, ((0, 0), (0, 0)))) rfl Mt_zero ?_
   refine r_store rfl 2 0 [_, _, ⟨some g2, 40, _, 17, true⟩] [_, _, _, _, _, _, _, _, _, _, _, _, _, _, _, _, _] rfl rfl rfl rfl ti40 rfl rfl rfl rfl rfl ?_
   refine run_nil ?_
   refine at_tn ?_
   refine at_ret ?_
   refine at_tr ?_
   refine at_end1 rfl (res_cell 2 rfl rfl ti40 (vs := [_, _, _, _, _, _, _, _, _, _, _, _, _, _, _, _, _]) rfl rfl (Nat.le_of_ble_eq_true rfl) rfl) (fun w hL => ⟨?_, hL.below⟩)
   rw [cross_T2 (of_decide_eq_true hb1)]; rfl
  ·
   refine at_skip ?_
   refine at_tn ?_
   refine at_seq ?_
   refine at_drawnA (l' := [⟨_,_,_,_,_,_⟩, ⟨_,_,_,_,_,_⟩, ⟨_,_,_,_,_,_⟩, ⟨_,_,_,_,_,_⟩, ⟨_,_,_,_,_,_⟩, ⟨_,_,_,_,_,_⟩, ⟨_,_,_,_,_,_⟩, ⟨_,_,_,_,_,_⟩, ⟨_,_,_,_,_,_⟩, ⟨_,_,_,_,_,_⟩, ⟨_,_,_,_,_,_⟩, ⟨_,_,_,_,_,_⟩, ⟨_,_,_,_,_,_⟩, ⟨_,_,_,_,_,_⟩]) [3000000] [0, 1, 2, 3, 5, 6, 7, 8, 4, 9, 10, 11, 12, 13] mixed (by kernel_rfl) rfl ?_
   refine r_fieldAddr 0 0 8 rfl rfl rfl rfl rfl ti36 rfl rfl ?_
   refine r_load 0 8 [_, _, _, _, _, _, _, _] rfl rfl rfl rfl ti27 rfl rfl rfl rfl ?_
   refine r_fieldAddr 0 0 0 rfl rfl rfl rfl rfl ti36 rfl rfl ?_
   refine r_load 0 0 [_, _, _, _, _, _, _, _] rfl rfl rfl rfl ti27 rfl rfl rfl rfl ?_
   refine r_fieldAddr 1 0 8 rfl rfl rfl rfl rfl ti36 rfl rfl ?_
   refine r_load 1 8 [_, _, _, _, _, _, _, _] rfl rfl rfl rfl ti27 rfl rfl rfl rfl ?_
   refine r_fieldAddr 1 0 0 rfl rfl rfl rfl rfl ti36 rfl rfl ?_
   refine r_load 1 0 [_, _, _, _, _, _, _, _] rfl rfl rfl rfl ti27 rfl rfl rfl rfl ?_
   refine r_pcall [_, _] rfl rfl rfl (c_plane_Sub s.2 s.1 (szPm (Nat.le_trans (szP1 (szS2 hs)) (Nat.le_of_ble_eq_true rfl)) (Nat.le_trans (szP2 (szS2 hs)) (Nat.le_of_ble_eq_true rfl))) (szPm (Nat.le_trans (szP1 (szS1 hs)) (Nat.le_of_ble_eq_true rfl)) (Nat.le_trans (szP2 (szS1 hs)) (Nat.le_of_ble_eq_true rfl)))) ?_
   refine r_pcall [_, _] rfl rfl rfl (c_plane_Sub t.2 t.1 (szPm (Nat.le_trans (szP1 (szS2 ht)) (Nat.le_of_ble_eq_true rfl)) (Nat.le_trans (szP2 (szS2 ht)) (Nat.le_of_ble_eq_true rfl))) (szPm (Nat.le_trans (szP1 (szS1 ht)) (Nat.le_of_ble_eq_true rfl)) (Nat.le_trans (szP2 (szS1 ht)) (Nat.le_of_ble_eq_true rfl)))) ?_
   refine r_alloc [_, _, _, _, _, _, _, _] 8 (fun g => [_, _, _, ⟨some g, 27, _, 8, true⟩]) rfl rfl z27 rfl rfl (fun _ => rfl) (fun g3 => ?_)
   refine r_alloc [_, _, _, _, _, _, _, _] 8 (fun g => [_, _, _, _, ⟨some g, 27, _, 8, true⟩]) rfl rfl z27 rfl rfl (fun _ => rfl) (fun g4 => ?_)
   refine r_store rfl 3 0 [_, _, _, ⟨some g3, 27, _, 8, true⟩, _] [_, _, _, _, _, _, _, _] rfl rfl rfl rfl ti27 rfl rfl rfl rfl rfl ?_
   refine r_store rfl 4 0 [_, _, _, _, ⟨some g4, 27, _, 8, true⟩] [_, _, _, _, _, _, _, _] rfl rfl rfl rfl ti27 rfl rfl rfl rfl rfl ?_
   refine run_nil ?_
   refine at_tn ?_
   refine at_seq ?_
   refine at_drawnA (l' := [⟨_,_,_,_,_,_⟩, ⟨_,_,_,_,_,_⟩, ⟨_,_,_,_,_,_⟩, ⟨_,_,_,_,_,_⟩, ⟨_,_,_,_,_,_⟩, ⟨_,_,_,_,_,_⟩, ⟨_,_,_,_,_,_⟩, ⟨_,_,_,_,_,_⟩, ⟨_,_,_,_,_,_⟩, ⟨_,_,_,_,_,_⟩, ⟨_,_,_,_,_,_⟩, ⟨_,_,_,_,_,_⟩, ⟨_,_,_,_,_,_⟩, ⟨_,_,_,_,_,_⟩, ⟨_,_,_,_,_,_⟩, ⟨_,_,_,_,_,_⟩, ⟨_,_,_,_,_,_⟩]) [3000000] [0, 1, 2, 3, 5, 7, 8, 4, 6, 9, 10, 11, 12, 14, 15, 13, 16] mixed (by kernel_rfl) rfl ?_
   refine r_fieldAddr 1 0 0 rfl rfl rfl rfl rfl ti36 rfl rfl ?_
   refine r_load 1 0 [_, _, _, _, _, _, _, _] rfl rfl rfl rfl ti27 rfl rfl rfl rfl ?_
   refine r_fieldAddr 0 0 0 rfl rfl rfl rfl rfl ti36 rfl rfl ?_
   refine r_load 0 0 [_, _, _, _, _, _, _, _] rfl rfl rfl rfl ti27 rfl rfl rfl rfl ?_
   refine r_load 4 0 [_, _, _, _, _, _, _, _] rfl rfl rfl rfl ti27 rfl rfl rfl rfl ?_
   refine r_load 3 0 [_, _, _, _, _, _, _, _] rfl rfl rfl rfl ti27 rfl rfl rfl rfl ?_
   refine r_load 4 0 [_, _, _, _, _, _, _, _] rfl rfl rfl rfl ti27 rfl rfl rfl rfl ?_
   refine r_pcall [_, _] rfl rfl rfl (c_plane_Sub t.1 s.1 (szPm (Nat.le_trans (szP1 (szS1 ht)) (Nat.le_of_ble_eq_true rfl)) (Nat.le_trans (szP2 (szS1 ht)) (Nat.le_of_ble_eq_true rfl))) (szPm (Nat.le_trans (szP1 (szS1 hs)) (Nat.le_of_ble_eq_true rfl)) (Nat.le_trans (szP2 (szS1 hs)) (Nat.le_of_ble_eq_true rfl)))) ?_
   refine r_pcall [_, _] rfl rfl rfl (c_plane_CrossProduct (pSub t.1 s.1) (pSub t.2 t.1) (szPm (Nat.le_trans (szQ_sub (szP1 (szS1 ht)) (szP1 (szS1 hs))) (Nat.le_of_ble_eq_true rfl)) (Nat.le_trans (szQ_sub (szP2 (szS1 ht)) (szP2 (szS1 hs))) (Nat.le_of_ble_eq_true rfl))) (szPm (Nat.le_trans (szQ_sub (szP1 (szS2 ht)) (szP1 (szS1 ht))) (Nat.le_of_ble_eq_true rfl)) (Nat.le_trans (szQ_sub (szP2 (szS2 ht)) (szP2 (szS1 ht))) (Nat.le_of_ble_eq_true rfl)))) ?_
   refine r_pcall [_, _] rfl rfl rfl (c_plane_CrossProduct (pSub s.2 s.1) (pSub t.2 t.1) (szPm (Nat.le_trans (szQ_sub (szP1 (szS2 hs)) (szP1 (szS1 hs))) (Nat.le_of_ble_eq_true rfl)) (Nat.le_trans (szQ_sub (szP2 (szS2 hs)) (szP2 (szS1 hs))) (Nat.le_of_ble_eq_true rfl))) (szPm (Nat.le_trans (szQ_sub (szP1 (szS2 ht)) (szP1 (szS1 ht))) (Nat.le_of_ble_eq_true rfl)) (Nat.le_trans (szQ_sub (szP2 (szS2 ht)) (szP2 (szS1 ht))) (Nat.le_of_ble_eq_true rfl)))) ?_
   refine r_pcall [_, _] rfl rfl rfl (c_rational_Div (crs (pSub t.1 s.1) (pSub t.2 t.1)) (crs (pSub s.2 s.1) (pSub t.2 t.1)) (Nat.le_trans (szQ_sub (szQ_mul (szQ_sub (szP1 (szS1 ht)) (szP1 (szS1 hs))) (szQ_sub (szP2 (szS2 ht)) (szP2 (szS1 ht)))) (szQ_mul (szQ_sub (szP2 (szS1 ht)) (szP2 (szS1 hs))) (szQ_sub (szP1 (szS2 ht)) (szP1 (szS1 ht))))) (Nat.le_of_ble_eq_true rfl)) (Nat.le_trans (szQ_sub (szQ_mul (szQ_sub (szP1 (szS2 hs)) (szP1 (szS1 hs))) (szQ_sub (szP2 (szS2 ht)) (szP2 (szS1 ht)))) (szQ_mul (szQ_sub (szP2 (szS2 hs)) (szP2 (szS1 hs))) (szQ_sub (szP1 (szS2 ht)) (szP1 (szS1 ht))))) (Nat.le_of_ble_eq_true rfl))) ?_
   refine r_move rfl rfl rfl ?_
   refine r_extract (vs := [_, _]) rfl rfl rfl rfl ?_
   refine r_alloc [_, _, _, _] 4 (fun g => [_, _, _, _, _, ⟨some g, 25, _, 4, true⟩]) rfl rfl z25 rfl rfl (fun _ => rfl) (fun g5 => ?_)
   refine r_store rfl 5 0 [_, _, _, _, _, ⟨some g5, 25, _, 4, true⟩] [_, _, _, _] rfl rfl rfl rfl ti25 rfl rfl rfl rfl rfl ?_
   refine r_extract (vs := [_, _]) rfl rfl rfl rfl ?_
   refine r_assign rfl rfl rfl ?_
   refine run_nil ?_
   refine at_tn ?_
   refine at_seq ?_
   refine at_region ?_
   refine r_load 0 0 [_, _, _, _, _, _, _, _, _, _, _, _, _, _, _, _] rfl rfl rfl rfl ti36 rfl rfl rfl rfl ?_
   refine r_load 5 0 [_, _, _, _] rfl rfl rfl rfl ti25 rfl rfl rfl rfl ?_
   refine r_pcall [_, _] rfl rfl rfl (c_plane_Divide s ((crs (pSub t.1 s.1) (pSub t.2 t.1)) / (crs (pSub s.2 s.1) (pSub t.2 t.1))) (szSm (szPm (Nat.le_trans (szP1 (szS1 hs)) (Nat.le_of_ble_eq_true rfl)) (Nat.le_trans (szP2 (szS1 hs)) (Nat.le_of_ble_eq_true rfl))) (szPm (Nat.le_trans (szP1 (szS2 hs)) (Nat.le_of_ble_eq_true rfl)) (Nat.le_trans (szP2 (szS2 hs)) (Nat.le_of_ble_eq_true rfl)))) (Nat.le_trans (szQ_div (szQ_sub (szQ_mul (szQ_sub (szP1 (szS1 ht)) (szP1 (szS1 hs))) (szQ_sub (szP2 (szS2 ht)) (szP2 (szS1 ht)))) (szQ_mul (szQ_sub (szP2 (szS1 ht)) (szP2 (szS1 hs))) (szQ_sub (szP1 (szS2 ht)) (szP1 (szS1 ht))))) (szQ_sub (szQ_mul (szQ_sub (szP1 (szS2 hs)) (szP1 (szS1 hs))) (szQ_sub (szP2 (szS2 ht)) (szP2 (szS1 ht)))) (szQ_mul (szQ_sub (szP2 (szS2 hs)) (szP2 (szS1 hs))) (szQ_sub (szP1 (szS2 ht)) (szP1 (szS1 ht)))))) (Nat.le_of_ble_eq_true rfl))) ?_
   refine r_alloc [_, _, _, _, _, _, _, _] 8 (fun g => [_, _, _, _, _, _, ⟨some g, 27, _, 8, true⟩]) rfl rfl z27 rfl rfl (fun _ => rfl) (fun g6 => ?_)
   refine r_store rfl 6 0 [_, _, _, _, _, _, ⟨some g6, 27, _, 8, true⟩] [_, _, _, _, _, _, _, _] rfl rfl rfl rfl ti27 rfl rfl rfl rfl rfl ?_
   refine run_nil ?_
   refine at_tn ?_
   refine at_seq ?_
   refine at_region ?_
   refine r_load 6 0 [_, _, _, _, _, _, _, _] rfl rfl rfl rfl ti27 rfl rfl rfl rfl ?_
   refine r_load 6 0 [_, _, _, _, _, _, _, _] rfl rfl rfl rfl ti27 rfl rfl rfl rfl ?_
   refine r_build [(0, _), (1, _)] rfl rfl rfl (bd36_2) ?_
   refine r_build [(0, _), (1, _)] rfl rfl rfl (bd40_2) ?_
   refine r_store rfl 2 0 [_, _, ⟨some g2, 40, _, 17, true⟩, _, _, _, _] [_, _, _, _, _, _, _, _, _, _, _, _, _, _, _, _, _] rfl rfl rfl rfl ti40 rfl rfl rfl rfl rfl ?_
   refine run_nil ?_
   refine at_tn ?_
   refine at_ret ?_
   refine at_end1 rfl (res_cell 2 rfl rfl ti40 (vs := [_, _, _, _, _, _, _, _, _, _, _, _, _, _, _, _, _]) rfl rfl (Nat.le_of_ble_eq_true rfl) rfl) (fun w hL => ⟨?_, hL.below⟩)
   rw [cross_FF (of_decide_eq_false hb0) (of_decide_eq_false hb1)]; rfl
end Go.Proofs.YthnlafhnpphdhaaGreatDoor
set_option linter.unusedVariables false
set_option linter.unusedSimpArgs false
namespace Go.Via
open Go Go.RowKit
/-! ### functions without results, functions that are values -/
theorem at_end0 {P : Program} {B : World} {fn : Func} {R : Ending → World → Prop} {s : St} (hfn : fn.results = #[]) (hR : ∀ w, LRel B s.L w → R (.returned (.tuple #[])) w) : At B s (bodyPost P fn R .ret) := fun a w hr =>
  ⟨hr.df, .tuple #[], by simp [results, hfn], hR w hr.mem⟩
theorem at_end0n {P : Program} {B : World} {fn : Func} {R : Ending → World → Prop} {s : St} (hfn : fn.results = #[]) (hR : ∀ w, LRel B s.L w → R (.returned (.tuple #[])) w) : At B s (bodyPost P fn R .normal) := fun a w hr =>
  ⟨hr.df, .tuple #[], by simp [results, hfn], hR w hr.mem⟩
/-- A CALL THAT WRITES: what is known before it, what is known behind it. -/
def ECall (P : Program) (f : Nat) (L0 : List Blk) (args : List Value) (X : Type) (res : X → Value) (L1 : X → List Blk) : Prop :=
  plainF P f = true ∧ ∀ B w, LRel B L0 w → Calls P f args.toArray w fun e w' => ∃ x, e = .returned (res x) ∧ LRel B (L1 x) w'
section
variable {P : Program} {bl : List Nat} {ops : Array Oper} {K : St → Prop} {rest : List Oper} {nt : Nat} {t : List (Nat × Value)} {L : List Blk} {d : Nat} {ty : TypeId} {pos : String} {af : Array Edge} {g : Option (Nat × Bool)} {x y : Operand}
theorem r_makeFunc {f : Nat} {v : Value} (hd : Nat.blt d nt = true) (hg : wantedS ops ⟨some d, .makeFunc (.func f) #[] #[x], ty, pos, af, g⟩ t = some true) (hx : ev t x = some v) (h : Run P bl ops rest ⟨nt, (d, .func (.func f) #[] #[v]) :: t, L⟩ K) :
    Run P bl ops (⟨some d, .makeFunc (.func f) #[] #[x], ty, pos, af, g⟩ :: rest) ⟨nt, t, L⟩ K :=
  run_q hd hg rfl (fun B a w hr => by simp [execOp, Instr.makeFunc, hr.ev hx]) h
/-- a call of a function that is a value and holds one variable -/
theorem r_ecall {f : Nat} {args : List Operand} {ts : Array TypeId} {c : Value} (vs : List Value) {X : Type} {res : X → Value} {L1 : X → List Blk} (hM : isM bl = true) (hd : Nat.blt d nt = true)
    (hg : wantedS ops ⟨some d, .call { callee := .value x, args := args.toArray, argTypes := ts }, ty, pos, af, g⟩ t = some true) (hf : ev t x = some (.func (.func f) #[] #[c]))
    (hv : args.map (ev t) = vs.map some) (hc : ECall P f L (vs ++ [c]) X res L1) (h : ∀ z, Run P bl ops rest ⟨nt, (d, res z) :: t, L1 z⟩ K) :
    Run P bl ops (⟨some d, .call { callee := .value x, args := args.toArray, argTypes := ts }, ty, pos, af, g⟩ :: rest) ⟨nt, t, L⟩ K :=
  run_m hd hg hM (X := X) (nx := fun z => ⟨nt, (d, res z) :: t, L1 z⟩) (fun hd' B a w hr => by
    have h1 : (execOp a.eval ⟨some d, .call { callee := .value x, args := args.toArray, argTypes := ts }, ty, pos, af, g⟩).run P w = .ok (.enter f (vs ++ [c]).toArray) w := by
      have hfv := hr.ev hf
      have hva : args.toArray.map a.eval = vs.toArray := by simp [evs_spec hr hv]
      have hp := hc.1
      unfold plainF at hp
      cases hq : P.funcs[f]? with
      | none => rw [hq] at hp; cases hp
      | some fn =>
        rw [hq] at hp
        simp only [Bool.and_eq_true, Bool.not_eq_true'] at hp
        obtain ⟨h1, h2⟩ := hp
        have h3 : fn.body ≠ none := by intro hb; rw [hb] at h1; cases h1
        have h4 : ¬ fn.name = "runtime.NumGoroutine" := by simpa using h2
        simp [execOp, resolve, hfv, hva, Deferred.ofValue, invoke, callFunc, hq, h4, h3]
    unfold Oper.wp
    rw [h1]
    refine (hc.2 B w hr.mem).mono ?_
    rintro e w' ⟨z, rfl, hw⟩
    exact ⟨z, hr.put hd' hw⟩) h
end
end Go.Via
set_option linter.unusedVariables false
set_option linter.unusedSimpArgs false
namespace Go.Via
open Go Go.RowKit
/-! ### rows of points -/
def ptC (p : Rat × Rat) : List Value := [.bool (decide (p.1.num < 0)), .string (mag p.1.num.natAbs), .bool false, .string (dm p.1), .bool (decide (p.2.num < 0)), .string (mag p.2.num.natAbs), .bool false, .string (dm p.2)]
def PLc : List (Rat × Rat) → List Value
  | [] => []
  | p :: l => ptC p ++ PLc l
theorem PLc_length (l : List (Rat × Rat)) : (PLc l).length = l.length * 8 := by
  induction l with
  | nil => rfl
  | cons p l ih => rw [PLc, List.length_append, ih]; simp [ptC]; omega
theorem PLc_append (l m : List (Rat × Rat)) : PLc (l ++ m) = PLc l ++ PLc m := by
  induction l with
  | nil => rfl
  | cons p l ih => rw [List.cons_append, PLc, PLc, ih, List.append_assoc]
theorem PLc_snoc (l : List (Rat × Rat)) (p : Rat × Rat) : PLc l ++ ptC p = PLc (l ++ [p]) := by rw [PLc_append]; show _ = _ ++ (ptC p ++ []); rw [List.append_nil]
theorem PLc_get {l : List (Rat × Rat)} {i : Nat} {p : Rat × Rat} (h : l[i]? = some p) : ((PLc l).drop (i * 8)).take 8 = ptC p := by
  induction l generalizing i with
  | nil => simp at h
  | cons q l ih =>
    cases i with
    | zero =>
      simp at h; subst h
      rw [Nat.zero_mul, List.drop_zero, PLc]
      exact List.take_left' (by simp [ptC])
    | succ i =>
      rw [List.getElem?_cons_succ] at h
      rw [PLc, Nat.succ_mul, Nat.add_comm, ← List.drop_drop, List.drop_left' (by simp [ptC])]
      exact ih h
theorem ptC_one (p : Rat × Rat) : ∀ v ∈ ptC p, v.oneCell' = true := by
  intro v hv
  simp only [ptC, List.mem_cons, List.mem_nil_iff, or_false] at hv
  rcases hv with rfl | rfl | rfl | rfl | rfl | rfl | rfl | rfl <;> rfl
theorem PLc_ne {l : List (Rat × Rat)} (h : 0 < l.length) : PLc l ≠ [] := fun e => by
  have := congrArg List.length e
  rw [PLc_length] at this
  simp at this; omega
def addE (l : List P2) (p : P2) (on : S2) : List P2 := if onS p on ∧ p ∉ l then l ++ [p] else l
theorem addE_1 {l : List P2} {p : P2} {on : S2} (h : ¬ onS p on) : addE l p on = l := by unfold addE; rw [if_neg (fun c => h c.1)]
theorem addE_2 {l : List P2} {p : P2} {on : S2} (h : p ∈ l) : addE l p on = l := by unfold addE; rw [if_neg (fun c => c.2 h)]
theorem addE_3 {l : List P2} {p : P2} {on : S2} (h : onS p on) (h2 : p ∉ l) : addE l p on = l ++ [p] := by unfold addE; rw [if_pos ⟨h, h2⟩]
theorem addE_len (l : List P2) (p : P2) (on : S2) : (addE l p on).length ≤ l.length + 1 := by unfold addE; split <;> simp
theorem addE_mem {l : List P2} {p q : P2} {on : S2} (h : q ∈ addE l p on) : q ∈ l ∨ q = p := by
  unfold addE at h
  split at h
  · rcases List.mem_append.1 h with h | h
    · exact .inl h
    · exact .inr (List.mem_singleton.1 h)
  · exact .inl h
/-- the ends of two segments that lie on the other one -/
def endsP (s t : S2) : List P2 := addE (addE (addE (addE [] s.1 t) s.2 t) t.1 s) t.2 s
theorem endsP_sz {s t : S2} {n : Nat} (hs : szS s ≤ n) (ht : szS t ≤ n) {p : P2} (h : p ∈ endsP s t) : szP p ≤ n := by
  unfold endsP at h
  rcases addE_mem h with h | rfl
  · rcases addE_mem h with h | rfl
    · rcases addE_mem h with h | rfl
      · rcases addE_mem h with h | rfl
        · cases h
        · exact szS1 hs
      · exact szS2 hs
    · exact szS1 ht
  · exact szS2 ht
def meetP (s t : S2) : Int × S2 := match endsP s t with
  | [] => crossP s t
  | [a] => (1, (a, a))
  | a :: b :: _ => if 0 < cmpP a b then (3, (b, a)) else (3, (a, b))
theorem meet_0 {s t : S2} (h : endsP s t = []) : meetP s t = crossP s t := by unfold meetP; rw [h]
theorem meet_1 {s t : S2} {a : P2} (h : endsP s t = [a]) : meetP s t = (1, (a, a)) := by unfold meetP; rw [h]
theorem meet_2 {s t : S2} {a b : P2} {l : List P2} (h : endsP s t = a :: b :: l) (h2 : 0 < cmpP a b) : meetP s t = (3, (b, a)) := by unfold meetP; rw [h]; exact if_pos h2
theorem meet_3 {s t : S2} {a b : P2} {l : List P2} (h : endsP s t = a :: b :: l) (h2 : ¬ 0 < cmpP a b) : meetP s t = (3, (a, b)) := by unfold meetP; rw [h]; exact if_neg h2
theorem len0 {l : List P2} (h : (((l.length : Nat) : Int) == 0) = true) : l = [] := List.eq_nil_of_length_eq_zero (by have := eq_of_beq h; omega)
theorem len1 {l : List P2} (h : (((l.length : Nat) : Int) == 1) = true) : ∃ a, l = [a] := List.length_eq_one_iff.1 (by have := eq_of_beq h; omega)
theorem len2 {l : List P2} (h0 : (((l.length : Nat) : Int) == 0) = false) (h : (((l.length : Nat) : Int) == 1) = false) : ∃ a b m, l = a :: b :: m := by
  have h1 := ne_of_beq_false h0
  have h2 := ne_of_beq_false h
  match l, h1, h2 with
  | [], h1, _ => exact absurd rfl h1
  | [a], _, h2 => exact absurd rfl h2
  | a :: b :: m, _, _ => exact ⟨a, b, m, rfl⟩
/-- a row of points that grows: the points, where it lies, how many cells, its room -/
abbrev RowG (L : List P2) := {x : List P2 × Option Nat × Nat × Nat // x.1 = L ∧ x.1.length ≤ x.2.2.2 ∧ x.2.2.2 * 8 ≤ x.2.2.1}
end Go.Via
namespace Go.Via
theorem apart5 (a b c : Bool) : apartB [some 0, some 1, some 2, some 3, some 4] [a, b, c, true, true] = true := by cases a <;> cases b <;> cases c <;> rfl
theorem apart6 (a b c : Bool) : apartB [some 0, some 1, some 2, some 3, some 4, some 5] [a, b, c, true, true, true] = true := by cases a <;> cases b <;> cases c <;> rfl
theorem no_step {l : List P2} {p q : P2} {i : Nat} (h : ∀ j, j < i → l[j]? ≠ some p) (hq : l[i]? = some q) (hne : p ≠ q) : ∀ j, j < i + 1 → l[j]? ≠ some p := fun j hj => by
  by_cases e : j = i
  · subst e; rw [hq]; exact fun e => hne (Option.some.inj e).symm
  · exact h j (by omega)
theorem no_mem {l : List P2} {p : P2} (h : ∀ j, j < l.length → l[j]? ≠ some p) : p ∉ l := fun hm => by
  obtain ⟨j, hj⟩ := List.mem_iff_getElem?.1 hm
  exact h j (List.getElem?_eq_some_iff.1 hj).1 hj
end Go.Via
namespace Go.Via
theorem row_base {b : Option Nat} {a : P2} {m : List P2} (h : b = none → PLc (a :: m) = []) : ∃ g, b = some g := by
  cases b with
  | none => exact absurd (h rfl) (PLc_ne (by simp))
  | some g => exact ⟨g, rfl⟩
theorem PLc_fit {a b : P2} {m : List P2} {n : Nat} (h : n ≤ 16) : Nat.ble n (PLc (a :: b :: m)).length = true := by
  rw [PLc_length]; simp only [List.length_cons]
  exact Nat.ble_eq_true_of_le (by omega)
end Go.Via
namespace Go.Via
theorem one_len (a : P2) : (0 : Int) < ((List.length (α := P2) [a] : Nat) : Int) := by simp
end Go.Via
namespace Go.Via
theorem two_len0 (a b : P2) (m : List P2) : (0 : Int) < ((List.length (α := P2) (a :: b :: m) : Nat) : Int) := by simp; omega
theorem two_len1 (a b : P2) (m : List P2) : (1 : Int) < ((List.length (α := P2) (a :: b :: m) : Nat) : Int) := by simp; omega
end Go.Via
set_option linter.unusedVariables false
namespace Go.Proofs.YthnlafhnpphdhaaGreatDoor
open Go Go.RowKit Go.Via
set_option maxRecDepth 20000 in
theorem c_meet_add (r0 r1 r2 : Blk) (gc : Nat) (l : List P2) (ob : Option Nat) (oN oc : Nat) (h1 : l.length ≤ oc) (h2 : oc * 8 ≤ oN) (hl : l.length ≤ 4) (p : P2) (on : S2) (hp : szP p ≤ 1000) (hs : szS on ≤ 1000) : ECall Tryz.prog 67 [r0, r1, r2, ⟨some gc, 61, [slv ob 0 l.length oc], 1, true⟩, ⟨ob, 27, PLc l, oN, true⟩] [Pt p, Sg on, .pointer (some ⟨gc, 0, none⟩)] (RowG (addE l p on)) (fun _ => .tuple #[]) (fun x => [r0, r1, r2, ⟨some gc, 61, [slv x.1.2.1 0 x.1.1.length x.1.2.2.2], 1, true⟩, ⟨x.1.2.1, 27, PLc x.1.1, x.1.2.2.1, true⟩]) := by
 refine ⟨by kernel_rfl, fun B w hL0 => ?_⟩
 refine calls_atB (args := [Pt p, Sg on, .pointer (some ⟨gc, 0, none⟩)]) Tryz.func67 rfl (Nat.le_of_ble_eq_true rfl) hL0 ?_
 show At B ⟨25, [(0, Pt p), (1, Sg on), (2, .pointer (some ⟨gc, 0, none⟩))], [r0, r1, r2, ⟨some gc, 61, [slv ob 0 l.length oc], 1, true⟩, ⟨ob, 27, PLc l, oN, true⟩]⟩ _
 refine at_seq ?_
 refine at_region ?_
 refine r_box [_, _, _, _, _, _, _, _] 8 (fun g => [_, _, _, _, _, ⟨some g, 27, _, 8, true⟩]) rfl rfl rfl rfl rfl (fun _ => rfl) (fun g0 => ?_)
 refine r_box [_, _, _, _, _, _, _, _, _, _, _, _, _, _, _, _] 16 (fun g => [_, _, _, _, _, _, ⟨some g, 36, _, 16, true⟩]) rfl rfl rfl rfl rfl (fun _ => rfl) (fun g1 => ?_)
 refine run_nil ?_
 refine at_tn ?_
 refine at_seq ?_
 refine at_seq ?_
 refine at_region ?_
 refine r_load 5 0 [_, _, _, _, _, _, _, _] rfl rfl rfl rfl ti27 rfl rfl rfl rfl ?_
 refine r_load 6 0 [_, _, _, _, _, _, _, _, _, _, _, _, _, _, _, _] rfl rfl rfl rfl ti36 rfl rfl rfl rfl ?_
 refine r_pcall [_, _] rfl rfl rfl (c_plane_OnSegment p on (Nat.le_trans hp (Nat.le_of_ble_eq_true rfl)) (Nat.le_trans hs (Nat.le_of_ble_eq_true rfl))) ?_
 refine r_not rfl rfl rfl ?_
 refine run_nil ?_
 refine at_tn ?_
 refine at_cond rfl (fun hb0 => ?_) (fun hb0 => ?_)
 ·
  have hon : ¬ onS p on := by simpa using hb0
  refine at_ret ?_
  refine at_tr ?_
  refine at_end0 rfl  (fun w hL => ⟨⟨(l, ob, oN, oc), (addE_1 hon).symm, h1, h2⟩, rfl, hL.picks [some 0, some 1, some 2, some 3, some 4] ⟨⟨_, rfl, Blk.le_refl _⟩, ⟨_, rfl, Blk.le_refl _⟩, ⟨_, rfl, Blk.le_refl _⟩, ⟨_, rfl, Blk.le_refl _⟩, ⟨_, rfl, Blk.le_refl _⟩, trivial⟩ rfl (apart5 _ _ _)⟩)
 ·
  have hon : onS p on := by simpa using hb0
  refine at_skip ?_
  refine at_tn ?_
  refine at_seq ?_
  refine at_seq ?_
  refine at_region ?_
  refine r_load 3 0 [_] rfl rfl rfl rfl ti61 rfl rfl rfl rfl ?_
  refine r_lenS u61 rfl rfl rfl ?_
  refine r_move rfl rfl rfl ?_
  refine run_nil ?_
  refine at_tn ?_
  refine at_block ?_
  refine enterL (nt := 25) (ι := {i : Nat // i ≤ l.length ∧ ∀ j, j < i → l[j]? ≠ some p}) (fun ⟨i, hi, hno⟩ => [(2, .pointer (some ⟨gc, 0, none⟩)), (3, .pointer (some ⟨g0, 0, none⟩)), (11, slv ob 0 l.length oc), (12, .int .i64 (l.length : Nat)), (13, .int .i64 (i : Nat))]) (fun ⟨i, hi, hno⟩ => [r0, r1, r2, ⟨some gc, 61, [slv ob 0 l.length oc], 1, true⟩, ⟨ob, 27, PLc l, oN, true⟩, ⟨some g0, 27, ptC p, 8, true⟩]) (fun ⟨i, hi, hno⟩ => l.length - i) ⟨0, Nat.zero_le _, fun j hj => absurd hj (by omega)⟩ ⟨rfl, rfl, rfl, rfl, rfl, trivial⟩ (weak_picks [some 0, some 1, some 2, some 3, some 4, some 5] ⟨⟨_, rfl, Blk.le_refl _⟩, ⟨_, rfl, Blk.le_refl _⟩, ⟨_, rfl, Blk.le_refl _⟩, ⟨_, rfl, Blk.le_refl _⟩, ⟨_, rfl, Blk.le_refl _⟩, ⟨_, rfl, Blk.le_refl _⟩, trivial⟩ rfl (apart6 _ _ _)) ?_
  rintro ⟨i, hi, hno⟩
  show At _ ⟨25, [(2, .pointer (some ⟨gc, 0, none⟩)), (3, .pointer (some ⟨g0, 0, none⟩)), (11, slv ob 0 l.length oc), (12, .int .i64 (l.length : Nat)), (13, .int .i64 (i : Nat))], [r0, r1, r2, ⟨some gc, 61, [slv ob 0 l.length oc], 1, true⟩, ⟨ob, 27, PLc l, oN, true⟩, ⟨some g0, 27, ptC p, 8, true⟩]⟩ _
  refine at_seq ?_
  refine at_region ?_
  refine r_cmpInt rfl rfl rfl rfl rfl ?_
  refine run_nil ?_
  refine at_tn ?_
  refine at_seq ?_
  refine at_cond rfl (fun hb2 => ?_) (fun hb2 => ?_)
  ·
   have hlt : i < l.length := (by have := of_decide_eq_true hb2; omega)
   obtain ⟨q, hq⟩ : ∃ q, l[i]? = some q := ⟨l[i], List.getElem?_eq_getElem hlt⟩
   refine at_skip ?_
   refine at_tn ?_
   refine at_seq ?_
   refine at_block ?_
   refine at_seq ?_
   refine at_region ?_
   refine r_indexAddr 4 (i * 8) u61 ti27 rfl rfl rfl rfl rfl (by omega) (by omega) (PLc_ne (by omega)) (by show 0 + Int.toNat _ * 8 = _; omega) ?_
   refine r_load (v := Pt q) 4 (i * 8) _ rfl rfl rfl rfl ti27 (PLc_get hq) rfl (by decide) rfl ?_
   refine r_alloc [_, _, _, _, _, _, _, _] 8 (fun g => [_, _, _, _, _, _, ⟨some g, 27, _, 8, true⟩]) rfl rfl z27 rfl rfl (fun _ => rfl) (fun g2 => ?_)
   refine r_store rfl 6 0 [_, _, _, _, _, _, ⟨some g2, 27, _, 8, true⟩] [_, _, _, _, _, _, _, _] rfl rfl rfl rfl ti27 rfl rfl rfl rfl rfl ?_
   refine run_nil ?_
   refine at_tn ?_
   refine at_seq ?_
   refine at_region ?_
   refine r_load 5 0 [_, _, _, _, _, _, _, _] rfl rfl rfl rfl ti27 rfl rfl rfl rfl ?_
   refine r_load 6 0 [_, _, _, _, _, _, _, _] rfl rfl rfl rfl ti27 rfl rfl rfl rfl ?_
   refine r_eqlAgg rfl rfl rfl rfl gd27 (eq27 _ _) ?_
   refine run_nil ?_
   refine at_tn ?_
   refine at_cond rfl (fun hb3 => ?_) (fun hb3 => ?_)
   ·
    have hin : p ∈ l := (of_decide_eq_true hb3) ▸ List.mem_of_getElem? hq
    refine at_ret ?_
    refine at_br ?_
    refine at_tr ?_
    refine at_tr ?_
    refine at_br ?_
    refine at_tr ?_
    refine at_end0 rfl  (fun w hL => ⟨⟨(l, ob, oN, oc), (addE_2 hin).symm, h1, h2⟩, rfl, hL.picks [some 0, some 1, some 2, some 3, some 4] ⟨⟨_, rfl, Blk.le_refl _⟩, ⟨_, rfl, Blk.le_refl _⟩, ⟨_, rfl, Blk.le_refl _⟩, ⟨_, rfl, Blk.le_refl _⟩, ⟨_, rfl, Blk.le_refl _⟩, trivial⟩ rfl (apart5 _ _ _)⟩)
   ·
    have hne : p ≠ q := of_decide_eq_false hb3
    refine at_skip ?_
    refine at_bn ?_
    refine at_tn ?_
    refine at_region ?_
    refine r_arith (r := ((i + 1 : Nat) : Int)) rfl rfl rfl rfl (congrArg some (wi (by omega) (by omega) (by omega))) ?_
    refine r_move rfl rfl rfl ?_
    refine run_nil ?_
    refine at_tn ?_
    exact nextL ⟨i + 1, hlt, no_step hno hq hne⟩ (by simp only []; omega) ⟨rfl, rfl, rfl, rfl, rfl, trivial⟩ (weak_picks [some 0, some 1, some 2, some 3, some 4, some 5] ⟨⟨_, rfl, Blk.le_refl _⟩, ⟨_, rfl, Blk.le_refl _⟩, ⟨_, rfl, Blk.le_refl _⟩, ⟨_, rfl, Blk.le_refl _⟩, ⟨_, rfl, Blk.le_refl _⟩, ⟨_, rfl, Blk.le_refl _⟩, trivial⟩ rfl (apart6 _ _ _))
  ·
   have hge : i = l.length := (by have := of_decide_eq_false hb2; omega)
   subst hge
   have hnot := no_mem hno
   refine at_exit ?_
   refine at_te ?_
   refine at_te ?_
   refine at_be ?_
   refine at_tn ?_
   refine at_region ?_
   refine r_load 3 0 [_] rfl rfl rfl rfl ti61 rfl rfl rfl rfl ?_
   refine r_load 5 0 [_, _, _, _, _, _, _, _] rfl rfl rfl rfl ti27 rfl rfl rfl rfl ?_
   refine r_buildSlice [(0, _)] (fun g => [_, _, _, _, _, _, ⟨some g, 27, _, 8, true⟩]) rfl rfl rfl (bs61_1) rfl (fun _ => rfl) (fun g2 => ?_)
   refine q_append (s := 8) (len := l.length) (n2 := 1) 4 6 (fun r => [_, _, _, _, ⟨some r.g, 27, PLc (l ++ [p]), r.n, true⟩, _, _]) u61 el27 rfl rfl rfl rfl rfl rfl rfl rfl rfl rfl rfl rfl (PLc_length l) h1 h2 rfl (ptC_one p) (by omega) (fun r => congrArg (fun c => [_, _, _, _, (⟨some r.g, 27, c, r.n, true⟩ : Blk), _, _]) (PLc_snoc l p)) (fun r => ?_)
   refine r_store rfl 3 0 [_, _, _, ⟨some gc, 61, _, 1, true⟩, _, _, _] [_] rfl rfl rfl rfl ti61 rfl rfl rfl rfl rfl ?_
   refine run_nil ?_
   -- end of the body
   refine at_end0n rfl  (fun w hL => ⟨⟨(l ++ [p], some r.g, r.n, r.cap), (addE_3 hon hnot).symm, by rw [List.length_append]; exact r.h, r.hn⟩, ?_, ?_⟩)
   · rfl
   · refine hL.picks [some 0, some 1, some 2, some 3, some 4] ⟨⟨_, rfl, Blk.le_refl _⟩, ⟨_, rfl, Blk.le_refl _⟩, ⟨_, rfl, Blk.le_refl _⟩, ⟨_, rfl, le_same (congrArg (fun n => (⟨some gc, 61, [slv (some r.g) 0 n r.cap], 1, true⟩ : Blk)) (show (l ++ [p]).length = l.length + 1 from List.length_append))⟩, ⟨_, rfl, Blk.le_refl _⟩, trivial⟩ rfl (apart5 _ _ _)
end Go.Proofs.YthnlafhnpphdhaaGreatDoor
set_option linter.unusedVariables false
namespace Go.Proofs.YthnlafhnpphdhaaGreatDoor
open Go Go.RowKit Go.Via
set_option maxRecDepth 20000 in
theorem c_plane_Meet (s t : S2) (hs : szS s ≤ 1000) (ht : szS t ≤ 1000) : PCall Tryz.prog 27 #[Sg s, Sg t] (Mt (meetP s t)) := by
 refine ⟨by kernel_rfl, fun w => ?_⟩
 refine calls_at (args := [Sg s, Sg t]) Tryz.func27 rfl (Nat.le_of_ble_eq_true rfl) (LRel.nil w) ?_
 show At w ⟨71, [(0, Sg s), (1, Sg t)], []⟩ _
 refine at_seq ?_
 refine at_region ?_
 refine r_box [_, _, _, _, _, _, _, _, _, _, _, _, _, _, _, _] 16 (fun g => [⟨some g, 36, _, 16, true⟩]) rfl rfl rfl rfl rfl (fun _ => rfl) (fun g0 => ?_)
 refine r_box [_, _, _, _, _, _, _, _, _, _, _, _, _, _, _, _] 16 (fun g => [_, ⟨some g, 36, _, 16, true⟩]) rfl rfl rfl rfl rfl (fun _ => rfl) (fun g1 => ?_)
 refine r_alloc [_, _, _, _, _, _, _, _, _, _, _, _, _, _, _, _, _] 17 (fun g => [_, _, ⟨some g, 40, _, 17, true⟩]) rfl rfl z40 rfl rfl (fun _ => rfl) (fun g2 => ?_)
 refine run_nil ?_
 refine at_tn ?_
 refine at_seq ?_
 refine at_region ?_
 refine r_alloc [_] 1 (fun g => [_, _, _, ⟨some g, 61, _, 1, true⟩]) rfl rfl z61 rfl rfl (fun _ => rfl) (fun g3 => ?_)
 refine run_nil ?_
 refine at_tn ?_
 refine at_seq ?_
 refine at_weak _ (weak_picks (L' := [_, _, _, _, ⟨none, 27, PLc [], 0, true⟩]) [some 0, some 1, some 2, some 3, none] ⟨⟨_, rfl, Blk.le_refl _⟩, ⟨_, rfl, Blk.le_refl _⟩, ⟨_, rfl, Blk.le_refl _⟩, ⟨_, rfl, Blk.le_refl _⟩, ⟨rfl, rfl, rfl⟩, trivial⟩ rfl rfl) ?_
 refine at_region ?_
 refine r_makeFunc rfl rfl rfl ?_
 refine r_assign rfl rfl rfl ?_
 refine run_nil ?_
 refine at_tn ?_
 refine at_seq ?_
 refine at_regionM ?_
 refine r_move rfl rfl rfl ?_
 refine r_fieldAddr 0 0 0 rfl rfl rfl rfl rfl ti36 rfl rfl ?_
 refine r_load 0 0 [_, _, _, _, _, _, _, _] rfl rfl rfl rfl ti27 rfl rfl rfl rfl ?_
 refine r_load 1 0 [_, _, _, _, _, _, _, _, _, _, _, _, _, _, _, _] rfl rfl rfl rfl ti36 rfl rfl rfl rfl ?_
 refine r_ecall [Pt s.1, Sg t] rfl rfl rfl rfl rfl (c_meet_add _ _ _ g3 [] none 0 0 (Nat.le_refl _) (Nat.le_refl _) (by decide) s.1 t (szS1 hs) ht) (fun z => ?_)
 obtain ⟨⟨l1, b1, N1, c1⟩, he1, h11, h21⟩ := z
 replace he1 : l1 = addE [] s.1 t := he1
 replace h11 : l1.length ≤ c1 := h11
 replace h21 : c1 * 8 ≤ N1 := h21
 have hlen1 := addE_len ([] : List P2) s.1 t
 rw [← he1] at hlen1
 replace hlen1 : l1.length ≤ 1 := hlen1
 refine run_nil ?_
 refine at_tn ?_
 refine at_seq ?_
 refine at_regionM ?_
 refine r_move rfl rfl rfl ?_
 refine r_fieldAddr 0 0 8 rfl rfl rfl rfl rfl ti36 rfl rfl ?_
 refine r_load 0 8 [_, _, _, _, _, _, _, _] rfl rfl rfl rfl ti27 rfl rfl rfl rfl ?_
 refine r_load 1 0 [_, _, _, _, _, _, _, _, _, _, _, _, _, _, _, _] rfl rfl rfl rfl ti36 rfl rfl rfl rfl ?_
 refine r_ecall [Pt s.2, Sg t] rfl rfl rfl rfl rfl (c_meet_add _ _ _ g3 l1 b1 N1 c1 h11 h21 (by omega) s.2 t (szS2 hs) ht) (fun z => ?_)
 obtain ⟨⟨l2, b2, N2, c2⟩, he2, h12, h22⟩ := z
 replace he2 : l2 = addE l1 s.2 t := he2
 replace h12 : l2.length ≤ c2 := h12
 replace h22 : c2 * 8 ≤ N2 := h22
 have hlen2 := addE_len (l1 : List P2) s.2 t
 rw [← he2] at hlen2
 refine run_nil ?_
 refine at_tn ?_
 refine at_seq ?_
 refine at_regionM ?_
 refine r_move rfl rfl rfl ?_
 refine r_fieldAddr 1 0 0 rfl rfl rfl rfl rfl ti36 rfl rfl ?_
 refine r_load 1 0 [_, _, _, _, _, _, _, _] rfl rfl rfl rfl ti27 rfl rfl rfl rfl ?_
 refine r_load 0 0 [_, _, _, _, _, _, _, _, _, _, _, _, _, _, _, _] rfl rfl rfl rfl ti36 rfl rfl rfl rfl ?_
 refine r_ecall [Pt t.1, Sg s] rfl rfl rfl rfl rfl (c_meet_add _ _ _ g3 l2 b2 N2 c2 h12 h22 (by omega) t.1 s (szS1 ht) hs) (fun z => ?_)
 obtain ⟨⟨l3, b3, N3, c3⟩, he3, h13, h23⟩ := z
 replace he3 : l3 = addE l2 t.1 s := he3
 replace h13 : l3.length ≤ c3 := h13
 replace h23 : c3 * 8 ≤ N3 := h23
 have hlen3 := addE_len (l2 : List P2) t.1 s
 rw [← he3] at hlen3
 refine run_nil ?_
 refine at_tn ?_
 refine at_seq ?_
 refine at_regionM ?_
 refine r_move rfl rfl rfl ?_
 refine r_fieldAddr 1 0 8 rfl rfl rfl rfl rfl ti36 rfl rfl ?_
 refine r_load 1 8 [_, _, _, _, _, _, _, _] rfl rfl rfl rfl ti27 rfl rfl rfl rfl ?_
 refine r_load 0 0 [_, _, _, _, _, _, _, _, _, _, _, _, _, _, _, _] rfl rfl rfl rfl ti36 rfl rfl rfl rfl ?_
 refine r_ecall [Pt t.2, Sg s] rfl rfl rfl rfl rfl (c_meet_add _ _ _ g3 l3 b3 N3 c3 h13 h23 (by omega) t.2 s (szS2 ht) hs) (fun z => ?_)
 obtain ⟨⟨l4, b4, N4, c4⟩, he4, h14, h24⟩ := z
 replace he4 : l4 = addE l3 t.2 s := he4
 replace h14 : l4.length ≤ c4 := h14
 replace h24 : c4 * 8 ≤ N4 := h24
 have hlen4 := addE_len (l3 : List P2) t.2 s
 rw [← he4] at hlen4
 refine run_nil ?_
 refine at_tn ?_
 refine at_seq ?_
 refine at_seq ?_
 refine at_region ?_
 refine r_load 3 0 [_] rfl rfl rfl rfl ti61 rfl rfl rfl rfl ?_
 refine r_lenS u61 rfl rfl rfl ?_
 refine run_nil ?_
 refine at_tn ?_
 refine at_block ?_
 refine at_seq ?_
 refine at_region ?_
 refine r_cmpInt rfl rfl rfl rfl rfl ?_
 refine r_assign rfl rfl rfl ?_
 refine run_nil ?_
 refine at_tn ?_
 refine at_cond rfl (fun hb0 => ?_) (fun hb0 => ?_)
 ·
  have hends : endsP s t = l4 := by unfold endsP; rw [he4, he3, he2, he1]
  have h0 := len0 hb0
  refine at_seq ?_
  refine at_region ?_
  refine r_load 0 0 [_, _, _, _, _, _, _, _, _, _, _, _, _, _, _, _] rfl rfl rfl rfl ti36 rfl rfl rfl rfl ?_
  refine r_load 1 0 [_, _, _, _, _, _, _, _, _, _, _, _, _, _, _, _] rfl rfl rfl rfl ti36 rfl rfl rfl rfl ?_
  refine r_pcall [_, _] rfl rfl rfl (c_plane_cross s t hs ht) ?_
  refine r_store rfl 2 0 [_, _, ⟨some g2, 40, _, 17, true⟩, _, _] [_, _, _, _, _, _, _, _, _, _, _, _, _, _, _, _, _] rfl rfl rfl rfl ti40 rfl rfl rfl rfl rfl ?_
  refine run_nil ?_
  refine at_tn ?_
  refine at_ret ?_
  refine at_br ?_
  refine at_tr ?_
  refine at_end1 rfl (res_cell 2 rfl rfl ti40 (vs := [_, _, _, _, _, _, _, _, _, _, _, _, _, _, _, _, _]) rfl rfl (Nat.le_of_ble_eq_true rfl) rfl) (fun w hL => ⟨?_, hL.below⟩)
  rw [meet_0 (hends.trans h0)]; rfl
 ·
  have hends : endsP s t = l4 := by unfold endsP; rw [he4, he3, he2, he1]
  refine at_seq ?_
  refine at_region ?_
  refine r_cmpInt rfl rfl rfl rfl rfl ?_
  refine r_assign rfl rfl rfl ?_
  refine run_nil ?_
  refine at_tn ?_
  refine at_cond rfl (fun hb1 => ?_) (fun hb1 => ?_)
  ·
   obtain ⟨a, rfl⟩ := len1 hb1
   have hll : 1 ≤ ([a] : List P2).length := Nat.le_refl _
   refine at_seq ?_
   refine at_drawn (l' := [⟨_,_,_,_,_,_⟩, ⟨_,_,_,_,_,_⟩, ⟨_,_,_,_,_,_⟩, ⟨_,_,_,_,_,_⟩, ⟨_,_,_,_,_,_⟩, ⟨_,_,_,_,_,_⟩, ⟨_,_,_,_,_,_⟩, ⟨_,_,_,_,_,_⟩, ⟨_,_,_,_,_,_⟩]) [] [0, 1, 2, 3, 4, 5, 6, 7, 8] mixed (by kernel_rfl) rfl (by kernel_rfl) ?_
   refine r_load 3 0 [_] rfl rfl rfl rfl ti61 rfl rfl rfl rfl ?_
   refine r_indexAddr 4 (0 * 8) u61 ti27 rfl rfl rfl rfl rfl (by omega) (one_len a) (PLc_ne (by simp)) (by show 0 + Int.toNat _ * 8 = _; omega) ?_
   refine r_load (v := Pt a) 4 (0 * 8) _ rfl rfl rfl rfl ti27 (PLc_get rfl) rfl (by decide) rfl ?_
   refine r_load 3 0 [_] rfl rfl rfl rfl ti61 rfl rfl rfl rfl ?_
   refine r_indexAddr 4 (0 * 8) u61 ti27 rfl rfl rfl rfl rfl (by omega) (one_len a) (PLc_ne (by simp)) (by show 0 + Int.toNat _ * 8 = _; omega) ?_
   refine r_load (v := Pt a) 4 (0 * 8) _ rfl rfl rfl rfl ti27 (PLc_get rfl) rfl (by decide) rfl ?_
   refine r_build [(0, _), (1, _)] rfl rfl rfl (bd36_2) ?_
   refine r_build [(0, _), (1, _)] rfl rfl rfl (bd40_2) ?_
   refine r_store rfl 2 0 [_, _, ⟨some g2, 40, _, 17, true⟩, _, _] [_, _, _, _, _, _, _, _, _, _, _, _, _, _, _, _, _] rfl rfl rfl rfl ti40 rfl rfl rfl rfl rfl ?_
   refine run_nil ?_
   refine at_tn ?_
   refine at_ret ?_
   refine at_br ?_
   refine at_tr ?_
   refine at_end1 rfl (res_cell 2 rfl rfl ti40 (vs := [_, _, _, _, _, _, _, _, _, _, _, _, _, _, _, _, _]) rfl rfl (Nat.le_of_ble_eq_true rfl) rfl) (fun w hL => ⟨?_, hL.below⟩)
   rw [meet_1 hends]; rfl
  ·
   obtain ⟨a, b, m, rfl⟩ := len2 hb0 hb1
   have hza : szP a ≤ 1000 := endsP_sz hs ht (p := a) (by rw [hends]; simp)
   have hzb : szP b ≤ 1000 := endsP_sz hs ht (p := b) (by rw [hends]; simp)
   have hll : 2 ≤ (a :: b :: m).length := by simp
   refine at_skip ?_
   refine at_bn ?_
   refine at_tn ?_
   refine at_seq ?_
   refine at_seq ?_
   refine at_drawn (l' := [⟨_,_,_,_,_,_⟩, ⟨_,_,_,_,_,_⟩, ⟨_,_,_,_,_,_⟩, ⟨_,_,_,_,_,_⟩, ⟨_,_,_,_,_,_⟩, ⟨_,_,_,_,_,_⟩, ⟨_,_,_,_,_,_⟩, ⟨_,_,_,_,_,_⟩]) [] [0, 1, 2, 3, 4, 5, 6, 7] mixed (by kernel_rfl) rfl (by kernel_rfl) ?_
   refine r_load 3 0 [_] rfl rfl rfl rfl ti61 rfl rfl rfl rfl ?_
   refine r_indexAddr 4 (0 * 8) u61 ti27 rfl rfl rfl rfl rfl (by omega) (two_len0 a b m) (PLc_ne (by simp)) (by show 0 + Int.toNat _ * 8 = _; omega) ?_
   refine r_load (v := Pt a) 4 (0 * 8) _ rfl rfl rfl rfl ti27 (PLc_get rfl) rfl (by decide) rfl ?_
   refine r_load 3 0 [_] rfl rfl rfl rfl ti61 rfl rfl rfl rfl ?_
   refine r_indexAddr 4 (1 * 8) u61 ti27 rfl rfl rfl rfl rfl (by omega) (two_len1 a b m) (PLc_ne (by simp)) (by show 0 + Int.toNat _ * 8 = _; omega) ?_
   refine r_load (v := Pt b) 4 (1 * 8) _ rfl rfl rfl rfl ti27 (PLc_get rfl) rfl (by decide) rfl ?_
   refine r_pcall [_, _] rfl rfl rfl (c_plane_Compare a b (Nat.le_trans hza (Nat.le_of_ble_eq_true rfl)) (Nat.le_trans hzb (Nat.le_of_ble_eq_true rfl))) ?_
   refine r_cmpInt rfl rfl rfl rfl rfl ?_
   refine run_nil ?_
   refine at_tn ?_
   refine at_cond rfl (fun hb2 => ?_) (fun hb2 => ?_)
   ·
    have hgt : 0 < cmpP a b := of_decide_eq_true hb2
    refine at_base 4 rfl (fun hbase => ?_)
    obtain ⟨g4, hg4⟩ := row_base hbase
    replace hg4 : b4 = some g4 := hg4
    subst hg4
    refine at_drawnT (l' := [⟨_,_,_,_,_,_⟩, ⟨_,_,_,_,_,_⟩, ⟨_,_,_,_,_,_⟩, ⟨_,_,_,_,_,_⟩, ⟨_,_,_,_,_,_⟩, ⟨_,_,_,_,_,_⟩, ⟨_,_,_,_,_,_⟩]) [2000000] [0, 2, 3, 4, 5, 6, 7] [1, 8, 9, 10, 11] mixed (by kernel_rfl) rfl ?_
    refine r_load 3 0 [_] rfl rfl rfl rfl ti61 rfl rfl rfl rfl ?_
    refine r_load 3 0 [_] rfl rfl rfl rfl ti61 rfl rfl rfl rfl ?_
    refine r_indexAddr 4 (1 * 8) u61 ti27 rfl rfl rfl rfl rfl (by omega) (two_len1 a b m) (PLc_ne (by simp)) (by show 0 + Int.toNat _ * 8 = _; omega) ?_
    refine r_load (v := Pt b) 4 (1 * 8) _ rfl rfl rfl rfl ti27 (PLc_get rfl) rfl (by decide) rfl ?_
    refine r_load 3 0 [_] rfl rfl rfl rfl ti61 rfl rfl rfl rfl ?_
    refine r_indexAddr 4 (0 * 8) u61 ti27 rfl rfl rfl rfl rfl (by omega) (two_len0 a b m) (PLc_ne (by simp)) (by show 0 + Int.toNat _ * 8 = _; omega) ?_
    refine r_load (v := Pt a) 4 (0 * 8) _ rfl rfl rfl rfl ti27 (PLc_get rfl) rfl (by decide) rfl ?_
    refine run_nil ?_
    refine tt_node [1, 8] (by kernel_rfl) ⟨⟨_, rfl, ?_⟩, ⟨_, rfl, ?_⟩, trivial⟩
    ·
     refine r_load 3 0 [_] rfl rfl rfl rfl ti61 rfl rfl rfl rfl ?_
     refine run_nil ?_
     refine tt_node [8] (by kernel_rfl) ⟨⟨_, rfl, ?_⟩, trivial⟩
     ·
      refine r_indexAddr 4 (0 * 8) u61 ti27 rfl rfl rfl rfl rfl (by omega) (two_len0 a b m) (PLc_ne (by simp)) (by show 0 + Int.toNat _ * 8 = _; omega) ?_
      refine run_nil ?_
      refine tt_node [9] (by kernel_rfl) ⟨⟨_, rfl, ?_⟩, trivial⟩
      ·
       refine r_store rfl 4 (0 * 8) [_, _, _, _, ⟨some g4, 27, _, N4, true⟩] (PLc (b :: b :: m)) rfl rfl rfl rfl ti27 rfl (PLc_fit (Nat.le_of_ble_eq_true rfl)) rfl rfl rfl ?_
       refine run_nil ?_
       refine tt_node [10] (by kernel_rfl) ⟨⟨_, rfl, ?_⟩, trivial⟩
       ·
        refine r_indexAddr 4 (1 * 8) u61 ti27 rfl rfl rfl rfl rfl (by omega) (two_len1 a b m) (PLc_ne (by simp)) (by show 0 + Int.toNat _ * 8 = _; omega) ?_
        refine run_nil ?_
        refine tt_node [11] (by kernel_rfl) ⟨⟨_, rfl, ?_⟩, trivial⟩
        ·
         refine r_store rfl 4 (1 * 8) [_, _, _, _, ⟨some g4, 27, _, N4, true⟩] (PLc (b :: a :: m)) rfl rfl rfl rfl ti27 rfl (PLc_fit (Nat.le_of_ble_eq_true rfl)) rfl rfl rfl ?_
         refine run_nil ?_
         refine tt_nil rfl ?_
         refine at_tn ?_
         refine at_seq ?_
         refine at_drawn (l' := [⟨_,_,_,_,_,_⟩, ⟨_,_,_,_,_,_⟩, ⟨_,_,_,_,_,_⟩, ⟨_,_,_,_,_,_⟩, ⟨_,_,_,_,_,_⟩, ⟨_,_,_,_,_,_⟩, ⟨_,_,_,_,_,_⟩, ⟨_,_,_,_,_,_⟩, ⟨_,_,_,_,_,_⟩]) [] [0, 1, 2, 3, 4, 5, 6, 7, 8] mixed (by kernel_rfl) rfl (by kernel_rfl) ?_
         refine r_load 3 0 [_] rfl rfl rfl rfl ti61 rfl rfl rfl rfl ?_
         refine r_indexAddr 4 (0 * 8) u61 ti27 rfl rfl rfl rfl rfl (by omega) (two_len0 a b m) (PLc_ne (by simp)) (by show 0 + Int.toNat _ * 8 = _; omega) ?_
         refine r_load (v := Pt b) 4 (0 * 8) _ rfl rfl rfl rfl ti27 (PLc_get rfl) rfl (by decide) rfl ?_
         refine r_load 3 0 [_] rfl rfl rfl rfl ti61 rfl rfl rfl rfl ?_
         refine r_indexAddr 4 (1 * 8) u61 ti27 rfl rfl rfl rfl rfl (by omega) (two_len1 a b m) (PLc_ne (by simp)) (by show 0 + Int.toNat _ * 8 = _; omega) ?_
         refine r_load (v := Pt a) 4 (1 * 8) _ rfl rfl rfl rfl ti27 (PLc_get rfl) rfl (by decide) rfl ?_
         refine r_build [(0, _), (1, _)] rfl rfl rfl (bd36_2) ?_
         refine r_build [(0, _), (1, _)] rfl rfl rfl (bd40_2) ?_
         refine r_store rfl 2 0 [_, _, ⟨some g2, 40, _, 17, true⟩, _, _] [_, _, _, _, _, _, _, _, _, _, _, _, _, _, _, _, _] rfl rfl rfl rfl ti40 rfl rfl rfl rfl rfl ?_
         refine run_nil ?_
         refine at_tn ?_
         refine at_ret ?_
         refine at_end1 rfl (res_cell 2 rfl rfl ti40 (vs := [_, _, _, _, _, _, _, _, _, _, _, _, _, _, _, _, _]) rfl rfl (Nat.le_of_ble_eq_true rfl) rfl) (fun w hL => ⟨?_, hL.below⟩)
         rw [meet_2 hends hgt]; rfl
    ·
     refine r_indexAddr 4 (0 * 8) u61 ti27 rfl rfl rfl rfl rfl (by omega) (two_len0 a b m) (PLc_ne (by simp)) (by show 0 + Int.toNat _ * 8 = _; omega) ?_
     refine run_nil ?_
     refine tt_node [1, 9] (by kernel_rfl) ⟨⟨_, rfl, ?_⟩, ⟨_, rfl, ?_⟩, trivial⟩
     ·
      refine r_load 3 0 [_] rfl rfl rfl rfl ti61 rfl rfl rfl rfl ?_
      refine run_nil ?_
      refine tt_node [9] (by kernel_rfl) ⟨⟨_, rfl, ?_⟩, trivial⟩
      ·
       refine r_store rfl 4 (0 * 8) [_, _, _, _, ⟨some g4, 27, _, N4, true⟩] (PLc (b :: b :: m)) rfl rfl rfl rfl ti27 rfl (PLc_fit (Nat.le_of_ble_eq_true rfl)) rfl rfl rfl ?_
       refine run_nil ?_
       refine tt_node [10] (by kernel_rfl) ⟨⟨_, rfl, ?_⟩, trivial⟩
       ·
        refine r_indexAddr 4 (1 * 8) u61 ti27 rfl rfl rfl rfl rfl (by omega) (two_len1 a b m) (PLc_ne (by simp)) (by show 0 + Int.toNat _ * 8 = _; omega) ?_
        refine run_nil ?_
        refine tt_node [11] (by kernel_rfl) ⟨⟨_, rfl, ?_⟩, trivial⟩
        ·
         refine r_store rfl 4 (1 * 8) [_, _, _, _, ⟨some g4, 27, _, N4, true⟩] (PLc (b :: a :: m)) rfl rfl rfl rfl ti27 rfl (PLc_fit (Nat.le_of_ble_eq_true rfl)) rfl rfl rfl ?_
         refine run_nil ?_
         refine tt_nil rfl ?_
         refine at_tn ?_
         refine at_seq ?_
         refine at_drawn (l' := [⟨_,_,_,_,_,_⟩, ⟨_,_,_,_,_,_⟩, ⟨_,_,_,_,_,_⟩, ⟨_,_,_,_,_,_⟩, ⟨_,_,_,_,_,_⟩, ⟨_,_,_,_,_,_⟩, ⟨_,_,_,_,_,_⟩, ⟨_,_,_,_,_,_⟩, ⟨_,_,_,_,_,_⟩]) [] [0, 1, 2, 3, 4, 5, 6, 7, 8] mixed (by kernel_rfl) rfl (by kernel_rfl) ?_
         refine r_load 3 0 [_] rfl rfl rfl rfl ti61 rfl rfl rfl rfl ?_
         refine r_indexAddr 4 (0 * 8) u61 ti27 rfl rfl rfl rfl rfl (by omega) (two_len0 a b m) (PLc_ne (by simp)) (by show 0 + Int.toNat _ * 8 = _; omega) ?_
         refine r_load (v := Pt b) 4 (0 * 8) _ rfl rfl rfl rfl ti27 (PLc_get rfl) rfl (by decide) rfl ?_
         refine r_load 3 0 [_] rfl rfl rfl rfl ti61 rfl rfl rfl rfl ?_
         refine r_indexAddr 4 (1 * 8) u61 ti27 rfl rfl rfl rfl rfl (by omega) (two_len1 a b m) (PLc_ne (by simp)) (by show 0 + Int.toNat _ * 8 = _; omega) ?_
         refine r_load (v := Pt a) 4 (1 * 8) _ rfl rfl rfl rfl ti27 (PLc_get rfl) rfl (by decide) rfl ?_
         refine r_build [(0, _), (1, _)] rfl rfl rfl (bd36_2) ?_
         refine r_build [(0, _), (1, _)] rfl rfl rfl (bd40_2) ?_
         refine r_store rfl 2 0 [_, _, ⟨some g2, 40, _, 17, true⟩, _, _] [_, _, _, _, _, _, _, _, _, _, _, _, _, _, _, _, _] rfl rfl rfl rfl ti40 rfl rfl rfl rfl rfl ?_
         refine run_nil ?_
         refine at_tn ?_
         refine at_ret ?_
         refine at_end1 rfl (res_cell 2 rfl rfl ti40 (vs := [_, _, _, _, _, _, _, _, _, _, _, _, _, _, _, _, _]) rfl rfl (Nat.le_of_ble_eq_true rfl) rfl) (fun w hL => ⟨?_, hL.below⟩)
         rw [meet_2 hends hgt]; rfl
     ·
      refine r_store rfl 4 (0 * 8) [_, _, _, _, ⟨some g4, 27, _, N4, true⟩] (PLc (b :: b :: m)) rfl rfl rfl rfl ti27 rfl (PLc_fit (Nat.le_of_ble_eq_true rfl)) rfl rfl rfl ?_
      refine run_nil ?_
      refine tt_node [1] (by kernel_rfl) ⟨⟨_, rfl, ?_⟩, trivial⟩
      ·
       refine r_load 3 0 [_] rfl rfl rfl rfl ti61 rfl rfl rfl rfl ?_
       refine run_nil ?_
       refine tt_node [10] (by kernel_rfl) ⟨⟨_, rfl, ?_⟩, trivial⟩
       ·
        refine r_indexAddr 4 (1 * 8) u61 ti27 rfl rfl rfl rfl rfl (by omega) (two_len1 a b m) (PLc_ne (by simp)) (by show 0 + Int.toNat _ * 8 = _; omega) ?_
        refine run_nil ?_
        refine tt_node [11] (by kernel_rfl) ⟨⟨_, rfl, ?_⟩, trivial⟩
        ·
         refine r_store rfl 4 (1 * 8) [_, _, _, _, ⟨some g4, 27, _, N4, true⟩] (PLc (b :: a :: m)) rfl rfl rfl rfl ti27 rfl (PLc_fit (Nat.le_of_ble_eq_true rfl)) rfl rfl rfl ?_
         refine run_nil ?_
         refine tt_nil rfl ?_
         refine at_tn ?_
         refine at_seq ?_
         refine at_drawn (l' := [⟨_,_,_,_,_,_⟩, ⟨_,_,_,_,_,_⟩, ⟨_,_,_,_,_,_⟩, ⟨_,_,_,_,_,_⟩, ⟨_,_,_,_,_,_⟩, ⟨_,_,_,_,_,_⟩, ⟨_,_,_,_,_,_⟩, ⟨_,_,_,_,_,_⟩, ⟨_,_,_,_,_,_⟩]) [] [0, 1, 2, 3, 4, 5, 6, 7, 8] mixed (by kernel_rfl) rfl (by kernel_rfl) ?_
         refine r_load 3 0 [_] rfl rfl rfl rfl ti61 rfl rfl rfl rfl ?_
         refine r_indexAddr 4 (0 * 8) u61 ti27 rfl rfl rfl rfl rfl (by omega) (two_len0 a b m) (PLc_ne (by simp)) (by show 0 + Int.toNat _ * 8 = _; omega) ?_
         refine r_load (v := Pt b) 4 (0 * 8) _ rfl rfl rfl rfl ti27 (PLc_get rfl) rfl (by decide) rfl ?_
         refine r_load 3 0 [_] rfl rfl rfl rfl ti61 rfl rfl rfl rfl ?_
         refine r_indexAddr 4 (1 * 8) u61 ti27 rfl rfl rfl rfl rfl (by omega) (two_len1 a b m) (PLc_ne (by simp)) (by show 0 + Int.toNat _ * 8 = _; omega) ?_
         refine r_load (v := Pt a) 4 (1 * 8) _ rfl rfl rfl rfl ti27 (PLc_get rfl) rfl (by decide) rfl ?_
         refine r_build [(0, _), (1, _)] rfl rfl rfl (bd36_2) ?_
         refine r_build [(0, _), (1, _)] rfl rfl rfl (bd40_2) ?_
         refine r_store rfl 2 0 [_, _, ⟨some g2, 40, _, 17, true⟩, _, _] [_, _, _, _, _, _, _, _, _, _, _, _, _, _, _, _, _] rfl rfl rfl rfl ti40 rfl rfl rfl rfl rfl ?_
         refine run_nil ?_
         refine at_tn ?_
         refine at_ret ?_
         refine at_end1 rfl (res_cell 2 rfl rfl ti40 (vs := [_, _, _, _, _, _, _, _, _, _, _, _, _, _, _, _, _]) rfl rfl (Nat.le_of_ble_eq_true rfl) rfl) (fun w hL => ⟨?_, hL.below⟩)
         rw [meet_2 hends hgt]; rfl
   ·
    have hgt : ¬ 0 < cmpP a b := of_decide_eq_false hb2
    refine at_skip ?_
    refine at_tn ?_
    refine at_seq ?_
    refine at_drawn (l' := [⟨_,_,_,_,_,_⟩, ⟨_,_,_,_,_,_⟩, ⟨_,_,_,_,_,_⟩, ⟨_,_,_,_,_,_⟩, ⟨_,_,_,_,_,_⟩, ⟨_,_,_,_,_,_⟩, ⟨_,_,_,_,_,_⟩, ⟨_,_,_,_,_,_⟩, ⟨_,_,_,_,_,_⟩]) [] [0, 1, 2, 3, 4, 5, 6, 7, 8] mixed (by kernel_rfl) rfl (by kernel_rfl) ?_
    refine r_load 3 0 [_] rfl rfl rfl rfl ti61 rfl rfl rfl rfl ?_
    refine r_indexAddr 4 (0 * 8) u61 ti27 rfl rfl rfl rfl rfl (by omega) (two_len0 a b m) (PLc_ne (by simp)) (by show 0 + Int.toNat _ * 8 = _; omega) ?_
    refine r_load (v := Pt a) 4 (0 * 8) _ rfl rfl rfl rfl ti27 (PLc_get rfl) rfl (by decide) rfl ?_
    refine r_load 3 0 [_] rfl rfl rfl rfl ti61 rfl rfl rfl rfl ?_
    refine r_indexAddr 4 (1 * 8) u61 ti27 rfl rfl rfl rfl rfl (by omega) (two_len1 a b m) (PLc_ne (by simp)) (by show 0 + Int.toNat _ * 8 = _; omega) ?_
    refine r_load (v := Pt b) 4 (1 * 8) _ rfl rfl rfl rfl ti27 (PLc_get rfl) rfl (by decide) rfl ?_
    refine r_build [(0, _), (1, _)] rfl rfl rfl (bd36_2) ?_
    refine r_build [(0, _), (1, _)] rfl rfl rfl (bd40_2) ?_
    refine r_store rfl 2 0 [_, _, ⟨some g2, 40, _, 17, true⟩, _, _] [_, _, _, _, _, _, _, _, _, _, _, _, _, _, _, _, _] rfl rfl rfl rfl ti40 rfl rfl rfl rfl rfl ?_
    refine run_nil ?_
    refine at_tn ?_
    refine at_ret ?_
    refine at_end1 rfl (res_cell 2 rfl rfl ti40 (vs := [_, _, _, _, _, _, _, _, _, _, _, _, _, _, _, _, _]) rfl rfl (Nat.le_of_ble_eq_true rfl) rfl) (fun w hL => ⟨?_, hL.below⟩)
    rw [meet_3 hends hgt]; rfl
end Go.Proofs.YthnlafhnpphdhaaGreatDoor
set_option linter.unusedVariables false
set_option linter.unusedSimpArgs false
namespace Go.Via
open Go Go.RowKit
/-! ### points as they come in -/
structure RawP where
  a1 : Bool
  s1 : ByteArray
  a2 : Bool
  s2 : ByteArray
  a3 : Bool
  s3 : ByteArray
  a4 : Bool
  s4 : ByteArray
def rpC (p : RawP) : List Value := [.bool p.a1, .string p.s1, .bool p.a2, .string p.s2, .bool p.a3, .string p.s3, .bool p.a4, .string p.s4]
def RLc : List RawP → List Value
  | [] => []
  | p :: l => rpC p ++ RLc l
theorem RLc_length (l : List RawP) : (RLc l).length = l.length * 8 := by
  induction l with
  | nil => rfl
  | cons p l ih => rw [RLc, List.length_append, ih]; simp [rpC]; omega
theorem RLc_get8 {l : List RawP} {i : Nat} {p : RawP} (h : l[i]? = some p) : ∃ m, (RLc l).drop (i * 8) = rpC p ++ m := by
  induction l generalizing i with
  | nil => simp at h
  | cons q l ih =>
    cases i with
    | zero =>
      simp at h; subst h
      exact ⟨RLc l, by rw [Nat.zero_mul, List.drop_zero, RLc]⟩
    | succ i =>
      rw [List.getElem?_cons_succ] at h
      rw [RLc, Nat.succ_mul, Nat.add_comm, ← List.drop_drop, List.drop_left' (by simp [rpC])]
      exact ih h
theorem RLc_get1 {l : List RawP} {i : Nat} {p : RawP} (h : l[i]? = some p) : ((RLc l).drop (i * 8)).take 4 = [.bool p.a1, .string p.s1, .bool p.a2, .string p.s2] := by
  obtain ⟨m, hm⟩ := RLc_get8 h
  rw [hm]; rfl
theorem RLc_get2 {l : List RawP} {i : Nat} {p : RawP} (h : l[i]? = some p) : ((RLc l).drop (i * 8 + 4)).take 4 = [.bool p.a3, .string p.s3, .bool p.a4, .string p.s4] := by
  obtain ⟨m, hm⟩ := RLc_get8 h
  rw [← List.drop_drop, hm]; rfl
theorem RLc_ne {l : List RawP} (h : 0 < l.length) : RLc l ≠ [] := fun e => by
  have := congrArg List.length e
  rw [RLc_length] at this
  simp at this; omega
def BIG : Nat := 1152921504606846976
/-- canonical, of at most 8 bytes -/
noncomputable def smallB (b1 : Bool) (s1 : ByteArray) (b2 : Bool) (s2 : ByteArray) : Bool := decide (s1.size + s2.size ≤ 8) && isQ b1 s1 b2 s2
noncomputable def smallP (p : RawP) : Bool := smallB p.a1 p.s1 p.a2 p.s2 && smallB p.a3 p.s3 p.a4 p.s4
def szR (p : RawP) : Prop := p.s1.size ≤ BIG ∧ p.s2.size ≤ BIG ∧ p.s3.size ≤ BIG ∧ p.s4.size ≤ BIG
theorem small_T {b1 : Bool} {s1 : ByteArray} {b2 : Bool} {s2 : ByteArray} (h : decide (((s1.size + s2.size : Nat) : Int) ≤ 8) = true) : isQ b1 s1 b2 s2 = smallB b1 s1 b2 s2 := by
  unfold smallB
  rw [decide_eq_true (by have := of_decide_eq_true h; omega), Bool.true_and]
theorem small_F {b1 : Bool} {s1 : ByteArray} {b2 : Bool} {s2 : ByteArray} (h : decide (((s1.size + s2.size : Nat) : Int) ≤ 8) = false) : false = smallB b1 s1 b2 s2 := by
  unfold smallB
  rw [decide_eq_false (by have := of_decide_eq_false h; omega), Bool.false_and]
theorem small_q {b1 : Bool} {s1 : ByteArray} {b2 : Bool} {s2 : ByteArray} (h : smallB b1 s1 b2 s2 = true) : ∃ q : Rat, (b1 = decide (q.num < 0) ∧ s1 = mag q.num.natAbs ∧ b2 = false ∧ s2 = dm q) ∧ szQ q ≤ 8 := by
  unfold smallB at h
  rw [Bool.and_eq_true] at h
  obtain ⟨q, h1, h2, h3, h4⟩ := isQ_iff.1 h.2
  refine ⟨q, ⟨h1, h2, h3, h4⟩, ?_⟩
  have h5 := of_decide_eq_true h.1
  rw [h2, h4, mag_size] at h5
  unfold szQ
  have h6 : nb q.den ≤ 8 := by
    unfold dm at h5
    split at h5
    · rename_i e; rw [e, nb_one]; omega
    · rw [mag_size] at h5; omega
  omega
theorem pts_no {l : List RawP} {i : Nat} {p : RawP} (h : l[i]? = some p) (h1 : smallP p = false) : false = l.all smallP := by
  symm
  rw [List.all_eq_false]
  exact ⟨p, List.mem_of_getElem? h, by rw [h1]; decide⟩
theorem pts_yes {l : List RawP} (h : ∀ j, j < l.length → ∀ p, l[j]? = some p → smallP p = true) : true = l.all smallP := by
  symm
  rw [List.all_eq_true]
  intro p hp
  obtain ⟨j, hj⟩ := List.mem_iff_getElem?.1 hp
  exact h j (List.getElem?_eq_some_iff.1 hj).1 p hj
theorem pts_step {l : List RawP} {i : Nat} {p : RawP} (h : ∀ j, j < i → ∀ q, l[j]? = some q → smallP q = true) (hp : l[i]? = some p) (h1 : smallP p = true) : ∀ j, j < i + 1 → ∀ q, l[j]? = some q → smallP q = true := fun j hj q hq => by
  by_cases e : j = i
  · subst e; rw [hp] at hq; cases hq; exact h1
  · exact h j (by omega) q hq
theorem pts_base {b : Option Nat} {l : List RawP} (h : b = none → RLc l = []) (h0 : 0 < l.length) : ∃ g, b = some g := by
  cases b with
  | none => exact absurd (h rfl) (RLc_ne h0)
  | some g => exact ⟨g, rfl⟩
theorem smallP_mk {p : RawP} (h1 : (!smallB p.a1 p.s1 p.a2 p.s2) = false) (h2 : (!smallB p.a3 p.s3 p.a4 p.s4) = false) : smallP p = true := by
  unfold smallP; simp at h1 h2; rw [h1, h2]; rfl
theorem smallP_n1 {p : RawP} (h1 : (!smallB p.a1 p.s1 p.a2 p.s2) = true) : smallP p = false := by
  unfold smallP; simp at h1; rw [h1]; rfl
theorem smallP_n2 {p : RawP} (h1 : (!smallB p.a3 p.s3 p.a4 p.s4) = true) : smallP p = false := by
  unfold smallP; simp at h1; rw [h1, Bool.and_false]
/-- a point that is canonical -/
def isP (p : RawP) (q : P2) : Prop := (p.a1 = decide (q.1.num < 0) ∧ p.s1 = mag q.1.num.natAbs ∧ p.a2 = false ∧ p.s2 = dm q.1) ∧ (p.a3 = decide (q.2.num < 0) ∧ p.s3 = mag q.2.num.natAbs ∧ p.a4 = false ∧ p.s4 = dm q.2)
theorem smallP_q {p : RawP} (h : smallP p = true) : ∃ q : P2, isP p q ∧ szP q ≤ 8 := by
  unfold smallP at h
  rw [Bool.and_eq_true] at h
  obtain ⟨x, hx, hx2⟩ := small_q h.1
  obtain ⟨y, hy, hy2⟩ := small_q h.2
  exact ⟨(x, y), ⟨hx, hy⟩, szPm hx2 hy2⟩
theorem known_1 : meetP ((((0 : Int) : Rat), ((0 : Int) : Rat)), (((4 : Int) : Rat), ((4 : Int) : Rat))) ((((0 : Int) : Rat), ((4 : Int) : Rat)), (((4 : Int) : Rat), ((0 : Int) : Rat))) = (2, ((((2 : Int) : Rat), ((2 : Int) : Rat)), (((2 : Int) : Rat), ((2 : Int) : Rat)))) :=
  of_decide_eq_true (by kernel_rfl)
theorem known_2 : meetP ((((0 : Int) : Rat), ((0 : Int) : Rat)), (((4 : Int) : Rat), ((0 : Int) : Rat))) ((((2 : Int) : Rat), ((0 : Int) : Rat)), (((6 : Int) : Rat), ((0 : Int) : Rat))) = (3, ((((2 : Int) : Rat), ((0 : Int) : Rat)), (((4 : Int) : Rat), ((0 : Int) : Rat)))) :=
  of_decide_eq_true (by kernel_rfl)
theorem known_3 : nearP (((0 : Int) : Rat), ((1 : Int) : Rat)) ((((0 : Int) : Rat), ((0 : Int) : Rat)), (((2 : Int) : Rat), ((1 : Int) : Rat))) = ((Rat.divInt 2 5, Rat.divInt 1 5), Rat.divInt 1 5) :=
  of_decide_eq_true (by kernel_rfl)
end Go.Via
namespace Go.Via
theorem kn_szI {a b c d : Int} (ha : a.natAbs < 256) (hb : b.natAbs < 256) (hc : c.natAbs < 256) (hd : d.natAbs < 256) : szS (((a : Rat), (b : Rat)), ((c : Rat), (d : Rat))) ≤ 2 := by
  have key : ∀ z : Int, z.natAbs < 256 → szQ (z : Rat) ≤ 2 := fun z hz => Nat.le_trans (szQ_cast z) (by have : nb z.natAbs ≤ 1 := nb_le (by omega); omega)
  exact szSm (szPm (key a ha) (key b hb)) (szPm (key c hc) (key d hd))
theorem kn_sz1 : szS ((((0 : Int) : Rat), ((0 : Int) : Rat)), (((4 : Int) : Rat), ((4 : Int) : Rat))) ≤ 2 := kn_szI (by decide) (by decide) (by decide) (by decide)
theorem kn_sz2 : szS ((((0 : Int) : Rat), ((4 : Int) : Rat)), (((4 : Int) : Rat), ((0 : Int) : Rat))) ≤ 2 := kn_szI (by decide) (by decide) (by decide) (by decide)
theorem kn_sz3 : szS ((((0 : Int) : Rat), ((0 : Int) : Rat)), (((4 : Int) : Rat), ((0 : Int) : Rat))) ≤ 2 := kn_szI (by decide) (by decide) (by decide) (by decide)
theorem kn_sz4 : szS ((((2 : Int) : Rat), ((0 : Int) : Rat)), (((6 : Int) : Rat), ((0 : Int) : Rat))) ≤ 2 := kn_szI (by decide) (by decide) (by decide) (by decide)
theorem kn_sz5 : szP (((0 : Int) : Rat), ((1 : Int) : Rat)) ≤ 2 := szS1 (s := ((((0 : Int) : Rat), ((1 : Int) : Rat)), (((0 : Int) : Rat), ((1 : Int) : Rat)))) (kn_szI (by decide) (by decide) (by decide) (by decide))
theorem kn_sz6 : szS ((((0 : Int) : Rat), ((0 : Int) : Rat)), (((2 : Int) : Rat), ((1 : Int) : Rat))) ≤ 2 := kn_szI (by decide) (by decide) (by decide) (by decide)
end Go.Via
set_option linter.unusedVariables false
namespace Go.Proofs.YthnlafhnpphdhaaGreatDoor
open Go Go.RowKit Go.Via Go.ChangeShapes Go.WideShapes
theorem below_kept {w w' : World} (h : Below w.heap.size w w') (may : MemPlace → Prop) : w.keptBut w' may := by
  have hb : ∀ b, b < w.heap.size → w'.heap[b]? = w.heap[b]? := h.block
  refine ⟨h.os, h.output, fun i hi => ?_⟩
  rw [hb i hi]
  split
  · rename_i e1 e2
    rw [e1] at e2; cases e2
    exact ⟨rfl, rfl, rfl, fun _ _ => rfl⟩
  · rename_i e1 e2
    rw [e1] at e2; cases e2
    exact Or.inr ⟨rfl, rfl⟩
  · rfl
/-- what a call leaves that only computes, over arguments that reach no memory -/
theorem post_plain {H : Type} {enc : TypeId × Value → H} {P : Program} {f : Func} {s : ChangeSpec} {fresh handsOn again : Bool} {W W' : World} {args : Array Value} {v : Value} {ds : List (DataW H)}
    (hv : s.vars = []) (hW : DataW.Whole enc P f.params.toList s.vars false W args.toList ds [] [])
    (hres : ∀ (b : Nat) (sp : Nat → Bool) (hd : Bool), DataW.TrodAll enc P W' b sp hd f.resultTypes.toList (v.resultList f.resultTypes.size) (s.fn H (ds ++ [])).results [])
    (hargs : ∀ sp : Nat → Bool, DataW.TrodAll enc P W' 0 sp true f.params.toList args.toList (s.fn H (ds ++ [])).args [])
    (hvars : (s.fn H (ds ++ [])).vars = []) (hk : Below W.heap.size W W')
    (hok : ∀ (j : Nat) (t : TypeId) (r : Value), f.resultTypes[j]? = some t → (v.resultList f.resultTypes.size)[j]? = some r → Value.okWide P W' .any 0 t r) :
    s.post enc P f false fresh handsOn again W args v W' := by
  have hV : ∀ sp : Nat → Bool, DataW.TrodVars enc P W' sp s.vars (s.fn H (ds ++ [])).vars [] := fun sp => by rw [hv, hvars]; rfl
  refine ⟨ds, [], [], [], [], [], hW, hres _ _ _, hargs _, hV _, below_kept hk _, fun _ => ⟨hok, _, _, ([] ++ []) ++ [], ⟨[] ++ [], [], trodAll_append (hargs _) (hres _ _ _), hV _, rfl, ?_, ?_⟩, ?_⟩⟩
  · intro b off hp; cases hp
  · intro ha; cases ha
  · intro p hp; cases hp
section
variable {H : Type} {enc : TypeId × Value → H} {w : World} {base : Nat} {spare : Nat → Bool} {held : Bool}
def dB (b : Bool) : DataW H := .lit (.bool b)
def dS (s : ByteArray) : DataW H := .lit (.string s.data.toList)
def dI (b : Bool) (s : ByteArray) : DataW H := .agg [dB b, dS s]
def dQ (b1 : Bool) (s1 : ByteArray) (b2 : Bool) (s2 : ByteArray) : DataW H := .agg [dI b1 s1, dI b2 s2]
def dP (p : RawP) : DataW H := .agg [dQ p.a1 p.s1 p.a2 p.s2, dQ p.a3 p.s3 p.a4 p.s4]
theorem ce23 : Tryz.prog.cellsOf 23 = 2 := by kernel_rfl
theorem ce25 : Tryz.prog.cellsOf 25 = 4 := by kernel_rfl
theorem ce27 : Tryz.prog.cellsOf 27 = 8 := by kernel_rfl
theorem ce4 : Tryz.prog.cellsOf 4 = 1 := by kernel_rfl
theorem ce9 : Tryz.prog.cellsOf 9 = 1 := by kernel_rfl
theorem o23 {fuel : Nat} {cs : List Value} {x : DataW H × List MemPlace} (h : DataW.trod enc Tryz.prog w base spare held fuel 23 cs = some x) :
    ∃ b s, cs = [.bool b, .string s] ∧ x = (dI b s, []) ∧ s.size ≤ maxLen := by
  obtain ⟨y0, y1, n, rfl, hl, h0, h1⟩ := trod_struct2 Tryz.underlying23 h
  rw [ce4] at h0
  rw [ce9] at h1
  rw [ce23] at hl
  obtain ⟨b, e0, rfl⟩ := DataW.trod_bool Tryz.underlying4 h0
  obtain ⟨s, e1, rfl, hs⟩ := DataW.trod_string Tryz.underlying9 h1
  refine ⟨b, s, ?_, rfl, hs⟩
  match cs, hl with
  | [c0, c1], _ => simp at e0 e1; simp [e0, e1]
theorem o25 {fuel : Nat} {cs : List Value} {x : DataW H × List MemPlace} (h : DataW.trod enc Tryz.prog w base spare held fuel 25 cs = some x) :
    ∃ b1 s1 b2 s2, cs = [.bool b1, .string s1, .bool b2, .string s2] ∧ x = (dQ b1 s1 b2 s2, []) ∧ s1.size ≤ maxLen ∧ s2.size ≤ maxLen := by
  obtain ⟨y0, y1, n, rfl, hl, h0, h1⟩ := trod_struct2 Tryz.underlying25 h
  rw [ce23] at h0 h1
  rw [ce25] at hl
  obtain ⟨b1, s1, e0, rfl, z1⟩ := o23 h0
  obtain ⟨b2, s2, e1, rfl, z2⟩ := o23 h1
  refine ⟨b1, s1, b2, s2, ?_, rfl, z1, z2⟩
  match cs, hl with
  | [c0, c1, c2, c3], _ => simp at e0 e1; simp [e0, e1]
theorem o27 {fuel : Nat} {cs : List Value} {x : DataW H × List MemPlace} (h : DataW.trod enc Tryz.prog w base spare held fuel 27 cs = some x) :
    ∃ p : RawP, cs = rpC p ∧ x = (dP p, []) ∧ (p.s1.size ≤ maxLen ∧ p.s2.size ≤ maxLen ∧ p.s3.size ≤ maxLen ∧ p.s4.size ≤ maxLen) := by
  obtain ⟨y0, y1, n, rfl, hl, h0, h1⟩ := trod_struct2 Tryz.underlying27 h
  rw [ce25] at h0 h1
  rw [ce27] at hl
  obtain ⟨b1, s1, b2, s2, e0, rfl, z1, z2⟩ := o25 h0
  obtain ⟨b3, s3, b4, s4, e1, rfl, z3, z4⟩ := o25 h1
  refine ⟨⟨b1, s1, b2, s2, b3, s3, b4, s4⟩, ?_, rfl, z1, z2, z3, z4⟩
  match cs, hl with
  | [c0, c1, c2, c3, c4, c5, c6, c7], _ => simp at e0 e1; simp [rpC, e0, e1]
theorem s4 (n : Nat) (b : Bool) : DataW.trod enc Tryz.prog w base spare held (n + 1) 4 [.bool b] = some (dB b, []) := by
  simp [DataW.trod, Tryz.underlying4, dB]
theorem s9 (n : Nat) {s : ByteArray} (h : s.size ≤ maxLen) : DataW.trod enc Tryz.prog w base spare held (n + 1) 9 [.string s] = some (dS s, []) := by
  simp [DataW.trod, Tryz.underlying9, dS, h]
theorem s23 (n : Nat) (b : Bool) {s : ByteArray} (h : s.size ≤ maxLen) : DataW.trod enc Tryz.prog w base spare held (n + 1 + 1) 23 [.bool b, .string s] = some (dI b s, []) := by
  have h0 := s4 (enc := enc) (w := w) (base := base) (spare := spare) (held := held) n b
  have h1 := s9 (enc := enc) (w := w) (base := base) (spare := spare) (held := held) n h
  exact trod_struct2_mk (n := n + 1) (cs := [.bool b, .string s]) (y0 := (dB b, [])) (y1 := (dS s, [])) Tryz.underlying23 ce23.symm (by rw [ce4]; exact h0) (by rw [ce9]; exact h1)
theorem s25 (n : Nat) (b1 b2 : Bool) {s1 s2 : ByteArray} (z1 : s1.size ≤ maxLen) (z2 : s2.size ≤ maxLen) : DataW.trod enc Tryz.prog w base spare held (n + 1 + 1 + 1) 25 [.bool b1, .string s1, .bool b2, .string s2] = some (dQ b1 s1 b2 s2, []) := by
  have h0 := s23 (enc := enc) (w := w) (base := base) (spare := spare) (held := held) n b1 z1
  have h1 := s23 (enc := enc) (w := w) (base := base) (spare := spare) (held := held) n b2 z2
  exact trod_struct2_mk (n := n + 1 + 1) (cs := [.bool b1, .string s1, .bool b2, .string s2]) (y0 := (dI b1 s1, [])) (y1 := (dI b2 s2, [])) Tryz.underlying25 ce25.symm (by rw [ce23]; exact h0) (by rw [ce23]; exact h1)
theorem s27 (n : Nat) (p : RawP) (h : p.s1.size ≤ maxLen ∧ p.s2.size ≤ maxLen ∧ p.s3.size ≤ maxLen ∧ p.s4.size ≤ maxLen) : DataW.trod enc Tryz.prog w base spare held (n + 1 + 1 + 1 + 1) 27 (rpC p) = some (dP p, []) := by
  have h0 := s25 (enc := enc) (w := w) (base := base) (spare := spare) (held := held) n p.a1 p.a2 h.1 h.2.1
  have h1 := s25 (enc := enc) (w := w) (base := base) (spare := spare) (held := held) n p.a3 p.a4 h.2.2.1 h.2.2.2
  exact trod_struct2_mk (n := n + 1 + 1 + 1) (cs := rpC p) (y0 := (dQ p.a1 p.s1 p.a2 p.s2, [])) (y1 := (dQ p.a3 p.s3 p.a4 p.s4, [])) Tryz.underlying27 ce27.symm (by rw [ce25]; exact h0) (by rw [ce25]; exact h1)
theorem wB (b : Bool) : (dB b : DataW H).weights Tryz.prog 4 = [] := by rw [dB, DataW.weights]; intro x h; cases h
theorem wS (s : ByteArray) : (dS s : DataW H).weights Tryz.prog 9 = [s.size] := by rw [dS, DataW.weights]; show [s.data.toList.length] = [s.size]; rw [Array.length_toList]; rfl
theorem wI (b : Bool) (s : ByteArray) : (dI b s : DataW H).weights Tryz.prog 23 = [s.size] := by
  rw [dI, DataW.weights, Tryz.underlying23]
  show DataW.weightsEach Tryz.prog [4, 9] [dB b, dS s] = _
  rw [DataW.weightsEach, DataW.weightsEach, DataW.weightsEach, wB, wS]
  rfl
  all_goals (intros; simp_all)
theorem wQ (b1 b2 : Bool) (s1 s2 : ByteArray) : (dQ b1 s1 b2 s2 : DataW H).weights Tryz.prog 25 = [s1.size, s2.size] := by
  rw [dQ, DataW.weights, Tryz.underlying25]
  show DataW.weightsEach Tryz.prog [23, 23] [dI b1 s1, dI b2 s2] = _
  rw [DataW.weightsEach, DataW.weightsEach, DataW.weightsEach, wI, wI]
  rfl
  all_goals (intros; simp_all)
theorem wP (p : RawP) : (dP p : DataW H).weights Tryz.prog 27 = [p.s1.size, p.s2.size, p.s3.size, p.s4.size] := by
  rw [dP, DataW.weights, Tryz.underlying27]
  show DataW.weightsEach Tryz.prog [25, 25] [dQ p.a1 p.s1 p.a2 p.s2, dQ p.a3 p.s3 p.a4 p.s4] = _
  rw [DataW.weightsEach, DataW.weightsEach, DataW.weightsEach, wQ, wQ]
  rfl
  all_goals (intros; simp_all)
end
end Go.Proofs.YthnlafhnpphdhaaGreatDoor
set_option linter.unusedVariables false
namespace Go.Proofs.YthnlafhnpphdhaaGreatDoor
open Go.ChangeShapes Go.WideShapes Go.ChangeAt Go.RowKit
theorem own : ownKnob Tryz.prog.godebug = none := by kernel_rfl
/-- A WORLD FOR THE WITNESS: the settled one, the two listed tables holding what their initialisers lay. -/
noncomputable def laidWorld (os : Os) : World :=
  let w0 := World.holding Tryz.prog os ⟨#[], #[], []⟩
  { w0 with heap := (w0.heap.modify 2 fun
      | .cells _ t frozen => .cells (List.map (Value.int .u8) ([128, 191, 160, 191, 128, 159, 144, 191, 128, 143] ++ List.replicate 22 0)).toArray t frozen
      | o => o).modify 1 fun
      | .cells _ t frozen => .cells (List.map (fun (z : Nat) => Value.int .u8 z) Go.Pinned.utf8FirstZ).toArray t frozen
      | o => o }
set_option maxRecDepth 100000 in
theorem laid_met (os : Os) (args : Array Value) : laidMet Tryz.prog [("unicode/utf8.acceptRanges", Rows.laid_unicode_utf8_acceptRanges), ("unicode/utf8.first", Rows.laid_unicode_utf8_first)] ((laidWorld os).forCall (fun _ _ => 0) ⟨#[], args, []⟩).memory :=
  laidMet_of_run' 8 (by kernel_rfl) (by kernel_rfl)
end Go.Proofs.YthnlafhnpphdhaaGreatDoor
set_option linter.unusedVariables false
namespace Go.Proofs.YthnlafhnpphdhaaGreatDoor
open Go Go.RowKit Go.Via Go.ChangeShapes Go.WideShapes
section
variable {H : Type} {enc : TypeId × Value → H} {w : World} {base : Nat} {spare : Nat → Bool} {held : Bool}
def dSg (p q : RawP) : DataW H := .agg [dP p, dP q]
theorem ce36 : Tryz.prog.cellsOf 36 = 16 := by kernel_rfl
def szOK (p : RawP) : Prop := p.s1.size ≤ maxLen ∧ p.s2.size ≤ maxLen ∧ p.s3.size ≤ maxLen ∧ p.s4.size ≤ maxLen
theorem o36 {fuel : Nat} {cs : List Value} {x : DataW H × List MemPlace} (h : DataW.trod enc Tryz.prog w base spare held fuel 36 cs = some x) :
    ∃ p q : RawP, cs = rpC p ++ rpC q ∧ x = (dSg p q, []) ∧ szOK p ∧ szOK q := by
  obtain ⟨y0, y1, n, rfl, hl, h0, h1⟩ := trod_struct2 Tryz.underlying36 h
  rw [ce27] at h0 h1
  rw [ce36] at hl
  obtain ⟨p, e0, rfl, z1⟩ := o27 h0
  obtain ⟨q, e1, rfl, z2⟩ := o27 h1
  refine ⟨p, q, ?_, rfl, z1, z2⟩
  have e0' : cs.take 8 = rpC p := e0
  have e1' : (cs.drop 8).take 8 = rpC q := e1
  have e2 : (cs.drop 8).take 8 = cs.drop 8 := List.take_of_length_le (by rw [List.length_drop, hl]; omega)
  rw [← e0', ← e1', e2, List.take_append_drop]
theorem s36 (n : Nat) (p q : RawP) (hp : szOK p) (hq : szOK q) : DataW.trod enc Tryz.prog w base spare held (n + 1 + 1 + 1 + 1 + 1) 36 (rpC p ++ rpC q) = some (dSg p q, []) := by
  have h0 := s27 (enc := enc) (w := w) (base := base) (spare := spare) (held := held) n p hp
  have h1 := s27 (enc := enc) (w := w) (base := base) (spare := spare) (held := held) n q hq
  exact trod_struct2_mk (n := n + 1 + 1 + 1 + 1) (cs := rpC p ++ rpC q) (y0 := (dP p, [])) (y1 := (dP q, [])) Tryz.underlying36 ce36.symm (by rw [ce27]; exact h0) (by rw [ce27]; exact h1)
set_option maxRecDepth 20000 in
/-- a segment, opened -/
theorem openS {r : Reach} {b0 : Nat} {v : Value} {d : DataW H} {ps : List MemPlace} (hval : Value.okWide Tryz.prog w r b0 36 v) (hd : DataW.Trod enc Tryz.prog w base spare held 36 v d ps) :
    ∃ p q : RawP, v = .agg (rpC p ++ rpC q).toArray ∧ d = dSg p q ∧ ps = [] ∧ ∀ (w' : World) (b' : Nat) (sp' : Nat → Bool) (hd' : Bool), DataW.Trod enc Tryz.prog w' b' sp' hd' 36 v d [] := by
  obtain ⟨cs, rfl, _⟩ := okWide_struct (P := Tryz.prog) (t := 36) (w := w) (r := r) (base := b0) (v := v) Tryz.underlying36 hval
  obtain ⟨fuel, hf⟩ := hd
  obtain ⟨p, q, e, e2, hp, hq⟩ := o36 hf
  cases e2
  have e' : cs = (rpC p ++ rpC q).toArray := Array.toList_inj.1 e
  subst e'
  exact ⟨p, q, rfl, rfl, rfl, fun w' b' sp' hd' => ⟨5, s36 0 p q hp hq⟩⟩
theorem wSg (p q : RawP) : (dSg p q : DataW H).weights Tryz.prog 36 = [p.s1.size, p.s2.size, p.s3.size, p.s4.size, q.s1.size, q.s2.size, q.s3.size, q.s4.size] := by
  rw [dSg, DataW.weights, Tryz.underlying36]
  show DataW.weightsEach Tryz.prog [27, 27] [dP p, dP q] = _
  rw [DataW.weightsEach, DataW.weightsEach, DataW.weightsEach, wP, wP]
  rfl
  all_goals (intros; simp_all)
end
end Go.Proofs.YthnlafhnpphdhaaGreatDoor
set_option linter.unusedVariables false
namespace Go.Proofs.YthnlafhnpphdhaaGreatDoor
open Go Go.RowKit Go.Via
set_option maxRecDepth 20000 in
theorem c_law_small (b1 : Bool) (s1 : ByteArray) (b2 : Bool) (s2 : ByteArray) (hs1 : s1.size ≤ BIG) (hs2 : s2.size ≤ BIG) : PCall Tryz.prog 15 #[.agg #[.bool b1, .string s1, .bool b2, .string s2]] (.bool (smallB b1 s1 b2 s2)) := by
 unfold BIG at hs1 hs2
 refine ⟨by kernel_rfl, fun w => ?_⟩
 refine calls_at (args := [.agg #[.bool b1, .string s1, .bool b2, .string s2]]) Tryz.func15 rfl (Nat.le_of_ble_eq_true rfl) (LRel.nil w) ?_
 show At w ⟨17, [(0, .agg #[.bool b1, .string s1, .bool b2, .string s2])], []⟩ _
 refine at_seq ?_
 refine at_region ?_
 refine r_box [_, _, _, _] 4 (fun g => [⟨some g, 25, _, 4, true⟩]) rfl rfl rfl rfl rfl (fun _ => rfl) (fun g0 => ?_)
 refine r_assign rfl rfl rfl ?_
 refine run_nil ?_
 refine at_tn ?_
 refine at_seq ?_
 refine at_region ?_
 refine r_fieldAddr 0 0 0 rfl rfl rfl rfl rfl ti25 rfl rfl ?_
 refine r_fieldAddr 0 0 1 rfl rfl rfl rfl rfl ti23 rfl rfl ?_
 refine r_load 0 1 [_] rfl rfl rfl rfl ti9 rfl rfl rfl rfl ?_
 refine r_len rfl u9 rfl rfl ?_
 refine r_fieldAddr 0 0 2 rfl rfl rfl rfl rfl ti25 rfl rfl ?_
 refine r_fieldAddr 0 2 1 rfl rfl rfl rfl rfl ti23 rfl rfl ?_
 refine r_load 0 3 [_] rfl rfl rfl rfl ti9 rfl rfl rfl rfl ?_
 refine r_len rfl u9 rfl rfl ?_
 refine r_arith (r := ((s1.size + s2.size : Nat) : Int)) rfl rfl rfl rfl (congrArg some (wi (by omega) (by omega) (by omega))) ?_
 refine r_cmpInt rfl rfl rfl rfl rfl ?_
 refine r_move rfl rfl rfl ?_
 refine r_split 13 rfl (fun hb0 => ?_) (fun hb0 => ?_)
 ·
  have h8 : s1.size + s2.size ≤ 8 := by have := of_decide_eq_true hb0; omega
  refine r_load 0 0 [_, _, _, _] rfl rfl rfl rfl ti25 rfl rfl rfl rfl ?_
  refine r_pcall [_] rfl rfl rfl (c_ref02_Check b1 s1 b2 s2 (by omega) (by omega)) ?_
  refine r_pickT rfl rfl rfl rfl ?_
  refine r_assign rfl rfl rfl ?_
  refine run_nil ?_
  refine at_tn ?_
  refine at_ret ?_
  refine at_end1 rfl (res_tmp rfl) (fun w hL => ⟨?_, hL.below⟩)
  exact congrArg (fun b => Ending.returned (.bool b)) (small_T hb0)
 ·
  refine r_no rfl rfl rfl ?_
  refine r_no rfl rfl rfl ?_
  refine r_pickF rfl rfl rfl rfl ?_
  refine r_assign rfl rfl rfl ?_
  refine run_nil ?_
  refine at_tn ?_
  refine at_ret ?_
  refine at_end1 rfl (res_tmp rfl) (fun w hL => ⟨?_, hL.below⟩)
  exact congrArg (fun b => Ending.returned (.bool b)) (small_F hb0)
set_option maxRecDepth 20000 in
theorem c_law_points (l : List RawP) (hl : ∀ p ∈ l, szR p) (hn : l.length ≤ 1000) (b : Option Nat) (N cap : Nat) (hc : l.length ≤ cap) : SCall Tryz.prog 14 [⟨b, 27, RLc l, N, false⟩] [slv b 0 l.length cap] Unit (fun _ => .bool (l.all smallP)) (fun _ => []) := by
 refine ⟨by kernel_rfl, fun w hL0 => ?_⟩
 refine calls_at (args := [slv b 0 l.length cap]) Tryz.func14 rfl (Nat.le_of_ble_eq_true rfl) hL0 ?_
 show At w ⟨26, [(0, slv b 0 l.length cap)], [⟨b, 27, RLc l, N, false⟩]⟩ _
 refine at_seq ?_
 refine at_region ?_
 refine r_assign rfl rfl rfl ?_
 refine run_nil ?_
 refine at_tn ?_
 refine at_seq ?_
 refine at_seq ?_
 refine at_region ?_
 refine r_assign rfl rfl rfl ?_
 refine run_nil ?_
 refine at_tn ?_
 refine at_block ?_
 refine enterL (nt := 26) (ι := {i : Nat // i ≤ l.length ∧ ∀ j, j < i → ∀ q, l[j]? = some q → smallP q = true}) (fun ⟨i, hi, hs⟩ => [(0, slv b 0 l.length cap), (3, .int .i64 (i : Nat))]) (fun ⟨i, hi, hs⟩ => [⟨b, 27, RLc l, N, false⟩]) (fun ⟨i, hi, hs⟩ => l.length - i) ⟨0, Nat.zero_le _, fun j hj => absurd hj (by omega)⟩ ⟨rfl, rfl, trivial⟩ (Weak.refl _) ?_
 rintro ⟨i, hi, hs⟩
 show At _ ⟨26, [(0, slv b 0 l.length cap), (3, .int .i64 (i : Nat))], [⟨b, 27, RLc l, N, false⟩]⟩ _
 refine at_seq ?_
 refine at_seq ?_
 refine at_region ?_
 refine r_move rfl rfl rfl ?_
 refine r_move rfl rfl rfl ?_
 refine r_lenS u61 rfl rfl rfl ?_
 refine r_cmpInt rfl rfl rfl rfl rfl ?_
 refine run_nil ?_
 refine at_tn ?_
 refine at_cond rfl (fun hb1 => ?_) (fun hb1 => ?_)
 ·
  have hlt : i < l.length := (by have := of_decide_eq_true hb1; omega)
  obtain ⟨p, hp⟩ : ∃ p, l[i]? = some p := ⟨l[i], List.getElem?_eq_getElem hlt⟩
  have hz := hl p (List.mem_of_getElem? hp)
  refine at_base 0 rfl (fun hbase => ?_)
  obtain ⟨gb, hgb⟩ := pts_base hbase (by omega)
  replace hgb : b = some gb := hgb
  subst hgb
  refine at_skip ?_
  refine at_tn ?_
  refine at_seq ?_
  refine at_block ?_
  refine at_seq ?_
  refine at_region ?_
  refine r_move rfl rfl rfl ?_
  refine r_move rfl rfl rfl ?_
  refine r_indexAddr 0 (i * 8) u61 ti27 rfl rfl rfl rfl rfl (by omega) (by omega) (RLc_ne (by omega)) (by show 0 + Int.toNat _ * 8 = _; omega) ?_
  refine r_fieldAddr 0 (i * 8) 0 rfl rfl rfl rfl rfl ti27 rfl rfl ?_
  refine r_load (v := .agg #[.bool p.a1, .string p.s1, .bool p.a2, .string p.s2]) 0 (i * 8 + 0) _ rfl rfl rfl rfl ti25 (RLc_get1 hp) rfl (by decide) rfl ?_
  refine r_pcall [_] rfl rfl rfl (c_law_small p.a1 p.s1 p.a2 p.s2 hz.1 hz.2.1) ?_
  refine r_not rfl rfl rfl ?_
  refine r_move rfl rfl rfl ?_
  refine r_split 17 rfl (fun hb2 => ?_) (fun hb2 => ?_)
  ·
   have hf := smallP_n1 (p := p) hb2
   refine r_no rfl rfl rfl ?_
   refine r_no rfl rfl rfl ?_
   refine r_no rfl rfl rfl ?_
   refine r_no rfl rfl rfl ?_
   refine r_no rfl rfl rfl ?_
   refine r_no rfl rfl rfl ?_
   refine r_no rfl rfl rfl ?_
   refine r_pickT rfl rfl rfl rfl ?_
   refine run_nil ?_
   refine at_tn ?_
   refine at_condT rfl ?_
   refine at_seq ?_
   refine at_region ?_
   refine r_assign rfl rfl rfl ?_
   refine run_nil ?_
   refine at_tn ?_
   refine at_ret ?_
   refine at_br ?_
   refine at_tr ?_
   refine at_tr ?_
   refine at_br ?_
   refine at_tr ?_
   refine at_end1 rfl (res_tmp rfl) (fun w hL => ⟨(), ?_, hL.picks [] trivial rfl rfl⟩)
   exact congrArg (fun b => Ending.returned (.bool b)) (pts_no hp hf)
  ·
   have hk1 := hb2
   refine r_move rfl rfl rfl ?_
   refine r_move rfl rfl rfl ?_
   refine r_indexAddr 0 (i * 8) u61 ti27 rfl rfl rfl rfl rfl (by omega) (by omega) (RLc_ne (by omega)) (by show 0 + Int.toNat _ * 8 = _; omega) ?_
   refine r_fieldAddr 0 (i * 8) 4 rfl rfl rfl rfl rfl ti27 rfl rfl ?_
   refine r_load (v := .agg #[.bool p.a3, .string p.s3, .bool p.a4, .string p.s4]) 0 (i * 8 + 4) _ rfl rfl rfl rfl ti25 (RLc_get2 hp) rfl (by decide) rfl ?_
   refine r_pcall [_] rfl rfl rfl (c_law_small p.a3 p.s3 p.a4 p.s4 hz.2.2.1 hz.2.2.2) ?_
   refine r_not rfl rfl rfl ?_
   refine r_pickF rfl rfl rfl rfl ?_
   refine run_nil ?_
   refine at_tn ?_
   refine at_cond rfl (fun hb3 => ?_) (fun hb3 => ?_)
   ·
    have hf := smallP_n2 (p := p) hb3
    refine at_seq ?_
    refine at_region ?_
    refine r_assign rfl rfl rfl ?_
    refine run_nil ?_
    refine at_tn ?_
    refine at_ret ?_
    refine at_br ?_
    refine at_tr ?_
    refine at_tr ?_
    refine at_br ?_
    refine at_tr ?_
    refine at_end1 rfl (res_tmp rfl) (fun w hL => ⟨(), ?_, hL.picks [] trivial rfl rfl⟩)
    exact congrArg (fun b => Ending.returned (.bool b)) (pts_no hp hf)
   ·
    have ht := smallP_mk (p := p) hk1 hb3
    refine at_skip ?_
    refine at_bn ?_
    refine at_tn ?_
    refine at_region ?_
    refine r_move rfl rfl rfl ?_
    refine r_arith (r := ((i + 1 : Nat) : Int)) rfl rfl rfl rfl (congrArg some (wi (by omega) (by omega) (by omega))) ?_
    refine r_assign rfl rfl rfl ?_
    refine run_nil ?_
    refine at_tn ?_
    exact nextL ⟨i + 1, hlt, pts_step hs hp ht⟩ (by simp only []; omega) ⟨rfl, rfl, trivial⟩ (Weak.refl _)
 ·
  have hge : i = l.length := (by have := of_decide_eq_false hb1; omega)
  subst hge
  refine at_exit ?_
  refine at_te ?_
  refine at_te ?_
  refine at_be ?_
  refine at_tn ?_
  refine at_seq ?_
  refine at_region ?_
  refine r_assign rfl rfl rfl ?_
  refine run_nil ?_
  refine at_tn ?_
  refine at_ret ?_
  refine at_end1 rfl (res_tmp rfl) (fun w hL => ⟨(), ?_, hL.picks [] trivial rfl rfl⟩)
  exact congrArg (fun b => Ending.returned (.bool b)) (pts_yes hs)
set_option maxRecDepth 20000 in
theorem c_law_segment (a b c d : Int) (ha1 : -9223372036854775808 ≤ a) (ha2 : a ≤ 9223372036854775807) (hb1 : -9223372036854775808 ≤ b) (hb2 : b ≤ 9223372036854775807) (hc1 : -9223372036854775808 ≤ c) (hc2 : c ≤ 9223372036854775807) (hd1 : -9223372036854775808 ≤ d) (hd2 : d ≤ 9223372036854775807) : PCall Tryz.prog 58 #[.int .i64 a, .int .i64 b, .int .i64 c, .int .i64 d] (Sg (((a : Rat), (b : Rat)), ((c : Rat), (d : Rat)))) := by
 refine ⟨by kernel_rfl, fun w => ?_⟩
 refine calls_at (args := [.int .i64 a, .int .i64 b, .int .i64 c, .int .i64 d]) Tryz.func58 rfl (Nat.le_of_ble_eq_true rfl) (LRel.nil w) ?_
 show At w ⟨16, [(0, .int .i64 a), (1, .int .i64 b), (2, .int .i64 c), (3, .int .i64 d)], []⟩ _
 refine at_seq ?_
 refine at_region ?_
 refine r_alloc [_, _, _, _, _, _, _, _, _, _, _, _, _, _, _, _] 16 (fun g => [⟨some g, 36, _, 16, true⟩]) rfl rfl z36 rfl rfl (fun _ => rfl) (fun g0 => ?_)
 refine run_nil ?_
 refine at_tn ?_
 refine at_seq ?_
 refine at_region ?_
 refine r_move rfl rfl rfl ?_
 refine r_move rfl rfl rfl ?_
 refine r_pcall [_, _] rfl rfl rfl (c_ref07_At a b ha1 ha2 hb1 hb2) ?_
 refine r_move rfl rfl rfl ?_
 refine r_move rfl rfl rfl ?_
 refine r_pcall [_, _] rfl rfl rfl (c_ref07_At c d hc1 hc2 hd1 hd2) ?_
 refine r_build [(0, _), (1, _)] rfl rfl rfl (bd36_2) ?_
 refine r_store rfl 0 0 [⟨some g0, 36, _, 16, true⟩] [_, _, _, _, _, _, _, _, _, _, _, _, _, _, _, _] rfl rfl rfl rfl ti36 rfl rfl rfl rfl rfl ?_
 refine run_nil ?_
 refine at_tn ?_
 refine at_ret ?_
 refine at_end1 rfl (res_cell 0 rfl rfl ti36 (vs := [_, _, _, _, _, _, _, _, _, _, _, _, _, _, _, _]) rfl rfl (Nat.le_of_ble_eq_true rfl) rfl) (fun w hL => ⟨?_, hL.below⟩)
 exact rfl
end Go.Proofs.YthnlafhnpphdhaaGreatDoor
set_option linter.unusedVariables false
set_option linter.unusedSimpArgs false
namespace Go.Via
open Go Go.RowKit
/-! ### the look at a region by numbers whose bits are the operations that one waits for -/
def bitsOf (ms : List Nat) (l : List Edge) : Nat := l.foldl (fun m e => if Region.binds .any e then m ||| ((1 <<< e.on) ||| ms.getD e.on 0) else m) 0
def maskOK (ops : Array Oper) (ms : List Nat) : Bool := (List.range ops.size).all fun i => match ops[i]? with
  | some o => (o.after.toList.all fun e => !Region.binds .any e || decide (e.on < i)) && ms.getD i 0 == bitsOf ms o.after.toList
  | none => true
theorem bits_fold {ms : List Nat} {j : Nat} : ∀ {l : List Edge} {m : Nat}, Nat.testBit (l.foldl (fun m e => if Region.binds .any e then m ||| ((1 <<< e.on) ||| ms.getD e.on 0) else m) m) j = true →
    Nat.testBit m j = true ∨ ∃ e ∈ l, Region.binds .any e = true ∧ (e.on = j ∨ Nat.testBit (ms.getD e.on 0) j = true)
  | [], m, h => .inl h
  | e :: l, m, h => by
    rw [List.foldl_cons] at h
    rcases bits_fold h with h | ⟨e', h1, h2⟩
    · split at h
      · rename_i hb
        rw [Nat.testBit_or, Nat.testBit_or, Bool.or_eq_true, Bool.or_eq_true] at h
        rcases h with h | h | h
        · exact .inl h
        · refine .inr ⟨e, by simp, hb, .inl ?_⟩
          rw [Nat.testBit_shiftLeft] at h
          simp only [Bool.and_eq_true, decide_eq_true_eq] at h
          have h3 := h.2
          by_cases c : j - e.on = 0
          · omega
          · exfalso
            obtain ⟨k, hk⟩ : ∃ k, j - e.on = k + 1 := ⟨j - e.on - 1, by omega⟩
            rw [hk, Nat.testBit_succ] at h3
            simp at h3
        · exact .inr ⟨e, by simp, hb, .inr h⟩
      · exact .inl h
    · exact .inr ⟨e', by simp [h1], h2⟩
theorem mask_waits {ops : Array Oper} {ms : List Nat} (hm : maskOK ops ms = true) : ∀ (f i j : Nat), i < f → i < ops.size → Nat.testBit (ms.getD i 0) j = true → waitsF ops f i j = true
  | 0, i, j, h, _, _ => by omega
  | f + 1, i, j, h, hi, hb => by
    have h1 := List.all_eq_true.1 hm i (List.mem_range.2 hi)
    rw [Array.getElem?_eq_getElem hi] at h1
    simp only [Bool.and_eq_true, beq_iff_eq] at h1
    obtain ⟨h2, h3⟩ := h1
    rw [h3] at hb
    unfold waitsF
    rw [Array.getElem?_eq_getElem hi]
    rcases bits_fold hb with hb | ⟨e, he, hbe, hj⟩
    · simp at hb
    · have hlt : e.on < i := by
        have := List.all_eq_true.1 h2 e he
        rw [hbe] at this
        simpa using this
      refine Array.any_eq_true'.2 ⟨e, by simpa using he, ?_⟩
      rw [hbe, Bool.true_and, Bool.or_eq_true]
      rcases hj with hj | hj
      · exact .inl (by simpa using hj)
      · exact .inr (mask_waits hm f e.on j (by omega) (by omega) hj)
def pairM (bl : List Nat) (ops : Array Oper) (ms : List Nat) (p i : Nat) : Bool :=
  Nat.testBit (ms.getD i 0) p ||
  match ops[p]?, ops[i]? with
  | some op, some oi => isMov op && isFr bl oi && !isCall op && op.apart ops oi
  | _, _ => false
theorem pairsB_mono {f g : Nat → Nat → Bool} : ∀ {l : List Nat}, (∀ p ∈ l, ∀ i ∈ l, f p i = true → g p i = true) → pairsB f l = true → pairsB g l = true
  | [], _, _ => rfl
  | p :: l, h, hf => by
    simp only [pairsB, Bool.and_eq_true] at hf ⊢
    exact ⟨List.all_eq_true.2 fun i hi => h p (by simp) i (by simp [hi]) (List.all_eq_true.1 hf.1 i hi), pairsB_mono (fun p hp i hi => h p (by simp [hp]) i (by simp [hi])) hf.2⟩
def drawnMOk (bl : List Nat) (ops : Array Oper) (perm : List Nat) (ms : List Nat) : Bool :=
  maskOK ops ms && (decide (perm.length = ops.size) && perm.all (fun i => decide (i < ops.size)) && (List.range ops.size).all (fun i => perm.contains i) &&
  pairsB (pairM bl ops ms) perm && pairsB (noWait ops) perm && perm.all (fun i => noWait ops i i) && perm.all (fun i => edgesIn ops i) && pairsB (dstApart bl ops) perm && pairsB (movFirst bl ops) perm && pairsB (fun i j => i != j) perm)
theorem drawnM {bl : List Nat} {ops : Array Oper} {perm : List Nat} (ms : List Nat) (h : drawnMOk bl ops perm ms = true) : drawnOk bl ops perm = true := by
  unfold drawnMOk at h
  rw [Bool.and_eq_true] at h
  obtain ⟨hm, h⟩ := h
  unfold drawnOk
  simp only [Bool.and_eq_true] at h ⊢
  obtain ⟨⟨⟨⟨⟨⟨⟨⟨⟨h1, h2⟩, h3⟩, h4⟩, h5⟩, h6⟩, h7⟩, h8⟩, h9⟩, h10⟩ := h
  refine ⟨⟨⟨⟨⟨⟨⟨⟨⟨h1, h2⟩, h3⟩, pairsB_mono (fun p hp i hi hpi => ?_) h4⟩, h5⟩, h6⟩, h7⟩, h8⟩, h9⟩, h10⟩
  have hil : i < ops.size := of_decide_eq_true (List.all_eq_true.1 h2 i hi)
  unfold pairM at hpi
  unfold pairOk
  rw [Bool.or_eq_true] at hpi ⊢
  exact hpi.imp (mask_waits hm _ i p hil hil) id
end Go.Via
set_option linter.unusedVariables false
namespace Go.Proofs.YthnlafhnpphdhaaGreatDoor
open Go Go.RowKit Go.Via
set_option maxRecDepth 20000 in
theorem c_law_known  : PCall Tryz.prog 13 #[] (.bool true) := by
 refine ⟨by kernel_rfl, fun w => ?_⟩
 refine calls_at (args := []) Tryz.func13 rfl (Nat.le_of_ble_eq_true rfl) (LRel.nil w) ?_
 show At w ⟨50, [], []⟩ _
 refine at_seq ?_
 refine at_region ?_
 refine r_assign rfl rfl rfl ?_
 refine run_nil ?_
 refine at_tn ?_
 refine at_seq ?_
 refine at_region ?_
 refine r_pcall [_, _, _, _] rfl rfl rfl (c_law_segment 0 0 4 4 (by omega) (by omega) (by omega) (by omega) (by omega) (by omega) (by omega) (by omega)) ?_
 refine r_pcall [_, _, _, _] rfl rfl rfl (c_law_segment 0 4 4 0 (by omega) (by omega) (by omega) (by omega) (by omega) (by omega) (by omega) (by omega)) ?_
 refine r_pcall [_, _] rfl rfl rfl (c_plane_Meet _ _ (Nat.le_trans kn_sz1 (Nat.le_of_ble_eq_true rfl)) (Nat.le_trans kn_sz2 (Nat.le_of_ble_eq_true rfl))) ?_
 refine r_know 7 (Mt (2, ((((2 : Int) : Rat), ((2 : Int) : Rat)), (((2 : Int) : Rat), ((2 : Int) : Rat))))) rfl (congrArg Mt known_1) ?_
 refine r_alloc [_, _, _, _, _, _, _, _, _, _, _, _, _, _, _, _, _] 17 (fun g => [⟨some g, 40, _, 17, true⟩]) rfl rfl z40 rfl rfl (fun _ => rfl) (fun g0 => ?_)
 refine r_store rfl 0 0 [⟨some g0, 40, _, 17, true⟩] [_, _, _, _, _, _, _, _, _, _, _, _, _, _, _, _, _] rfl rfl rfl rfl ti40 rfl rfl rfl rfl rfl ?_
 refine run_nil ?_
 refine at_tn ?_
 refine at_seq ?_
 refine at_region ?_
 refine r_pcall [_, _, _, _] rfl rfl rfl (c_law_segment 0 0 4 0 (by omega) (by omega) (by omega) (by omega) (by omega) (by omega) (by omega) (by omega)) ?_
 refine r_pcall [_, _, _, _] rfl rfl rfl (c_law_segment 2 0 6 0 (by omega) (by omega) (by omega) (by omega) (by omega) (by omega) (by omega) (by omega)) ?_
 refine r_pcall [_, _] rfl rfl rfl (c_plane_Meet _ _ (Nat.le_trans kn_sz3 (Nat.le_of_ble_eq_true rfl)) (Nat.le_trans kn_sz4 (Nat.le_of_ble_eq_true rfl))) ?_
 refine r_know 10 (Mt (3, ((((2 : Int) : Rat), ((0 : Int) : Rat)), (((4 : Int) : Rat), ((0 : Int) : Rat))))) rfl (congrArg Mt known_2) ?_
 refine r_alloc [_, _, _, _, _, _, _, _, _, _, _, _, _, _, _, _, _] 17 (fun g => [_, ⟨some g, 40, _, 17, true⟩]) rfl rfl z40 rfl rfl (fun _ => rfl) (fun g1 => ?_)
 refine r_store rfl 1 0 [_, ⟨some g1, 40, _, 17, true⟩] [_, _, _, _, _, _, _, _, _, _, _, _, _, _, _, _, _] rfl rfl rfl rfl ti40 rfl rfl rfl rfl rfl ?_
 refine run_nil ?_
 refine at_tn ?_
 refine at_seq ?_
 refine at_region ?_
 refine r_pcall [_, _] rfl rfl rfl (c_ref07_At 0 1 (by omega) (by omega) (by omega) (by omega)) ?_
 refine r_pcall [_, _, _, _] rfl rfl rfl (c_law_segment 0 0 2 1 (by omega) (by omega) (by omega) (by omega) (by omega) (by omega) (by omega) (by omega)) ?_
 refine r_pcall [_, _] rfl rfl rfl (c_plane_Nearest _ _ (Nat.le_trans kn_sz5 (Nat.le_of_ble_eq_true rfl)) (Nat.le_trans kn_sz6 (Nat.le_of_ble_eq_true rfl))) ?_
 refine r_know 14 (.tuple #[Pt (Rat.divInt 2 5, Rat.divInt 1 5), Q (Rat.divInt 1 5)]) rfl (by rw [known_3]) ?_
 refine r_move rfl rfl rfl ?_
 refine r_extract (vs := [_, _]) rfl rfl rfl rfl ?_
 refine r_extract (vs := [_, _]) rfl rfl rfl rfl ?_
 refine r_alloc [_, _, _, _, _, _, _, _] 8 (fun g => [_, _, ⟨some g, 27, _, 8, true⟩]) rfl rfl z27 rfl rfl (fun _ => rfl) (fun g2 => ?_)
 refine r_alloc [_, _, _, _] 4 (fun g => [_, _, _, ⟨some g, 25, _, 4, true⟩]) rfl rfl z25 rfl rfl (fun _ => rfl) (fun g3 => ?_)
 refine r_store rfl 2 0 [_, _, ⟨some g2, 27, _, 8, true⟩, _] [_, _, _, _, _, _, _, _] rfl rfl rfl rfl ti27 rfl rfl rfl rfl rfl ?_
 refine r_store rfl 3 0 [_, _, _, ⟨some g3, 25, _, 4, true⟩] [_, _, _, _] rfl rfl rfl rfl ti25 rfl rfl rfl rfl rfl ?_
 refine run_nil ?_
 refine at_tn ?_
 refine at_seq ?_
 refine at_drawn (l' := (⟨_,_,_,_,_,_⟩ :: ⟨_,_,_,_,_,_⟩ :: ⟨_,_,_,_,_,_⟩ :: ⟨_,_,_,_,_,_⟩ :: ⟨_,_,_,_,_,_⟩ :: ⟨_,_,_,_,_,_⟩ :: ⟨_,_,_,_,_,_⟩ :: ⟨_,_,_,_,_,_⟩ :: ⟨_,_,_,_,_,_⟩ :: ⟨_,_,_,_,_,_⟩ :: ⟨_,_,_,_,_,_⟩ :: ⟨_,_,_,_,_,_⟩ :: ⟨_,_,_,_,_,_⟩ :: ⟨_,_,_,_,_,_⟩ :: ⟨_,_,_,_,_,_⟩ :: ⟨_,_,_,_,_,_⟩ :: ⟨_,_,_,_,_,_⟩ :: ⟨_,_,_,_,_,_⟩ :: ⟨_,_,_,_,_,_⟩ :: ⟨_,_,_,_,_,_⟩ :: ⟨_,_,_,_,_,_⟩ :: ⟨_,_,_,_,_,_⟩ :: ⟨_,_,_,_,_,_⟩ :: ⟨_,_,_,_,_,_⟩ :: ⟨_,_,_,_,_,_⟩ :: ⟨_,_,_,_,_,_⟩ :: ⟨_,_,_,_,_,_⟩ :: ⟨_,_,_,_,_,_⟩ :: ⟨_,_,_,_,_,_⟩ :: ⟨_,_,_,_,_,_⟩ :: ⟨_,_,_,_,_,_⟩ :: ⟨_,_,_,_,_,_⟩ :: ⟨_,_,_,_,_,_⟩ :: ⟨_,_,_,_,_,_⟩ :: [])) [] (0 :: 1 :: 2 :: 3 :: 4 :: 5 :: 6 :: 7 :: 8 :: 9 :: 10 :: 11 :: 12 :: 13 :: 14 :: 15 :: 16 :: 17 :: 18 :: 19 :: 20 :: 21 :: 22 :: 23 :: 24 :: 25 :: 26 :: 27 :: 28 :: 29 :: 30 :: 31 :: 32 :: 33 :: []) mixed (drawnM (0 :: 1 :: 3 :: 7 :: 15 :: 31 :: 63 :: 15 :: 255 :: 511 :: 1023 :: 2047 :: 4095 :: 8191 :: 16383 :: 32767 :: 65535 :: 131071 :: 65535 :: 524287 :: 1048575 :: 2097151 :: 4194303 :: 4194303 :: 12582911 :: 29360127 :: 67108863 :: 134217727 :: 268435455 :: 536870911 :: 536870911 :: 2147483647 :: 4294967295 :: 8589934591 :: []) (by kernel_rfl)) rfl (by kernel_rfl) ?_
 refine r_fieldAddr 0 0 0 rfl rfl rfl rfl rfl ti40 rfl rfl ?_
 refine r_load 0 0 [_] rfl rfl rfl rfl ti3 rfl rfl rfl rfl ?_
 refine r_cmpInt rfl rfl rfl rfl rfl ?_
 refine r_know 19 (.bool true) rfl rfl ?_
 refine r_move rfl rfl rfl ?_
 refine r_fieldAddr 0 0 1 rfl rfl rfl rfl rfl ti40 rfl rfl ?_
 refine r_fieldAddr 0 1 0 rfl rfl rfl rfl rfl ti36 rfl rfl ?_
 refine r_load 0 1 [_, _, _, _, _, _, _, _] rfl rfl rfl rfl ti27 rfl rfl rfl rfl ?_
 refine r_pcall [_, _] rfl rfl rfl (c_ref07_At 2 2 (by omega) (by omega) (by omega) (by omega)) ?_
 refine r_eqlAgg rfl rfl rfl rfl gd27 (eq27 _ _) ?_
 refine r_know 25 (.bool true) rfl (congrArg Value.bool (decide_eq_true rfl)) ?_
 refine r_pickT rfl rfl rfl rfl ?_
 refine r_move rfl rfl rfl ?_
 refine r_fieldAddr 1 0 0 rfl rfl rfl rfl rfl ti40 rfl rfl ?_
 refine r_load 1 0 [_] rfl rfl rfl rfl ti3 rfl rfl rfl rfl ?_
 refine r_cmpInt rfl rfl rfl rfl rfl ?_
 refine r_know 30 (.bool true) rfl rfl ?_
 refine r_pickT rfl rfl rfl rfl ?_
 refine r_move rfl rfl rfl ?_
 refine r_fieldAddr 1 0 1 rfl rfl rfl rfl rfl ti40 rfl rfl ?_
 refine r_load 1 1 [_, _, _, _, _, _, _, _, _, _, _, _, _, _, _, _] rfl rfl rfl rfl ti36 rfl rfl rfl rfl ?_
 refine r_pcall [_, _, _, _] rfl rfl rfl (c_law_segment 2 0 4 0 (by omega) (by omega) (by omega) (by omega) (by omega) (by omega) (by omega) (by omega)) ?_
 refine r_eqlAgg rfl rfl rfl rfl gd36 (eq36 _ _) ?_
 refine r_know 36 (.bool true) rfl (congrArg Value.bool (decide_eq_true rfl)) ?_
 refine r_pickT rfl rfl rfl rfl ?_
 refine r_move rfl rfl rfl ?_
 refine r_load 2 0 [_, _, _, _, _, _, _, _] rfl rfl rfl rfl ti27 rfl rfl rfl rfl ?_
 refine r_pcall [_, _] rfl rfl rfl (c_ref02_Of 2 5 (by omega) (by omega) (by omega) (by omega) (by omega)) ?_
 refine r_pcall [_, _] rfl rfl rfl (c_ref02_Of 1 5 (by omega) (by omega) (by omega) (by omega) (by omega)) ?_
 refine r_build [(0, _), (1, _)] rfl rfl rfl (bd27_2) ?_
 refine r_eqlAgg rfl rfl rfl rfl gd27 (eq27 (Rat.divInt 2 5, Rat.divInt 1 5) (Rat.divInt 2 5, Rat.divInt 1 5)) ?_
 refine r_know 43 (.bool true) rfl (congrArg Value.bool (decide_eq_true rfl)) ?_
 refine r_pickT rfl rfl rfl rfl ?_
 refine r_move rfl rfl rfl ?_
 refine r_load 3 0 [_, _, _, _] rfl rfl rfl rfl ti25 rfl rfl rfl rfl ?_
 refine r_pcall [_, _] rfl rfl rfl (c_ref02_Of 1 5 (by omega) (by omega) (by omega) (by omega) (by omega)) ?_
 refine r_eqlAgg rfl rfl rfl rfl gd25 (eq25 _ _) ?_
 refine r_know 48 (.bool true) rfl (congrArg Value.bool (decide_eq_true rfl)) ?_
 refine r_pickT rfl rfl rfl rfl ?_
 refine r_assign rfl rfl rfl ?_
 refine run_nil ?_
 refine at_tn ?_
 refine at_ret ?_
 refine at_end1 rfl (res_tmp rfl) (fun w hL => ⟨?_, hL.below⟩)
 exact rfl
end Go.Proofs.YthnlafhnpphdhaaGreatDoor
set_option linter.unusedVariables false
namespace Go.Via
open Go Go.RowKit
/-! ### the two tests whether a point lies on a segment agree -/
theorem on_pos {u v x y : Rat} (hu : 0 < u) (h : u * y = v * x) :
    (¬ ((0 < x ∨ (x = 0 ∧ 0 < y)) ∧ (u < x ∨ (u = x ∧ v < y))) ∧ ¬ ((x < 0 ∨ (x = 0 ∧ y < 0)) ∧ (x < u ∨ (x = u ∧ y < v)))) ↔ (((0 ≤ x ∧ x ≤ u) ∨ (u ≤ x ∧ x ≤ 0)) ∧ ((0 ≤ y ∧ y ≤ v) ∨ (v ≤ y ∧ y ≤ 0))) := by
  constructor
  · rintro ⟨h1, h2⟩
    have x0 : 0 ≤ x := Rat.not_lt.1 fun c => h2 ⟨.inl c, .inl (by grind)⟩
    have xu : x ≤ u := Rat.not_lt.1 fun c => h1 ⟨.inl (by grind), .inl c⟩
    refine ⟨.inl ⟨x0, xu⟩, ?_⟩
    by_cases hv : 0 ≤ v
    · left
      have p1 := Rat.mul_nonneg hv x0
      have p2 := Rat.mul_nonneg hv (show 0 ≤ u - x by grind)
      constructor
      · refine Rat.not_lt.1 fun c => ?_
        have := Rat.mul_pos hu (show 0 < -y by grind)
        grind
      · refine Rat.not_lt.1 fun c => ?_
        have := Rat.mul_pos hu (show 0 < y - v by grind)
        grind
    · right
      have hv' : 0 ≤ -v := by grind
      have p1 := Rat.mul_nonneg hv' x0
      have p2 := Rat.mul_nonneg hv' (show 0 ≤ u - x by grind)
      constructor
      · refine Rat.not_lt.1 fun c => ?_
        have := Rat.mul_pos hu (show 0 < v - y by grind)
        grind
      · refine Rat.not_lt.1 fun c => ?_
        have := Rat.mul_pos hu (show 0 < y by grind)
        grind
  · rintro ⟨hx, hy⟩
    have x0 : 0 ≤ x := by rcases hx with c | c <;> grind
    have xu : x ≤ u := by rcases hx with c | c <;> grind
    constructor
    · rintro ⟨_, c | ⟨c, d⟩⟩
      · grind
      · subst c
        have : u * (y - v) = 0 := by grind
        rcases Rat.mul_eq_zero.1 this with e | e <;> grind
    · rintro ⟨c | ⟨c, d⟩, _⟩
      · grind
      · subst c
        have : u * y = 0 := by grind
        rcases Rat.mul_eq_zero.1 this with e | e <;> grind
theorem on_core {u v x y : Rat} (h : u * y = v * x) :
    (¬ ((0 < x ∨ (x = 0 ∧ 0 < y)) ∧ (u < x ∨ (u = x ∧ v < y))) ∧ ¬ ((x < 0 ∨ (x = 0 ∧ y < 0)) ∧ (x < u ∨ (x = u ∧ y < v))) ∧ (¬ (u = 0 ∧ v = 0) ∨ (x = 0 ∧ y = 0))) ↔ (((0 ≤ x ∧ x ≤ u) ∨ (u ≤ x ∧ x ≤ 0)) ∧ ((0 ≤ y ∧ y ≤ v) ∨ (v ≤ y ∧ y ≤ 0))) := by
  by_cases hu : 0 < u
  · rw [← on_pos hu h]
    constructor
    · rintro ⟨a, b, _⟩; exact ⟨a, b⟩
    · rintro ⟨a, b⟩; exact ⟨a, b, .inl (by grind)⟩
  · by_cases hu2 : u < 0
    · have k := on_pos (u := -u) (v := -v) (x := -x) (y := -y) (by grind) (by grind)
      constructor
      · rintro ⟨a, b, _⟩
        have := k.1 ⟨fun c => b (by grind), fun c => a (by grind)⟩
        grind
      · intro c
        have := k.2 (by grind)
        refine ⟨fun e => this.2 (by grind), fun e => this.1 (by grind), .inl (by grind)⟩
    · have u0 : u = 0 := by grind
      subst u0
      by_cases hv : v = 0
      · subst hv
        constructor
        · rintro ⟨_, _, c⟩; grind
        · intro c; grind
      · have x0 : x = 0 := by
          have : v * x = 0 := by grind
          exact (Rat.mul_eq_zero.1 this).resolve_left hv
        subst x0
        constructor
        · rintro ⟨a, b, _⟩
          refine ⟨.inl ⟨Rat.le_refl, Rat.le_refl⟩, ?_⟩
          by_cases c : 0 < y
          · have : y ≤ v := Rat.not_lt.1 fun d => a ⟨.inr ⟨rfl, c⟩, .inr ⟨rfl, d⟩⟩
            left; grind
          · by_cases d : y < 0
            · have : v ≤ y := Rat.not_lt.1 fun e => b ⟨.inr ⟨rfl, d⟩, .inr ⟨rfl, e⟩⟩
              right; grind
            · rcases Rat.le_total (a := 0) (b := v) with e | e
              · left; grind
              · right; grind
        · rintro ⟨_, c⟩
          refine ⟨?_, ?_, .inl (by grind)⟩
          · rintro ⟨d, e⟩
            rcases c with c | c <;> grind
          · rintro ⟨d, e⟩
            rcases c with c | c <;> grind
/-- the order of points: by the first coordinate, then by the second -/
def ltP (a b : P2) : Prop := a.1 < b.1 ∨ (a.1 = b.1 ∧ a.2 < b.2)
theorem cmpQ_neg {a b : Rat} : cmpQ a b = -1 ↔ a < b := by
  unfold cmpQ; split
  · simp_all
  · split <;> simp_all
theorem cmpQ_pos {a b : Rat} : cmpQ a b = 1 ↔ b < a := by
  unfold cmpQ; split
  · rename_i h
    constructor
    · intro c; cases c
    · intro c; grind
  · split <;> simp_all
theorem cmpQ_zero {a b : Rat} : cmpQ a b = 0 ↔ a = b := by
  have h1 := @cmpQ_neg a b; have h2 := @cmpQ_pos a b
  rcases cmpQ_cases a b with h | h | h
  · have := h1.1 h; constructor
    · intro c; omega
    · intro c; grind
  · constructor
    · intro _
      have n1 : ¬ a < b := fun c => by have := h1.2 c; omega
      have n2 : ¬ b < a := fun c => by have := h2.2 c; omega
      grind
    · intro _; exact h
  · have := h2.1 h; constructor
    · intro c; omega
    · intro c; grind
theorem cmpP_neg {a b : P2} : cmpP a b = -1 ↔ ltP a b := by
  unfold cmpP ltP
  by_cases h : cmpQ a.1 b.1 = 0
  · rw [if_pos h, cmpQ_neg]; have := cmpQ_zero.1 h; grind
  · rw [if_neg h, cmpQ_neg]; have : a.1 ≠ b.1 := fun e => h (cmpQ_zero.2 e); grind
theorem cmpP_pos {a b : P2} : cmpP a b = 1 ↔ ltP b a := by
  unfold cmpP ltP
  by_cases h : cmpQ a.1 b.1 = 0
  · rw [if_pos h, cmpQ_pos]; have := cmpQ_zero.1 h; grind
  · rw [if_neg h, cmpQ_pos]; have : a.1 ≠ b.1 := fun e => h (cmpQ_zero.2 e); grind
theorem cmpP_prod {a p b : P2} : 0 ≤ cmpP a p * cmpP p b ↔ ¬ (ltP a p ∧ ltP b p) ∧ ¬ (ltP p a ∧ ltP p b) := by
  rw [← cmpP_neg (a := a), ← cmpP_pos (a := p) (b := b), ← cmpP_pos (a := a) (b := p), ← cmpP_neg (a := p) (b := b)]
  rcases cmpP_cases a p with h | h | h <;> rcases cmpP_cases p b with k | k | k <;> rw [h, k] <;> decide
theorem on_same (p : P2) (s : S2) : onS p s ↔ onR p s := by
  unfold onS onR
  refine and_congr_right fun h => ?_
  obtain ⟨p1, p2⟩ := p
  obtain ⟨⟨a1, a2⟩, ⟨b1, b2⟩⟩ := s
  have h0 : (b1 - a1) * (p2 - a2) - (b2 - a2) * (p1 - a1) = 0 := by
    have : sgn ((b1 - a1) * (p2 - a2) - (b2 - a2) * (p1 - a1)) = 0 := h
    unfold sgn at this
    rwa [Int.sign_eq_zero_iff_zero, Rat.num_eq_zero] at this
  have c := on_core (u := b1 - a1) (v := b2 - a2) (x := p1 - a1) (y := p2 - a2) (by grind)
  rw [cmpP_prod]
  unfold ltP btw
  dsimp only
  constructor
  · rintro ⟨⟨k1, k2⟩, k3⟩
    have := c.1 ⟨fun e => k1 (by grind), fun e => k2 (by grind), by
      rcases k3 with k3 | k3
      · left; rintro ⟨e1, e2⟩; exact k3 (Prod.ext (show a1 = b1 by grind) (show a2 = b2 by grind))
      · right
        have e1 : p1 = a1 := congrArg Prod.fst k3
        have e2 : p2 = a2 := congrArg Prod.snd k3
        grind⟩
    grind
  · intro k
    have := c.2 (by grind)
    obtain ⟨n1, n2, n3⟩ := this
    refine ⟨⟨fun e => n1 (by grind), fun e => n2 (by grind)⟩, ?_⟩
    rcases n3 with n3 | n3
    · left; intro e
      have e1 : a1 = b1 := congrArg Prod.fst e
      have e2 : a2 = b2 := congrArg Prod.snd e
      exact n3 (by grind)
    · right; exact Prod.ext (show p1 = a1 by grind) (show p2 = a2 by grind)
end Go.Via
set_option linter.unusedVariables false
set_option linter.unusedSimpArgs false
namespace Go.Via
open Go Go.RowKit
/-! ### rows of fractions, the least of them -/
def qC (q : Rat) : List Value := [.bool (decide (q.num < 0)), .string (mag q.num.natAbs), .bool false, .string (dm q)]
def QLc : List Rat → List Value
  | [] => []
  | q :: l => qC q ++ QLc l
theorem QLc_length (l : List Rat) : (QLc l).length = l.length * 4 := by
  induction l with
  | nil => rfl
  | cons p l ih => rw [QLc, List.length_append, ih]; simp [qC]; omega
theorem QLc_get {l : List Rat} {i : Nat} {q : Rat} (h : l[i]? = some q) : ((QLc l).drop (i * 4)).take 4 = qC q := by
  induction l generalizing i with
  | nil => simp at h
  | cons p l ih =>
    cases i with
    | zero =>
      simp at h; subst h
      rw [Nat.zero_mul, List.drop_zero, QLc]
      exact List.take_left' (by simp [qC])
    | succ i =>
      rw [List.getElem?_cons_succ] at h
      rw [QLc, Nat.succ_mul, Nat.add_comm, ← List.drop_drop, List.drop_left' (by simp [qC])]
      exact ih h
theorem QLc_ne {l : List Rat} (h : 0 < l.length) : QLc l ≠ [] := fun e => by
  have := congrArg List.length e
  rw [QLc_length] at this
  simp at this; omega
theorem szQ_min' {a b : Rat} {n : Nat} (h1 : szQ a ≤ n) (h2 : szQ b ≤ n) : szQ (min a b) ≤ n := by
  rw [show min a b = if a ≤ b then a else b from rfl]
  split <;> assumption
/-- the least of a fraction and a row -/
def minL (q : Rat) (l : List Rat) : Rat := l.foldl min q
theorem minL_sz {n : Nat} : ∀ {l : List Rat} {q : Rat}, szQ q ≤ n → (∀ x ∈ l, szQ x ≤ n) → szQ (minL q l) ≤ n
  | [], _, h, _ => h
  | x :: l, q, h, k => minL_sz (l := l) (szQ_min' h (k x List.mem_cons_self)) (fun y hy => k y (List.mem_cons_of_mem _ hy))
theorem minL_take {l : List Rat} {q x : Rat} {i : Nat} (h : l[i]? = some x) : min (minL q (l.take i)) x = minL q (l.take (i + 1)) := by
  unfold minL
  rw [List.take_add_one, h, List.foldl_append]
  rfl
theorem minL_all (l : List Rat) (q : Rat) : minL q (l.take l.length) = minL q l := by rw [List.take_length]
/-- the squared distance of two segments -/
def segs2 (s t : S2) : Rat := if (meetP s t).1 ≠ 0 then 0 else minL (ps2 s.1 t) [ps2 s.2 t, ps2 t.1 s, ps2 t.2 s]
theorem szPs2 {p : P2} {s : S2} (hp : szP p ≤ 1000) (hs : szS s ≤ 1000) : szQ (ps2 p s) ≤ 200000 := by
  have h := szNear hp hs
  unfold ps2 dist2
  exact Nat.le_trans (szQ_add (szQ_mul (szQ_sub (szP1 hp) (szP1 h)) (szQ_sub (szP1 hp) (szP1 h))) (szQ_mul (szQ_sub (szP2 hp) (szP2 h)) (szQ_sub (szP2 hp) (szP2 h)))) (by omega)
theorem segs_T {s t : S2} (h : ((meetP s t).1 != 0) = true) : segs2 s t = 0 := by unfold segs2; rw [if_pos (by simpa using h)]
theorem segs_F {s t : S2} (h : ((meetP s t).1 != 0) = false) : segs2 s t = minL (ps2 s.1 t) [ps2 s.2 t, ps2 t.1 s, ps2 t.2 s] := by unfold segs2; rw [if_neg (by simpa using h)]
end Go.Via
set_option linter.unusedVariables false
set_option linter.unusedSimpArgs false
namespace Go.Via
open Go Go.RowKit
/-! ### the lesser and the greater of two integers -/
section
variable {P : Program} {bl : List Nat} {ops : Array Oper} {K : St → Prop} {rest : List Oper} {nt : Nat} {t : List (Nat × Value)} {L : List Blk} {d : Nat} {ty : TypeId} {pos : String} {af : Array Edge} {g : Option (Nat × Bool)} {x y : Operand}
end
end Go.Via
set_option linter.unusedVariables false
set_option linter.unusedSimpArgs false
namespace Go.Via
open Go Go.RowKit
/-! ### a field of a struct that is a value -/
section
variable {P : Program} {bl : List Nat} {ops : Array Oper} {K : St → Prop} {rest : List Oper} {nt : Nat} {t : List (Nat × Value)} {L : List Blk} {d : Nat} {ty : TypeId} {pos : String} {af : Array Edge} {g : Option (Nat × Bool)} {x y : Operand}
theorem r_field {T i : Nat} {v u : Value} (hd : Nat.blt d nt = true) (hg : wantedS ops ⟨some d, .field T x i, ty, pos, af, g⟩ t = some true) (hx : ev t x = some v) (hf : ∀ w, (Instr.field T v i).run P w = .ok u w)
    (h : Run P bl ops rest ⟨nt, (d, u) :: t, L⟩ K) : Run P bl ops (⟨some d, .field T x i, ty, pos, af, g⟩ :: rest) ⟨nt, t, L⟩ K :=
  run_q hd hg rfl (fun B a w hrel => by simp [execOp, hrel.ev hx, hf w]) h
end
end Go.Via
set_option linter.unusedVariables false
namespace Go.Proofs.YthnlafhnpphdhaaGreatDoor
open Go Go.RowKit Go.Via
set_option maxRecDepth 20000 in
theorem c_plane_least (q : Rat) (l : List Rat) (hq : szQ q ≤ 300000) (hl : ∀ x ∈ l, szQ x ≤ 300000) (hn : l.length ≤ 1000) (b : Option Nat) (N cap : Nat) (hc : l.length ≤ cap) : SCall Tryz.prog 81 [⟨b, 25, QLc l, N, false⟩] [Q q, slv b 0 l.length cap] Unit (fun _ => Q (minL q l)) (fun _ => []) := by
 refine ⟨by kernel_rfl, fun w hL0 => ?_⟩
 refine calls_at (args := [Q q, slv b 0 l.length cap]) Tryz.func81 rfl (Nat.le_of_ble_eq_true rfl) hL0 ?_
 show At w ⟨18, [(0, Q q), (1, slv b 0 l.length cap)], [⟨b, 25, QLc l, N, false⟩]⟩ _
 refine at_seq ?_
 refine at_region ?_
 refine r_box [_, _, _, _] 4 (fun g => [_, ⟨some g, 25, _, 4, true⟩]) rfl rfl rfl rfl rfl (fun _ => rfl) (fun g0 => ?_)
 refine r_alloc [_, _, _, _] 4 (fun g => [_, _, ⟨some g, 25, _, 4, true⟩]) rfl rfl z25 rfl rfl (fun _ => rfl) (fun g1 => ?_)
 refine run_nil ?_
 refine at_tn ?_
 refine at_seq ?_
 refine at_seq ?_
 refine at_region ?_
 refine r_move rfl rfl rfl ?_
 refine r_lenS u83 rfl rfl rfl ?_
 refine r_move rfl rfl rfl ?_
 refine run_nil ?_
 refine at_tn ?_
 refine at_block ?_
 refine enterL (nt := 18) (ι := {i : Nat // i ≤ l.length}) (fun ⟨i, hi⟩ => [(2, .pointer (some ⟨g0, 0, none⟩)), (4, .pointer (some ⟨g1, 0, none⟩)), (7, slv b 0 l.length cap), (8, .int .i64 (l.length : Nat)), (9, .int .i64 (i : Nat))]) (fun ⟨i, hi⟩ => [⟨b, 25, QLc l, N, false⟩, ⟨some g0, 25, qC (minL q (l.take i)), 4, true⟩, ⟨some g1, 25, [.bool false, .string ⟨#[]⟩, .bool false, .string ⟨#[]⟩], 4, true⟩]) (fun ⟨i, hi⟩ => l.length - i) ⟨0, Nat.zero_le _⟩ ⟨rfl, rfl, rfl, rfl, rfl, trivial⟩ (Weak.refl _) ?_
 rintro ⟨i, hi⟩
 show At _ ⟨18, [(2, .pointer (some ⟨g0, 0, none⟩)), (4, .pointer (some ⟨g1, 0, none⟩)), (7, slv b 0 l.length cap), (8, .int .i64 (l.length : Nat)), (9, .int .i64 (i : Nat))], [⟨b, 25, QLc l, N, false⟩, ⟨some g0, 25, qC (minL q (l.take i)), 4, true⟩, ⟨some g1, 25, [.bool false, .string ⟨#[]⟩, .bool false, .string ⟨#[]⟩], 4, true⟩]⟩ _
 refine at_seq ?_
 refine at_region ?_
 refine r_cmpInt rfl rfl rfl rfl rfl ?_
 refine run_nil ?_
 refine at_tn ?_
 refine at_seq ?_
 refine at_cond rfl (fun hb1 => ?_) (fun hb1 => ?_)
 ·
  have hlt : i < l.length := (by have := of_decide_eq_true hb1; omega)
  obtain ⟨x, hx⟩ : ∃ x, l[i]? = some x := ⟨l[i], List.getElem?_eq_getElem hlt⟩
  refine at_skip ?_
  refine at_tn ?_
  refine at_seq ?_
  refine at_block ?_
  refine at_seq ?_
  refine at_region ?_
  refine r_indexAddr 0 (i * 4) u83 ti25 rfl rfl rfl rfl rfl (by omega) (by omega) (QLc_ne (by omega)) (by show 0 + Int.toNat _ * 4 = _; omega) ?_
  refine r_load (v := Q x) 0 (i * 4) _ rfl rfl rfl rfl ti25 (QLc_get hx) rfl (by decide) rfl ?_
  refine r_alloc [_, _, _, _] 4 (fun g => [_, _, _, ⟨some g, 25, _, 4, true⟩]) rfl rfl z25 rfl rfl (fun _ => rfl) (fun g2 => ?_)
  refine r_store rfl 3 0 [_, _, _, ⟨some g2, 25, _, 4, true⟩] [_, _, _, _] rfl rfl rfl rfl ti25 rfl rfl rfl rfl rfl ?_
  refine run_nil ?_
  refine at_tn ?_
  refine at_region ?_
  refine r_load 1 0 [_, _, _, _] rfl rfl rfl rfl ti25 rfl rfl rfl rfl ?_
  refine r_load 3 0 [_, _, _, _] rfl rfl rfl rfl ti25 rfl rfl rfl rfl ?_
  refine r_pcall [_, _] rfl rfl rfl (c_rational_Min (minL q (l.take i)) x (Nat.le_trans (minL_sz hq (fun y hy => hl y (List.mem_of_mem_take hy))) (Nat.le_of_ble_eq_true rfl)) (Nat.le_trans (hl x (List.mem_of_getElem? hx)) (Nat.le_of_ble_eq_true rfl))) ?_
  refine r_know 15 (Q (minL q (l.take (i + 1)))) rfl (congrArg Q (minL_take hx)) ?_
  refine r_store rfl 1 0 [_, ⟨some g0, 25, _, 4, true⟩, _, _] [_, _, _, _] rfl rfl rfl rfl ti25 rfl rfl rfl rfl rfl ?_
  refine run_nil ?_
  refine at_bn ?_
  refine at_tn ?_
  refine at_region ?_
  refine r_arith (r := ((i + 1 : Nat) : Int)) rfl rfl rfl rfl (congrArg some (wi (by omega) (by omega) (by omega))) ?_
  refine r_move rfl rfl rfl ?_
  refine run_nil ?_
  refine at_tn ?_
  exact nextL ⟨i + 1, hlt⟩ (by simp only []; omega) ⟨rfl, rfl, rfl, rfl, rfl, trivial⟩ (weak_picks [some 0, some 1, some 2] ⟨⟨_, rfl, Blk.le_refl _⟩, ⟨_, rfl, Blk.le_refl _⟩, ⟨_, rfl, Blk.le_refl _⟩, trivial⟩ rfl rfl)
 ·
  have hge : i = l.length := (by have := of_decide_eq_false hb1; omega)
  subst hge
  refine at_exit ?_
  refine at_te ?_
  refine at_te ?_
  refine at_be ?_
  refine at_tn ?_
  refine at_seq ?_
  refine at_region ?_
  refine r_load 1 0 [_, _, _, _] rfl rfl rfl rfl ti25 rfl rfl rfl rfl ?_
  refine r_store rfl 2 0 [_, _, ⟨some g1, 25, _, 4, true⟩] [_, _, _, _] rfl rfl rfl rfl ti25 rfl rfl rfl rfl rfl ?_
  refine run_nil ?_
  refine at_tn ?_
  refine at_ret ?_
  refine at_end1 rfl (res_cell 2 rfl rfl ti25 (vs := [_, _, _, _]) rfl rfl (Nat.le_of_ble_eq_true rfl) rfl) (fun w hL => ⟨(), ?_, hL.picks [] trivial rfl rfl⟩)
  exact congrArg (fun x => Ending.returned (Q x)) (minL_all l q)
end Go.Proofs.YthnlafhnpphdhaaGreatDoor
set_option linter.unusedVariables false
namespace Go.Proofs.YthnlafhnpphdhaaGreatDoor
open Go Go.RowKit Go.Via
set_option maxRecDepth 20000 in
theorem c_plane_Segments2 (s t : S2) (hs : szS s ≤ 1000) (ht : szS t ≤ 1000) : PCall Tryz.prog 45 #[Sg s, Sg t] (Q (segs2 s t)) := by
 refine ⟨by kernel_rfl, fun w => ?_⟩
 refine calls_at (args := [Sg s, Sg t]) Tryz.func45 rfl (Nat.le_of_ble_eq_true rfl) (LRel.nil w) ?_
 show At w ⟨29, [(0, Sg s), (1, Sg t)], []⟩ _
 refine at_seq ?_
 refine at_region ?_
 refine r_box [_, _, _, _, _, _, _, _, _, _, _, _, _, _, _, _] 16 (fun g => [⟨some g, 36, _, 16, true⟩]) rfl rfl rfl rfl rfl (fun _ => rfl) (fun g0 => ?_)
 refine r_box [_, _, _, _, _, _, _, _, _, _, _, _, _, _, _, _] 16 (fun g => [_, ⟨some g, 36, _, 16, true⟩]) rfl rfl rfl rfl rfl (fun _ => rfl) (fun g1 => ?_)
 refine r_alloc [_, _, _, _] 4 (fun g => [_, _, ⟨some g, 25, _, 4, true⟩]) rfl rfl z25 rfl rfl (fun _ => rfl) (fun g2 => ?_)
 refine run_nil ?_
 refine at_tn ?_
 refine at_seq ?_
 refine at_seq ?_
 refine at_region ?_
 refine r_load 0 0 [_, _, _, _, _, _, _, _, _, _, _, _, _, _, _, _] rfl rfl rfl rfl ti36 rfl rfl rfl rfl ?_
 refine r_load 1 0 [_, _, _, _, _, _, _, _, _, _, _, _, _, _, _, _] rfl rfl rfl rfl ti36 rfl rfl rfl rfl ?_
 refine r_pcall [_, _] rfl rfl rfl (c_plane_Meet s t hs ht) ?_
 refine r_field (v := Mt (meetP s t)) (u := .int .i64 (meetP s t).1) rfl rfl rfl (fun _ => by kernel_rfl) ?_
 refine r_cmpInt rfl rfl rfl rfl rfl ?_
 refine run_nil ?_
 refine at_tn ?_
 refine at_cond rfl (fun hb0 => ?_) (fun hb0 => ?_)
 ·
  refine at_seq ?_
  refine at_region ?_
  refine r_build [] rfl rfl rfl (bd25_0) ?_
  refine r_store rfl 2 0 [_, _, ⟨some g2, 25, _, 4, true⟩] [_, _, _, _] rfl rfl rfl rfl ti25 rfl rfl rfl rfl rfl ?_
  refine run_nil ?_
  refine at_tn ?_
  refine at_ret ?_
  refine at_tr ?_
  refine at_end1 rfl (res_cell 2 rfl rfl ti25 (vs := [_, _, _, _]) rfl rfl (Nat.le_of_ble_eq_true rfl) rfl) (fun w hL => ⟨?_, hL.below⟩)
  rw [segs_T hb0]; exact congrArg Ending.returned Q_zero.symm
 ·
  refine at_skip ?_
  refine at_tn ?_
  refine at_seq ?_
  refine at_drawn (l' := [⟨_,_,_,_,_,_⟩, ⟨_,_,_,_,_,_⟩, ⟨_,_,_,_,_,_⟩, ⟨_,_,_,_,_,_⟩, ⟨_,_,_,_,_,_⟩, ⟨_,_,_,_,_,_⟩, ⟨_,_,_,_,_,_⟩, ⟨_,_,_,_,_,_⟩, ⟨_,_,_,_,_,_⟩, ⟨_,_,_,_,_,_⟩, ⟨_,_,_,_,_,_⟩, ⟨_,_,_,_,_,_⟩, ⟨_,_,_,_,_,_⟩, ⟨_,_,_,_,_,_⟩, ⟨_,_,_,_,_,_⟩, ⟨_,_,_,_,_,_⟩, ⟨_,_,_,_,_,_⟩, ⟨_,_,_,_,_,_⟩, ⟨_,_,_,_,_,_⟩]) [] [0, 1, 2, 4, 5, 6, 8, 9, 10, 12, 13, 14, 3, 7, 11, 15, 16, 17, 18] mixed (by kernel_rfl) rfl (by kernel_rfl) ?_
  refine r_fieldAddr 0 0 0 rfl rfl rfl rfl rfl ti36 rfl rfl ?_
  refine r_load 0 0 [_, _, _, _, _, _, _, _] rfl rfl rfl rfl ti27 rfl rfl rfl rfl ?_
  refine r_load 1 0 [_, _, _, _, _, _, _, _, _, _, _, _, _, _, _, _] rfl rfl rfl rfl ti36 rfl rfl rfl rfl ?_
  refine r_fieldAddr 0 0 8 rfl rfl rfl rfl rfl ti36 rfl rfl ?_
  refine r_load 0 8 [_, _, _, _, _, _, _, _] rfl rfl rfl rfl ti27 rfl rfl rfl rfl ?_
  refine r_load 1 0 [_, _, _, _, _, _, _, _, _, _, _, _, _, _, _, _] rfl rfl rfl rfl ti36 rfl rfl rfl rfl ?_
  refine r_fieldAddr 1 0 0 rfl rfl rfl rfl rfl ti36 rfl rfl ?_
  refine r_load 1 0 [_, _, _, _, _, _, _, _] rfl rfl rfl rfl ti27 rfl rfl rfl rfl ?_
  refine r_load 0 0 [_, _, _, _, _, _, _, _, _, _, _, _, _, _, _, _] rfl rfl rfl rfl ti36 rfl rfl rfl rfl ?_
  refine r_fieldAddr 1 0 8 rfl rfl rfl rfl rfl ti36 rfl rfl ?_
  refine r_load 1 8 [_, _, _, _, _, _, _, _] rfl rfl rfl rfl ti27 rfl rfl rfl rfl ?_
  refine r_load 0 0 [_, _, _, _, _, _, _, _, _, _, _, _, _, _, _, _] rfl rfl rfl rfl ti36 rfl rfl rfl rfl ?_
  refine r_pcall [_, _] rfl rfl rfl (c_plane_PointSegment2 s.1 t (szS1 hs) ht) ?_
  refine r_pcall [_, _] rfl rfl rfl (c_plane_PointSegment2 s.2 t (szS2 hs) ht) ?_
  refine r_pcall [_, _] rfl rfl rfl (c_plane_PointSegment2 t.1 s (szS1 ht) hs) ?_
  refine r_pcall [_, _] rfl rfl rfl (c_plane_PointSegment2 t.2 s (szS2 ht) hs) ?_
  refine r_buildSlice [(0, _), (1, _), (2, _)] (fun g => [_, _, _, ⟨some g, 25, _, 12, true⟩]) rfl rfl rfl (bs83_3) rfl (fun _ => rfl) (fun g3 => ?_)
  refine r_scall0 [_, _] [3] rfl rfl rfl (c_plane_least (ps2 s.1 t) [ps2 s.2 t, ps2 t.1 s, ps2 t.2 s] (Nat.le_trans (szPs2 (szS1 hs) ht) (Nat.le_of_ble_eq_true rfl)) (by simp only [List.forall_mem_cons]; exact ⟨Nat.le_trans (szPs2 (szS2 hs) ht) (Nat.le_of_ble_eq_true rfl), Nat.le_trans (szPs2 (szS1 ht) hs) (Nat.le_of_ble_eq_true rfl), Nat.le_trans (szPs2 (szS2 ht) hs) (Nat.le_of_ble_eq_true rfl), fun _ h => by cases h⟩) (Nat.le_of_ble_eq_true rfl) (some g3) _ _ (Nat.le_refl _)) ⟨⟨_, rfl, le_share⟩, trivial⟩ rfl ?_
  refine r_store rfl 2 0 [_, _, ⟨some g2, 25, _, 4, true⟩, _] [_, _, _, _] rfl rfl rfl rfl ti25 rfl rfl rfl rfl rfl ?_
  refine run_nil ?_
  refine at_tn ?_
  refine at_ret ?_
  refine at_end1 rfl (res_cell 2 rfl rfl ti25 (vs := [_, _, _, _]) rfl rfl (Nat.le_of_ble_eq_true rfl) rfl) (fun w hL => ⟨?_, hL.below⟩)
  rw [segs_F hb0]; rfl
end Go.Proofs.YthnlafhnpphdhaaGreatDoor
set_option linter.unusedVariables false
namespace Go.Via
open Go Go.RowKit
theorem sgn_z {q : Rat} : sgn q = 0 ↔ q = 0 := by unfold sgn; rw [Int.sign_eq_zero_iff_zero, Rat.num_eq_zero]
theorem sgn_nn {q : Rat} : 0 ≤ sgn q ↔ 0 ≤ q := by
  unfold sgn
  rw [← Rat.num_nonneg]
  rcases Int.lt_trichotomy q.num 0 with c | c | c
  · rw [Int.sign_eq_neg_one_of_neg c]; omega
  · rw [c]; decide
  · rw [Int.sign_eq_one_of_pos c]; omega
theorem sgn_p {q : Rat} : sgn q = 1 ↔ 0 < q := by
  have h1 := sgn_bound q; have h2 := @sgn_nn q; have h3 := @sgn_z q
  constructor
  · intro h
    have a : 0 ≤ q := h2.1 (by omega)
    have b : q ≠ 0 := fun e => by have := h3.2 e; omega
    grind
  · intro h
    have a := h2.2 (by grind)
    have b : sgn q ≠ 0 := fun e => by have := h3.1 e; grind
    omega
theorem sgn_n {q : Rat} : sgn q = -1 ↔ q < 0 := by
  have h1 := sgn_bound q; have h2 := @sgn_nn q
  constructor
  · intro h
    have : ¬ 0 ≤ q := fun e => by have := h2.2 e; omega
    grind
  · intro h
    have : ¬ 0 ≤ sgn q := fun e => by have := h2.1 e; grind
    omega
end Go.Via
