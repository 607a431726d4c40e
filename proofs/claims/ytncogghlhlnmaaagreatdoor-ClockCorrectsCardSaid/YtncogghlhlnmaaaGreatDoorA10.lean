/-
  Part 10: lemmas, and walks through the functions that the laws of chapter 26 call. Each theorem states its own conditions.
-/
import Derived.Test.YtncogghlhlnmaaaGreatDoorA02
import Derived.Test.YtncogghlhlnmaaaGreatDoorA03
import Derived.Test.YtncogghlhlnmaaaGreatDoorA04
import Derived.Test.YtncogghlhlnmaaaGreatDoorA06
import Derived.Test.YtncogghlhlnmaaaGreatDoorA08
import Derived.Test.YtncogghlhlnmaaaGreatDoorA09
set_option linter.unusedVariables false
set_option linter.unusedVariables false
namespace Go.Proofs.YtncogghlhlnmaaaGreatDoor
open Go Go.RowKit Go.Via
set_option maxRecDepth 20000 in
theorem c_ref02_Make (n d : Int) (hd : d ≠ 0) (hn : szI n ≤ 8388608) (hdn : szI d ≤ 8388608) : PCall Tryz.prog 46 #[I n, I d] (Q (Rat.divInt n d)) := by
 refine ⟨by kernel_rfl, fun w => ?_⟩
 refine calls_at (args := [I n, I d]) Tryz.func46 rfl (Nat.le_of_ble_eq_true rfl) (LRel.nil w) ?_
 show At w ⟨16, [(0, I n), (1, I d)], []⟩ _
 refine at_seq (at_region ?_)
 refine r_box [_, _] 2 (fun g => [⟨some g, 61, _, 2, true⟩]) rfl rfl rfl rfl rfl (fun _ => rfl) (fun g0 => ?_)
 refine r_box [_, _] 2 (fun g => [_, ⟨some g, 61, _, 2, true⟩]) rfl rfl rfl rfl rfl (fun _ => rfl) (fun g1 => ?_)
 refine r_alloc [_, _, _, _] 4 (fun g => [_, _, ⟨some g, 63, _, 4, true⟩]) rfl rfl z63 rfl rfl (fun _ => rfl) (fun g2 => ?_)
 refine run_nil (at_tn (at_seq ?_))
 refine at_drawn (l' := [⟨_,_,_,_,_,_⟩, ⟨_,_,_,_,_,_⟩, ⟨_,_,_,_,_,_⟩, ⟨_,_,_,_,_,_⟩, ⟨_,_,_,_,_,_⟩, ⟨_,_,_,_,_,_⟩, ⟨_,_,_,_,_,_⟩, ⟨_,_,_,_,_,_⟩, ⟨_,_,_,_,_,_⟩, ⟨_,_,_,_,_,_⟩, ⟨_,_,_,_,_,_⟩, ⟨_,_,_,_,_,_⟩]) [] [0, 1, 2, 3, 4, 5, 7, 6, 8, 9, 10, 11] mixed (by kernel_rfl) rfl (by kernel_rfl) ?_
 refine r_fieldAddr 0 0 0 rfl rfl rfl rfl rfl ti61 rfl rfl (r_load 0 0 [_] rfl rfl rfl rfl ti4 rfl rfl rfl rfl (r_fieldAddr 1 0 0 rfl rfl rfl rfl rfl ti61 rfl rfl (r_load 1 0 [_] rfl rfl rfl rfl ti4 rfl rfl rfl rfl (r_neqBool rfl u4 rfl rfl rfl (r_load 0 0 [_, _] rfl rfl rfl rfl ti61 rfl rfl rfl rfl (r_load 1 0 [_, _] rfl rfl rfl rfl ti61 rfl rfl rfl rfl ?_))))))
 refine r_scall [_] [] rfl rfl rfl (c_ref02_digits n (Nat.le_trans hn (Nat.le_of_ble_eq_true rfl))) trivial rfl (.inr fun x b hb => by rw [List.mem_singleton.1 hb]) (fun xn => ?_)
 refine r_scall [_] [] rfl rfl rfl (c_ref02_digits d (Nat.le_trans hdn (Nat.le_of_ble_eq_true rfl))) trivial rfl (.inr fun x b hb => by rw [List.mem_singleton.1 hb]) (fun xd => ?_)
 refine r_build [(0, _), (1, _), (2, _)] rfl rfl rfl (bd106_3) ?_
 refine r_scall0 [_] [3, 4] rfl rfl rfl (c_ref02_canonical n.natAbs d.natAbs (decide (n < 0) != decide (d < 0)) (by omega) (Nat.le_trans hn (Nat.le_of_ble_eq_true rfl)) (Nat.le_trans hdn (Nat.le_of_ble_eq_true rfl)) xn xd) ⟨⟨_, rfl, le_share⟩, ⟨_, rfl, le_share⟩, trivial⟩ rfl ?_
 refine r_know 15 (Q (Rat.divInt n d)) rfl (congrArg Q (sg_Make n d hd)) ?_
 refine r_store rfl 2 0 [_, _, ⟨some g2, 63, _, 4, true⟩, _, _] [_, _, _, _] rfl rfl rfl rfl ti63 rfl rfl rfl rfl rfl ?_
 refine run_nil (at_tn (at_ret ?_))
 refine at_end1 rfl (res_cell 2 rfl rfl ti63 (vs := [_, _, _, _]) rfl rfl (Nat.le_of_ble_eq_true rfl) rfl) (fun w hL => ⟨?_, hL.below⟩)
 exact rfl
set_option maxRecDepth 20000 in
theorem c_ref02_Int (z : Int) (h1 : -9223372036854775808 ≤ z) (h2 : z ≤ 9223372036854775807) : PCall Tryz.prog 47 #[.int .i64 z] (I z) := by
 have hnb : nb z.natAbs ≤ 8 := nb_le (by omega)
 refine ⟨by kernel_rfl, fun w => ?_⟩
 refine calls_at (args := [.int .i64 z]) Tryz.func47 rfl (Nat.le_of_ble_eq_true rfl) (LRel.nil w) ?_
 show At w ⟨25, [(0, .int .i64 z)], []⟩ _
 refine at_seq (at_region ?_)
 refine r_alloc [_, _] 2 (fun g => [⟨some g, 61, _, 2, true⟩]) rfl rfl z61 rfl rfl (fun _ => rfl) (fun g0 => ?_)
 refine run_nil (at_tn (at_seq (at_region (r_assign rfl rfl rfl (run_nil (at_tn (at_seq (at_region (r_move rfl rfl rfl (r_assign rfl rfl rfl (run_nil (at_tn (at_seq (at_block ?_))))))))))))))
 refine enterL (nt := 25) (ι := {x : Nat × Option Nat × Nat × Nat // x.1 ≤ nb z.natAbs ∧ x.1 ≤ x.2.2.2 ∧ x.2.2.2 ≤ x.2.2.1}) (fun ⟨⟨i, ob, oN, oc⟩, hi, h3, h4⟩ => [(0, .int .i64 z), (2, .pointer (some ⟨g0, 0, none⟩)), (3, slv ob 0 i oc), (4, .int .i64 (im z i))]) (fun ⟨⟨i, ob, oN, oc⟩, hi, h3, h4⟩ => [⟨some g0, 61, [.bool false, .string ⟨#[]⟩], 2, true⟩, ⟨ob, 3, NV .i64 (row i (dg8 z.natAbs)), oN, true⟩]) (fun ⟨⟨i, ob, oN, oc⟩, hi, h3, h4⟩ => nb z.natAbs - i) ⟨(0, none, 0, 0), Nat.zero_le _, Nat.le_refl _, Nat.le_refl _⟩ ⟨rfl, rfl, rfl, (look_val rfl (congrArg (Value.int .i64) (im_zero z).symm)), trivial⟩ (weak_picks [some 0, none] ⟨⟨_, rfl, Blk.le_refl _⟩, ⟨rfl, rfl, rfl⟩, trivial⟩ rfl rfl) ?_
 rintro ⟨⟨i, ob, oN, oc⟩, hi, h3, h4⟩
 show At _ ⟨25, [(0, .int .i64 z), (2, .pointer (some ⟨g0, 0, none⟩)), (3, slv ob 0 i oc), (4, .int .i64 (im z i))], [⟨some g0, 61, [.bool false, .string ⟨#[]⟩], 2, true⟩, ⟨ob, 3, NV .i64 (row i (dg8 z.natAbs)), oN, true⟩]⟩ _
 replace hi : i ≤ nb z.natAbs := hi
 replace h3 : i ≤ oc := h3
 replace h4 : oc ≤ oN := h4
 have hdg := dg8_lt z.natAbs i
 refine at_seq (at_seq (at_region (r_move rfl rfl rfl (r_cmpInt rfl rfl rfl rfl rfl (run_nil (at_tn ?_))))))
 refine at_cond rfl (fun hb1 => ?_) (fun hb1 => ?_)
 ·
  have hlt := im_lt hb1
  refine at_skip (at_tn (at_block (at_seq (at_region (r_move rfl rfl rfl ?_)))))
  refine r_div (r := imR z i) rfl rfl rfl rfl (by omega) (congrArg some (imR_rem z i)) ?_
  refine r_assign rfl rfl rfl (run_nil (at_tn (at_seq (at_seq (at_region (r_move rfl rfl rfl (r_cmpInt rfl rfl rfl rfl rfl (run_nil (at_tn ?_)))))))))
  refine at_cond rfl (fun hb2 => ?_) (fun hb2 => ?_)
  ·
   have HB12 := hb2
   refine at_region (r_move rfl rfl rfl ?_)
   refine r_arith (r := ((dg8 z.natAbs i : Nat) : Int)) rfl rfl rfl rfl (congrArg some (imR_neg (of_decide_eq_true HB12))) ?_
   refine r_assign rfl rfl rfl (run_nil (at_tn (at_seq (at_region (r_move rfl rfl rfl (r_move rfl rfl rfl ?_))))))
   refine r_buildSlice [(0, _)] (fun g => [_, _, ⟨some g, 3, _, 1, true⟩]) rfl rfl rfl (bs33_1) rfl (fun _ => rfl) (fun g1 => ?_)
   refine q_append (s := 1) (len := i) (n2 := 1) 1 2 (fun r => [_, ⟨some r.g, 3, NV .i64 (row (i + 1) (dg8 z.natAbs)), r.n, true⟩, ⟨some g1, 3, _, 1, true⟩]) u33 el3 rfl rfl rfl rfl rfl rfl rfl rfl rfl rfl rfl rfl (by rw [NV_length, row_length]; omega) (by omega) (by show oc * 1 ≤ oN; omega) rfl (Go.Via.one_cell _ _) (by omega) (fun r => congrArg (fun c => [_, (⟨some r.g, 3, c, r.n, true⟩ : Blk), ⟨some g1, 3, _, 1, true⟩]) (NV_snoc _ _ _ _ (rfl))) (fun r => ?_)
   refine r_assign rfl rfl rfl (run_nil (at_tn (at_region (r_move rfl rfl rfl ?_))))
   refine r_div (r := im z (i + 1)) rfl rfl rfl rfl (by omega) (congrArg some (imR_quo z i h1 h2)) ?_
   refine r_assign rfl rfl rfl (run_nil (at_bn (at_tn ?_)))
   exact nextL ⟨(i + 1, some r.g, r.n, r.cap), hlt, r.h, by have := r.hn; show r.cap ≤ r.n; omega⟩ (by show nb z.natAbs - (i + 1) < nb z.natAbs - i; omega) ⟨rfl, rfl, rfl, rfl, trivial⟩ (weak_picks [some 0, some 1] ⟨⟨_, rfl, Blk.le_refl _⟩, ⟨_, rfl, Blk.le_refl _⟩, trivial⟩ rfl rfl)
  ·
   refine at_know 5 (.int .i64 (dg8 z.natAbs i : Nat)) rfl (congrArg (Value.int .i64) (imR_pos (of_decide_eq_false hb2))) ?_
   refine at_skip (at_tn (at_seq (at_region (r_move rfl rfl rfl (r_move rfl rfl rfl ?_)))))
   refine r_buildSlice [(0, _)] (fun g => [_, _, ⟨some g, 3, _, 1, true⟩]) rfl rfl rfl (bs33_1) rfl (fun _ => rfl) (fun g1 => ?_)
   refine q_append (s := 1) (len := i) (n2 := 1) 1 2 (fun r => [_, ⟨some r.g, 3, NV .i64 (row (i + 1) (dg8 z.natAbs)), r.n, true⟩, ⟨some g1, 3, _, 1, true⟩]) u33 el3 rfl rfl rfl rfl rfl rfl rfl rfl rfl rfl rfl rfl (by rw [NV_length, row_length]; omega) (by omega) (by show oc * 1 ≤ oN; omega) rfl (Go.Via.one_cell _ _) (by omega) (fun r => congrArg (fun c => [_, (⟨some r.g, 3, c, r.n, true⟩ : Blk), ⟨some g1, 3, _, 1, true⟩]) (NV_snoc _ _ _ _ (rfl))) (fun r => ?_)
   refine r_assign rfl rfl rfl (run_nil (at_tn (at_region (r_move rfl rfl rfl ?_))))
   refine r_div (r := im z (i + 1)) rfl rfl rfl rfl (by omega) (congrArg some (imR_quo z i h1 h2)) ?_
   refine r_assign rfl rfl rfl (run_nil (at_bn (at_tn ?_)))
   exact nextL ⟨(i + 1, some r.g, r.n, r.cap), hlt, r.h, by have := r.hn; show r.cap ≤ r.n; omega⟩ (by show nb z.natAbs - (i + 1) < nb z.natAbs - i; omega) ⟨rfl, rfl, rfl, rfl, trivial⟩ (weak_picks [some 0, some 1] ⟨⟨_, rfl, Blk.le_refl _⟩, ⟨_, rfl, Blk.le_refl _⟩, trivial⟩ rfl rfl)
 ·
  have hge := im_end hb1 hi
  subst hge
  refine at_exit (at_te (at_te (at_be (at_tn (at_seq (at_region (r_move rfl rfl rfl (r_move rfl rfl rfl (r_cmpInt rfl rfl rfl rfl rfl ?_)))))))))
  refine r_scall0 [_, _] [1] rfl rfl rfl (c_ref02_whole z.natAbs (decide (z < 0)) (by omega) ⟨ob, oN, oc, h3⟩) ⟨⟨_, rfl, ⟨rfl, rfl, rfl, ⟨nb z.natAbs, by rw [D8_row, List.take_of_length_le (by rw [NV_length, D8_length]; exact Nat.le_refl _)]⟩, fun h => by cases h⟩⟩, trivial⟩ rfl ?_
  refine r_know 24 (I z) rfl (congrArg I (by by_cases hz : z < 0 <;> simp [hz] <;> omega)) ?_
  refine r_store rfl 0 0 [⟨some g0, 61, _, 2, true⟩, _] [_, _] rfl rfl rfl rfl ti61 rfl rfl rfl rfl rfl ?_
  refine run_nil (at_tn (at_ret ?_))
  refine at_end1 rfl (res_cell 0 rfl rfl ti61 (vs := [_, _]) rfl rfl (Nat.le_of_ble_eq_true rfl) rfl) (fun w hL => ⟨?_, hL.below⟩)
  exact rfl
set_option maxRecDepth 20000 in
theorem c_ref02_Of (a b : Int) (ha1 : -9223372036854775808 ≤ a) (ha2 : a ≤ 9223372036854775807) (hb1 : -9223372036854775808 ≤ b) (hb2 : b ≤ 9223372036854775807) (hb0 : b ≠ 0) : PCall Tryz.prog 28 #[.int .i64 a, .int .i64 b] (Q (Rat.divInt a b)) := by
 refine ⟨by kernel_rfl, fun w => ?_⟩
 refine calls_at (args := [.int .i64 a, .int .i64 b]) Tryz.func28 rfl (Nat.le_of_ble_eq_true rfl) (LRel.nil w) ?_
 show At w ⟨10, [(0, .int .i64 a), (1, .int .i64 b)], []⟩ _
 refine at_seq (at_region ?_)
 refine r_alloc [_, _, _, _] 4 (fun g => [⟨some g, 63, _, 4, true⟩]) rfl rfl z63 rfl rfl (fun _ => rfl) (fun g0 => ?_)
 refine run_nil (at_tn (at_seq (at_region (r_move rfl rfl rfl ?_))))
 refine r_pcall [_] rfl rfl rfl (c_ref02_Int a ha1 ha2) ?_
 refine r_move rfl rfl rfl ?_
 refine r_pcall [_] rfl rfl rfl (c_ref02_Int b hb1 hb2) ?_
 refine r_pcall [_, _] rfl rfl rfl (c_ref02_Make a b hb0 (szI64 ha1 ha2) (szI64 hb1 hb2)) ?_
 refine r_store rfl 0 0 [⟨some g0, 63, _, 4, true⟩] [_, _, _, _] rfl rfl rfl rfl ti63 rfl rfl rfl rfl rfl ?_
 refine run_nil (at_tn (at_ret ?_))
 refine at_end1 rfl (res_cell 0 rfl rfl ti63 (vs := [_, _, _, _]) rfl rfl (Nat.le_of_ble_eq_true rfl) rfl) (fun w hL => ⟨?_, hL.below⟩)
 exact rfl
set_option maxRecDepth 20000 in
theorem c_ref02_Neg (q : Rat) : PCall Tryz.prog 51 #[Q q] (Q (-q)) := by
 refine ⟨by kernel_rfl, fun w => ?_⟩
 refine calls_at (args := [Q q]) Tryz.func51 rfl (Nat.le_of_ble_eq_true rfl) (LRel.nil w) ?_
 show At w ⟨16, [(0, Q q)], []⟩ _
 refine at_seq (at_region ?_)
 refine r_box [_, _, _, _] 4 (fun g => [⟨some g, 63, _, 4, true⟩]) rfl rfl rfl rfl rfl (fun _ => rfl) (fun g0 => ?_)
 refine r_alloc [_, _, _, _] 4 (fun g => [_, ⟨some g, 63, _, 4, true⟩]) rfl rfl z63 rfl rfl (fun _ => rfl) (fun g1 => ?_)
 refine run_nil (at_tn (at_seq (at_region (r_fieldAddr 0 0 0 rfl rfl rfl rfl rfl ti63 rfl rfl (r_fieldAddr 0 0 0 rfl rfl rfl rfl rfl ti61 rfl rfl (r_load 0 0 [_] rfl rfl rfl rfl ti4 rfl rfl rfl rfl (r_not rfl rfl rfl (r_move rfl rfl rfl ?_))))))))
 refine r_split 7 rfl (fun hb0 => ?_) (fun hb0 => ?_)
 ·
  refine r_fieldAddr 0 0 0 rfl rfl rfl rfl rfl ti63 rfl rfl (r_fieldAddr 0 0 1 rfl rfl rfl rfl rfl ti61 rfl rfl (r_load 0 1 [_] rfl rfl rfl rfl ti9 rfl rfl rfl rfl (r_neqStr rfl rfl rfl rfl (r_pickT rfl rfl rfl rfl (r_fieldAddr 0 0 0 rfl rfl rfl rfl rfl ti63 rfl rfl (r_fieldAddr 0 0 0 rfl rfl rfl rfl rfl ti61 rfl rfl ?_))))))
  refine r_store rfl 0 0 [⟨some g0, 63, _, 4, true⟩, _] [_, _, _, _] rfl rfl rfl rfl ti4 rfl rfl rfl rfl rfl ?_
  refine run_nil (at_tn (at_seq (at_region (r_load 0 0 [_, _, _, _] rfl rfl rfl rfl ti63 rfl rfl rfl rfl ?_))))
  refine r_store rfl 1 0 [_, ⟨some g1, 63, _, 4, true⟩] [_, _, _, _] rfl rfl rfl rfl ti63 rfl rfl rfl rfl rfl ?_
  refine run_nil (at_tn (at_ret ?_))
  refine at_end1 rfl (res_cell 1 rfl rfl ti63 (vs := [_, _, _, _]) rfl rfl (Nat.le_of_ble_eq_true rfl) rfl) (fun w hL => ⟨?_, hL.below⟩)
  exact congrArg Ending.returned (neg8_T hb0)
 ·
  refine r_no rfl rfl rfl (r_no rfl rfl rfl (r_no rfl rfl rfl (r_no rfl rfl rfl (r_pickF rfl rfl rfl rfl (r_fieldAddr 0 0 0 rfl rfl rfl rfl rfl ti63 rfl rfl (r_fieldAddr 0 0 0 rfl rfl rfl rfl rfl ti61 rfl rfl ?_))))))
  refine r_store rfl 0 0 [⟨some g0, 63, _, 4, true⟩, _] [_, _, _, _] rfl rfl rfl rfl ti4 rfl rfl rfl rfl rfl ?_
  refine run_nil (at_tn (at_seq (at_region (r_load 0 0 [_, _, _, _] rfl rfl rfl rfl ti63 rfl rfl rfl rfl ?_))))
  refine r_store rfl 1 0 [_, ⟨some g1, 63, _, 4, true⟩] [_, _, _, _] rfl rfl rfl rfl ti63 rfl rfl rfl rfl rfl ?_
  refine run_nil (at_tn (at_ret ?_))
  refine at_end1 rfl (res_cell 1 rfl rfl ti63 (vs := [_, _, _, _]) rfl rfl (Nat.le_of_ble_eq_true rfl) rfl) (fun w hL => ⟨?_, hL.below⟩)
  exact congrArg Ending.returned (neg8_F hb0)
end Go.Proofs.YtncogghlhlnmaaaGreatDoor
set_option linter.unusedVariables false
namespace Go.Proofs.YtncogghlhlnmaaaGreatDoor
open Go Go.RowKit Go.Via
set_option maxRecDepth 20000 in
theorem c_ref02_Add (p q : Rat) (hp : szQ p ≤ 4194303) (hq : szQ q ≤ 4194303) : PCall Tryz.prog 50 #[Q p, Q q] (Q (p + q)) := by
 have e1 := nb_num hp
 have e2 := nb_den hp
 have e3 := nb_num hq
 have e4 := nb_den hq
 have m1 := nb_mul p.num.natAbs q.num.natAbs
 have m2 := nb_mul p.num.natAbs q.den
 have m3 := nb_mul q.num.natAbs p.den
 have m4 := nb_mul p.den q.den
 have m5 := nb_mul p.den q.num.natAbs
 have dp : 0 < p.den := Nat.pos_of_ne_zero p.den_nz
 have dq : 0 < q.den := Nat.pos_of_ne_zero q.den_nz
 have dpq : 0 < p.den * q.den := Nat.mul_pos dp dq
 have m6 := nb_add (p.num.natAbs * q.den) (q.num.natAbs * p.den)
 have m7 : nb (p.num.natAbs * q.den - q.num.natAbs * p.den) ≤ nb (p.num.natAbs * q.den) := nb_mono (Nat.sub_le _ _)
 have m8 : nb (q.num.natAbs * p.den - p.num.natAbs * q.den) ≤ nb (q.num.natAbs * p.den) := nb_mono (Nat.sub_le _ _)
 refine ⟨by kernel_rfl, fun w => ?_⟩
 refine calls_at (args := [Q p, Q q]) Tryz.func50 rfl (Nat.le_of_ble_eq_true rfl) (LRel.nil w) ?_
 show At w ⟨64, [(0, Q p), (1, Q q)], []⟩ _
 refine at_seq (at_region ?_)
 refine r_box [_, _, _, _] 4 (fun g => [⟨some g, 63, _, 4, true⟩]) rfl rfl rfl rfl rfl (fun _ => rfl) (fun g0 => ?_)
 refine r_box [_, _, _, _] 4 (fun g => [_, ⟨some g, 63, _, 4, true⟩]) rfl rfl rfl rfl rfl (fun _ => rfl) (fun g1 => ?_)
 refine r_alloc [_, _, _, _] 4 (fun g => [_, _, ⟨some g, 63, _, 4, true⟩]) rfl rfl z63 rfl rfl (fun _ => rfl) (fun g2 => ?_)
 refine run_nil (at_tn (at_seq ?_))
 refine at_drawnA (l' := [⟨_,_,_,_,_,_⟩, ⟨_,_,_,_,_,_⟩, ⟨_,_,_,_,_,_⟩, ⟨_,_,_,_,_,_⟩, ⟨_,_,_,_,_,_⟩, ⟨_,_,_,_,_,_⟩, ⟨_,_,_,_,_,_⟩, ⟨_,_,_,_,_,_⟩]) [3000000] [0, 2, 1, 3, 4, 5, 6, 7] mixed (by kernel_rfl) rfl ?_
 refine r_load 0 0 [_, _, _, _] rfl rfl rfl rfl ti63 rfl rfl rfl rfl (r_load 1 0 [_, _, _, _] rfl rfl rfl rfl ti63 rfl rfl rfl rfl ?_)
 refine r_scall [_] [] rfl rfl rfl (c_ref02_of p (Nat.le_trans hp (Nat.le_of_ble_eq_true rfl))) trivial rfl (.inr own2) (fun x => ?_)
 refine r_scall [_] [] rfl rfl rfl (c_ref02_of q (Nat.le_trans hq (Nat.le_of_ble_eq_true rfl))) trivial rfl (.inr own2) (fun y => ?_)
 refine r_alloc [_, _, _] 3 (fun g => [_, _, _, _, _, _, _, ⟨some g, 106, _, 3, true⟩]) rfl rfl z106 rfl rfl (fun _ => rfl) (fun g3 => ?_)
 refine r_alloc [_, _, _] 3 (fun g => [_, _, _, _, _, _, _, _, ⟨some g, 106, _, 3, true⟩]) rfl rfl z106 rfl rfl (fun _ => rfl) (fun g4 => ?_)
 refine r_store rfl 7 0 [_, _, _, _, _, _, _, ⟨some g3, 106, _, 3, true⟩, _] [_, _, _] rfl rfl rfl rfl ti106 rfl rfl rfl rfl rfl ?_
 refine r_store rfl 8 0 [_, _, _, _, _, _, _, _, ⟨some g4, 106, _, 3, true⟩] [_, _, _] rfl rfl rfl rfl ti106 rfl rfl rfl rfl rfl ?_
 refine run_nil (at_tn (at_seq ?_))
 refine at_drawn (l' := [⟨_,_,_,_,_,_⟩, ⟨_,_,_,_,_,_⟩, ⟨_,_,_,_,_,_⟩, ⟨_,_,_,_,_,_⟩, ⟨_,_,_,_,_,_⟩, ⟨_,_,_,_,_,_⟩, ⟨_,_,_,_,_,_⟩, ⟨_,_,_,_,_,_⟩, ⟨_,_,_,_,_,_⟩, ⟨_,_,_,_,_,_⟩, ⟨_,_,_,_,_,_⟩, ⟨_,_,_,_,_,_⟩]) [] [0, 1, 2, 3, 5, 6, 7, 8, 4, 9, 10, 11] mixed (by kernel_rfl) rfl (by kernel_rfl) ?_
 refine r_fieldAddr 7 0 1 rfl rfl rfl rfl rfl ti106 rfl rfl (r_load 7 1 [_] rfl rfl rfl rfl ti33 rfl rfl rfl rfl (r_fieldAddr 8 0 2 rfl rfl rfl rfl rfl ti106 rfl rfl (r_load 8 2 [_] rfl rfl rfl rfl ti33 rfl rfl rfl rfl (r_fieldAddr 8 0 1 rfl rfl rfl rfl rfl ti106 rfl rfl (r_load 8 1 [_] rfl rfl rfl rfl ti33 rfl rfl rfl rfl (r_fieldAddr 7 0 2 rfl rfl rfl rfl rfl ti106 rfl rfl (r_load 7 2 [_] rfl rfl rfl rfl ti33 rfl rfl rfl rfl ?_)))))))
 refine r_scall [_, _] [3, 6] rfl rfl rfl (c_ref02_times (p.num.natAbs) (q.den) (by omega) (by omega) x.1 y.2) ⟨⟨_, rfl, le_share⟩, ⟨_, rfl, le_share⟩, trivial⟩ rfl (.inr fun x b hb => by rw [List.mem_singleton.1 hb]) (fun zP => ?_)
 refine r_scall [_, _] [5, 4] rfl rfl rfl (c_ref02_times (q.num.natAbs) (p.den) (by omega) (by omega) y.1 x.2) ⟨⟨_, rfl, le_share⟩, ⟨_, rfl, le_share⟩, trivial⟩ rfl (.inr fun x b hb => by rw [List.mem_singleton.1 hb]) (fun zQ => ?_)
 refine r_assign rfl rfl rfl (r_assign rfl rfl rfl (run_nil (at_tn (at_seq (at_region (r_fieldAddr 7 0 2 rfl rfl rfl rfl rfl ti106 rfl rfl (r_load 7 2 [_] rfl rfl rfl rfl ti33 rfl rfl rfl rfl (r_fieldAddr 8 0 2 rfl rfl rfl rfl rfl ti106 rfl rfl (r_load 8 2 [_] rfl rfl rfl rfl ti33 rfl rfl rfl rfl ?_)))))))))
 refine r_scall [_, _] [4, 6] rfl rfl rfl (c_ref02_times (p.den) (q.den) (by omega) (by omega) x.2 y.2) ⟨⟨_, rfl, le_share⟩, ⟨_, rfl, le_share⟩, trivial⟩ rfl (.inr fun x b hb => by rw [List.mem_singleton.1 hb]) (fun zD => ?_)
 refine r_assign rfl rfl rfl (run_nil (at_tn (at_seq (at_block (at_seq (at_region (r_fieldAddr 7 0 0 rfl rfl rfl rfl rfl ti106 rfl rfl (r_load 7 0 [_] rfl rfl rfl rfl ti4 rfl rfl rfl rfl (r_fieldAddr 8 0 0 rfl rfl rfl rfl rfl ti106 rfl rfl (r_load 8 0 [_] rfl rfl rfl rfl ti4 rfl rfl rfl rfl (r_eqlBool rfl u4 rfl rfl rfl (r_assign rfl rfl rfl (run_nil (at_tn ?_))))))))))))))
 refine at_cond rfl (fun hb0 => ?_) (fun hb0 => ?_)
 ·
  have hs := hb0
  refine at_seq ?_
  refine at_drawn (l' := [⟨_,_,_,_,_,_⟩, ⟨_,_,_,_,_,_⟩, ⟨_,_,_,_,_,_⟩, ⟨_,_,_,_,_,_⟩, ⟨_,_,_,_,_,_⟩, ⟨_,_,_,_,_,_⟩, ⟨_,_,_,_,_,_⟩, ⟨_,_,_,_,_,_⟩, ⟨_,_,_,_,_,_⟩]) [] [0, 1, 2, 3, 5, 4, 6, 7, 8] mixed (by kernel_rfl) rfl (by kernel_rfl) ?_
  refine r_fieldAddr 7 0 0 rfl rfl rfl rfl rfl ti106 rfl rfl (r_load 7 0 [_] rfl rfl rfl rfl ti4 rfl rfl rfl rfl (r_move rfl rfl rfl (r_move rfl rfl rfl (r_move rfl rfl rfl ?_))))
  refine r_scall [_, _] [9, 10] rfl rfl rfl (c_ref02_plus (p.num.natAbs * q.den) (q.num.natAbs * p.den) (by omega) (by omega) zP zQ) ⟨⟨_, rfl, le_share⟩, ⟨_, rfl, le_share⟩, trivial⟩ rfl (.inr fun x b hb => by rw [List.mem_singleton.1 hb]) (fun zS => ?_)
  refine r_build [(0, _), (1, _), (2, _)] rfl rfl rfl (bd106_3) ?_
  refine r_scall0 [_] [12, 11] rfl rfl rfl (c_ref02_canonical (p.num.natAbs * q.den + q.num.natAbs * p.den) (p.den * q.den) (decide (p.num < 0)) dpq (by omega) (by omega) zS zD) ⟨⟨_, rfl, le_share⟩, ⟨_, rfl, le_share⟩, trivial⟩ rfl ?_
  refine r_know 42 (Q (p + q)) rfl (congrArg Q (sg_add1 p q hs)) ?_
  refine r_store rfl 2 0 [_, _, ⟨some g2, 63, _, 4, true⟩, _, _, _, _, _, _, _, _, _, _] [_, _, _, _] rfl rfl rfl rfl ti63 rfl rfl rfl rfl rfl ?_
  refine run_nil (at_tn (at_ret (at_br (at_tr ?_))))
  refine at_end1 rfl (res_cell 2 rfl rfl ti63 (vs := [_, _, _, _]) rfl rfl (Nat.le_of_ble_eq_true rfl) rfl) (fun w hL => ⟨?_, hL.below⟩)
  exact rfl
 ·
  have hs := hb0
  refine at_seq (at_region (r_move rfl rfl rfl (r_move rfl rfl rfl ?_)))
  refine r_scall0 [_, _] [9, 10] rfl rfl rfl (c_ref02_compare (p.num.natAbs * q.den) (q.num.natAbs * p.den) (by omega) zP zQ) ⟨⟨_, rfl, le_share⟩, ⟨_, rfl, le_share⟩, trivial⟩ rfl ?_
  refine r_cmpInt rfl rfl rfl rfl rfl (r_assign rfl rfl rfl (run_nil (at_tn ?_)))
  refine at_cond rfl (fun hb1 => ?_) (fun hb1 => ?_)
  ·
   have hle : q.num.natAbs * p.den ≤ p.num.natAbs * q.den := cmpN_nonneg.1 (of_decide_eq_true hb1)
   refine at_seq ?_
   refine at_drawn (l' := [⟨_,_,_,_,_,_⟩, ⟨_,_,_,_,_,_⟩, ⟨_,_,_,_,_,_⟩, ⟨_,_,_,_,_,_⟩, ⟨_,_,_,_,_,_⟩, ⟨_,_,_,_,_,_⟩, ⟨_,_,_,_,_,_⟩, ⟨_,_,_,_,_,_⟩, ⟨_,_,_,_,_,_⟩]) [] [0, 1, 2, 3, 5, 4, 6, 7, 8] mixed (by kernel_rfl) rfl (by kernel_rfl) ?_
   refine r_fieldAddr 7 0 0 rfl rfl rfl rfl rfl ti106 rfl rfl (r_load 7 0 [_] rfl rfl rfl rfl ti4 rfl rfl rfl rfl (r_move rfl rfl rfl (r_move rfl rfl rfl (r_move rfl rfl rfl ?_))))
   refine r_scall [_, _] [9, 10] rfl rfl rfl (c_ref02_minus (p.num.natAbs * q.den) (q.num.natAbs * p.den) (by omega) hle zP zQ) ⟨⟨_, rfl, le_share⟩, ⟨_, rfl, le_share⟩, trivial⟩ rfl (.inr fun x b hb => by rw [List.mem_singleton.1 hb]) (fun zS => ?_)
   refine r_build [(0, _), (1, _), (2, _)] rfl rfl rfl (bd106_3) ?_
   refine r_scall0 [_] [12, 11] rfl rfl rfl (c_ref02_canonical (p.num.natAbs * q.den - q.num.natAbs * p.den) (p.den * q.den) (decide (p.num < 0)) dpq (by omega) (by omega) zS zD) ⟨⟨_, rfl, le_share⟩, ⟨_, rfl, le_share⟩, trivial⟩ rfl ?_
   refine r_know 55 (Q (p + q)) rfl (congrArg Q (sg_add2 p q hs hle)) ?_
   refine r_store rfl 2 0 [_, _, ⟨some g2, 63, _, 4, true⟩, _, _, _, _, _, _, _, _, _, _] [_, _, _, _] rfl rfl rfl rfl ti63 rfl rfl rfl rfl rfl ?_
   refine run_nil (at_tn (at_ret (at_br (at_tr ?_))))
   refine at_end1 rfl (res_cell 2 rfl rfl ti63 (vs := [_, _, _, _]) rfl rfl (Nat.le_of_ble_eq_true rfl) rfl) (fun w hL => ⟨?_, hL.below⟩)
   exact rfl
  ·
   have hle : p.num.natAbs * q.den ≤ q.num.natAbs * p.den := by have := of_decide_eq_false hb1; rw [cmpN_nonneg] at this; omega
   refine at_skip (at_bn (at_tn (at_seq ?_)))
   refine at_drawn (l' := [⟨_,_,_,_,_,_⟩, ⟨_,_,_,_,_,_⟩, ⟨_,_,_,_,_,_⟩, ⟨_,_,_,_,_,_⟩, ⟨_,_,_,_,_,_⟩, ⟨_,_,_,_,_,_⟩, ⟨_,_,_,_,_,_⟩, ⟨_,_,_,_,_,_⟩, ⟨_,_,_,_,_,_⟩]) [] [0, 1, 2, 3, 5, 4, 6, 7, 8] mixed (by kernel_rfl) rfl (by kernel_rfl) ?_
   refine r_fieldAddr 8 0 0 rfl rfl rfl rfl rfl ti106 rfl rfl (r_load 8 0 [_] rfl rfl rfl rfl ti4 rfl rfl rfl rfl (r_move rfl rfl rfl (r_move rfl rfl rfl (r_move rfl rfl rfl ?_))))
   refine r_scall [_, _] [10, 9] rfl rfl rfl (c_ref02_minus (q.num.natAbs * p.den) (p.num.natAbs * q.den) (by omega) hle zQ zP) ⟨⟨_, rfl, le_share⟩, ⟨_, rfl, le_share⟩, trivial⟩ rfl (.inr fun x b hb => by rw [List.mem_singleton.1 hb]) (fun zS => ?_)
   refine r_build [(0, _), (1, _), (2, _)] rfl rfl rfl (bd106_3) ?_
   refine r_scall0 [_] [12, 11] rfl rfl rfl (c_ref02_canonical (q.num.natAbs * p.den - p.num.natAbs * q.den) (p.den * q.den) (decide (q.num < 0)) dpq (by omega) (by omega) zS zD) ⟨⟨_, rfl, le_share⟩, ⟨_, rfl, le_share⟩, trivial⟩ rfl ?_
   refine r_know 63 (Q (p + q)) rfl (congrArg Q (sg_add3 p q hs hle)) ?_
   refine r_store rfl 2 0 [_, _, ⟨some g2, 63, _, 4, true⟩, _, _, _, _, _, _, _, _, _, _] [_, _, _, _] rfl rfl rfl rfl ti63 rfl rfl rfl rfl rfl ?_
   refine run_nil (at_tn (at_ret ?_))
   refine at_end1 rfl (res_cell 2 rfl rfl ti63 (vs := [_, _, _, _]) rfl rfl (Nat.le_of_ble_eq_true rfl) rfl) (fun w hL => ⟨?_, hL.below⟩)
   exact rfl
end Go.Proofs.YtncogghlhlnmaaaGreatDoor
set_option linter.unusedVariables false
set_option linter.unusedSimpArgs false
namespace Go.Via
open Go Go.RowKit
end Go.Via
set_option linter.unusedVariables false
namespace Go.Proofs.YtncogghlhlnmaaaGreatDoor
open Go Go.RowKit Go.Via
set_option maxRecDepth 20000 in
theorem c_integer_Negate (z : Int) : PCall Tryz.prog 84 #[I z] (I (-z)) := by
 refine ⟨by kernel_rfl, fun w => ?_⟩
 refine calls_at (args := [I z]) Tryz.func84 rfl (Nat.le_of_ble_eq_true rfl) (LRel.nil w) ?_
 show At w ⟨9, [(0, I z)], []⟩ _
 refine at_seq (at_region ?_)
 refine r_box [_, _] 2 (fun g => [⟨some g, 61, _, 2, true⟩]) rfl rfl rfl rfl rfl (fun _ => rfl) (fun g0 => ?_)
 refine r_alloc [_, _] 2 (fun g => [_, ⟨some g, 61, _, 2, true⟩]) rfl rfl z61 rfl rfl (fun _ => rfl) (fun g1 => ?_)
 refine run_nil (at_tn (at_seq (at_region (r_fieldAddr 0 0 0 rfl rfl rfl rfl rfl ti61 rfl rfl (r_load 0 0 [_] rfl rfl rfl rfl ti4 rfl rfl rfl rfl (r_not rfl rfl rfl (r_fieldAddr 0 0 1 rfl rfl rfl rfl rfl ti61 rfl rfl (r_load 0 1 [_] rfl rfl rfl rfl ti9 rfl rfl rfl rfl ?_))))))))
 refine r_pcall [_, _] rfl rfl rfl (c_integer_made _ _) ?_
 refine r_store rfl 1 0 [_, ⟨some g1, 61, _, 2, true⟩] [_, _] rfl rfl rfl rfl ti61 rfl rfl rfl rfl rfl ?_
 refine run_nil (at_tn (at_ret ?_))
 refine at_end1 rfl (res_cell 1 rfl rfl ti61 (vs := [_, _]) rfl rfl (Nat.le_of_ble_eq_true rfl) rfl) (fun w hL => ⟨?_, hL.below⟩)
 exact congrArg (fun z => Ending.returned (I z)) (negate_val z)
set_option maxRecDepth 20000 in
theorem c_integer_Add (a b : Int) (ha : szI a ≤ 67108864) (hb : szI b ≤ 67108864) : PCall Tryz.prog 83 #[I a, I b] (I (a + b)) := by
 refine ⟨by kernel_rfl, fun w => ?_⟩
 refine calls_at (args := [I a, I b]) Tryz.func83 rfl (Nat.le_of_ble_eq_true rfl) (LRel.nil w) ?_
 show At w ⟨42, [(0, I a), (1, I b)], []⟩ _
 refine at_seq (at_region ?_)
 refine r_box [_, _] 2 (fun g => [⟨some g, 61, _, 2, true⟩]) rfl rfl rfl rfl rfl (fun _ => rfl) (fun g0 => ?_)
 refine r_box [_, _] 2 (fun g => [_, ⟨some g, 61, _, 2, true⟩]) rfl rfl rfl rfl rfl (fun _ => rfl) (fun g1 => ?_)
 refine r_alloc [_, _] 2 (fun g => [_, _, ⟨some g, 61, _, 2, true⟩]) rfl rfl z61 rfl rfl (fun _ => rfl) (fun g2 => ?_)
 refine run_nil (at_tn (at_seq (at_block (at_seq (at_region (r_fieldAddr 0 0 0 rfl rfl rfl rfl rfl ti61 rfl rfl (r_load 0 0 [_] rfl rfl rfl rfl ti4 rfl rfl rfl rfl (r_fieldAddr 1 0 0 rfl rfl rfl rfl rfl ti61 rfl rfl (r_load 1 0 [_] rfl rfl rfl rfl ti4 rfl rfl rfl rfl (r_eqlBool rfl u4 rfl rfl rfl (r_assign rfl rfl rfl (run_nil (at_tn ?_)))))))))))))
 refine at_cond rfl (fun hb0 => ?_) (fun hb0 => ?_)
 ·
  refine at_seq ?_
  refine at_drawn (l' := [⟨_,_,_,_,_,_⟩, ⟨_,_,_,_,_,_⟩, ⟨_,_,_,_,_,_⟩, ⟨_,_,_,_,_,_⟩, ⟨_,_,_,_,_,_⟩, ⟨_,_,_,_,_,_⟩, ⟨_,_,_,_,_,_⟩, ⟨_,_,_,_,_,_⟩, ⟨_,_,_,_,_,_⟩]) [] [0, 1, 2, 3, 4, 5, 6, 7, 8] mixed (by kernel_rfl) rfl (by kernel_rfl) ?_
  refine r_fieldAddr 0 0 0 rfl rfl rfl rfl rfl ti61 rfl rfl (r_load 0 0 [_] rfl rfl rfl rfl ti4 rfl rfl rfl rfl (r_fieldAddr 0 0 1 rfl rfl rfl rfl rfl ti61 rfl rfl (r_load 0 1 [_] rfl rfl rfl rfl ti9 rfl rfl rfl rfl (r_fieldAddr 1 0 1 rfl rfl rfl rfl rfl ti61 rfl rfl (r_load 1 1 [_] rfl rfl rfl rfl ti9 rfl rfl rfl rfl ?_)))))
  refine r_pcall [_, _] rfl rfl rfl (c_integer_add _ _ ha hb) ?_
  refine r_pcall [_, _] rfl rfl rfl (c_integer_made _ _) ?_
  refine r_store rfl 2 0 [_, _, ⟨some g2, 61, _, 2, true⟩] [_, _] rfl rfl rfl rfl ti61 rfl rfl rfl rfl rfl ?_
  refine run_nil (at_tn (at_ret (at_br (at_tr ?_))))
  refine at_end1 rfl (res_cell 2 rfl rfl ti61 (vs := [_, _]) rfl rfl (Nat.le_of_ble_eq_true rfl) rfl) (fun w hL => ⟨?_, hL.below⟩)
  exact congrArg (fun z => Ending.returned (I z)) (add_same a b hb0)
 ·
  refine at_seq (at_region (r_fieldAddr 0 0 1 rfl rfl rfl rfl rfl ti61 rfl rfl (r_load 0 1 [_] rfl rfl rfl rfl ti9 rfl rfl rfl rfl (r_fieldAddr 1 0 1 rfl rfl rfl rfl rfl ti61 rfl rfl (r_load 1 1 [_] rfl rfl rfl rfl ti9 rfl rfl rfl rfl ?_)))))
  refine r_pcall [_, _] rfl rfl rfl (c_integer_compare _ _) ?_
  refine r_cmpInt rfl rfl rfl rfl rfl (r_assign rfl rfl rfl (run_nil (at_tn ?_)))
  refine at_cond rfl (fun hb1 => ?_) (fun hb1 => ?_)
  ·
   refine at_seq ?_
   refine at_drawn (l' := [⟨_,_,_,_,_,_⟩, ⟨_,_,_,_,_,_⟩, ⟨_,_,_,_,_,_⟩, ⟨_,_,_,_,_,_⟩, ⟨_,_,_,_,_,_⟩, ⟨_,_,_,_,_,_⟩, ⟨_,_,_,_,_,_⟩, ⟨_,_,_,_,_,_⟩, ⟨_,_,_,_,_,_⟩]) [] [0, 1, 2, 3, 4, 5, 6, 7, 8] mixed (by kernel_rfl) rfl (by kernel_rfl) ?_
   refine r_fieldAddr 0 0 0 rfl rfl rfl rfl rfl ti61 rfl rfl (r_load 0 0 [_] rfl rfl rfl rfl ti4 rfl rfl rfl rfl (r_fieldAddr 0 0 1 rfl rfl rfl rfl rfl ti61 rfl rfl (r_load 0 1 [_] rfl rfl rfl rfl ti9 rfl rfl rfl rfl (r_fieldAddr 1 0 1 rfl rfl rfl rfl rfl ti61 rfl rfl (r_load 1 1 [_] rfl rfl rfl rfl ti9 rfl rfl rfl rfl ?_)))))
   refine r_pcall [_, _] rfl rfl rfl (c_integer_sub _ _ ha (cmpN_ge _ _ hb1)) ?_
   refine r_pcall [_, _] rfl rfl rfl (c_integer_made _ _) ?_
   refine r_store rfl 2 0 [_, _, ⟨some g2, 61, _, 2, true⟩] [_, _] rfl rfl rfl rfl ti61 rfl rfl rfl rfl rfl ?_
   refine run_nil (at_tn (at_ret (at_br (at_tr ?_))))
   refine at_end1 rfl (res_cell 2 rfl rfl ti61 (vs := [_, _]) rfl rfl (Nat.le_of_ble_eq_true rfl) rfl) (fun w hL => ⟨?_, hL.below⟩)
   exact congrArg (fun z => Ending.returned (I z)) (add_diff1 a b hb0 (cmpN_ge _ _ hb1))
  ·
   refine at_skip (at_bn (at_tn (at_seq ?_)))
   refine at_drawn (l' := [⟨_,_,_,_,_,_⟩, ⟨_,_,_,_,_,_⟩, ⟨_,_,_,_,_,_⟩, ⟨_,_,_,_,_,_⟩, ⟨_,_,_,_,_,_⟩, ⟨_,_,_,_,_,_⟩, ⟨_,_,_,_,_,_⟩, ⟨_,_,_,_,_,_⟩, ⟨_,_,_,_,_,_⟩]) [] [0, 1, 2, 3, 4, 5, 6, 7, 8] mixed (by kernel_rfl) rfl (by kernel_rfl) ?_
   refine r_fieldAddr 1 0 0 rfl rfl rfl rfl rfl ti61 rfl rfl (r_load 1 0 [_] rfl rfl rfl rfl ti4 rfl rfl rfl rfl (r_fieldAddr 1 0 1 rfl rfl rfl rfl rfl ti61 rfl rfl (r_load 1 1 [_] rfl rfl rfl rfl ti9 rfl rfl rfl rfl (r_fieldAddr 0 0 1 rfl rfl rfl rfl rfl ti61 rfl rfl (r_load 0 1 [_] rfl rfl rfl rfl ti9 rfl rfl rfl rfl ?_)))))
   refine r_pcall [_, _] rfl rfl rfl (c_integer_sub _ _ hb (cmpN_lt _ _ hb1)) ?_
   refine r_pcall [_, _] rfl rfl rfl (c_integer_made _ _) ?_
   refine r_store rfl 2 0 [_, _, ⟨some g2, 61, _, 2, true⟩] [_, _] rfl rfl rfl rfl ti61 rfl rfl rfl rfl rfl ?_
   refine run_nil (at_tn (at_ret ?_))
   refine at_end1 rfl (res_cell 2 rfl rfl ti61 (vs := [_, _]) rfl rfl (Nat.le_of_ble_eq_true rfl) rfl) (fun w hL => ⟨?_, hL.below⟩)
   exact congrArg (fun z => Ending.returned (I z)) (add_diff2 a b hb0 (cmpN_lt _ _ hb1))
set_option maxRecDepth 20000 in
theorem c_integer_Mul (a b : Int) (ha : szI a ≤ 67108864) (hb : szI b ≤ 67108864) : PCall Tryz.prog 103 #[I a, I b] (I (a * b)) := by
 refine ⟨by kernel_rfl, fun w => ?_⟩
 refine calls_at (args := [I a, I b]) Tryz.func103 rfl (Nat.le_of_ble_eq_true rfl) (LRel.nil w) ?_
 show At w ⟨16, [(0, I a), (1, I b)], []⟩ _
 refine at_seq (at_region ?_)
 refine r_box [_, _] 2 (fun g => [⟨some g, 61, _, 2, true⟩]) rfl rfl rfl rfl rfl (fun _ => rfl) (fun g0 => ?_)
 refine r_box [_, _] 2 (fun g => [_, ⟨some g, 61, _, 2, true⟩]) rfl rfl rfl rfl rfl (fun _ => rfl) (fun g1 => ?_)
 refine r_alloc [_, _] 2 (fun g => [_, _, ⟨some g, 61, _, 2, true⟩]) rfl rfl z61 rfl rfl (fun _ => rfl) (fun g2 => ?_)
 refine run_nil (at_tn (at_seq ?_))
 refine at_drawn (l' := [⟨_,_,_,_,_,_⟩, ⟨_,_,_,_,_,_⟩, ⟨_,_,_,_,_,_⟩, ⟨_,_,_,_,_,_⟩, ⟨_,_,_,_,_,_⟩, ⟨_,_,_,_,_,_⟩, ⟨_,_,_,_,_,_⟩, ⟨_,_,_,_,_,_⟩, ⟨_,_,_,_,_,_⟩, ⟨_,_,_,_,_,_⟩, ⟨_,_,_,_,_,_⟩, ⟨_,_,_,_,_,_⟩]) [] [0, 1, 2, 3, 4, 5, 6, 7, 8, 9, 10, 11] mixed (by kernel_rfl) rfl (by kernel_rfl) ?_
 refine r_fieldAddr 0 0 0 rfl rfl rfl rfl rfl ti61 rfl rfl (r_load 0 0 [_] rfl rfl rfl rfl ti4 rfl rfl rfl rfl (r_fieldAddr 1 0 0 rfl rfl rfl rfl rfl ti61 rfl rfl (r_load 1 0 [_] rfl rfl rfl rfl ti4 rfl rfl rfl rfl (r_neqBool rfl u4 rfl rfl rfl (r_fieldAddr 0 0 1 rfl rfl rfl rfl rfl ti61 rfl rfl (r_load 0 1 [_] rfl rfl rfl rfl ti9 rfl rfl rfl rfl (r_fieldAddr 1 0 1 rfl rfl rfl rfl rfl ti61 rfl rfl (r_load 1 1 [_] rfl rfl rfl rfl ti9 rfl rfl rfl rfl ?_))))))))
 refine r_pcall [_, _] rfl rfl rfl (c_integer_mul _ _ ha hb) ?_
 refine r_pcall [_, _] rfl rfl rfl (c_integer_made _ _) ?_
 refine r_store rfl 2 0 [_, _, ⟨some g2, 61, _, 2, true⟩] [_, _] rfl rfl rfl rfl ti61 rfl rfl rfl rfl rfl ?_
 refine run_nil (at_tn (at_ret ?_))
 refine at_end1 rfl (res_cell 2 rfl rfl ti61 (vs := [_, _]) rfl rfl (Nat.le_of_ble_eq_true rfl) rfl) (fun w hL => ⟨?_, hL.below⟩)
 exact congrArg (fun z => Ending.returned (I z)) (mul_val a b)
set_option maxRecDepth 20000 in
theorem c_integer_DivMod (a b : Int) (ha : szI a ≤ 33554432) (hb : szI b ≤ 33554432) (h0 : b ≠ 0) : PCall Tryz.prog 115 #[I a, I b] (.tuple #[I (a / b), I (a % b), .int .i64 0]) := by
 have szle : nb a.natAbs ≤ 67108864 := Nat.le_trans ha (Nat.le_of_ble_eq_true rfl)
 have szle2 : nb b.natAbs ≤ 67108864 := Nat.le_trans hb (Nat.le_of_ble_eq_true rfl)
 refine ⟨by kernel_rfl, fun w => ?_⟩
 refine calls_at (args := [I a, I b]) Tryz.func115 rfl (Nat.le_of_ble_eq_true rfl) (LRel.nil w) ?_
 show At w ⟨43, [(0, I a), (1, I b)], []⟩ _
 refine at_seq (at_region ?_)
 refine r_box [_, _] 2 (fun g => [⟨some g, 61, _, 2, true⟩]) rfl rfl rfl rfl rfl (fun _ => rfl) (fun g0 => ?_)
 refine r_box [_, _] 2 (fun g => [_, ⟨some g, 61, _, 2, true⟩]) rfl rfl rfl rfl rfl (fun _ => rfl) (fun g1 => ?_)
 refine r_alloc [_, _] 2 (fun g => [_, _, ⟨some g, 61, _, 2, true⟩]) rfl rfl z61 rfl rfl (fun _ => rfl) (fun g2 => ?_)
 refine r_alloc [_, _] 2 (fun g => [_, _, _, ⟨some g, 61, _, 2, true⟩]) rfl rfl z61 rfl rfl (fun _ => rfl) (fun g3 => ?_)
 refine r_assign rfl rfl rfl (run_nil (at_tn (at_seq (at_seq (at_region (r_fieldAddr 1 0 1 rfl rfl rfl rfl rfl ti61 rfl rfl (r_load 1 1 [_] rfl rfl rfl rfl ti9 rfl rfl rfl rfl (r_eqlStr rfl rfl rfl rfl (run_nil (at_tn ?_))))))))))
 refine at_cond rfl (fun hb0 => ?_) (fun hb0 => ?_)
 · exact absurd hb0 (by rw [beq_empty]; simp; omega)
 ·
  refine at_skip (at_tn (at_seq (at_region (r_fieldAddr 0 0 1 rfl rfl rfl rfl rfl ti61 rfl rfl (r_load 0 1 [_] rfl rfl rfl rfl ti9 rfl rfl rfl rfl (r_fieldAddr 1 0 1 rfl rfl rfl rfl rfl ti61 rfl rfl (r_load 1 1 [_] rfl rfl rfl rfl ti9 rfl rfl rfl rfl ?_)))))))
  refine r_pcall [_, _] rfl rfl rfl (c_integer_div _ _ (by first | assumption | grind [lI_add, lI_sub, lI_mul, lI_neg, lI_gcd, lI_num, lI_den, lQ_add, lQ_sub, lQ_mul, lQ_div, lQ_neg, l_nb]) (by first | assumption | grind [lI_add, lI_sub, lI_mul, lI_neg, lI_gcd, lI_num, lI_den, lQ_add, lQ_sub, lQ_mul, lQ_div, lQ_neg, l_nb]) (by omega)) ?_
  refine r_move rfl rfl rfl ?_
  refine r_extract (vs := [_, _]) rfl rfl rfl rfl ?_
  refine r_extract (vs := [_, _]) rfl rfl rfl rfl ?_
  refine r_assign rfl rfl rfl (r_assign rfl rfl rfl (run_nil (at_tn (at_seq (at_seq (at_region (r_fieldAddr 0 0 0 rfl rfl rfl rfl rfl ti61 rfl rfl (r_load 0 0 [_] rfl rfl rfl rfl ti4 rfl rfl rfl rfl (r_move rfl rfl rfl ?_)))))))))
  refine r_split 24 rfl (fun hb1 => ?_) (fun hb1 => ?_)
  ·
   refine r_move rfl rfl rfl (r_neqStr rfl rfl rfl rfl (r_pickT rfl rfl rfl rfl (run_nil (at_tn ?_))))
   refine at_cond rfl (fun hb2 => ?_) (fun hb2 => ?_)
   ·
    refine at_drawn (l' := [⟨_,_,_,_,_,_⟩, ⟨_,_,_,_,_,_⟩, ⟨_,_,_,_,_,_⟩, ⟨_,_,_,_,_,_⟩, ⟨_,_,_,_,_,_⟩, ⟨_,_,_,_,_,_⟩, ⟨_,_,_,_,_,_⟩, ⟨_,_,_,_,_,_⟩]) [] [0, 2, 3, 4, 1, 5, 6, 7] mixed (by kernel_rfl) rfl (by kernel_rfl) ?_
    refine r_move rfl rfl rfl (r_fieldAddr 1 0 1 rfl rfl rfl rfl rfl ti61 rfl rfl (r_load 1 1 [_] rfl rfl rfl rfl ti9 rfl rfl rfl rfl (r_move rfl rfl rfl ?_)))
    refine r_pcall [_, .string (mag 1)] rfl rfl (by rw [mag_one]; rfl) (c_integer_add _ _ (Nat.le_trans (nb_div _ _) (Nat.le_trans ha (Nat.le_of_ble_eq_true rfl))) (Nat.le_trans (nb_le (k := 1) (by omega)) (Nat.le_of_ble_eq_true rfl))) ?_
    refine r_pcall [_, _] rfl rfl rfl (c_integer_sub _ _ (by first | assumption | grind [lI_add, lI_sub, lI_mul, lI_neg, lI_gcd, lI_num, lI_den, lQ_add, lQ_sub, lQ_mul, lQ_div, lQ_neg, l_nb]) (Nat.le_of_lt (Nat.mod_lt _ (by omega)))) ?_
    refine r_assign rfl rfl rfl (r_assign rfl rfl rfl (run_nil (at_tn (at_seq (at_region (r_fieldAddr 0 0 0 rfl rfl rfl rfl rfl ti61 rfl rfl (r_load 0 0 [_] rfl rfl rfl rfl ti4 rfl rfl rfl rfl (r_fieldAddr 1 0 0 rfl rfl rfl rfl rfl ti61 rfl rfl (r_load 1 0 [_] rfl rfl rfl rfl ti4 rfl rfl rfl rfl (r_neqBool rfl u4 rfl rfl rfl (r_move rfl rfl rfl ?_)))))))))))
    refine r_pcall [_, _] rfl rfl rfl (c_integer_made _ _) ?_
    refine r_move rfl rfl rfl ?_
    refine r_pcall [_, _] rfl rfl rfl (c_integer_made _ _) ?_
    refine r_store rfl 2 0 [_, _, ⟨some g2, 61, _, 2, true⟩, _] [_, _] rfl rfl rfl rfl ti61 rfl rfl rfl rfl rfl ?_
    refine r_store rfl 3 0 [_, _, _, ⟨some g3, 61, _, 2, true⟩] [_, _] rfl rfl rfl rfl ti61 rfl rfl rfl rfl rfl ?_
    refine r_assign rfl rfl rfl (run_nil (at_tn (at_ret ?_)))
    refine at_end3 rfl (res_cell 2 rfl rfl ti61 (vs := [_, _]) rfl rfl (Nat.le_of_ble_eq_true rfl) rfl) (res_cell 3 rfl rfl ti61 (vs := [_, _]) rfl rfl (Nat.le_of_ble_eq_true rfl) rfl) (res_tmp rfl) (fun w hL => ⟨?_, hL.below⟩)
    have e := divmod_T (a := a) (b := b) h0 (by simpa using hb1) (by rw [bne_empty] at hb2; simpa using hb2)
    rw [← e.1, ← e.2]; rfl
   ·
    refine at_skip (at_tn (at_seq (at_region (r_fieldAddr 0 0 0 rfl rfl rfl rfl rfl ti61 rfl rfl (r_load 0 0 [_] rfl rfl rfl rfl ti4 rfl rfl rfl rfl (r_fieldAddr 1 0 0 rfl rfl rfl rfl rfl ti61 rfl rfl (r_load 1 0 [_] rfl rfl rfl rfl ti4 rfl rfl rfl rfl (r_neqBool rfl u4 rfl rfl rfl (r_move rfl rfl rfl ?_)))))))))
    refine r_pcall [_, _] rfl rfl rfl (c_integer_made _ _) ?_
    refine r_move rfl rfl rfl ?_
    refine r_pcall [_, _] rfl rfl rfl (c_integer_made _ _) ?_
    refine r_store rfl 2 0 [_, _, ⟨some g2, 61, _, 2, true⟩, _] [_, _] rfl rfl rfl rfl ti61 rfl rfl rfl rfl rfl ?_
    refine r_store rfl 3 0 [_, _, _, ⟨some g3, 61, _, 2, true⟩] [_, _] rfl rfl rfl rfl ti61 rfl rfl rfl rfl rfl ?_
    refine r_assign rfl rfl rfl (run_nil (at_tn (at_ret ?_)))
    refine at_end3 rfl (res_cell 2 rfl rfl ti61 (vs := [_, _]) rfl rfl (Nat.le_of_ble_eq_true rfl) rfl) (res_cell 3 rfl rfl ti61 (vs := [_, _]) rfl rfl (Nat.le_of_ble_eq_true rfl) rfl) (res_tmp rfl) (fun w hL => ⟨?_, hL.below⟩)
    have e := divmod_F (a := a) (b := b) h0 (.inr (by rw [bne_empty] at hb2; simpa using hb2))
    rw [← e.1, ← e.2]; rfl
  ·
   refine r_no rfl rfl rfl (r_no rfl rfl rfl (r_pickF rfl rfl rfl rfl (run_nil (at_tn (at_condF rfl (at_skip (at_tn (at_seq (at_region (r_fieldAddr 0 0 0 rfl rfl rfl rfl rfl ti61 rfl rfl (r_load 0 0 [_] rfl rfl rfl rfl ti4 rfl rfl rfl rfl (r_fieldAddr 1 0 0 rfl rfl rfl rfl rfl ti61 rfl rfl (r_load 1 0 [_] rfl rfl rfl rfl ti4 rfl rfl rfl rfl (r_neqBool rfl u4 rfl rfl rfl (r_move rfl rfl rfl ?_)))))))))))))))
   refine r_pcall [_, _] rfl rfl rfl (c_integer_made _ _) ?_
   refine r_move rfl rfl rfl ?_
   refine r_pcall [_, _] rfl rfl rfl (c_integer_made _ _) ?_
   refine r_store rfl 2 0 [_, _, ⟨some g2, 61, _, 2, true⟩, _] [_, _] rfl rfl rfl rfl ti61 rfl rfl rfl rfl rfl ?_
   refine r_store rfl 3 0 [_, _, _, ⟨some g3, 61, _, 2, true⟩] [_, _] rfl rfl rfl rfl ti61 rfl rfl rfl rfl rfl ?_
   refine r_assign rfl rfl rfl (run_nil (at_tn (at_ret ?_)))
   refine at_end3 rfl (res_cell 2 rfl rfl ti61 (vs := [_, _]) rfl rfl (Nat.le_of_ble_eq_true rfl) rfl) (res_cell 3 rfl rfl ti61 (vs := [_, _]) rfl rfl (Nat.le_of_ble_eq_true rfl) rfl) (res_tmp rfl) (fun w hL => ⟨?_, hL.below⟩)
   have e := divmod_F (a := a) (b := b) h0 (.inl (by simpa using hb1))
   rw [← e.1, ← e.2]; rfl
set_option maxRecDepth 20000 in
theorem c_rational_one  : PCall Tryz.prog 99 #[] (I 1) := by
 refine ⟨by kernel_rfl, fun w => ?_⟩
 refine calls_at (args := []) Tryz.func99 rfl (Nat.le_of_ble_eq_true rfl) (LRel.nil w) ?_
 show At w ⟨2, [], []⟩ _
 refine at_seq (at_region ?_)
 refine r_alloc [_, _] 2 (fun g => [⟨some g, 61, _, 2, true⟩]) rfl rfl z61 rfl rfl (fun _ => rfl) (fun g0 => ?_)
 refine run_nil (at_tn (at_seq (at_region ?_)))
 refine r_pcall [_] rfl rfl rfl (c_integer_FromInt 1 (by omega) (by omega)) ?_
 refine r_store rfl 0 0 [⟨some g0, 61, _, 2, true⟩] [_, _] rfl rfl rfl rfl ti61 rfl rfl rfl rfl rfl ?_
 refine run_nil (at_tn (at_ret ?_))
 refine at_end1 rfl (res_cell 0 rfl rfl ti61 (vs := [_, _]) rfl rfl (Nat.le_of_ble_eq_true rfl) rfl) (fun w hL => ⟨?_, hL.below⟩)
 exact rfl
set_option maxRecDepth 20000 in
theorem c_rational_quotient (a b : Int) (ha : szI a ≤ 33554432) (hb : szI b ≤ 33554432) (h0 : b ≠ 0) : PCall Tryz.prog 98 #[I a, I b] (I (a / b)) := by
 refine ⟨by kernel_rfl, fun w => ?_⟩
 refine calls_at (args := [I a, I b]) Tryz.func98 rfl (Nat.le_of_ble_eq_true rfl) (LRel.nil w) ?_
 show At w ⟨16, [(0, I a), (1, I b)], []⟩ _
 refine at_seq (at_region ?_)
 refine r_box [_, _] 2 (fun g => [⟨some g, 61, _, 2, true⟩]) rfl rfl rfl rfl rfl (fun _ => rfl) (fun g0 => ?_)
 refine r_box [_, _] 2 (fun g => [_, ⟨some g, 61, _, 2, true⟩]) rfl rfl rfl rfl rfl (fun _ => rfl) (fun g1 => ?_)
 refine r_alloc [_, _] 2 (fun g => [_, _, ⟨some g, 61, _, 2, true⟩]) rfl rfl z61 rfl rfl (fun _ => rfl) (fun g2 => ?_)
 refine run_nil (at_tn (at_seq (at_region (r_load 0 0 [_, _] rfl rfl rfl rfl ti61 rfl rfl rfl rfl (r_load 1 0 [_, _] rfl rfl rfl rfl ti61 rfl rfl rfl rfl ?_)))))
 refine r_pcall [_, _] rfl rfl rfl (c_integer_DivMod a b ha hb h0) ?_
 refine r_move rfl rfl rfl ?_
 refine r_extract (vs := [_, _, _]) rfl rfl rfl rfl ?_
 refine r_extract (vs := [_, _, _]) rfl rfl rfl rfl ?_
 refine r_extract (vs := [_, _, _]) rfl rfl rfl rfl ?_
 refine r_alloc [_, _] 2 (fun g => [_, _, _, ⟨some g, 61, _, 2, true⟩]) rfl rfl z61 rfl rfl (fun _ => rfl) (fun g3 => ?_)
 refine r_alloc [_, _] 2 (fun g => [_, _, _, _, ⟨some g, 61, _, 2, true⟩]) rfl rfl z61 rfl rfl (fun _ => rfl) (fun g4 => ?_)
 refine r_store rfl 3 0 [_, _, _, ⟨some g3, 61, _, 2, true⟩, _] [_, _] rfl rfl rfl rfl ti61 rfl rfl rfl rfl rfl ?_
 refine r_store rfl 4 0 [_, _, _, _, ⟨some g4, 61, _, 2, true⟩] [_, _] rfl rfl rfl rfl ti61 rfl rfl rfl rfl rfl ?_
 refine r_assign rfl rfl rfl (run_nil (at_tn (at_seq (at_region (r_load 3 0 [_, _] rfl rfl rfl rfl ti61 rfl rfl rfl rfl ?_)))))
 refine r_store rfl 2 0 [_, _, ⟨some g2, 61, _, 2, true⟩, _, _] [_, _] rfl rfl rfl rfl ti61 rfl rfl rfl rfl rfl ?_
 refine run_nil (at_tn (at_ret ?_))
 refine at_end1 rfl (res_cell 2 rfl rfl ti61 (vs := [_, _]) rfl rfl (Nat.le_of_ble_eq_true rfl) rfl) (fun w hL => ⟨?_, hL.below⟩)
 exact rfl
set_option maxRecDepth 20000 in
theorem c_rational_canonical (n d : Int) (hn : szI n ≤ 8388608) (hd : szI d ≤ 8388608) (h0 : d ≠ 0) : PCall Tryz.prog 76 #[I n, I d] (Q (Rat.divInt n d)) := by
 refine ⟨by kernel_rfl, fun w => ?_⟩
 refine calls_at (args := [I n, I d]) Tryz.func76 rfl (Nat.le_of_ble_eq_true rfl) (LRel.nil w) ?_
 show At w ⟨29, [(0, I n), (1, I d)], []⟩ _
 refine at_seq (at_region ?_)
 refine r_box [_, _] 2 (fun g => [⟨some g, 61, _, 2, true⟩]) rfl rfl rfl rfl rfl (fun _ => rfl) (fun g0 => ?_)
 refine r_box [_, _] 2 (fun g => [_, ⟨some g, 61, _, 2, true⟩]) rfl rfl rfl rfl rfl (fun _ => rfl) (fun g1 => ?_)
 refine r_alloc [_, _, _, _] 4 (fun g => [_, _, ⟨some g, 63, _, 4, true⟩]) rfl rfl z63 rfl rfl (fun _ => rfl) (fun g2 => ?_)
 refine run_nil (at_tn (at_seq (at_seq (at_region (r_load 1 0 [_, _] rfl rfl rfl rfl ti61 rfl rfl rfl rfl ?_)))))
 refine r_pcall [_] rfl rfl rfl (c_integer_Sign _) ?_
 refine r_cmpInt rfl rfl rfl rfl rfl (run_nil (at_tn ?_))
 refine at_cond rfl (fun hb0 => ?_) (fun hb0 => ?_)
 ·
  refine at_drawn (l' := [⟨_,_,_,_,_,_⟩, ⟨_,_,_,_,_,_⟩, ⟨_,_,_,_,_,_⟩, ⟨_,_,_,_,_,_⟩, ⟨_,_,_,_,_,_⟩, ⟨_,_,_,_,_,_⟩]) [] [0, 2, 1, 3, 4, 5] mixed (by kernel_rfl) rfl (by kernel_rfl) ?_
  refine r_load 0 0 [_, _] rfl rfl rfl rfl ti61 rfl rfl rfl rfl (r_load 1 0 [_, _] rfl rfl rfl rfl ti61 rfl rfl rfl rfl ?_)
  refine r_pcall [_] rfl rfl rfl (c_integer_Negate _) ?_
  refine r_pcall [_] rfl rfl rfl (c_integer_Negate _) ?_
  refine r_store rfl 0 0 [⟨some g0, 61, _, 2, true⟩, _, _] [_, _] rfl rfl rfl rfl ti61 rfl rfl rfl rfl rfl ?_
  refine r_store rfl 1 0 [_, ⟨some g1, 61, _, 2, true⟩, _] [_, _] rfl rfl rfl rfl ti61 rfl rfl rfl rfl rfl ?_
  refine run_nil (at_tn (at_seq (at_region (r_load 0 0 [_, _] rfl rfl rfl rfl ti61 rfl rfl rfl rfl (r_load 1 0 [_, _] rfl rfl rfl rfl ti61 rfl rfl rfl rfl ?_)))))
  refine r_pcall [_, _] rfl rfl rfl (c_integer_Gcd _ _ (by first | assumption | grind [lI_add, lI_sub, lI_mul, lI_neg, lI_gcd, lI_num, lI_den, lQ_add, lQ_sub, lQ_mul, lQ_div, lQ_neg, l_nb]) (by first | assumption | grind [lI_add, lI_sub, lI_mul, lI_neg, lI_gcd, lI_num, lI_den, lQ_add, lQ_sub, lQ_mul, lQ_div, lQ_neg, l_nb])) ?_
  refine r_alloc [_, _] 2 (fun g => [_, _, _, ⟨some g, 61, _, 2, true⟩]) rfl rfl z61 rfl rfl (fun _ => rfl) (fun g3 => ?_)
  refine r_store rfl 3 0 [_, _, _, ⟨some g3, 61, _, 2, true⟩] [_, _] rfl rfl rfl rfl ti61 rfl rfl rfl rfl rfl ?_
  refine run_nil (at_tn (at_seq ?_))
  refine at_drawn (l' := [⟨_,_,_,_,_,_⟩, ⟨_,_,_,_,_,_⟩, ⟨_,_,_,_,_,_⟩, ⟨_,_,_,_,_,_⟩, ⟨_,_,_,_,_,_⟩, ⟨_,_,_,_,_,_⟩, ⟨_,_,_,_,_,_⟩, ⟨_,_,_,_,_,_⟩]) [] [0, 1, 3, 4, 2, 5, 6, 7] mixed (by kernel_rfl) rfl (by kernel_rfl) ?_
  refine r_load 0 0 [_, _] rfl rfl rfl rfl ti61 rfl rfl rfl rfl (r_load 3 0 [_, _] rfl rfl rfl rfl ti61 rfl rfl rfl rfl (r_load 1 0 [_, _] rfl rfl rfl rfl ti61 rfl rfl rfl rfl (r_load 3 0 [_, _] rfl rfl rfl rfl ti61 rfl rfl rfl rfl ?_)))
  refine r_pcall [_, _] rfl rfl rfl (c_rational_quotient _ _ (by first | assumption | grind [lI_add, lI_sub, lI_mul, lI_neg, lI_gcd, lI_num, lI_den, lQ_add, lQ_sub, lQ_mul, lQ_div, lQ_neg, l_nb]) (by first | assumption | grind [lI_add, lI_sub, lI_mul, lI_neg, lI_gcd, lI_num, lI_den, lQ_add, lQ_sub, lQ_mul, lQ_div, lQ_neg, l_nb]) (gcd_ne (by omega))) ?_
  refine r_pcall [_, _] rfl rfl rfl (c_rational_quotient _ _ (by first | assumption | grind [lI_add, lI_sub, lI_mul, lI_neg, lI_gcd, lI_num, lI_den, lQ_add, lQ_sub, lQ_mul, lQ_div, lQ_neg, l_nb]) (by first | assumption | grind [lI_add, lI_sub, lI_mul, lI_neg, lI_gcd, lI_num, lI_den, lQ_add, lQ_sub, lQ_mul, lQ_div, lQ_neg, l_nb]) (gcd_ne (by omega))) ?_
  refine r_store rfl 0 0 [⟨some g0, 61, _, 2, true⟩, _, _, _] [_, _] rfl rfl rfl rfl ti61 rfl rfl rfl rfl rfl ?_
  refine r_store rfl 1 0 [_, ⟨some g1, 61, _, 2, true⟩, _, _] [_, _] rfl rfl rfl rfl ti61 rfl rfl rfl rfl rfl ?_
  refine run_nil (at_tn (at_seq (at_seq ?_)))
  refine at_drawn (l' := [⟨_,_,_,_,_,_⟩, ⟨_,_,_,_,_,_⟩, ⟨_,_,_,_,_,_⟩]) [] [0, 1, 2] mixed (by kernel_rfl) rfl (by kernel_rfl) ?_
  refine r_load 1 0 [_, _] rfl rfl rfl rfl ti61 rfl rfl rfl rfl ?_
  refine r_pcall [] rfl rfl rfl (c_rational_one) ?_
  refine r_eqlAgg rfl rfl rfl rfl gd61 (eq61 _ _) ?_
  refine run_nil (at_tn ?_)
  refine at_cond rfl (fun hb1 => ?_) (fun hb1 => ?_)
  ·
   refine at_region ?_
   refine r_build [] rfl rfl rfl (bd61_0) ?_
   refine r_store rfl 1 0 [_, ⟨some g1, 61, _, 2, true⟩, _, _] [_, _] rfl rfl rfl rfl ti61 rfl rfl rfl rfl rfl ?_
   refine run_nil (at_tn (at_seq (at_region (r_load 0 0 [_, _] rfl rfl rfl rfl ti61 rfl rfl rfl rfl (r_load 1 0 [_, _] rfl rfl rfl rfl ti61 rfl rfl rfl rfl ?_)))))
   refine r_build [(0, _), (1, _)] rfl rfl rfl (bd63_2) ?_
   refine r_store rfl 2 0 [_, _, ⟨some g2, 63, _, 4, true⟩, _] [_, _, _, _] rfl rfl rfl rfl ti63 rfl rfl rfl rfl rfl ?_
   refine run_nil (at_tn (at_ret ?_))
   refine at_end1 rfl (res_cell 2 rfl rfl ti63 (vs := [_, _, _, _]) rfl rfl (Nat.le_of_ble_eq_true rfl) rfl) (fun w hL => ⟨?_, hL.below⟩)
   exact congrArg Ending.returned ((canon_1 (n := -n) (d := -d) (by have := sign_lt hb0; omega) (by simpa using hb1)).trans (by rw [Rat.neg_divInt_neg]))
  ·
   refine at_skip (at_tn (at_seq (at_region (r_load 0 0 [_, _] rfl rfl rfl rfl ti61 rfl rfl rfl rfl (r_load 1 0 [_, _] rfl rfl rfl rfl ti61 rfl rfl rfl rfl ?_)))))
   refine r_build [(0, _), (1, _)] rfl rfl rfl (bd63_2) ?_
   refine r_store rfl 2 0 [_, _, ⟨some g2, 63, _, 4, true⟩, _] [_, _, _, _] rfl rfl rfl rfl ti63 rfl rfl rfl rfl rfl ?_
   refine run_nil (at_tn (at_ret ?_))
   refine at_end1 rfl (res_cell 2 rfl rfl ti63 (vs := [_, _, _, _]) rfl rfl (Nat.le_of_ble_eq_true rfl) rfl) (fun w hL => ⟨?_, hL.below⟩)
   exact congrArg Ending.returned ((canon_2 (n := -n) (d := -d) (by have := sign_lt hb0; omega) (by simpa using hb1)).trans (by rw [Rat.neg_divInt_neg]))
 ·
  refine at_skip (at_tn (at_seq (at_region (r_load 0 0 [_, _] rfl rfl rfl rfl ti61 rfl rfl rfl rfl (r_load 1 0 [_, _] rfl rfl rfl rfl ti61 rfl rfl rfl rfl ?_)))))
  refine r_pcall [_, _] rfl rfl rfl (c_integer_Gcd _ _ (by first | assumption | grind [lI_add, lI_sub, lI_mul, lI_neg, lI_gcd, lI_num, lI_den, lQ_add, lQ_sub, lQ_mul, lQ_div, lQ_neg, l_nb]) (by first | assumption | grind [lI_add, lI_sub, lI_mul, lI_neg, lI_gcd, lI_num, lI_den, lQ_add, lQ_sub, lQ_mul, lQ_div, lQ_neg, l_nb])) ?_
  refine r_alloc [_, _] 2 (fun g => [_, _, _, ⟨some g, 61, _, 2, true⟩]) rfl rfl z61 rfl rfl (fun _ => rfl) (fun g3 => ?_)
  refine r_store rfl 3 0 [_, _, _, ⟨some g3, 61, _, 2, true⟩] [_, _] rfl rfl rfl rfl ti61 rfl rfl rfl rfl rfl ?_
  refine run_nil (at_tn (at_seq ?_))
  refine at_drawn (l' := [⟨_,_,_,_,_,_⟩, ⟨_,_,_,_,_,_⟩, ⟨_,_,_,_,_,_⟩, ⟨_,_,_,_,_,_⟩, ⟨_,_,_,_,_,_⟩, ⟨_,_,_,_,_,_⟩, ⟨_,_,_,_,_,_⟩, ⟨_,_,_,_,_,_⟩]) [] [0, 1, 3, 4, 2, 5, 6, 7] mixed (by kernel_rfl) rfl (by kernel_rfl) ?_
  refine r_load 0 0 [_, _] rfl rfl rfl rfl ti61 rfl rfl rfl rfl (r_load 3 0 [_, _] rfl rfl rfl rfl ti61 rfl rfl rfl rfl (r_load 1 0 [_, _] rfl rfl rfl rfl ti61 rfl rfl rfl rfl (r_load 3 0 [_, _] rfl rfl rfl rfl ti61 rfl rfl rfl rfl ?_)))
  refine r_pcall [_, _] rfl rfl rfl (c_rational_quotient _ _ (by first | assumption | grind [lI_add, lI_sub, lI_mul, lI_neg, lI_gcd, lI_num, lI_den, lQ_add, lQ_sub, lQ_mul, lQ_div, lQ_neg, l_nb]) (by first | assumption | grind [lI_add, lI_sub, lI_mul, lI_neg, lI_gcd, lI_num, lI_den, lQ_add, lQ_sub, lQ_mul, lQ_div, lQ_neg, l_nb]) (gcd_ne (by omega))) ?_
  refine r_pcall [_, _] rfl rfl rfl (c_rational_quotient _ _ (by first | assumption | grind [lI_add, lI_sub, lI_mul, lI_neg, lI_gcd, lI_num, lI_den, lQ_add, lQ_sub, lQ_mul, lQ_div, lQ_neg, l_nb]) (by first | assumption | grind [lI_add, lI_sub, lI_mul, lI_neg, lI_gcd, lI_num, lI_den, lQ_add, lQ_sub, lQ_mul, lQ_div, lQ_neg, l_nb]) (gcd_ne (by omega))) ?_
  refine r_store rfl 0 0 [⟨some g0, 61, _, 2, true⟩, _, _, _] [_, _] rfl rfl rfl rfl ti61 rfl rfl rfl rfl rfl ?_
  refine r_store rfl 1 0 [_, ⟨some g1, 61, _, 2, true⟩, _, _] [_, _] rfl rfl rfl rfl ti61 rfl rfl rfl rfl rfl ?_
  refine run_nil (at_tn (at_seq (at_seq ?_)))
  refine at_drawn (l' := [⟨_,_,_,_,_,_⟩, ⟨_,_,_,_,_,_⟩, ⟨_,_,_,_,_,_⟩]) [] [0, 1, 2] mixed (by kernel_rfl) rfl (by kernel_rfl) ?_
  refine r_load 1 0 [_, _] rfl rfl rfl rfl ti61 rfl rfl rfl rfl ?_
  refine r_pcall [] rfl rfl rfl (c_rational_one) ?_
  refine r_eqlAgg rfl rfl rfl rfl gd61 (eq61 _ _) ?_
  refine run_nil (at_tn ?_)
  refine at_cond rfl (fun hb1 => ?_) (fun hb1 => ?_)
  ·
   refine at_region ?_
   refine r_build [] rfl rfl rfl (bd61_0) ?_
   refine r_store rfl 1 0 [_, ⟨some g1, 61, _, 2, true⟩, _, _] [_, _] rfl rfl rfl rfl ti61 rfl rfl rfl rfl rfl ?_
   refine run_nil (at_tn (at_seq (at_region (r_load 0 0 [_, _] rfl rfl rfl rfl ti61 rfl rfl rfl rfl (r_load 1 0 [_, _] rfl rfl rfl rfl ti61 rfl rfl rfl rfl ?_)))))
   refine r_build [(0, _), (1, _)] rfl rfl rfl (bd63_2) ?_
   refine r_store rfl 2 0 [_, _, ⟨some g2, 63, _, 4, true⟩, _] [_, _, _, _] rfl rfl rfl rfl ti63 rfl rfl rfl rfl rfl ?_
   refine run_nil (at_tn (at_ret ?_))
   refine at_end1 rfl (res_cell 2 rfl rfl ti63 (vs := [_, _, _, _]) rfl rfl (Nat.le_of_ble_eq_true rfl) rfl) (fun w hL => ⟨?_, hL.below⟩)
   exact congrArg Ending.returned (canon_1 (sign_ge hb0 h0) (by simpa using hb1))
  ·
   refine at_skip (at_tn (at_seq (at_region (r_load 0 0 [_, _] rfl rfl rfl rfl ti61 rfl rfl rfl rfl (r_load 1 0 [_, _] rfl rfl rfl rfl ti61 rfl rfl rfl rfl ?_)))))
   refine r_build [(0, _), (1, _)] rfl rfl rfl (bd63_2) ?_
   refine r_store rfl 2 0 [_, _, ⟨some g2, 63, _, 4, true⟩, _] [_, _, _, _] rfl rfl rfl rfl ti63 rfl rfl rfl rfl rfl ?_
   refine run_nil (at_tn (at_ret ?_))
   refine at_end1 rfl (res_cell 2 rfl rfl ti63 (vs := [_, _, _, _]) rfl rfl (Nat.le_of_ble_eq_true rfl) rfl) (fun w hL => ⟨?_, hL.below⟩)
   exact congrArg Ending.returned (canon_2 (sign_ge hb0 h0) (by simpa using hb1))
set_option maxRecDepth 20000 in
theorem c_rational_Den (q : Rat) : PCall Tryz.prog 102 #[Q q] (I q.den) := by
 refine ⟨by kernel_rfl, fun w => ?_⟩
 refine calls_at (args := [Q q]) Tryz.func102 rfl (Nat.le_of_ble_eq_true rfl) (LRel.nil w) ?_
 show At w ⟨10, [(0, Q q)], []⟩ _
 refine at_seq (at_region ?_)
 refine r_box [_, _, _, _] 4 (fun g => [⟨some g, 63, _, 4, true⟩]) rfl rfl rfl rfl rfl (fun _ => rfl) (fun g0 => ?_)
 refine r_alloc [_, _] 2 (fun g => [_, ⟨some g, 61, _, 2, true⟩]) rfl rfl z61 rfl rfl (fun _ => rfl) (fun g1 => ?_)
 refine run_nil (at_tn (at_seq (at_seq (at_region (r_fieldAddr 0 0 2 rfl rfl rfl rfl rfl ti63 rfl rfl (r_load 0 2 [_, _] rfl rfl rfl rfl ti61 rfl rfl rfl rfl ?_))))))
 refine r_build [] rfl rfl rfl (bd61_0) ?_
 refine r_eqlAgg rfl rfl rfl rfl gd61 (eq61r _ _ _ _) ?_
 refine run_nil (at_tn ?_)
 refine at_cond rfl (fun hb0 => ?_) (fun hb0 => ?_)
 ·
  refine at_seq (at_region ?_)
  refine r_pcall [] rfl rfl rfl (c_rational_one) ?_
  refine r_store rfl 1 0 [_, ⟨some g1, 61, _, 2, true⟩] [_, _] rfl rfl rfl rfl ti61 rfl rfl rfl rfl rfl ?_
  refine run_nil (at_tn (at_ret (at_tr ?_)))
  refine at_end1 rfl (res_cell 1 rfl rfl ti61 (vs := [_, _]) rfl rfl (Nat.le_of_ble_eq_true rfl) rfl) (fun w hL => ⟨?_, hL.below⟩)
  exact congrArg Ending.returned (den_T hb0)
 ·
  refine at_skip (at_tn (at_seq (at_region (r_fieldAddr 0 0 2 rfl rfl rfl rfl rfl ti63 rfl rfl (r_load 0 2 [_, _] rfl rfl rfl rfl ti61 rfl rfl rfl rfl ?_)))))
  refine r_store rfl 1 0 [_, ⟨some g1, 61, _, 2, true⟩] [_, _] rfl rfl rfl rfl ti61 rfl rfl rfl rfl rfl ?_
  refine run_nil (at_tn (at_ret ?_))
  refine at_end1 rfl (res_cell 1 rfl rfl ti61 (vs := [_, _]) rfl rfl (Nat.le_of_ble_eq_true rfl) rfl) (fun w hL => ⟨?_, hL.below⟩)
  exact congrArg Ending.returned (den_F hb0)
set_option maxRecDepth 20000 in
theorem c_rational_cross (p q : Rat) (hp : szQ p ≤ 4194303) (hq : szQ q ≤ 4194303) : PCall Tryz.prog 82 #[Q p, Q q] (.tuple #[I (crossX p q), I (crossY p q), I (crossD p q)]) := by
 refine ⟨by kernel_rfl, fun w => ?_⟩
 refine calls_at (args := [Q p, Q q]) Tryz.func82 rfl (Nat.le_of_ble_eq_true rfl) (LRel.nil w) ?_
 show At w ⟨33, [(0, Q p), (1, Q q)], []⟩ _
 refine at_seq (at_region ?_)
 refine r_box [_, _, _, _] 4 (fun g => [⟨some g, 63, _, 4, true⟩]) rfl rfl rfl rfl rfl (fun _ => rfl) (fun g0 => ?_)
 refine r_box [_, _, _, _] 4 (fun g => [_, ⟨some g, 63, _, 4, true⟩]) rfl rfl rfl rfl rfl (fun _ => rfl) (fun g1 => ?_)
 refine r_alloc [_, _] 2 (fun g => [_, _, ⟨some g, 61, _, 2, true⟩]) rfl rfl z61 rfl rfl (fun _ => rfl) (fun g2 => ?_)
 refine r_alloc [_, _] 2 (fun g => [_, _, _, ⟨some g, 61, _, 2, true⟩]) rfl rfl z61 rfl rfl (fun _ => rfl) (fun g3 => ?_)
 refine r_alloc [_, _] 2 (fun g => [_, _, _, _, ⟨some g, 61, _, 2, true⟩]) rfl rfl z61 rfl rfl (fun _ => rfl) (fun g4 => ?_)
 refine run_nil (at_tn (at_seq (at_seq (at_region (r_fieldAddr 0 0 2 rfl rfl rfl rfl rfl ti63 rfl rfl (r_load 0 2 [_, _] rfl rfl rfl rfl ti61 rfl rfl rfl rfl (r_fieldAddr 1 0 2 rfl rfl rfl rfl rfl ti63 rfl rfl (r_load 1 2 [_, _] rfl rfl rfl rfl ti61 rfl rfl rfl rfl ?_))))))))
 refine r_eqlAgg rfl rfl rfl rfl gd61 (eq61r _ _ _ _) ?_
 refine run_nil (at_tn ?_)
 refine at_cond rfl (fun hb0 => ?_) (fun hb0 => ?_)
 ·
  refine at_seq ?_
  refine at_drawn (l' := [⟨_,_,_,_,_,_⟩, ⟨_,_,_,_,_,_⟩, ⟨_,_,_,_,_,_⟩, ⟨_,_,_,_,_,_⟩, ⟨_,_,_,_,_,_⟩, ⟨_,_,_,_,_,_⟩, ⟨_,_,_,_,_,_⟩, ⟨_,_,_,_,_,_⟩, ⟨_,_,_,_,_,_⟩]) [2, 3, 4] [0, 1, 2, 3, 4, 5, 6, 7, 8] mixed (by kernel_rfl) rfl (by kernel_rfl) ?_
  refine r_fieldAddr 0 0 0 rfl rfl rfl rfl rfl ti63 rfl rfl (r_load 0 0 [_, _] rfl rfl rfl rfl ti61 rfl rfl rfl rfl (r_fieldAddr 1 0 0 rfl rfl rfl rfl rfl ti63 rfl rfl (r_load 1 0 [_, _] rfl rfl rfl rfl ti61 rfl rfl rfl rfl (r_load 0 0 [_, _, _, _] rfl rfl rfl rfl ti63 rfl rfl rfl rfl ?_))))
  refine r_pcall [_] rfl rfl rfl (c_rational_Den _) ?_
  refine r_storeE 2 0 [_, _, ⟨some g2, 61, _, 2, true⟩, _, _] [_, _] rfl rfl rfl rfl ti61 rfl rfl rfl rfl rfl rfl ?_
  refine r_storeE 3 0 [_, _, _, ⟨some g3, 61, _, 2, true⟩, _] [_, _] rfl rfl rfl rfl ti61 rfl rfl rfl rfl rfl rfl ?_
  refine r_storeE 4 0 [_, _, _, _, ⟨some g4, 61, _, 2, true⟩] [_, _] rfl rfl rfl rfl ti61 rfl rfl rfl rfl rfl rfl ?_
  refine run_nil (at_tn (at_ret (at_tr ?_)))
  refine at_end3 rfl (res_cell 2 rfl rfl ti61 (vs := [_, _]) rfl rfl (Nat.le_of_ble_eq_true rfl) rfl) (res_cell 3 rfl rfl ti61 (vs := [_, _]) rfl rfl (Nat.le_of_ble_eq_true rfl) rfl) (res_cell 4 rfl rfl ti61 (vs := [_, _]) rfl rfl (Nat.le_of_ble_eq_true rfl) rfl) (fun w hL => ⟨?_, hL.below⟩)
  exact congrArg Ending.returned (cross_T hb0)
 ·
  refine at_skip (at_tn (at_seq ?_))
  refine at_drawn (l' := [⟨_,_,_,_,_,_⟩, ⟨_,_,_,_,_,_⟩, ⟨_,_,_,_,_,_⟩, ⟨_,_,_,_,_,_⟩, ⟨_,_,_,_,_,_⟩, ⟨_,_,_,_,_,_⟩, ⟨_,_,_,_,_,_⟩, ⟨_,_,_,_,_,_⟩, ⟨_,_,_,_,_,_⟩, ⟨_,_,_,_,_,_⟩, ⟨_,_,_,_,_,_⟩, ⟨_,_,_,_,_,_⟩, ⟨_,_,_,_,_,_⟩, ⟨_,_,_,_,_,_⟩, ⟨_,_,_,_,_,_⟩, ⟨_,_,_,_,_,_⟩, ⟨_,_,_,_,_,_⟩, ⟨_,_,_,_,_,_⟩]) [] [0, 1, 2, 5, 6, 7, 10, 12, 3, 4, 8, 9, 11, 13, 14, 15, 16, 17] mixed (by kernel_rfl) rfl (by kernel_rfl) ?_
  refine r_fieldAddr 0 0 0 rfl rfl rfl rfl rfl ti63 rfl rfl (r_load 0 0 [_, _] rfl rfl rfl rfl ti61 rfl rfl rfl rfl (r_load 1 0 [_, _, _, _] rfl rfl rfl rfl ti63 rfl rfl rfl rfl (r_fieldAddr 1 0 0 rfl rfl rfl rfl rfl ti63 rfl rfl (r_load 1 0 [_, _] rfl rfl rfl rfl ti61 rfl rfl rfl rfl (r_load 0 0 [_, _, _, _] rfl rfl rfl rfl ti63 rfl rfl rfl rfl (r_load 0 0 [_, _, _, _] rfl rfl rfl rfl ti63 rfl rfl rfl rfl (r_load 1 0 [_, _, _, _] rfl rfl rfl rfl ti63 rfl rfl rfl rfl ?_)))))))
  refine r_pcall [_] rfl rfl rfl (c_rational_Den _) ?_
  refine r_pcall [_, _] rfl rfl rfl (c_integer_Mul _ _ (by first | assumption | grind [lI_add, lI_sub, lI_mul, lI_neg, lI_gcd, lI_num, lI_den, lQ_add, lQ_sub, lQ_mul, lQ_div, lQ_neg, l_nb]) (by first | assumption | grind [lI_add, lI_sub, lI_mul, lI_neg, lI_gcd, lI_num, lI_den, lQ_add, lQ_sub, lQ_mul, lQ_div, lQ_neg, l_nb])) ?_
  refine r_pcall [_] rfl rfl rfl (c_rational_Den _) ?_
  refine r_pcall [_, _] rfl rfl rfl (c_integer_Mul _ _ (by first | assumption | grind [lI_add, lI_sub, lI_mul, lI_neg, lI_gcd, lI_num, lI_den, lQ_add, lQ_sub, lQ_mul, lQ_div, lQ_neg, l_nb]) (by first | assumption | grind [lI_add, lI_sub, lI_mul, lI_neg, lI_gcd, lI_num, lI_den, lQ_add, lQ_sub, lQ_mul, lQ_div, lQ_neg, l_nb])) ?_
  refine r_pcall [_] rfl rfl rfl (c_rational_Den _) ?_
  refine r_pcall [_] rfl rfl rfl (c_rational_Den _) ?_
  refine r_pcall [_, _] rfl rfl rfl (c_integer_Mul _ _ (by first | assumption | grind [lI_add, lI_sub, lI_mul, lI_neg, lI_gcd, lI_num, lI_den, lQ_add, lQ_sub, lQ_mul, lQ_div, lQ_neg, l_nb]) (by first | assumption | grind [lI_add, lI_sub, lI_mul, lI_neg, lI_gcd, lI_num, lI_den, lQ_add, lQ_sub, lQ_mul, lQ_div, lQ_neg, l_nb])) ?_
  refine r_store rfl 2 0 [_, _, ⟨some g2, 61, _, 2, true⟩, _, _] [_, _] rfl rfl rfl rfl ti61 rfl rfl rfl rfl rfl ?_
  refine r_store rfl 3 0 [_, _, _, ⟨some g3, 61, _, 2, true⟩, _] [_, _] rfl rfl rfl rfl ti61 rfl rfl rfl rfl rfl ?_
  refine r_store rfl 4 0 [_, _, _, _, ⟨some g4, 61, _, 2, true⟩] [_, _] rfl rfl rfl rfl ti61 rfl rfl rfl rfl rfl ?_
  refine run_nil (at_tn (at_ret ?_))
  refine at_end3 rfl (res_cell 2 rfl rfl ti61 (vs := [_, _]) rfl rfl (Nat.le_of_ble_eq_true rfl) rfl) (res_cell 3 rfl rfl ti61 (vs := [_, _]) rfl rfl (Nat.le_of_ble_eq_true rfl) rfl) (res_cell 4 rfl rfl ti61 (vs := [_, _]) rfl rfl (Nat.le_of_ble_eq_true rfl) rfl) (fun w hL => ⟨?_, hL.below⟩)
  exact congrArg Ending.returned (cross_F hb0)
set_option maxRecDepth 20000 in
theorem c_rational_Add (p q : Rat) (hp : szQ p ≤ 4194303) (hq : szQ q ≤ 4194303) : PCall Tryz.prog 63 #[Q p, Q q] (Q (p + q)) := by
 refine ⟨by kernel_rfl, fun w => ?_⟩
 refine calls_at (args := [Q p, Q q]) Tryz.func63 rfl (Nat.le_of_ble_eq_true rfl) (LRel.nil w) ?_
 show At w ⟨20, [(0, Q p), (1, Q q)], []⟩ _
 refine at_seq (at_region ?_)
 refine r_box [_, _, _, _] 4 (fun g => [⟨some g, 63, _, 4, true⟩]) rfl rfl rfl rfl rfl (fun _ => rfl) (fun g0 => ?_)
 refine r_box [_, _, _, _] 4 (fun g => [_, ⟨some g, 63, _, 4, true⟩]) rfl rfl rfl rfl rfl (fun _ => rfl) (fun g1 => ?_)
 refine r_alloc [_, _, _, _] 4 (fun g => [_, _, ⟨some g, 63, _, 4, true⟩]) rfl rfl z63 rfl rfl (fun _ => rfl) (fun g2 => ?_)
 refine run_nil (at_tn (at_seq (at_region (r_load 0 0 [_, _, _, _] rfl rfl rfl rfl ti63 rfl rfl rfl rfl (r_load 1 0 [_, _, _, _] rfl rfl rfl rfl ti63 rfl rfl rfl rfl ?_)))))
 refine r_pcall [_, _] rfl rfl rfl (c_rational_cross _ _ (by first | assumption | grind [lI_add, lI_sub, lI_mul, lI_neg, lI_gcd, lI_num, lI_den, lQ_add, lQ_sub, lQ_mul, lQ_div, lQ_neg, l_nb]) (by first | assumption | grind [lI_add, lI_sub, lI_mul, lI_neg, lI_gcd, lI_num, lI_den, lQ_add, lQ_sub, lQ_mul, lQ_div, lQ_neg, l_nb])) ?_
 refine r_move rfl rfl rfl ?_
 refine r_extract (vs := [_, _, _]) rfl rfl rfl rfl ?_
 refine r_extract (vs := [_, _, _]) rfl rfl rfl rfl ?_
 refine r_extract (vs := [_, _, _]) rfl rfl rfl rfl ?_
 refine r_alloc [_, _] 2 (fun g => [_, _, _, ⟨some g, 61, _, 2, true⟩]) rfl rfl z61 rfl rfl (fun _ => rfl) (fun g3 => ?_)
 refine r_alloc [_, _] 2 (fun g => [_, _, _, _, ⟨some g, 61, _, 2, true⟩]) rfl rfl z61 rfl rfl (fun _ => rfl) (fun g4 => ?_)
 refine r_alloc [_, _] 2 (fun g => [_, _, _, _, _, ⟨some g, 61, _, 2, true⟩]) rfl rfl z61 rfl rfl (fun _ => rfl) (fun g5 => ?_)
 refine r_store rfl 3 0 [_, _, _, ⟨some g3, 61, _, 2, true⟩, _, _] [_, _] rfl rfl rfl rfl ti61 rfl rfl rfl rfl rfl ?_
 refine r_store rfl 4 0 [_, _, _, _, ⟨some g4, 61, _, 2, true⟩, _] [_, _] rfl rfl rfl rfl ti61 rfl rfl rfl rfl rfl ?_
 refine r_store rfl 5 0 [_, _, _, _, _, ⟨some g5, 61, _, 2, true⟩] [_, _] rfl rfl rfl rfl ti61 rfl rfl rfl rfl rfl ?_
 refine run_nil (at_tn (at_seq ?_))
 refine at_drawn (l' := [⟨_,_,_,_,_,_⟩, ⟨_,_,_,_,_,_⟩, ⟨_,_,_,_,_,_⟩, ⟨_,_,_,_,_,_⟩, ⟨_,_,_,_,_,_⟩, ⟨_,_,_,_,_,_⟩]) [] [0, 1, 3, 2, 4, 5] mixed (by kernel_rfl) rfl (by kernel_rfl) ?_
 refine r_load 3 0 [_, _] rfl rfl rfl rfl ti61 rfl rfl rfl rfl (r_load 4 0 [_, _] rfl rfl rfl rfl ti61 rfl rfl rfl rfl (r_load 5 0 [_, _] rfl rfl rfl rfl ti61 rfl rfl rfl rfl ?_))
 refine r_pcall [_, _] rfl rfl rfl (c_integer_Add _ _ (Nat.le_trans (szX hp hq) (Nat.le_of_ble_eq_true rfl)) (Nat.le_trans (szY hp hq) (Nat.le_of_ble_eq_true rfl))) ?_
 refine r_pcall [_, _] rfl rfl rfl (c_rational_canonical _ _ (Nat.le_trans (szXY hp hq) (Nat.le_of_ble_eq_true rfl)) (Nat.le_trans (szD hp hq) (Nat.le_of_ble_eq_true rfl)) (crossD_ne p q)) ?_
 refine r_store rfl 2 0 [_, _, ⟨some g2, 63, _, 4, true⟩, _, _, _] [_, _, _, _] rfl rfl rfl rfl ti63 rfl rfl rfl rfl rfl ?_
 refine run_nil (at_tn (at_ret ?_))
 refine at_end1 rfl (res_cell 2 rfl rfl ti63 (vs := [_, _, _, _]) rfl rfl (Nat.le_of_ble_eq_true rfl) rfl) (fun w hL => ⟨?_, hL.below⟩)
 exact congrArg (fun z => Ending.returned (Q z)) (cross_add p q)
set_option maxRecDepth 20000 in
theorem c_rational_Neg (q : Rat) : PCall Tryz.prog 64 #[Q q] (Q (-q)) := by
 refine ⟨by kernel_rfl, fun w => ?_⟩
 refine calls_at (args := [Q q]) Tryz.func64 rfl (Nat.le_of_ble_eq_true rfl) (LRel.nil w) ?_
 show At w ⟨9, [(0, Q q)], []⟩ _
 refine at_seq (at_region ?_)
 refine r_box [_, _, _, _] 4 (fun g => [⟨some g, 63, _, 4, true⟩]) rfl rfl rfl rfl rfl (fun _ => rfl) (fun g0 => ?_)
 refine r_alloc [_, _, _, _] 4 (fun g => [_, ⟨some g, 63, _, 4, true⟩]) rfl rfl z63 rfl rfl (fun _ => rfl) (fun g1 => ?_)
 refine run_nil (at_tn (at_seq ?_))
 refine at_drawn (l' := [⟨_,_,_,_,_,_⟩, ⟨_,_,_,_,_,_⟩, ⟨_,_,_,_,_,_⟩, ⟨_,_,_,_,_,_⟩, ⟨_,_,_,_,_,_⟩, ⟨_,_,_,_,_,_⟩, ⟨_,_,_,_,_,_⟩]) [] [0, 1, 3, 4, 2, 5, 6] mixed (by kernel_rfl) rfl (by kernel_rfl) ?_
 refine r_fieldAddr 0 0 0 rfl rfl rfl rfl rfl ti63 rfl rfl (r_load 0 0 [_, _] rfl rfl rfl rfl ti61 rfl rfl rfl rfl (r_fieldAddr 0 0 2 rfl rfl rfl rfl rfl ti63 rfl rfl (r_load 0 2 [_, _] rfl rfl rfl rfl ti61 rfl rfl rfl rfl ?_)))
 refine r_pcall [_] rfl rfl rfl (c_integer_Negate _) ?_
 refine r_build [(0, _), (1, _)] rfl rfl rfl (bd63_2) ?_
 refine r_store rfl 1 0 [_, ⟨some g1, 63, _, 4, true⟩] [_, _, _, _] rfl rfl rfl rfl ti63 rfl rfl rfl rfl rfl ?_
 refine run_nil (at_tn (at_ret ?_))
 refine at_end1 rfl (res_cell 1 rfl rfl ti63 (vs := [_, _, _, _]) rfl rfl (Nat.le_of_ble_eq_true rfl) rfl) (fun w hL => ⟨?_, hL.below⟩)
 exact rfl
set_option maxRecDepth 20000 in
theorem c_rational_Sub (p q : Rat) (hp : szQ p ≤ 4194303) (hq : szQ q ≤ 4194303) : PCall Tryz.prog 48 #[Q p, Q q] (Q (p - q)) := by
 refine ⟨by kernel_rfl, fun w => ?_⟩
 refine calls_at (args := [Q p, Q q]) Tryz.func48 rfl (Nat.le_of_ble_eq_true rfl) (LRel.nil w) ?_
 show At w ⟨9, [(0, Q p), (1, Q q)], []⟩ _
 refine at_seq (at_region ?_)
 refine r_box [_, _, _, _] 4 (fun g => [⟨some g, 63, _, 4, true⟩]) rfl rfl rfl rfl rfl (fun _ => rfl) (fun g0 => ?_)
 refine r_box [_, _, _, _] 4 (fun g => [_, ⟨some g, 63, _, 4, true⟩]) rfl rfl rfl rfl rfl (fun _ => rfl) (fun g1 => ?_)
 refine r_alloc [_, _, _, _] 4 (fun g => [_, _, ⟨some g, 63, _, 4, true⟩]) rfl rfl z63 rfl rfl (fun _ => rfl) (fun g2 => ?_)
 refine run_nil (at_tn (at_seq ?_))
 refine at_drawn (l' := [⟨_,_,_,_,_,_⟩, ⟨_,_,_,_,_,_⟩, ⟨_,_,_,_,_,_⟩, ⟨_,_,_,_,_,_⟩, ⟨_,_,_,_,_,_⟩]) [] [0, 1, 2, 3, 4] mixed (by kernel_rfl) rfl (by kernel_rfl) ?_
 refine r_load 0 0 [_, _, _, _] rfl rfl rfl rfl ti63 rfl rfl rfl rfl (r_load 1 0 [_, _, _, _] rfl rfl rfl rfl ti63 rfl rfl rfl rfl ?_)
 refine r_pcall [_] rfl rfl rfl (c_rational_Neg _) ?_
 refine r_pcall [_, _] rfl rfl rfl (c_rational_Add _ _ (by first | assumption | grind [lI_add, lI_sub, lI_mul, lI_neg, lI_gcd, lI_num, lI_den, lQ_add, lQ_sub, lQ_mul, lQ_div, lQ_neg, l_nb]) (by first | assumption | grind [lI_add, lI_sub, lI_mul, lI_neg, lI_gcd, lI_num, lI_den, lQ_add, lQ_sub, lQ_mul, lQ_div, lQ_neg, l_nb])) ?_
 refine r_store rfl 2 0 [_, _, ⟨some g2, 63, _, 4, true⟩] [_, _, _, _] rfl rfl rfl rfl ti63 rfl rfl rfl rfl rfl ?_
 refine run_nil (at_tn (at_ret ?_))
 refine at_end1 rfl (res_cell 2 rfl rfl ti63 (vs := [_, _, _, _]) rfl rfl (Nat.le_of_ble_eq_true rfl) rfl) (fun w hL => ⟨?_, hL.below⟩)
 exact congrArg (fun z => Ending.returned (Q z)) (Rat.sub_eq_add_neg p q).symm
set_option maxRecDepth 20000 in
theorem c_rational_Make (n d : Int) (hn : szI n ≤ 8388608) (hd : szI d ≤ 8388608) : PCall Tryz.prog 58 #[I n, I d] (.tuple #[Q (Rat.divInt n d), .int .i64 (if d = 0 then 6 else 0)]) := by
 refine ⟨by kernel_rfl, fun w => ?_⟩
 refine calls_at (args := [I n, I d]) Tryz.func58 rfl (Nat.le_of_ble_eq_true rfl) (LRel.nil w) ?_
 show At w ⟨13, [(0, I n), (1, I d)], []⟩ _
 refine at_seq (at_region ?_)
 refine r_box [_, _] 2 (fun g => [⟨some g, 61, _, 2, true⟩]) rfl rfl rfl rfl rfl (fun _ => rfl) (fun g0 => ?_)
 refine r_box [_, _] 2 (fun g => [_, ⟨some g, 61, _, 2, true⟩]) rfl rfl rfl rfl rfl (fun _ => rfl) (fun g1 => ?_)
 refine r_alloc [_, _, _, _] 4 (fun g => [_, _, ⟨some g, 63, _, 4, true⟩]) rfl rfl z63 rfl rfl (fun _ => rfl) (fun g2 => ?_)
 refine r_assign rfl rfl rfl (run_nil (at_tn (at_seq (at_seq (at_region (r_load 1 0 [_, _] rfl rfl rfl rfl ti61 rfl rfl rfl rfl ?_))))))
 refine r_pcall [_] rfl rfl rfl (c_integer_Sign _) ?_
 refine r_cmpInt rfl rfl rfl rfl rfl (run_nil (at_tn ?_))
 refine at_cond rfl (fun hb0 => ?_) (fun hb0 => ?_)
 ·
  refine at_seq (at_region ?_)
  refine r_build [] rfl rfl rfl (bd63_0) ?_
  refine r_store rfl 2 0 [_, _, ⟨some g2, 63, _, 4, true⟩] [_, _, _, _] rfl rfl rfl rfl ti63 rfl rfl rfl rfl rfl ?_
  refine r_assign rfl rfl rfl (run_nil (at_tn (at_ret (at_tr ?_))))
  refine at_end2 rfl (res_cell 2 rfl rfl ti63 (vs := [_, _, _, _]) rfl rfl (Nat.le_of_ble_eq_true rfl) rfl) (res_tmp rfl) (fun w hL => ⟨?_, hL.below⟩)
  have e : d = 0 := by simpa using hb0
  subst e; rw [Rat.divInt_zero, if_pos rfl, Q_zero]
 ·
  refine at_skip (at_tn (at_seq (at_region (r_load 0 0 [_, _] rfl rfl rfl rfl ti61 rfl rfl rfl rfl (r_load 1 0 [_, _] rfl rfl rfl rfl ti61 rfl rfl rfl rfl ?_)))))
  refine r_pcall [_, _] rfl rfl rfl (c_rational_canonical _ _ hn hd (fun e => absurd (show (d.sign == 0) = true by rw [e]; rfl) (by rw [hb0]; decide))) ?_
  refine r_store rfl 2 0 [_, _, ⟨some g2, 63, _, 4, true⟩] [_, _, _, _] rfl rfl rfl rfl ti63 rfl rfl rfl rfl rfl ?_
  refine r_assign rfl rfl rfl (run_nil (at_tn (at_ret ?_)))
  refine at_end2 rfl (res_cell 2 rfl rfl ti63 (vs := [_, _, _, _]) rfl rfl (Nat.le_of_ble_eq_true rfl) rfl) (res_tmp rfl) (fun w hL => ⟨?_, hL.below⟩)
  rw [if_neg (fun e => absurd (show (d.sign == 0) = true by rw [e]; rfl) (by rw [hb0]; decide))]; rfl
set_option maxRecDepth 20000 in
theorem c_rational_FromInt (z : Int) (h1 : -9223372036854775808 ≤ z) (h2 : z ≤ 9223372036854775807) : PCall Tryz.prog 49 #[.int .i64 z] (Q (z : Rat)) := by
 refine ⟨by kernel_rfl, fun w => ?_⟩
 refine calls_at (args := [.int .i64 z]) Tryz.func49 rfl (Nat.le_of_ble_eq_true rfl) (LRel.nil w) ?_
 show At w ⟨6, [(0, .int .i64 z)], []⟩ _
 refine at_seq (at_region ?_)
 refine r_alloc [_, _, _, _] 4 (fun g => [⟨some g, 63, _, 4, true⟩]) rfl rfl z63 rfl rfl (fun _ => rfl) (fun g0 => ?_)
 refine run_nil (at_tn (at_seq (at_region (r_move rfl rfl rfl ?_))))
 refine r_pcall [_] rfl rfl rfl (c_integer_FromInt _ (by omega) (by omega)) ?_
 refine r_build [(0, _)] rfl rfl rfl (bd63_1) ?_
 refine r_store rfl 0 0 [⟨some g0, 63, _, 4, true⟩] [_, _, _, _] rfl rfl rfl rfl ti63 rfl rfl rfl rfl rfl ?_
 refine run_nil (at_tn (at_ret ?_))
 refine at_end1 rfl (res_cell 0 rfl rfl ti63 (vs := [_, _, _, _]) rfl rfl (Nat.le_of_ble_eq_true rfl) rfl) (fun w hL => ⟨?_, hL.below⟩)
 exact rfl
end Go.Proofs.YtncogghlhlnmaaaGreatDoor
set_option linter.unusedVariables false
namespace Go.Proofs.YtncogghlhlnmaaaGreatDoor
open Go Go.RowKit Go.Via
set_option maxRecDepth 20000 in
theorem c_ref02_Sub (p q : Rat) (hp : szQ p ≤ 4194303) (hq : szQ q ≤ 4194303) : PCall Tryz.prog 30 #[Q p, Q q] (Q (p - q)) := by
 refine ⟨by kernel_rfl, fun w => ?_⟩
 refine calls_at (args := [Q p, Q q]) Tryz.func30 rfl (Nat.le_of_ble_eq_true rfl) (LRel.nil w) ?_
 show At w ⟨9, [(0, Q p), (1, Q q)], []⟩ _
 refine at_seq (at_region ?_)
 refine r_box [_, _, _, _] 4 (fun g => [⟨some g, 63, _, 4, true⟩]) rfl rfl rfl rfl rfl (fun _ => rfl) (fun g0 => ?_)
 refine r_box [_, _, _, _] 4 (fun g => [_, ⟨some g, 63, _, 4, true⟩]) rfl rfl rfl rfl rfl (fun _ => rfl) (fun g1 => ?_)
 refine r_alloc [_, _, _, _] 4 (fun g => [_, _, ⟨some g, 63, _, 4, true⟩]) rfl rfl z63 rfl rfl (fun _ => rfl) (fun g2 => ?_)
 refine run_nil (at_tn (at_seq ?_))
 refine at_drawn (l' := [⟨_,_,_,_,_,_⟩, ⟨_,_,_,_,_,_⟩, ⟨_,_,_,_,_,_⟩, ⟨_,_,_,_,_,_⟩, ⟨_,_,_,_,_,_⟩]) [] [0, 1, 2, 3, 4] mixed (by kernel_rfl) rfl (by kernel_rfl) ?_
 refine r_load 0 0 [_, _, _, _] rfl rfl rfl rfl ti63 rfl rfl rfl rfl (r_load 1 0 [_, _, _, _] rfl rfl rfl rfl ti63 rfl rfl rfl rfl ?_)
 refine r_pcall [_] rfl rfl rfl (c_ref02_Neg q) ?_
 refine r_pcall [_, _] rfl rfl rfl (c_ref02_Add p (-q) hp (Nat.le_trans (lQ_neg q) hq)) ?_
 refine r_store rfl 2 0 [_, _, ⟨some g2, 63, _, 4, true⟩] [_, _, _, _] rfl rfl rfl rfl ti63 rfl rfl rfl rfl rfl ?_
 refine run_nil (at_tn (at_ret ?_))
 refine at_end1 rfl (res_cell 2 rfl rfl ti63 (vs := [_, _, _, _]) rfl rfl (Nat.le_of_ble_eq_true rfl) rfl) (fun w hL => ⟨?_, hL.below⟩)
 exact congrArg (fun z => Ending.returned (Q z)) (Rat.sub_eq_add_neg p q).symm
end Go.Proofs.YtncogghlhlnmaaaGreatDoor
set_option linter.unusedVariables false
namespace Go.Proofs.YtncogghlhlnmaaaGreatDoor
open Go Go.RowKit Go.Via
end Go.Proofs.YtncogghlhlnmaaaGreatDoor
set_option linter.unusedVariables false
namespace Go.Proofs.YtncogghlhlnmaaaGreatDoor
open Go Go.RowKit Go.Via
set_option maxRecDepth 20000 in
theorem c_clock_Component (l : List Ex) (a : Option Addr) (b : Option Nat) (pre : List Value) (N cap : Nat) (hc : l.length ≤ cap) (ha : l ≠ [] → a = b.map fun g => ⟨g, pre.length, none⟩) (hok : ∀ x ∈ l, okX x) (hn : l.length ≤ 100000) (d : Int) (hd : inI64 d) : SCall Tryz.prog 35 [⟨b, 49, pre ++ XLc l, N, false⟩] [.slice a l.length cap, .int .i64 d] (SR (compL l d).length) (fun x => x.v) (fun x => [⟨x.b, 3, ILc (compL l d), x.n, true⟩]) := by
 refine ⟨by kernel_rfl, fun w hL0 => ?_⟩
 refine calls_at (args := [.slice a l.length cap, .int .i64 d]) Tryz.func35 rfl (Nat.le_of_ble_eq_true rfl) hL0 ?_
 show At w ⟨38, [(0, .slice a l.length cap), (1, .int .i64 d)], [⟨b, 49, pre ++ XLc l, N, false⟩]⟩ _
 refine at_seq ?_
 refine at_base 0 rfl (fun hbase => ?_)
 refine at_region (r_assign rfl rfl rfl (run_nil (at_tn (at_seq (at_region ?_)))))
 refine r_makeMap (fun g => [_, ⟨some g, mI [], [], 0, true⟩]) rfl rfl (fun _ => rfl) (fun g0 => ?_)
 refine r_move rfl rfl rfl ?_
 refine r_insert 1 [_, ⟨some g0, mI (setM ([d])), [], 0, true⟩] u88 u3 rfl rfl rfl rfl rfl (l := []) rfl rfl rfl ?_
 refine r_move rfl rfl rfl (r_assign rfl rfl rfl (run_nil (at_tn (at_seq (at_seq (at_region (r_assign rfl rfl rfl (run_nil (at_tn (at_block ?_))))))))))
 refine enterL (nt := 38) (ι := {p : List Int × Bool // CI l d p}) (fun ⟨p, hI⟩ => [(0, .slice a l.length cap), (1, .int .i64 d), (5, .map (some g0)), (6, .bool p.2)]) (fun ⟨p, hI⟩ => [⟨b, 49, pre ++ XLc l, N, false⟩, ⟨some g0, mI (setM (p.1)), [], 0, true⟩]) (fun ⟨p, hI⟩ => cMu l p) ⟨([d], true), CI.init l d⟩ ⟨rfl, rfl, rfl, rfl, trivial⟩ (Weak.refl _) ?_
 rintro ⟨p, hI⟩
 show At _ ⟨38, [(0, .slice a l.length cap), (1, .int .i64 d), (5, .map (some g0)), (6, .bool p.2)], [⟨b, 49, pre ++ XLc l, N, false⟩, ⟨some g0, mI (setM (p.1)), [], 0, true⟩]⟩ _
 refine at_seq (at_seq (at_region (r_move rfl rfl rfl (run_nil (at_tn ?_)))))
 refine at_cond rfl (fun hb1 => ?_) (fun hb1 => ?_)
 ·
  have hp2 : p.2 = true := hb1
  refine at_skip (at_tn (at_block (at_seq (at_region (r_assign rfl rfl rfl (run_nil (at_tn (at_seq (at_region (r_move rfl rfl rfl (r_lenV u22 rfl rfl rfl (r_move rfl rfl rfl (run_nil (at_tn (at_block ?_)))))))))))))))
  refine enterL (nt := 38) (ι := {i : Nat // i ≤ l.length}) (fun ⟨i, hi⟩ => [(0, .slice a l.length cap), (1, .int .i64 d), (5, .map (some g0)), (6, .bool (pas p.1 (l.take i)).2), (13, .slice a l.length cap), (14, .int .i64 (l.length : Nat)), (15, .int .i64 (i : Nat))]) (fun ⟨i, hi⟩ => [⟨b, 49, pre ++ XLc l, N, false⟩, ⟨some g0, mI (setM ((pas p.1 (l.take i)).1)), [], 0, true⟩]) (fun ⟨i, hi⟩ => l.length - i) ⟨0, Nat.zero_le _⟩ ⟨rfl, rfl, rfl, rfl, rfl, rfl, rfl, trivial⟩ (Weak.refl _) ?_
  rintro ⟨i, hi⟩
  show At _ ⟨38, [(0, .slice a l.length cap), (1, .int .i64 d), (5, .map (some g0)), (6, .bool (pas p.1 (l.take i)).2), (13, .slice a l.length cap), (14, .int .i64 (l.length : Nat)), (15, .int .i64 (i : Nat))], [⟨b, 49, pre ++ XLc l, N, false⟩, ⟨some g0, mI (setM ((pas p.1 (l.take i)).1)), [], 0, true⟩]⟩ _
  refine at_seq (at_region (r_cmpInt rfl rfl rfl rfl rfl (run_nil (at_tn (at_seq ?_)))))
  refine at_cond rfl (fun hb3 => ?_) (fun hb3 => ?_)
  ·
   have hlt : i < l.length := (by have := of_decide_eq_true hb3; omega)
   obtain ⟨x, hx⟩ : ∃ x, l[i]? = some x := ⟨l[i], List.getElem?_eq_getElem hlt⟩
   have hokx := hok x (List.mem_of_getElem? hx)
   obtain ⟨gb, hgb⟩ := ex_base hbase (by omega)
   replace hgb : b = some gb := hgb
   subst hgb
   obtain rfl : a = some ⟨gb, pre.length, none⟩ := ha (fun e => by rw [e] at hlt; cases hlt)
   refine at_skip (at_tn (at_seq (at_block (at_seq (at_region ?_)))))
   refine r_indexAddr 0 (pre.length + i * 5) u22 ti49 rfl rfl rfl rfl rfl (by omega) (by omega) (pre_ne (XLc_ne (by omega))) (by show pre.length + Int.toNat _ * 5 = _; omega) ?_
   refine r_load (v := ExV x) 0 (pre.length + i * 5) _ rfl rfl rfl rfl ti49 (pre_get (XLc_get hx) rfl) rfl (by decide) rfl ?_
   refine r_alloc [_, _, _, _, _] 5 (fun g => [_, _, ⟨some g, 49, _, 5, true⟩]) rfl rfl z49 rfl rfl (fun _ => rfl) (fun g1 => ?_)
   refine r_store rfl 2 0 [_, _, ⟨some g1, 49, _, 5, true⟩] [_, _, _, _, _] rfl rfl rfl rfl ti49 rfl rfl rfl rfl rfl ?_
   refine run_nil (at_tn (at_seq (at_region (r_move rfl rfl rfl (r_fieldAddr 2 0 0 rfl rfl rfl rfl rfl ti49 rfl rfl (r_load 2 0 [_] rfl rfl rfl rfl ti3 rfl rfl rfl rfl ?_))))))
   refine r_lookup (v := .bool ((pas p.1 (l.take i)).1.contains x.f)) 1 u88 u3 zz4 rfl rfl rfl rfl rfl (setM_simple _) (mg_setM _ _) rfl ?_
   refine r_move rfl rfl rfl (r_fieldAddr 2 0 1 rfl rfl rfl rfl rfl ti49 rfl rfl (r_load 2 1 [_] rfl rfl rfl rfl ti3 rfl rfl rfl rfl ?_))
   refine r_lookup (v := .bool ((pas p.1 (l.take i)).1.contains x.t)) 1 u88 u3 zz4 rfl rfl rfl rfl rfl (setM_simple _) (mg_setM _ _) rfl ?_
   refine r_neqBool rfl u4 rfl rfl rfl (run_nil (at_tn ?_))
   refine at_cond rfl (fun hb4 => ?_) (fun hb4 => ?_)
   ·
    have hcc := hb4
    refine at_drawn (l' := [⟨_,_,_,_,_,_⟩, ⟨_,_,_,_,_,_⟩, ⟨_,_,_,_,_,_⟩, ⟨_,_,_,_,_,_⟩, ⟨_,_,_,_,_,_⟩, ⟨_,_,_,_,_,_⟩, ⟨_,_,_,_,_,_⟩, ⟨_,_,_,_,_,_⟩, ⟨_,_,_,_,_,_⟩]) [1] [0, 1, 2, 3, 4, 5, 6, 7, 8] mixed (by kernel_rfl) rfl (by kernel_rfl) ?_
    refine r_move rfl rfl rfl (r_fieldAddr 2 0 0 rfl rfl rfl rfl rfl ti49 rfl rfl (r_load 2 0 [_] rfl rfl rfl rfl ti3 rfl rfl rfl rfl (r_move rfl rfl rfl (r_fieldAddr 2 0 1 rfl rfl rfl rfl rfl ti49 rfl rfl (r_load 2 1 [_] rfl rfl rfl rfl ti3 rfl rfl rfl rfl ?_)))))
    refine r_mapUpdate 1 [_, ⟨some g0, mI (setM (ins (pas p.1 (l.take i)).1 x.f)), [], 0, true⟩, _] u88 u3 rfl rfl rfl rfl rfl (setM_simple _) rfl (by rw [mu_setM]; rfl) rfl ?_
    refine r_mapUpdate 1 [_, ⟨some g0, mI (setM (ins (ins (pas p.1 (l.take i)).1 x.f) x.t)), [], 0, true⟩, _] u88 u3 rfl rfl rfl rfl rfl (setM_simple _) rfl (by rw [mu_setM]; rfl) rfl ?_
    refine r_assign rfl rfl rfl (run_nil (at_bn (at_tn (at_region ?_))))
    refine r_arith (r := ((i + 1 : Nat) : Int)) rfl rfl rfl rfl (congrArg some (wi (by omega) (by omega) (by omega))) ?_
    refine r_move rfl rfl rfl (run_nil (at_tn ?_))
    exact nextL ⟨i + 1, hlt⟩ (by simp only []; omega) ⟨rfl, rfl, rfl, (look_val rfl (congrArg Value.bool (congrArg Prod.snd (pas_yes hx hcc)).symm)), rfl, rfl, rfl, trivial⟩ (weak_picks [some 0, some 1] ⟨⟨_, rfl, Blk.le_refl _⟩, ⟨_, rfl, le_same (by rw [pas_yes hx hcc])⟩, trivial⟩ rfl rfl)
   ·
    have hcc := hb4
    refine at_skip (at_bn (at_tn (at_region ?_)))
    refine r_arith (r := ((i + 1 : Nat) : Int)) rfl rfl rfl rfl (congrArg some (wi (by omega) (by omega) (by omega))) ?_
    refine r_move rfl rfl rfl (run_nil (at_tn ?_))
    exact nextL ⟨i + 1, hlt⟩ (by simp only []; omega) ⟨rfl, rfl, rfl, (look_val rfl (congrArg Value.bool (congrArg Prod.snd (pas_no hx hcc)).symm)), rfl, rfl, rfl, trivial⟩ (weak_picks [some 0, some 1] ⟨⟨_, rfl, Blk.le_refl _⟩, ⟨_, rfl, le_same (by rw [pas_no hx hcc])⟩, trivial⟩ rfl rfl)
  ·
   have hge : i = l.length := (by have := of_decide_eq_false hb3; omega)
   subst hge
   refine at_exit (at_te (at_te (at_be (at_bn (at_tn ?_)))))
   have hpe : pas p.1 (l.take l.length) = pas p.1 l := by rw [List.take_length]
   exact nextL ⟨pas p.1 (l.take l.length), hpe ▸ hI.step⟩ (by simp only [hpe]; exact hI.dec hp2) ⟨rfl, rfl, rfl, rfl, trivial⟩ (Weak.refl _)
 ·
  have hp2 : p.2 = false := hb1
  refine at_exit (at_te (at_te (at_be (at_tn (at_seq (at_region (r_move rfl rfl rfl ?_)))))))
  refine r_scall [_] [] rfl rfl rfl (c_keys (some g0)) trivial rfl (.inr fun z b hb => by rw [List.mem_singleton.1 hb]) (fun gk => ?_)
  refine r_scall [_] [2, 1] rfl rfl rfl (c_sortedM gk g0 (setM (p.1)) (m := compL l d) (by rw [setM_keys]; exact hI.sort hp2) (setM_simple _) (hI.inI hok hd) (by have := hI.len; simp [setM]; omega)) ⟨⟨_, rfl, le_share⟩, ⟨_, rfl, le_share⟩, trivial⟩ rfl (.inr fun z b hb => by rw [List.mem_singleton.1 hb]) (fun z => ?_)
  refine r_assign rfl rfl rfl (run_nil (at_tn (at_ret ?_)))
  refine at_end1 rfl (res_tmp rfl) (fun w hL => ⟨z, ?_, hL.picks [some 3] ⟨⟨_, rfl, Blk.le_refl _⟩, trivial⟩ rfl rfl⟩)
  exact rfl
end Go.Proofs.YtncogghlhlnmaaaGreatDoor
set_option linter.unusedVariables false
namespace Go.Proofs.YtncogghlhlnmaaaGreatDoor
open Go Go.RowKit Go.Via
set_option maxRecDepth 20000 in
theorem c_clock_part (l : List Ex) (a : Option Addr) (b : Option Nat) (pre : List Value) (N cap : Nat) (hc : l.length ≤ cap) (ha : l ≠ [] → a = b.map fun g => ⟨g, pre.length, none⟩) (hok : ∀ x ∈ l, okX x) (hn : l.length ≤ 100000) (d : Int) (hd : inI64 d) : SCall Tryz.prog 38 [⟨b, 49, pre ++ XLc l, N, false⟩] [.slice a l.length cap, .int .i64 d] (SR (partP l (compL l d) l.length).length) (fun x => .agg #[.slice a l.length cap, x.v, .int .i64 ((compL l d).length : Nat)]) (fun x => [⟨x.b, 3, ILc (partP l (compL l d) l.length), x.n, true⟩]) := by
 refine ⟨by kernel_rfl, fun w hL0 => ?_⟩
 refine calls_at (args := [.slice a l.length cap, .int .i64 d]) Tryz.func38 rfl (Nat.le_of_ble_eq_true rfl) hL0 ?_
 show At w ⟨41, [(0, .slice a l.length cap), (1, .int .i64 d)], [⟨b, 49, pre ++ XLc l, N, false⟩]⟩ _
 refine at_seq ?_
 refine at_base 0 rfl (fun hbase => ?_)
 refine at_region ?_
 refine r_alloc [_, _, _] 3 (fun g => [_, ⟨some g, 76, _, 3, true⟩]) rfl rfl z76 rfl rfl (fun _ => rfl) (fun g0 => ?_)
 refine run_nil (at_tn (at_seq (at_region (r_move rfl rfl rfl (r_move rfl rfl rfl ?_)))))
 refine r_scall [_, _] [0] rfl rfl rfl (c_clock_Component l a b pre N cap hc ha hok hn d hd) ⟨⟨_, rfl, Blk.le_refl _⟩, trivial⟩ rfl (.inr fun z b hb => by rw [List.mem_singleton.1 hb]) (fun zc => ?_)
 refine r_assign rfl rfl rfl (run_nil (at_tn (at_seq (at_region (r_move rfl rfl rfl (r_move rfl rfl rfl (r_lenV u33 rfl rfl rfl ?_)))))))
 refine r_build [(0, _), (2, _)] rfl rfl rfl (bd76_0_2x) ?_
 refine r_alloc [_, _, _] 3 (fun g => [_, _, _, ⟨some g, 76, _, 3, true⟩]) rfl rfl z76 rfl rfl (fun _ => rfl) (fun g1 => ?_)
 refine r_store rfl 3 0 [_, _, _, ⟨some g1, 76, _, 3, true⟩] [_, _, _] rfl rfl rfl rfl ti76 rfl rfl rfl rfl rfl ?_
 refine run_nil (at_tn (at_seq (at_seq (at_region (r_move rfl rfl rfl (r_lenV u22 rfl rfl rfl (r_move rfl rfl rfl (run_nil (at_tn (at_block ?_))))))))))
 refine enterL (nt := 41) (ι := {x : Nat × Option Nat × Nat × Nat // x.1 ≤ l.length ∧ (partP l (compL l d) x.1).length ≤ x.2.2.2 ∧ x.2.2.2 ≤ x.2.2.1}) (fun ⟨⟨i, ob, oN, oc⟩, hi, h1, h2⟩ => [(0, .slice a l.length cap), (4, .pointer (some ⟨g0, 0, none⟩)), (5, zc.v), (6, .pointer (some ⟨g1, 0, none⟩)), (18, .slice a l.length cap), (19, .int .i64 (l.length : Nat)), (20, .int .i64 (i : Nat))]) (fun ⟨⟨i, ob, oN, oc⟩, hi, h1, h2⟩ => [⟨b, 49, pre ++ XLc l, N, false⟩, ⟨some g0, 76, [.slice none 0 0, .slice none 0 0, .int .i64 0], 3, true⟩, ⟨zc.b, 3, ILc (compL l d), zc.n, true⟩, ⟨some g1, 76, [.slice a l.length cap, slv ob 0 (partP l (compL l d) i).length oc, .int .i64 ((compL l d).length : Nat)], 3, true⟩, ⟨ob, 3, ILc (partP l (compL l d) i), oN, true⟩]) (fun ⟨⟨i, ob, oN, oc⟩, hi, h1, h2⟩ => l.length - i) ⟨(0, none, 0, 0), Nat.zero_le _, Nat.le_refl _, Nat.le_refl _⟩ ⟨rfl, rfl, rfl, rfl, rfl, rfl, rfl, trivial⟩ (weak_picks [some 0, some 1, some 2, some 3, none] ⟨⟨_, rfl, Blk.le_refl _⟩, ⟨_, rfl, Blk.le_refl _⟩, ⟨_, rfl, Blk.le_refl _⟩, ⟨_, rfl, Blk.le_refl _⟩, ⟨rfl, rfl, rfl⟩, trivial⟩ rfl rfl) ?_
 rintro ⟨⟨i, ob, oN, oc⟩, hi, h1, h2⟩
 show At _ ⟨41, [(0, .slice a l.length cap), (4, .pointer (some ⟨g0, 0, none⟩)), (5, zc.v), (6, .pointer (some ⟨g1, 0, none⟩)), (18, .slice a l.length cap), (19, .int .i64 (l.length : Nat)), (20, .int .i64 (i : Nat))], [⟨b, 49, pre ++ XLc l, N, false⟩, ⟨some g0, 76, [.slice none 0 0, .slice none 0 0, .int .i64 0], 3, true⟩, ⟨zc.b, 3, ILc (compL l d), zc.n, true⟩, ⟨some g1, 76, [.slice a l.length cap, slv ob 0 (partP l (compL l d) i).length oc, .int .i64 ((compL l d).length : Nat)], 3, true⟩, ⟨ob, 3, ILc (partP l (compL l d) i), oN, true⟩]⟩ _
 replace hi : i ≤ l.length := hi
 replace h1 : (partP l (compL l d) i).length ≤ oc := h1
 replace h2 : oc ≤ oN := h2
 refine at_seq (at_region (r_cmpInt rfl rfl rfl rfl rfl (run_nil (at_tn (at_seq ?_)))))
 refine at_cond rfl (fun hb1 => ?_) (fun hb1 => ?_)
 ·
  have hlt : i < l.length := (by have := of_decide_eq_true hb1; omega)
  obtain ⟨x, hx⟩ : ∃ x, l[i]? = some x := ⟨l[i], List.getElem?_eq_getElem hlt⟩
  have hokx := hok x (List.mem_of_getElem? hx)
  obtain ⟨gb, hgb⟩ := ex_base hbase (by omega)
  replace hgb : b = some gb := hgb
  subst hgb
  obtain rfl : a = some ⟨gb, pre.length, none⟩ := ha (fun e => by rw [e] at hlt; cases hlt)
  refine at_skip (at_tn (at_seq (at_block (at_seq (at_region (r_move rfl rfl rfl ?_))))))
  refine r_indexAddr 0 (pre.length + i * 5) u22 ti49 rfl rfl rfl rfl rfl (by omega) (by omega) (pre_ne (XLc_ne (by omega))) (by show pre.length + Int.toNat _ * 5 = _; omega) ?_
  refine r_load (v := ExV x) 0 (pre.length + i * 5) _ rfl rfl rfl rfl ti49 (pre_get (XLc_get hx) rfl) rfl (by decide) rfl ?_
  refine r_alloc [_, _, _, _, _] 5 (fun g => [_, _, _, _, _, ⟨some g, 49, _, 5, true⟩]) rfl rfl z49 rfl rfl (fun _ => rfl) (fun g2 => ?_)
  refine r_assign rfl rfl rfl ?_
  refine r_store rfl 5 0 [_, _, _, _, _, ⟨some g2, 49, _, 5, true⟩] [_, _, _, _, _] rfl rfl rfl rfl ti49 rfl rfl rfl rfl rfl ?_
  refine run_nil (at_tn (at_seq (at_region (r_move rfl rfl rfl (r_fieldAddr 5 0 0 rfl rfl rfl rfl rfl ti49 rfl rfl (r_load 5 0 [_] rfl rfl rfl rfl ti3 rfl rfl rfl rfl ?_))))))
  refine r_scall0 [_, _] [2] rfl rfl rfl (c_bsearch (compL l d) zc.b zc.n zc.cap (by have := compL_len l d; omega) (compL_SS l d) x.f) ⟨⟨_, rfl, le_share⟩, trivial⟩ rfl ?_
  refine r_move rfl rfl rfl ?_
  refine r_extract (vs := [_, _]) rfl rfl rfl rfl ?_
  refine r_extract (vs := [_, _]) rfl rfl rfl rfl ?_
  refine r_assign rfl rfl rfl (r_assign rfl rfl rfl (run_nil (at_tn (at_seq (at_region (r_move rfl rfl rfl (run_nil (at_tn ?_))))))))
  refine at_cond rfl (fun hb2 => ?_) (fun hb2 => ?_)
  ·
   have hcc : (compL l d).contains x.f = true := hb2
   have hpl0 := partP_len l (compL l d) i
   refine at_region (r_fieldAddr 3 0 1 rfl rfl rfl rfl rfl ti76 rfl rfl (r_load 3 1 [_] rfl rfl rfl rfl ti33 rfl rfl rfl rfl (r_move rfl rfl rfl ?_)))
   refine r_buildSlice [(0, _)] (fun g => [_, _, _, _, _, _, ⟨some g, 3, _, 1, true⟩]) rfl rfl rfl (bs33_1) rfl (fun _ => rfl) (fun g3 => ?_)
   refine q_append (s := 1) (len := (partP l (compL l d) i).length) (n2 := 1) 4 6 (fun r => [_, _, _, _, ⟨some r.g, 3, ILc (partP l (compL l d) i ++ [(i : Int)]), r.n, true⟩, _, _]) u33 el3 rfl rfl rfl rfl rfl rfl rfl rfl rfl rfl rfl rfl (by rw [ILc_length]; omega) h1 (by show oc * 1 ≤ oN; omega) rfl (Go.Via.one_cell _ _) (by omega) (fun r => congrArg (fun c => [_, _, _, _, (⟨some r.g, 3, c, r.n, true⟩ : Blk), _, _]) (ILc_snoc _ _)) (fun r => ?_)
   refine r_fieldAddr 3 0 1 rfl rfl rfl rfl rfl ti76 rfl rfl ?_
   refine r_store rfl 3 1 [_, _, _, ⟨some g1, 76, _, 3, true⟩, _, _, _] [_, _, _] rfl rfl rfl rfl ti33 rfl rfl rfl rfl rfl ?_
   refine run_nil (at_bn (at_tn (at_region ?_)))
   refine r_arith (r := ((i + 1 : Nat) : Int)) rfl rfl rfl rfl (congrArg some (wi (by omega) (by omega) (by omega))) ?_
   refine r_move rfl rfl rfl (run_nil (at_tn ?_))
   have hpl : (partP l (compL l d) (i + 1)).length = (partP l (compL l d) i).length + 1 := by rw [partP_yes hx hcc]; simp
   exact nextL ⟨(i + 1, some r.g, r.n, r.cap), hlt, by show _ ≤ r.cap; rw [hpl]; exact r.h, by have := r.hn; show r.cap ≤ r.n; omega⟩ (by show l.length - (i + 1) < l.length - i; omega) ⟨rfl, rfl, rfl, rfl, rfl, rfl, rfl, trivial⟩ (weak_picks [some 0, some 1, some 2, some 3, some 4] ⟨⟨_, rfl, Blk.le_refl _⟩, ⟨_, rfl, Blk.le_refl _⟩, ⟨_, rfl, Blk.le_refl _⟩, ⟨_, rfl, le_same (by show Blk.mk _ _ _ _ _ = Blk.mk _ _ _ _ _; rw [hpl])⟩, ⟨_, rfl, le_same (by rw [partP_yes hx hcc])⟩, trivial⟩ rfl rfl)
  ·
   have hcc : (compL l d).contains x.f = false := hb2
   have hpl0 := partP_len l (compL l d) i
   refine at_skip (at_bn (at_tn (at_region ?_)))
   refine r_arith (r := ((i + 1 : Nat) : Int)) rfl rfl rfl rfl (congrArg some (wi (by omega) (by omega) (by omega))) ?_
   refine r_move rfl rfl rfl (run_nil (at_tn ?_))
   have hpl : (partP l (compL l d) (i + 1)).length = (partP l (compL l d) i).length := by rw [partP_no hx hcc]
   exact nextL ⟨(i + 1, ob, oN, oc), hlt, by show _ ≤ oc; rw [hpl]; exact h1, h2⟩ (by show l.length - (i + 1) < l.length - i; omega) ⟨rfl, rfl, rfl, rfl, rfl, rfl, rfl, trivial⟩ (weak_picks [some 0, some 1, some 2, some 3, some 4] ⟨⟨_, rfl, Blk.le_refl _⟩, ⟨_, rfl, Blk.le_refl _⟩, ⟨_, rfl, Blk.le_refl _⟩, ⟨_, rfl, le_same (by show Blk.mk _ _ _ _ _ = Blk.mk _ _ _ _ _; rw [hpl])⟩, ⟨_, rfl, le_same (by show Blk.mk _ _ _ _ _ = Blk.mk _ _ _ _ _; rw [partP_no hx hcc])⟩, trivial⟩ rfl rfl)
 ·
  have hge : i = l.length := (by have := of_decide_eq_false hb1; omega)
  subst hge
  refine at_exit (at_te (at_te (at_be (at_tn (at_seq (at_region (r_load 3 0 [_, _, _] rfl rfl rfl rfl ti76 rfl rfl rfl rfl ?_)))))))
  refine r_store rfl 1 0 [_, ⟨some g0, 76, _, 3, true⟩, _, _, _] [_, _, _] rfl rfl rfl rfl ti76 rfl rfl rfl rfl rfl ?_
  refine run_nil (at_tn (at_ret ?_))
  refine at_end1 rfl (res_cell 1 rfl rfl ti76 (vs := [_, _, _]) rfl rfl (Nat.le_of_ble_eq_true rfl) rfl) (fun w hL => ⟨⟨ob, oN, oc, h1⟩, ?_, hL.picks [some 4] ⟨⟨_, rfl, Blk.le_refl _⟩, trivial⟩ rfl rfl⟩)
  exact rfl
end Go.Proofs.YtncogghlhlnmaaaGreatDoor
set_option linter.unusedVariables false
namespace Go.Proofs.YtncogghlhlnmaaaGreatDoor
open Go Go.RowKit Go.Via
set_option maxRecDepth 20000 in
theorem c_clock_Weight (x : Ex) (hx : okX x) : PCall Tryz.prog 32 #[ExV x] (.int .i64 (wt x)) := by
 have hw := wt_bound hx
 obtain ⟨_, _, _, _, _, _, _, _, _, _, _⟩ := hx
 refine ⟨by kernel_rfl, fun w => ?_⟩
 refine calls_at (args := [ExV x]) Tryz.func32 rfl (Nat.le_of_ble_eq_true rfl) (LRel.nil w) ?_
 show At w ⟨11, [(0, ExV x)], []⟩ _
 refine at_seq (at_region ?_)
 refine r_box [_, _, _, _, _] 5 (fun g => [⟨some g, 49, _, 5, true⟩]) rfl rfl rfl rfl rfl (fun _ => rfl) (fun g0 => ?_)
 refine r_assign rfl rfl rfl (run_nil (at_tn (at_seq (at_region (r_fieldAddr 0 0 3 rfl rfl rfl rfl rfl ti49 rfl rfl (r_load 0 3 [_] rfl rfl rfl rfl ti3 rfl rfl rfl rfl (r_fieldAddr 0 0 2 rfl rfl rfl rfl rfl ti49 rfl rfl (r_load 0 2 [_] rfl rfl rfl rfl ti3 rfl rfl rfl rfl ?_))))))))
 refine r_arith (r := x.r - x.s) rfl rfl rfl rfl (congrArg some (wi (by omega) (by omega) rfl)) ?_
 refine r_fieldAddr 0 0 4 rfl rfl rfl rfl rfl ti49 rfl rfl (r_load 0 4 [_] rfl rfl rfl rfl ti3 rfl rfl rfl rfl ?_)
 refine r_arith (r := wt x) rfl rfl rfl rfl (congrArg some (wi (by omega) (by omega) rfl)) ?_
 refine r_assign rfl rfl rfl (run_nil (at_tn (at_ret ?_)))
 refine at_end1 rfl (res_tmp rfl) (fun w hL => ⟨?_, hL.below⟩)
 exact rfl
set_option maxRecDepth 20000 in
theorem c_law_weight (x : Ex) (hx : okX x) : PCall Tryz.prog 33 #[ExV x] (.int .i64 (wt x)) := by
 have hw := wt_bound hx
 obtain ⟨_, _, _, _, _, _, _, _, _, _, _⟩ := hx
 refine ⟨by kernel_rfl, fun w => ?_⟩
 refine calls_at (args := [ExV x]) Tryz.func33 rfl (Nat.le_of_ble_eq_true rfl) (LRel.nil w) ?_
 show At w ⟨11, [(0, ExV x)], []⟩ _
 refine at_seq (at_region ?_)
 refine r_box [_, _, _, _, _] 5 (fun g => [⟨some g, 49, _, 5, true⟩]) rfl rfl rfl rfl rfl (fun _ => rfl) (fun g0 => ?_)
 refine r_assign rfl rfl rfl (run_nil (at_tn (at_seq (at_region (r_fieldAddr 0 0 3 rfl rfl rfl rfl rfl ti49 rfl rfl (r_load 0 3 [_] rfl rfl rfl rfl ti3 rfl rfl rfl rfl (r_fieldAddr 0 0 2 rfl rfl rfl rfl rfl ti49 rfl rfl (r_load 0 2 [_] rfl rfl rfl rfl ti3 rfl rfl rfl rfl ?_))))))))
 refine r_arith (r := x.r - x.s) rfl rfl rfl rfl (congrArg some (wi (by omega) (by omega) rfl)) ?_
 refine r_fieldAddr 0 0 4 rfl rfl rfl rfl rfl ti49 rfl rfl (r_load 0 4 [_] rfl rfl rfl rfl ti3 rfl rfl rfl rfl ?_)
 refine r_arith (r := wt x) rfl rfl rfl rfl (congrArg some (wi (by omega) (by omega) rfl)) ?_
 refine r_assign rfl rfl rfl (run_nil (at_tn (at_ret ?_)))
 refine at_end1 rfl (res_tmp rfl) (fun w hL => ⟨?_, hL.below⟩)
 exact rfl
end Go.Proofs.YtncogghlhlnmaaaGreatDoor
set_option linter.unusedVariables false
namespace Go.Proofs.YtncogghlhlnmaaaGreatDoor
open Go Go.RowKit Go.Via
set_option maxRecDepth 20000 in
set_option maxHeartbeats 4000000 in
theorem c_graph_from (l : List Ex) (a : Option Addr) (b : Option Nat) (pre : List Value) (N cap : Nat) (hc : l.length ≤ cap) (ha : l ≠ [] → a = b.map fun g => ⟨g, pre.length, none⟩) (hok : ∀ x ∈ l, okX x) (hn : l.length ≤ 1000) (sm : List Int) (bs : Option Nat) (Ns cs : Nat) (hsc : sm.length ≤ cs) (hsn : sm.length ≤ 1000) (hsm : ∀ k ∈ sm, 0 ≤ k ∧ k < (l.length : Nat)) (size : Nat) (hsz : size ≤ 3000) (ds : List Int) (bd : Option Nat) (Nd cd : Nat) (hdc : ds.length ≤ cd) (hdn : ds.length ≤ 1000000) : SCall Tryz.prog 39 [⟨b, 49, pre ++ XLc l, N, false⟩, ⟨bs, 3, ILc sm, Ns, false⟩, ⟨bd, 3, ILc ds, Nd, false⟩] [.agg #[.slice a l.length cap, slv bs 0 sm.length cs, .int .i64 (size : Nat)], slv bd 0 ds.length cd] (Nat × Nat) (fun x => .tuple #[.agg #[.map (some x.1), .map (some x.2)], .int .i64 (fromF l sm size ds).2.2]) (fun x => [⟨some x.1, mI (mapI ((fromF l sm size ds).1)), [], 0, true⟩, ⟨some x.2, mI (mapI ((fromF l sm size ds).2.1)), [], 0, true⟩]) := by
 refine ⟨by kernel_rfl, fun w hL0 => ?_⟩
 refine calls_at (args := [.agg #[.slice a l.length cap, slv bs 0 sm.length cs, .int .i64 (size : Nat)], slv bd 0 ds.length cd]) Tryz.func39 rfl (Nat.le_of_ble_eq_true rfl) hL0 ?_
 show At w ⟨144, [(0, .agg #[.slice a l.length cap, slv bs 0 sm.length cs, .int .i64 (size : Nat)]), (1, slv bd 0 ds.length cd)], [⟨b, 49, pre ++ XLc l, N, false⟩, ⟨bs, 3, ILc sm, Ns, false⟩, ⟨bd, 3, ILc ds, Nd, false⟩]⟩ _
 refine at_seq ?_
 refine at_base 0 rfl (fun hbase => ?_)
 refine at_base 1 rfl (fun hbase1 => ?_)
 refine at_base 2 rfl (fun hbase2 => ?_)
 refine at_region ?_
 refine r_box [_, _, _] 3 (fun g => [_, _, _, ⟨some g, 76, _, 3, true⟩]) rfl rfl rfl rfl rfl (fun _ => rfl) (fun g0 => ?_)
 refine r_alloc [_, _] 2 (fun g => [_, _, _, _, ⟨some g, 80, _, 2, true⟩]) rfl rfl z80 rfl rfl (fun _ => rfl) (fun g1 => ?_)
 refine r_assign rfl rfl rfl (run_nil (at_tn (at_seq (at_region ?_))))
 refine r_makeMap (fun g => [_, _, _, _, _, ⟨some g, mI [], [], 0, true⟩]) rfl rfl (fun _ => rfl) (fun g2 => ?_)
 refine r_makeMap (fun g => [_, _, _, _, _, _, ⟨some g, mI [], [], 0, true⟩]) rfl rfl (fun _ => rfl) (fun g3 => ?_)
 refine r_build [(0, _), (1, _)] rfl rfl rfl (bd80_2) ?_
 refine r_alloc [_, _] 2 (fun g => [_, _, _, _, _, _, _, ⟨some g, 80, _, 2, true⟩]) rfl rfl z80 rfl rfl (fun _ => rfl) (fun g4 => ?_)
 refine r_store rfl 7 0 [_, _, _, _, _, _, _, ⟨some g4, 80, _, 2, true⟩] [_, _] rfl rfl rfl rfl ti80 rfl rfl rfl rfl rfl ?_
 refine run_nil (at_tn (at_seq (at_seq (at_region (r_move rfl rfl rfl (r_lenV u33 rfl rfl rfl (r_move rfl rfl rfl (run_nil (at_tn (at_block ?_))))))))))
 refine enterL (nt := 144) (ι := {i : Nat // i ≤ ds.length}) (fun ⟨i, hi⟩ => [(2, .pointer (some ⟨g0, 0, none⟩)), (4, .pointer (some ⟨g1, 0, none⟩)), (6, .pointer (some ⟨g4, 0, none⟩)), (25, slv bd 0 ds.length cd), (26, .int .i64 (ds.length : Nat)), (27, .int .i64 (i : Nat))]) (fun ⟨i, hi⟩ => [⟨b, 49, pre ++ XLc l, N, false⟩, ⟨bs, 3, ILc sm, Ns, false⟩, ⟨bd, 3, ILc ds, Nd, false⟩, ⟨some g0, 76, [.slice a l.length cap, slv bs 0 sm.length cs, .int .i64 (size : Nat)], 3, true⟩, ⟨some g1, 80, [.map none, .map none], 2, true⟩, ⟨some g2, mI (mapI (zeroS (ds.take i))), [], 0, true⟩, ⟨some g3, mI (mapI ([])), [], 0, true⟩, ⟨some g4, 80, [.map (some g2), .map (some g3)], 2, true⟩]) (fun ⟨i, hi⟩ => ds.length - i) ⟨0, Nat.zero_le _⟩ ⟨rfl, rfl, rfl, rfl, rfl, rfl, trivial⟩ (Weak.refl _) ?_
 rintro ⟨i, hi⟩
 show At _ ⟨144, [(2, .pointer (some ⟨g0, 0, none⟩)), (4, .pointer (some ⟨g1, 0, none⟩)), (6, .pointer (some ⟨g4, 0, none⟩)), (25, slv bd 0 ds.length cd), (26, .int .i64 (ds.length : Nat)), (27, .int .i64 (i : Nat))], [⟨b, 49, pre ++ XLc l, N, false⟩, ⟨bs, 3, ILc sm, Ns, false⟩, ⟨bd, 3, ILc ds, Nd, false⟩, ⟨some g0, 76, [.slice a l.length cap, slv bs 0 sm.length cs, .int .i64 (size : Nat)], 3, true⟩, ⟨some g1, 80, [.map none, .map none], 2, true⟩, ⟨some g2, mI (mapI (zeroS (ds.take i))), [], 0, true⟩, ⟨some g3, mI (mapI ([])), [], 0, true⟩, ⟨some g4, 80, [.map (some g2), .map (some g3)], 2, true⟩]⟩ _
 refine at_seq (at_region (r_cmpInt rfl rfl rfl rfl rfl (run_nil (at_tn (at_seq ?_)))))
 refine at_cond rfl (fun hb1 => ?_) (fun hb1 => ?_)
 ·
  have hlt : i < ds.length := (by have := of_decide_eq_true hb1; omega)
  obtain ⟨dd, hdd⟩ : ∃ dd, ds[i]? = some dd := ⟨ds[i], List.getElem?_eq_getElem hlt⟩
  obtain ⟨gd_, hgd⟩ := il_base (pre := []) hbase2 (by omega)
  replace hgd : bd = some gd_ := hgd
  subst hgd
  refine at_skip (at_tn (at_seq (at_block (at_seq (at_region ?_)))))
  refine r_indexAddr 2 (i * 1) u33 ti3 rfl rfl rfl rfl rfl (by omega) (by omega) (ILc_ne (by omega)) (by show 0 + Int.toNat _ * 1 = _; omega) ?_
  refine r_load (v := .int .i64 dd) 2 (i * 1) _ rfl rfl rfl rfl ti3 (ILc_get hdd) rfl (by decide) rfl ?_
  refine r_assign rfl rfl rfl (run_nil (at_tn (at_region (r_fieldAddr 7 0 0 rfl rfl rfl rfl rfl ti80 rfl rfl (r_load 7 0 [_] rfl rfl rfl rfl ti78 rfl rfl rfl rfl (r_move rfl rfl rfl ?_))))))
  refine r_mapUpdate 5 [_, _, _, _, _, ⟨some g2, mI (mapI (sput (zeroS (ds.take i)) dd 0)), [], 0, true⟩, _, _] u78 u3 rfl rfl rfl rfl rfl (mapI_simple _) rfl (by rw [mu_mapI]; rfl) rfl ?_
  refine run_nil (at_bn (at_tn (at_region ?_)))
  refine r_arith (r := ((i + 1 : Nat) : Int)) rfl rfl rfl rfl (congrArg some (wi (by omega) (by omega) (by omega))) ?_
  refine r_move rfl rfl rfl (run_nil (at_tn ?_))
  exact nextL ⟨i + 1, hlt⟩ (by simp only []; omega) ⟨rfl, rfl, rfl, rfl, rfl, rfl, trivial⟩ (weak_picks [some 0, some 1, some 2, some 3, some 4, some 5, some 6, some 7] ⟨⟨_, rfl, Blk.le_refl _⟩, ⟨_, rfl, Blk.le_refl _⟩, ⟨_, rfl, Blk.le_refl _⟩, ⟨_, rfl, Blk.le_refl _⟩, ⟨_, rfl, Blk.le_refl _⟩, ⟨_, rfl, le_same (by rw [zeroS_step hdd])⟩, ⟨_, rfl, Blk.le_refl _⟩, ⟨_, rfl, Blk.le_refl _⟩, trivial⟩ rfl rfl)
 ·
  have hge : i = ds.length := (by have := of_decide_eq_false hb1; omega)
  subst hge
  refine at_exit (at_te (at_te (at_be (at_tn (at_seq (at_seq (at_region (r_fieldAddr 3 0 2 rfl rfl rfl rfl rfl ti76 rfl rfl (r_load 3 2 [_] rfl rfl rfl rfl ti3 rfl rfl rfl rfl ?_)))))))))
  refine r_arith (r := ((size + 1 : Nat) : Int)) rfl rfl rfl rfl (congrArg some (wi (by omega) (by omega) (by omega))) ?_
  refine r_move rfl rfl rfl (run_nil (at_tn (at_block ?_)))
  refine enterL (nt := 144) (ι := {x : Nat × SIm × SIm // x.1 ≤ size + 1 ∧ bndS (x.1 * 1000) x.2.1 ∧ fromR l sm (size + 1) (zeroS ds) [] = fromR l sm (size + 1 - x.1) x.2.1 x.2.2}) (fun ⟨⟨j, s, b_⟩, hj, hB, hR⟩ => [(2, .pointer (some ⟨g0, 0, none⟩)), (4, .pointer (some ⟨g1, 0, none⟩)), (6, .pointer (some ⟨g4, 0, none⟩)), (37, .int .i64 ((size + 1 : Nat) : Int)), (38, .int .i64 (j : Nat))]) (fun ⟨⟨j, s, b_⟩, hj, hB, hR⟩ => [⟨b, 49, pre ++ XLc l, N, false⟩, ⟨bs, 3, ILc sm, Ns, false⟩, ⟨bd, 3, ILc ds, Nd, false⟩, ⟨some g0, 76, [.slice a l.length cap, slv bs 0 sm.length cs, .int .i64 (size : Nat)], 3, true⟩, ⟨some g1, 80, [.map none, .map none], 2, true⟩, ⟨some g2, mI (mapI (s)), [], 0, true⟩, ⟨some g3, mI (mapI (b_)), [], 0, true⟩, ⟨some g4, 80, [.map (some g2), .map (some g3)], 2, true⟩]) (fun ⟨⟨j, s, b_⟩, hj, hB, hR⟩ => size + 1 - j) ⟨(0, zeroS (ds.take ds.length), []), Nat.zero_le _, (by rw [List.take_length]; exact bndS.zeroS ds), (by rw [List.take_length]; rfl)⟩ ⟨rfl, rfl, rfl, rfl, rfl, trivial⟩ (Weak.refl _) ?_
  rintro ⟨⟨j, s, b_⟩, hj, hB, hR⟩
  show At _ ⟨144, [(2, .pointer (some ⟨g0, 0, none⟩)), (4, .pointer (some ⟨g1, 0, none⟩)), (6, .pointer (some ⟨g4, 0, none⟩)), (37, .int .i64 ((size + 1 : Nat) : Int)), (38, .int .i64 (j : Nat))], [⟨b, 49, pre ++ XLc l, N, false⟩, ⟨bs, 3, ILc sm, Ns, false⟩, ⟨bd, 3, ILc ds, Nd, false⟩, ⟨some g0, 76, [.slice a l.length cap, slv bs 0 sm.length cs, .int .i64 (size : Nat)], 3, true⟩, ⟨some g1, 80, [.map none, .map none], 2, true⟩, ⟨some g2, mI (mapI (s)), [], 0, true⟩, ⟨some g3, mI (mapI (b_)), [], 0, true⟩, ⟨some g4, 80, [.map (some g2), .map (some g3)], 2, true⟩]⟩ _
  replace hj : j ≤ size + 1 := hj
  replace hB : bndS (j * 1000) s := hB
  replace hR : fromR l sm (size + 1) (zeroS ds) [] = fromR l sm (size + 1 - j) s b_ := hR
  refine at_seq (at_region (r_cmpInt rfl rfl rfl rfl rfl (run_nil (at_tn (at_seq ?_)))))
  refine at_cond rfl (fun hb3 => ?_) (fun hb3 => ?_)
  ·
   have hlt1 : j < size + 1 := (by have := of_decide_eq_true hb3; omega)
   refine at_skip (at_tn (at_seq (at_block (at_seq (at_region (r_assign rfl rfl rfl (run_nil (at_tn (at_seq (at_seq (at_region (r_fieldAddr 3 0 1 rfl rfl rfl rfl rfl ti76 rfl rfl (r_load 3 1 [_] rfl rfl rfl rfl ti33 rfl rfl rfl rfl (r_lenV u33 rfl rfl rfl (r_move rfl rfl rfl (run_nil (at_tn (at_block ?_))))))))))))))))))
   refine enterL (nt := 144) (ι := {i : Nat // i ≤ sm.length}) (fun ⟨i, hi⟩ => [(2, .pointer (some ⟨g0, 0, none⟩)), (4, .pointer (some ⟨g1, 0, none⟩)), (6, .pointer (some ⟨g4, 0, none⟩)), (37, .int .i64 ((size + 1 : Nat) : Int)), (38, .int .i64 (j : Nat)), (9, .int .i64 (passR l (sm.take i) (s, b_, -1)).2.2), (41, slv bs 0 sm.length cs), (42, .int .i64 (sm.length : Nat)), (43, .int .i64 (i : Nat))]) (fun ⟨i, hi⟩ => [⟨b, 49, pre ++ XLc l, N, false⟩, ⟨bs, 3, ILc sm, Ns, false⟩, ⟨bd, 3, ILc ds, Nd, false⟩, ⟨some g0, 76, [.slice a l.length cap, slv bs 0 sm.length cs, .int .i64 (size : Nat)], 3, true⟩, ⟨some g1, 80, [.map none, .map none], 2, true⟩, ⟨some g2, mI (mapI ((passR l (sm.take i) (s, b_, -1)).1)), [], 0, true⟩, ⟨some g3, mI (mapI ((passR l (sm.take i) (s, b_, -1)).2.1)), [], 0, true⟩, ⟨some g4, 80, [.map (some g2), .map (some g3)], 2, true⟩]) (fun ⟨i, hi⟩ => sm.length - i) ⟨0, Nat.zero_le _⟩ ⟨rfl, rfl, rfl, rfl, rfl, rfl, rfl, rfl, rfl, trivial⟩ (Weak.refl _) ?_
   rintro ⟨i, hi⟩
   show At _ ⟨144, [(2, .pointer (some ⟨g0, 0, none⟩)), (4, .pointer (some ⟨g1, 0, none⟩)), (6, .pointer (some ⟨g4, 0, none⟩)), (37, .int .i64 ((size + 1 : Nat) : Int)), (38, .int .i64 (j : Nat)), (9, .int .i64 (passR l (sm.take i) (s, b_, -1)).2.2), (41, slv bs 0 sm.length cs), (42, .int .i64 (sm.length : Nat)), (43, .int .i64 (i : Nat))], [⟨b, 49, pre ++ XLc l, N, false⟩, ⟨bs, 3, ILc sm, Ns, false⟩, ⟨bd, 3, ILc ds, Nd, false⟩, ⟨some g0, 76, [.slice a l.length cap, slv bs 0 sm.length cs, .int .i64 (size : Nat)], 3, true⟩, ⟨some g1, 80, [.map none, .map none], 2, true⟩, ⟨some g2, mI (mapI ((passR l (sm.take i) (s, b_, -1)).1)), [], 0, true⟩, ⟨some g3, mI (mapI ((passR l (sm.take i) (s, b_, -1)).2.1)), [], 0, true⟩, ⟨some g4, 80, [.map (some g2), .map (some g3)], 2, true⟩]⟩ _
   refine at_seq (at_region (r_cmpInt rfl rfl rfl rfl rfl (run_nil (at_tn (at_seq ?_)))))
   refine at_cond rfl (fun hb5 => ?_) (fun hb5 => ?_)
   ·
    have hlt : i < sm.length := (by have := of_decide_eq_true hb5; omega)
    obtain ⟨k, hk⟩ : ∃ k, sm[i]? = some k := ⟨sm[i], List.getElem?_eq_getElem hlt⟩
    obtain ⟨hk0, hk1⟩ := hsm k (List.mem_of_getElem? hk)
    have hk2 : k.toNat < l.length := by omega
    obtain ⟨x, hx⟩ : ∃ x, l[k.toNat]? = some x := ⟨_, List.getElem?_eq_getElem hk2⟩
    have hokx := hok x (List.mem_of_getElem? hx)
    have hwb := wt_bound hokx
    obtain ⟨gb, hgb⟩ := ex_base hbase (by omega)
    replace hgb : b = some gb := hgb
    subst hgb
    obtain rfl : a = some ⟨gb, pre.length, none⟩ := ha (fun e => by rw [e] at hk2; cases hk2)
    obtain ⟨gs, hgs⟩ := il_base (pre := []) hbase1 (by omega)
    replace hgs : bs = some gs := hgs
    subst hgs
    have hgb_ := ((bndS.pass (l := l) hok (sm := sm.take i) (st := (s, b_, -1)) hB).get x.f)
    have htl : (sm.take i).length ≤ 1000 := by rw [List.length_take]; omega
    refine at_skip (at_tn (at_seq (at_block (at_seq (at_region ?_)))))
    refine r_indexAddr 1 (i * 1) u33 ti3 rfl rfl rfl rfl rfl (by omega) (by omega) (ILc_ne (by omega)) (by show 0 + Int.toNat _ * 1 = _; omega) ?_
    refine r_load (v := .int .i64 k) 1 (i * 1) _ rfl rfl rfl rfl ti3 (ILc_get hk) rfl (by decide) rfl ?_
    refine r_assign rfl rfl rfl (run_nil (at_tn (at_seq (at_region (r_fieldAddr 3 0 0 rfl rfl rfl rfl rfl ti76 rfl rfl (r_load 3 0 [_] rfl rfl rfl rfl ti22 rfl rfl rfl rfl (r_move rfl rfl rfl ?_)))))))
    refine r_indexAddr 0 (pre.length + k.toNat * 5) u22 ti49 rfl rfl rfl rfl rfl (by omega) (by omega) (pre_ne (XLc_ne (by omega))) (by show pre.length + Int.toNat _ * 5 = _; omega) ?_
    refine r_load (v := ExV x) 0 (pre.length + k.toNat * 5) _ rfl rfl rfl rfl ti49 (pre_get (XLc_get hx) rfl) rfl (by decide) rfl ?_
    refine r_alloc [_, _, _, _, _] 5 (fun g => [_, _, _, _, _, _, _, _, ⟨some g, 49, _, 5, true⟩]) rfl rfl z49 rfl rfl (fun _ => rfl) (fun g5 => ?_)
    refine r_store rfl 8 0 [_, _, _, _, _, _, _, _, ⟨some g5, 49, _, 5, true⟩] [_, _, _, _, _] rfl rfl rfl rfl ti49 rfl rfl rfl rfl rfl ?_
    refine run_nil (at_tn (at_seq (at_region (r_fieldAddr 7 0 0 rfl rfl rfl rfl rfl ti80 rfl rfl (r_load 7 0 [_] rfl rfl rfl rfl ti78 rfl rfl rfl rfl (r_fieldAddr 8 0 0 rfl rfl rfl rfl rfl ti49 rfl rfl (r_load 8 0 [_] rfl rfl rfl rfl ti3 rfl rfl rfl rfl ?_)))))))
    refine r_lookupOk (v := .int .i64 ((sget (passR l (sm.take i) (s, b_, -1)).1 x.f).getD 0)) (ok := (sget (passR l (sm.take i) (s, b_, -1)).1 x.f).isSome) 5 u78 u3 zz3 rfl rfl rfl rfl rfl (mapI_simple _) (mg_mapI0 _ _) (mg_mapIok _ _) rfl ?_
    refine r_move rfl rfl rfl ?_
    refine r_extract (vs := [_, _]) rfl rfl rfl rfl ?_
    refine r_extract (vs := [_, _]) rfl rfl rfl rfl ?_
    refine r_assign rfl rfl rfl (r_assign rfl rfl rfl (run_nil (at_tn (at_seq (at_region (r_fieldAddr 7 0 0 rfl rfl rfl rfl rfl ti80 rfl rfl (r_load 7 0 [_] rfl rfl rfl rfl ti78 rfl rfl rfl rfl (r_fieldAddr 8 0 1 rfl rfl rfl rfl rfl ti49 rfl rfl (r_load 8 1 [_] rfl rfl rfl rfl ti3 rfl rfl rfl rfl ?_)))))))))
    refine r_lookupOk (v := .int .i64 ((sget (passR l (sm.take i) (s, b_, -1)).1 x.t).getD 0)) (ok := (sget (passR l (sm.take i) (s, b_, -1)).1 x.t).isSome) 5 u78 u3 zz3 rfl rfl rfl rfl rfl (mapI_simple _) (mg_mapI0 _ _) (mg_mapIok _ _) rfl ?_
    refine r_move rfl rfl rfl ?_
    refine r_extract (vs := [_, _]) rfl rfl rfl rfl ?_
    refine r_extract (vs := [_, _]) rfl rfl rfl rfl ?_
    refine r_assign rfl rfl rfl (r_assign rfl rfl rfl (run_nil (at_tn (at_seq (at_region (r_move rfl rfl rfl (r_move rfl rfl rfl ?_)))))))
    refine r_split 69 rfl (fun hb6 => ?_) (fun hb6 => ?_)
    ·
     have h69 := hb6
     refine r_move rfl rfl rfl (r_not rfl rfl rfl (r_move rfl rfl rfl ?_))
     refine r_split 72 rfl (fun hb7 => ?_) (fun hb7 => ?_)
     ·
      have h72 : (sget (passR l (sm.take i) (s, b_, -1)).1 x.t).isSome = false := by simpa using hb7
      have hcan := canR_nt h69 h72
      refine r_no rfl rfl rfl (r_no rfl rfl rfl (r_no rfl rfl rfl (r_no rfl rfl rfl (r_no rfl rfl rfl (r_no rfl rfl rfl (r_pickT rfl rfl rfl rfl (r_pickT rfl rfl rfl rfl (run_nil (at_tn (at_condT rfl ?_))))))))))
      refine at_drawn (l' := [⟨_,_,_,_,_,_⟩, ⟨_,_,_,_,_,_⟩, ⟨_,_,_,_,_,_⟩, ⟨_,_,_,_,_,_⟩, ⟨_,_,_,_,_,_⟩, ⟨_,_,_,_,_,_⟩, ⟨_,_,_,_,_,_⟩, ⟨_,_,_,_,_,_⟩, ⟨_,_,_,_,_,_⟩, ⟨_,_,_,_,_,_⟩, ⟨_,_,_,_,_,_⟩, ⟨_,_,_,_,_,_⟩, ⟨_,_,_,_,_,_⟩, ⟨_,_,_,_,_,_⟩, ⟨_,_,_,_,_,_⟩, ⟨_,_,_,_,_,_⟩, ⟨_,_,_,_,_,_⟩, ⟨_,_,_,_,_,_⟩, ⟨_,_,_,_,_,_⟩]) [5, 6] [0, 1, 2, 3, 4, 5, 6, 7, 8, 9, 12, 13, 10, 11, 14, 15, 16, 17, 18] mixed (by kernel_rfl) rfl (by kernel_rfl) ?_
      refine r_fieldAddr 7 0 0 rfl rfl rfl rfl rfl ti80 rfl rfl (r_load 7 0 [_] rfl rfl rfl rfl ti78 rfl rfl rfl rfl (r_fieldAddr 8 0 1 rfl rfl rfl rfl rfl ti49 rfl rfl (r_load 8 1 [_] rfl rfl rfl rfl ti3 rfl rfl rfl rfl (r_fieldAddr 7 0 1 rfl rfl rfl rfl rfl ti80 rfl rfl (r_load 7 1 [_] rfl rfl rfl rfl ti78 rfl rfl rfl rfl (r_fieldAddr 8 0 1 rfl rfl rfl rfl rfl ti49 rfl rfl (r_load 8 1 [_] rfl rfl rfl rfl ti3 rfl rfl rfl rfl (r_move rfl rfl rfl (r_load 8 0 [_, _, _, _, _] rfl rfl rfl rfl ti49 rfl rfl rfl rfl (r_move rfl rfl rfl (r_move rfl rfl rfl ?_)))))))))))
      refine r_pcall [_] rfl rfl rfl (c_clock_Weight x hokx) ?_
      refine r_arith (r := (((sget (passR l (sm.take i) (s, b_, -1)).1 x.f).getD 0) + wt x)) rfl rfl rfl rfl (congrArg some (wi (by omega) (by omega) rfl)) ?_
      refine r_mapEntry (u := .int .i64 ((sget (passR l (sm.take i) (s, b_, -1)).1 x.t).getD 0)) 5 (fun q => [_, _, _, _, _, ⟨some g2, mQI q x.t (mapI (sput (passR l (sm.take i) (s, b_, -1)).1 x.t ((sget (passR l (sm.take i) (s, b_, -1)).1 x.t).getD 0))), [], 0, true⟩, _, _, _]) rfl u78 u3 zz3 rfl rfl rfl rfl rfl (mapI_simple _) (mg_mapI0 _ _) rfl (fun q => by rw [mu_mapI]; rfl) rfl (fun q => ?_)
      refine r_extract (vs := [_, _]) rfl rfl rfl rfl ?_
      refine r_entryStore 5 [_, _, _, _, _, ⟨some g2, mI (mapI (sput (passR l (sm.take i) (s, b_, -1)).1 x.t (((sget (passR l (sm.take i) (s, b_, -1)).1 x.f).getD 0) + wt x))), [], 0, true⟩, _, _, _] rfl rfl rfl rfl rfl (mapI_simple _) rfl (by rw [mu_mapI, sput_sput]; rfl) rfl ?_
      refine r_mapUpdate 6 [_, _, _, _, _, _, ⟨some g3, mI (mapI (sput (passR l (sm.take i) (s, b_, -1)).2.1 x.t k)), [], 0, true⟩, _, _] u78 u3 rfl rfl rfl rfl rfl (mapI_simple _) rfl (by rw [mu_mapI]; rfl) rfl ?_
      refine r_assign rfl rfl rfl (run_nil (at_bn (at_tn (at_region ?_))))
      refine r_arith (r := ((i + 1 : Nat) : Int)) rfl rfl rfl rfl (congrArg some (wi (by omega) (by omega) (by omega))) ?_
      refine r_move rfl rfl rfl (run_nil (at_tn ?_))
      exact nextL ⟨i + 1, hlt⟩ (by simp only []; omega) ⟨rfl, rfl, rfl, rfl, rfl, (look_val rfl (by rw [passR_yes hk hx hcan])), rfl, rfl, rfl, trivial⟩ (weak_picks [some 0, some 1, some 2, some 3, some 4, some 5, some 6, some 7] ⟨⟨_, rfl, Blk.le_refl _⟩, ⟨_, rfl, Blk.le_refl _⟩, ⟨_, rfl, Blk.le_refl _⟩, ⟨_, rfl, Blk.le_refl _⟩, ⟨_, rfl, Blk.le_refl _⟩, ⟨_, rfl, le_same (by rw [passR_yes hk hx hcan])⟩, ⟨_, rfl, le_same (by rw [passR_yes hk hx hcan])⟩, ⟨_, rfl, Blk.le_refl _⟩, trivial⟩ rfl rfl)
     ·
      have h72 : (sget (passR l (sm.take i) (s, b_, -1)).1 x.t).isSome = true := by simpa using hb7
      refine r_move rfl rfl rfl (r_load 8 0 [_, _, _, _, _] rfl rfl rfl rfl ti49 rfl rfl rfl rfl ?_)
      refine r_pcall [_] rfl rfl rfl (c_clock_Weight x hokx) ?_
      refine r_arith (r := (((sget (passR l (sm.take i) (s, b_, -1)).1 x.f).getD 0) + wt x)) rfl rfl rfl rfl (congrArg some (wi (by omega) (by omega) rfl)) ?_
      refine r_move rfl rfl rfl (r_cmpInt rfl rfl rfl rfl rfl (r_pickF rfl rfl rfl rfl (r_pickT rfl rfl rfl rfl (run_nil (at_tn ?_)))))
      refine at_cond rfl (fun hb8 => ?_) (fun hb8 => ?_)
      ·
       have hcan := canR_lt h69 h72 hb8
       refine at_drawn (l' := [⟨_,_,_,_,_,_⟩, ⟨_,_,_,_,_,_⟩, ⟨_,_,_,_,_,_⟩, ⟨_,_,_,_,_,_⟩, ⟨_,_,_,_,_,_⟩, ⟨_,_,_,_,_,_⟩, ⟨_,_,_,_,_,_⟩, ⟨_,_,_,_,_,_⟩, ⟨_,_,_,_,_,_⟩, ⟨_,_,_,_,_,_⟩, ⟨_,_,_,_,_,_⟩, ⟨_,_,_,_,_,_⟩, ⟨_,_,_,_,_,_⟩, ⟨_,_,_,_,_,_⟩, ⟨_,_,_,_,_,_⟩, ⟨_,_,_,_,_,_⟩, ⟨_,_,_,_,_,_⟩, ⟨_,_,_,_,_,_⟩, ⟨_,_,_,_,_,_⟩]) [5, 6] [0, 1, 2, 3, 4, 5, 6, 7, 8, 9, 12, 13, 10, 11, 14, 15, 16, 17, 18] mixed (by kernel_rfl) rfl (by kernel_rfl) ?_
       refine r_fieldAddr 7 0 0 rfl rfl rfl rfl rfl ti80 rfl rfl (r_load 7 0 [_] rfl rfl rfl rfl ti78 rfl rfl rfl rfl (r_fieldAddr 8 0 1 rfl rfl rfl rfl rfl ti49 rfl rfl (r_load 8 1 [_] rfl rfl rfl rfl ti3 rfl rfl rfl rfl (r_fieldAddr 7 0 1 rfl rfl rfl rfl rfl ti80 rfl rfl (r_load 7 1 [_] rfl rfl rfl rfl ti78 rfl rfl rfl rfl (r_fieldAddr 8 0 1 rfl rfl rfl rfl rfl ti49 rfl rfl (r_load 8 1 [_] rfl rfl rfl rfl ti3 rfl rfl rfl rfl (r_move rfl rfl rfl (r_load 8 0 [_, _, _, _, _] rfl rfl rfl rfl ti49 rfl rfl rfl rfl (r_move rfl rfl rfl (r_move rfl rfl rfl ?_)))))))))))
       refine r_pcall [_] rfl rfl rfl (c_clock_Weight x hokx) ?_
       refine r_arith (r := (((sget (passR l (sm.take i) (s, b_, -1)).1 x.f).getD 0) + wt x)) rfl rfl rfl rfl (congrArg some (wi (by omega) (by omega) rfl)) ?_
       refine r_mapEntry (u := .int .i64 ((sget (passR l (sm.take i) (s, b_, -1)).1 x.t).getD 0)) 5 (fun q => [_, _, _, _, _, ⟨some g2, mQI q x.t (mapI (sput (passR l (sm.take i) (s, b_, -1)).1 x.t ((sget (passR l (sm.take i) (s, b_, -1)).1 x.t).getD 0))), [], 0, true⟩, _, _, _]) rfl u78 u3 zz3 rfl rfl rfl rfl rfl (mapI_simple _) (mg_mapI0 _ _) rfl (fun q => by rw [mu_mapI]; rfl) rfl (fun q => ?_)
       refine r_extract (vs := [_, _]) rfl rfl rfl rfl ?_
       refine r_entryStore 5 [_, _, _, _, _, ⟨some g2, mI (mapI (sput (passR l (sm.take i) (s, b_, -1)).1 x.t (((sget (passR l (sm.take i) (s, b_, -1)).1 x.f).getD 0) + wt x))), [], 0, true⟩, _, _, _] rfl rfl rfl rfl rfl (mapI_simple _) rfl (by rw [mu_mapI, sput_sput]; rfl) rfl ?_
       refine r_mapUpdate 6 [_, _, _, _, _, _, ⟨some g3, mI (mapI (sput (passR l (sm.take i) (s, b_, -1)).2.1 x.t k)), [], 0, true⟩, _, _] u78 u3 rfl rfl rfl rfl rfl (mapI_simple _) rfl (by rw [mu_mapI]; rfl) rfl ?_
       refine r_assign rfl rfl rfl (run_nil (at_bn (at_tn (at_region ?_))))
       refine r_arith (r := ((i + 1 : Nat) : Int)) rfl rfl rfl rfl (congrArg some (wi (by omega) (by omega) (by omega))) ?_
       refine r_move rfl rfl rfl (run_nil (at_tn ?_))
       exact nextL ⟨i + 1, hlt⟩ (by simp only []; omega) ⟨rfl, rfl, rfl, rfl, rfl, (look_val rfl (by rw [passR_yes hk hx hcan])), rfl, rfl, rfl, trivial⟩ (weak_picks [some 0, some 1, some 2, some 3, some 4, some 5, some 6, some 7] ⟨⟨_, rfl, Blk.le_refl _⟩, ⟨_, rfl, Blk.le_refl _⟩, ⟨_, rfl, Blk.le_refl _⟩, ⟨_, rfl, Blk.le_refl _⟩, ⟨_, rfl, Blk.le_refl _⟩, ⟨_, rfl, le_same (by rw [passR_yes hk hx hcan])⟩, ⟨_, rfl, le_same (by rw [passR_yes hk hx hcan])⟩, ⟨_, rfl, Blk.le_refl _⟩, trivial⟩ rfl rfl)
      ·
       have hcan := canR_lt h69 h72 hb8
       refine at_skip (at_bn (at_tn (at_region ?_)))
       refine r_arith (r := ((i + 1 : Nat) : Int)) rfl rfl rfl rfl (congrArg some (wi (by omega) (by omega) (by omega))) ?_
       refine r_move rfl rfl rfl (run_nil (at_tn ?_))
       exact nextL ⟨i + 1, hlt⟩ (by simp only []; omega) ⟨rfl, rfl, rfl, rfl, rfl, (look_val rfl (by rw [passR_no hk hx hcan])), rfl, rfl, rfl, trivial⟩ (weak_picks [some 0, some 1, some 2, some 3, some 4, some 5, some 6, some 7] ⟨⟨_, rfl, Blk.le_refl _⟩, ⟨_, rfl, Blk.le_refl _⟩, ⟨_, rfl, Blk.le_refl _⟩, ⟨_, rfl, Blk.le_refl _⟩, ⟨_, rfl, Blk.le_refl _⟩, ⟨_, rfl, le_same (by rw [passR_no hk hx hcan])⟩, ⟨_, rfl, le_same (by rw [passR_no hk hx hcan])⟩, ⟨_, rfl, Blk.le_refl _⟩, trivial⟩ rfl rfl)
    ·
     have h69 := hb6
     have hcan := canR_nf h69
     refine r_no rfl rfl rfl (r_no rfl rfl rfl (r_no rfl rfl rfl (r_no rfl rfl rfl (r_no rfl rfl rfl (r_no rfl rfl rfl (r_no rfl rfl rfl (r_no rfl rfl rfl (r_no rfl rfl rfl (r_no rfl rfl rfl (r_pickF rfl rfl rfl rfl (run_nil (at_tn (at_condF rfl (at_skip (at_bn (at_tn (at_region ?_)))))))))))))))))
     refine r_arith (r := ((i + 1 : Nat) : Int)) rfl rfl rfl rfl (congrArg some (wi (by omega) (by omega) (by omega))) ?_
     refine r_move rfl rfl rfl (run_nil (at_tn ?_))
     exact nextL ⟨i + 1, hlt⟩ (by simp only []; omega) ⟨rfl, rfl, rfl, rfl, rfl, (look_val rfl (by rw [passR_no hk hx hcan])), rfl, rfl, rfl, trivial⟩ (weak_picks [some 0, some 1, some 2, some 3, some 4, some 5, some 6, some 7] ⟨⟨_, rfl, Blk.le_refl _⟩, ⟨_, rfl, Blk.le_refl _⟩, ⟨_, rfl, Blk.le_refl _⟩, ⟨_, rfl, Blk.le_refl _⟩, ⟨_, rfl, Blk.le_refl _⟩, ⟨_, rfl, le_same (by rw [passR_no hk hx hcan])⟩, ⟨_, rfl, le_same (by rw [passR_no hk hx hcan])⟩, ⟨_, rfl, Blk.le_refl _⟩, trivial⟩ rfl rfl)
   ·
    have hge : i = sm.length := (by have := of_decide_eq_false hb5; omega)
    subst hge
    have hQe : sm.take sm.length = sm := List.take_length
    refine at_exit (at_te (at_te (at_be (at_tn (at_seq (at_region (r_move rfl rfl rfl (r_cmpInt rfl rfl rfl rfl rfl (run_nil (at_tn ?_))))))))))
    refine at_cond rfl (fun hb6 => ?_) (fun hb6 => ?_)
    ·
     have hlast : (passR l (sm.take sm.length) (s, b_, -1)).2.2 < 0 := of_decide_eq_true hb6
     have hF : fromF l sm size ds = ((passR l (sm.take sm.length) (s, b_, -1)).1, (passR l (sm.take sm.length) (s, b_, -1)).2.1, -1) := by
      unfold fromF
      rw [hQe] at hlast ⊢
      rw [hR, show size + 1 - j = (size - j) + 1 by omega, fromR_stop hlast]; rfl
     refine at_seq (at_region (r_load 7 0 [_, _] rfl rfl rfl rfl ti80 rfl rfl rfl rfl ?_))
     refine r_store rfl 4 0 [_, _, _, _, ⟨some g1, 80, _, 2, true⟩, _, _, _] [_, _] rfl rfl rfl rfl ti80 rfl rfl rfl rfl rfl ?_
     refine r_assign rfl rfl rfl (run_nil (at_tn (at_ret (at_br (at_tr (at_tr (at_br (at_tr ?_))))))))
     refine at_end2 rfl (res_cell 4 rfl rfl ti80 (vs := [_, _]) rfl rfl (Nat.le_of_ble_eq_true rfl) rfl) (res_tmp rfl) (fun w hL => ⟨(g2, g3), ?_, hL.picks [some 5, some 6] ⟨⟨_, rfl, le_same (by rw [hF])⟩, ⟨_, rfl, le_same (by rw [hF])⟩, trivial⟩ rfl rfl⟩)
     rw [hF]
    ·
     have hlast : ¬ (passR l (sm.take sm.length) (s, b_, -1)).2.2 < 0 := of_decide_eq_false hb6
     refine at_skip (at_bn (at_tn (at_region ?_)))
     refine r_arith (r := ((j + 1 : Nat) : Int)) rfl rfl rfl rfl (congrArg some (wi (by omega) (by omega) (by omega))) ?_
     refine r_move rfl rfl rfl (run_nil (at_tn ?_))
     have hQ := bndS.pass (l := l) hok (sm := sm.take sm.length) (st := (s, b_, -1)) hB
     have htl : (sm.take sm.length).length ≤ 1000 := by rw [List.length_take]; omega
     exact nextL ⟨(j + 1, (passR l (sm.take sm.length) (s, b_, -1)).1, (passR l (sm.take sm.length) (s, b_, -1)).2.1), hlt1, hQ.mono (by simp only []; omega), hR.trans (by rw [hQe] at hlast ⊢; show fromR l sm (size + 1 - j) s b_ = _; rw [show size + 1 - j = (size + 1 - (j + 1)) + 1 by omega, fromR_go hlast])⟩ (by show size + 1 - (j + 1) < size + 1 - j; omega) ⟨rfl, rfl, rfl, rfl, rfl, trivial⟩ (weak_picks [some 0, some 1, some 2, some 3, some 4, some 5, some 6, some 7] ⟨⟨_, rfl, Blk.le_refl _⟩, ⟨_, rfl, Blk.le_refl _⟩, ⟨_, rfl, Blk.le_refl _⟩, ⟨_, rfl, Blk.le_refl _⟩, ⟨_, rfl, Blk.le_refl _⟩, ⟨_, rfl, Blk.le_refl _⟩, ⟨_, rfl, Blk.le_refl _⟩, ⟨_, rfl, Blk.le_refl _⟩, trivial⟩ rfl rfl)
  ·
   have hge1 : j = size + 1 := (by have := of_decide_eq_false hb3; omega)
   subst hge1
   have hE : fromF l sm size ds = checkF l s b_ sm := by unfold fromF; rw [hR, Nat.sub_self]; rfl
   refine at_exit (at_te (at_te (at_be (at_tn (at_seq (at_seq (at_region (r_fieldAddr 3 0 1 rfl rfl rfl rfl rfl ti76 rfl rfl (r_load 3 1 [_] rfl rfl rfl rfl ti33 rfl rfl rfl rfl (r_lenV u33 rfl rfl rfl (r_move rfl rfl rfl (run_nil (at_tn (at_block ?_))))))))))))))
   refine enterL (nt := 144) (ι := {i : Nat // i ≤ sm.length ∧ checkF l s b_ sm = checkF l s b_ (sm.drop i)}) (fun ⟨i, hi, hC⟩ => [(2, .pointer (some ⟨g0, 0, none⟩)), (4, .pointer (some ⟨g1, 0, none⟩)), (6, .pointer (some ⟨g4, 0, none⟩)), (103, slv bs 0 sm.length cs), (104, .int .i64 (sm.length : Nat)), (105, .int .i64 (i : Nat))]) (fun ⟨i, hi, hC⟩ => [⟨b, 49, pre ++ XLc l, N, false⟩, ⟨bs, 3, ILc sm, Ns, false⟩, ⟨bd, 3, ILc ds, Nd, false⟩, ⟨some g0, 76, [.slice a l.length cap, slv bs 0 sm.length cs, .int .i64 (size : Nat)], 3, true⟩, ⟨some g1, 80, [.map none, .map none], 2, true⟩, ⟨some g2, mI (mapI (s)), [], 0, true⟩, ⟨some g3, mI (mapI (b_)), [], 0, true⟩, ⟨some g4, 80, [.map (some g2), .map (some g3)], 2, true⟩]) (fun ⟨i, hi, hC⟩ => sm.length - i) ⟨0, Nat.zero_le _, rfl⟩ ⟨rfl, rfl, rfl, rfl, rfl, rfl, trivial⟩ (Weak.refl _) ?_
   rintro ⟨i, hi, hC⟩
   show At _ ⟨144, [(2, .pointer (some ⟨g0, 0, none⟩)), (4, .pointer (some ⟨g1, 0, none⟩)), (6, .pointer (some ⟨g4, 0, none⟩)), (103, slv bs 0 sm.length cs), (104, .int .i64 (sm.length : Nat)), (105, .int .i64 (i : Nat))], [⟨b, 49, pre ++ XLc l, N, false⟩, ⟨bs, 3, ILc sm, Ns, false⟩, ⟨bd, 3, ILc ds, Nd, false⟩, ⟨some g0, 76, [.slice a l.length cap, slv bs 0 sm.length cs, .int .i64 (size : Nat)], 3, true⟩, ⟨some g1, 80, [.map none, .map none], 2, true⟩, ⟨some g2, mI (mapI (s)), [], 0, true⟩, ⟨some g3, mI (mapI (b_)), [], 0, true⟩, ⟨some g4, 80, [.map (some g2), .map (some g3)], 2, true⟩]⟩ _
   refine at_seq (at_region (r_cmpInt rfl rfl rfl rfl rfl (run_nil (at_tn (at_seq ?_)))))
   refine at_cond rfl (fun hb5 => ?_) (fun hb5 => ?_)
   ·
    have hlt : i < sm.length := (by have := of_decide_eq_true hb5; omega)
    obtain ⟨k, hk⟩ : ∃ k, sm[i]? = some k := ⟨sm[i], List.getElem?_eq_getElem hlt⟩
    obtain ⟨hk0, hk1⟩ := hsm k (List.mem_of_getElem? hk)
    have hk2 : k.toNat < l.length := by omega
    obtain ⟨x, hx⟩ : ∃ x, l[k.toNat]? = some x := ⟨_, List.getElem?_eq_getElem hk2⟩
    have hokx := hok x (List.mem_of_getElem? hx)
    have hwb := wt_bound hokx
    obtain ⟨gb, hgb⟩ := ex_base hbase (by omega)
    replace hgb : b = some gb := hgb
    subst hgb
    obtain rfl : a = some ⟨gb, pre.length, none⟩ := ha (fun e => by rw [e] at hk2; cases hk2)
    obtain ⟨gs, hgs⟩ := il_base (pre := []) hbase1 (by omega)
    replace hgs : bs = some gs := hgs
    subst hgs
    have hgb_ := hB.get x.f
    refine at_skip (at_tn (at_seq (at_block (at_seq (at_region ?_)))))
    refine r_indexAddr 1 (i * 1) u33 ti3 rfl rfl rfl rfl rfl (by omega) (by omega) (ILc_ne (by omega)) (by show 0 + Int.toNat _ * 1 = _; omega) ?_
    refine r_load (v := .int .i64 k) 1 (i * 1) _ rfl rfl rfl rfl ti3 (ILc_get hk) rfl (by decide) rfl ?_
    refine r_assign rfl rfl rfl (run_nil (at_tn (at_seq (at_region (r_fieldAddr 3 0 0 rfl rfl rfl rfl rfl ti76 rfl rfl (r_load 3 0 [_] rfl rfl rfl rfl ti22 rfl rfl rfl rfl (r_move rfl rfl rfl ?_)))))))
    refine r_indexAddr 0 (pre.length + k.toNat * 5) u22 ti49 rfl rfl rfl rfl rfl (by omega) (by omega) (pre_ne (XLc_ne (by omega))) (by show pre.length + Int.toNat _ * 5 = _; omega) ?_
    refine r_load (v := ExV x) 0 (pre.length + k.toNat * 5) _ rfl rfl rfl rfl ti49 (pre_get (XLc_get hx) rfl) rfl (by decide) rfl ?_
    refine r_alloc [_, _, _, _, _] 5 (fun g => [_, _, _, _, _, _, _, _, ⟨some g, 49, _, 5, true⟩]) rfl rfl z49 rfl rfl (fun _ => rfl) (fun g5 => ?_)
    refine r_store rfl 8 0 [_, _, _, _, _, _, _, _, ⟨some g5, 49, _, 5, true⟩] [_, _, _, _, _] rfl rfl rfl rfl ti49 rfl rfl rfl rfl rfl ?_
    refine run_nil (at_tn (at_seq (at_region (r_fieldAddr 7 0 0 rfl rfl rfl rfl rfl ti80 rfl rfl (r_load 7 0 [_] rfl rfl rfl rfl ti78 rfl rfl rfl rfl (r_fieldAddr 8 0 0 rfl rfl rfl rfl rfl ti49 rfl rfl (r_load 8 0 [_] rfl rfl rfl rfl ti3 rfl rfl rfl rfl ?_)))))))
    refine r_lookupOk (v := .int .i64 ((sget s x.f).getD 0)) (ok := (sget s x.f).isSome) 5 u78 u3 zz3 rfl rfl rfl rfl rfl (mapI_simple _) (mg_mapI0 _ _) (mg_mapIok _ _) rfl ?_
    refine r_move rfl rfl rfl ?_
    refine r_extract (vs := [_, _]) rfl rfl rfl rfl ?_
    refine r_extract (vs := [_, _]) rfl rfl rfl rfl ?_
    refine r_assign rfl rfl rfl (r_assign rfl rfl rfl (run_nil (at_tn (at_seq ?_))))
    refine at_drawn (l' := [⟨_,_,_,_,_,_⟩, ⟨_,_,_,_,_,_⟩, ⟨_,_,_,_,_,_⟩, ⟨_,_,_,_,_,_⟩, ⟨_,_,_,_,_,_⟩, ⟨_,_,_,_,_,_⟩, ⟨_,_,_,_,_,_⟩, ⟨_,_,_,_,_,_⟩, ⟨_,_,_,_,_,_⟩, ⟨_,_,_,_,_,_⟩, ⟨_,_,_,_,_,_⟩, ⟨_,_,_,_,_,_⟩, ⟨_,_,_,_,_,_⟩]) [] [0, 1, 2, 3, 6, 7, 8, 9, 10, 4, 5, 11, 12] mixed (by kernel_rfl) rfl (by kernel_rfl) ?_
    refine r_move rfl rfl rfl (r_move rfl rfl rfl ?_)
    refine r_split 123 rfl (fun hb6 => ?_) (fun hb6 => ?_)
    ·
     have h123 := hb6
     refine r_move rfl rfl rfl (r_load 8 0 [_, _, _, _, _] rfl rfl rfl rfl ti49 rfl rfl rfl rfl (r_fieldAddr 7 0 0 rfl rfl rfl rfl rfl ti80 rfl rfl (r_load 7 0 [_] rfl rfl rfl rfl ti78 rfl rfl rfl rfl (r_fieldAddr 8 0 1 rfl rfl rfl rfl rfl ti49 rfl rfl (r_load 8 1 [_] rfl rfl rfl rfl ti3 rfl rfl rfl rfl ?_)))))
     refine r_lookup (v := .int .i64 ((sget s x.t).getD 0)) 5 u78 u3 zz3 rfl rfl rfl rfl rfl (mapI_simple _) (mg_mapI0 _ _) rfl ?_
     refine r_pcall [_] rfl rfl rfl (c_clock_Weight x hokx) ?_
     refine r_arith (r := (((sget s x.f).getD 0) + wt x)) rfl rfl rfl rfl (congrArg some (wi (by omega) (by omega) rfl)) ?_
     refine r_cmpInt rfl rfl rfl rfl rfl (r_pickT rfl rfl rfl rfl (run_nil (at_tn ?_)))
     refine at_cond rfl (fun hb7 => ?_) (fun hb7 => ?_)
     ·
      have hcan := canC_lt h123 hb7
      have hF : fromF l sm size ds = (s, sput b_ x.t k, k) := by rw [hE, hC]; exact checkF_yes hk hx hcan
      refine at_seq (at_region (r_fieldAddr 7 0 1 rfl rfl rfl rfl rfl ti80 rfl rfl (r_load 7 1 [_] rfl rfl rfl rfl ti78 rfl rfl rfl rfl (r_fieldAddr 8 0 1 rfl rfl rfl rfl rfl ti49 rfl rfl (r_load 8 1 [_] rfl rfl rfl rfl ti3 rfl rfl rfl rfl (r_move rfl rfl rfl ?_))))))
      refine r_mapUpdate 6 [_, _, _, _, _, _, ⟨some g3, mI (mapI (sput b_ x.t k)), [], 0, true⟩, _, _] u78 u3 rfl rfl rfl rfl rfl (mapI_simple _) rfl (by rw [mu_mapI]; rfl) rfl ?_
      refine run_nil (at_tn (at_seq (at_region (r_load 7 0 [_, _] rfl rfl rfl rfl ti80 rfl rfl rfl rfl (r_move rfl rfl rfl ?_)))))
      refine r_store rfl 4 0 [_, _, _, _, ⟨some g1, 80, _, 2, true⟩, _, _, _, _] [_, _] rfl rfl rfl rfl ti80 rfl rfl rfl rfl rfl ?_
      refine r_assign rfl rfl rfl (run_nil (at_tn (at_ret (at_br (at_tr (at_tr (at_br (at_tr ?_))))))))
      refine at_end2 rfl (res_cell 4 rfl rfl ti80 (vs := [_, _]) rfl rfl (Nat.le_of_ble_eq_true rfl) rfl) (res_tmp rfl) (fun w hL => ⟨(g2, g3), ?_, hL.picks [some 5, some 6] ⟨⟨_, rfl, le_same (by rw [hF])⟩, ⟨_, rfl, le_same (by rw [hF])⟩, trivial⟩ rfl rfl⟩)
      rw [hF]
     ·
      have hcan := canC_lt h123 hb7
      refine at_skip (at_bn (at_tn (at_region ?_)))
      refine r_arith (r := ((i + 1 : Nat) : Int)) rfl rfl rfl rfl (congrArg some (wi (by omega) (by omega) (by omega))) ?_
      refine r_move rfl rfl rfl (run_nil (at_tn ?_))
      exact nextL ⟨i + 1, hlt, hC.trans (checkF_no hk hx hcan)⟩ (by simp only []; omega) ⟨rfl, rfl, rfl, rfl, rfl, rfl, trivial⟩ (weak_picks [some 0, some 1, some 2, some 3, some 4, some 5, some 6, some 7] ⟨⟨_, rfl, Blk.le_refl _⟩, ⟨_, rfl, Blk.le_refl _⟩, ⟨_, rfl, Blk.le_refl _⟩, ⟨_, rfl, Blk.le_refl _⟩, ⟨_, rfl, Blk.le_refl _⟩, ⟨_, rfl, Blk.le_refl _⟩, ⟨_, rfl, Blk.le_refl _⟩, ⟨_, rfl, Blk.le_refl _⟩, trivial⟩ rfl rfl)
    ·
     have h123 := hb6
     have hcan := canC_nf h123
     refine r_no rfl rfl rfl (r_no rfl rfl rfl (r_no rfl rfl rfl (r_no rfl rfl rfl (r_no rfl rfl rfl (r_no rfl rfl rfl (r_no rfl rfl rfl (r_no rfl rfl rfl (r_no rfl rfl rfl (r_no rfl rfl rfl (r_pickF rfl rfl rfl rfl (run_nil (at_tn (at_condF rfl (at_skip (at_bn (at_tn (at_region ?_)))))))))))))))))
     refine r_arith (r := ((i + 1 : Nat) : Int)) rfl rfl rfl rfl (congrArg some (wi (by omega) (by omega) (by omega))) ?_
     refine r_move rfl rfl rfl (run_nil (at_tn ?_))
     exact nextL ⟨i + 1, hlt, hC.trans (checkF_no hk hx hcan)⟩ (by simp only []; omega) ⟨rfl, rfl, rfl, rfl, rfl, rfl, trivial⟩ (weak_picks [some 0, some 1, some 2, some 3, some 4, some 5, some 6, some 7] ⟨⟨_, rfl, Blk.le_refl _⟩, ⟨_, rfl, Blk.le_refl _⟩, ⟨_, rfl, Blk.le_refl _⟩, ⟨_, rfl, Blk.le_refl _⟩, ⟨_, rfl, Blk.le_refl _⟩, ⟨_, rfl, Blk.le_refl _⟩, ⟨_, rfl, Blk.le_refl _⟩, ⟨_, rfl, Blk.le_refl _⟩, trivial⟩ rfl rfl)
   ·
    have hge : i = sm.length := (by have := of_decide_eq_false hb5; omega)
    subst hge
    have hF : fromF l sm size ds = (s, b_, -1) := by rw [hE, hC, List.drop_length]; rfl
    refine at_exit (at_te (at_te (at_be (at_tn (at_seq (at_region (r_load 7 0 [_, _] rfl rfl rfl rfl ti80 rfl rfl rfl rfl ?_)))))))
    refine r_store rfl 4 0 [_, _, _, _, ⟨some g1, 80, _, 2, true⟩, _, _, _] [_, _] rfl rfl rfl rfl ti80 rfl rfl rfl rfl rfl ?_
    refine r_assign rfl rfl rfl (run_nil (at_tn (at_ret ?_)))
    refine at_end2 rfl (res_cell 4 rfl rfl ti80 (vs := [_, _]) rfl rfl (Nat.le_of_ble_eq_true rfl) rfl) (res_tmp rfl) (fun w hL => ⟨(g2, g3), ?_, hL.picks [some 5, some 6] ⟨⟨_, rfl, le_same (by rw [hF])⟩, ⟨_, rfl, le_same (by rw [hF])⟩, trivial⟩ rfl rfl⟩)
    rw [hF]
end Go.Proofs.YtncogghlhlnmaaaGreatDoor
