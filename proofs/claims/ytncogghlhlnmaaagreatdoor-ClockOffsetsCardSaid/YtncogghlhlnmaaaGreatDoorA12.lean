/-
  Part 12: lemmas, and walks through the functions that the laws of chapter 26 call. Each theorem states its own conditions.
-/
import Derived.Test.YtncogghlhlnmaaaGreatDoorA02
import Derived.Test.YtncogghlhlnmaaaGreatDoorA03
import Derived.Test.YtncogghlhlnmaaaGreatDoorA04
import Derived.Test.YtncogghlhlnmaaaGreatDoorA05
import Derived.Test.YtncogghlhlnmaaaGreatDoorA06
import Derived.Test.YtncogghlhlnmaaaGreatDoorA10
import Derived.Test.YtncogghlhlnmaaaGreatDoorA11
set_option linter.unusedVariables false
set_option linter.unusedVariables false
namespace Go.Proofs.YtncogghlhlnmaaaGreatDoor
open Go Go.RowKit Go.Via
set_option maxRecDepth 20000 in
theorem c_law_check (l : List Ex) (a : Option Addr) (b : Option Nat) (pre : List Value) (N cap : Nat) (hc : l.length ≤ cap) (ha : l ≠ [] → a = b.map fun g => ⟨g, pre.length, none⟩) : SCall Tryz.prog 26 [⟨b, 49, pre ++ XLc l, N, false⟩] [.slice a l.length cap] Unit (fun _ => .int .i64 (checkL l)) (fun _ => []) := by
 refine ⟨by kernel_rfl, fun w hL0 => ?_⟩
 refine calls_at (args := [.slice a l.length cap]) Tryz.func26 rfl (Nat.le_of_ble_eq_true rfl) hL0 ?_
 show At w ⟨72, [(0, .slice a l.length cap)], [⟨b, 49, pre ++ XLc l, N, false⟩]⟩ _
 refine at_seq (at_region (r_assign rfl rfl rfl (run_nil (at_tn (at_seq (at_seq (at_region (r_move rfl rfl rfl ?_))))))))
 refine r_lenV u22 rfl rfl rfl ?_
 refine r_cmpInt rfl rfl rfl rfl rfl (run_nil (at_tn ?_))
 refine at_cond rfl (fun hb0 => ?_) (fun hb0 => ?_)
 ·
  have hs7 : 4096 < l.length := (by have := of_decide_eq_true hb0; omega)
  refine at_seq (at_region (r_assign rfl rfl rfl (run_nil (at_tn (at_ret (at_tr ?_))))))
  refine at_end1 rfl (res_tmp rfl) (fun w hL => ⟨(), ?_, hL.picks [] trivial rfl rfl⟩)
  rw [checkL_3 (by omega)]
 ·
  have hs7 : ¬ 4096 < l.length := (by have := of_decide_eq_false hb0; omega)
  refine at_skip (at_tn (at_seq (at_seq (at_region (r_assign rfl rfl rfl (run_nil (at_tn (at_block ?_))))))))
  refine enterL (nt := 72) (ι := {i : Nat // i ≤ l.length ∧ errL l = errL (l.drop i)}) (fun ⟨i, hi, hI⟩ => [(0, .slice a l.length cap), (3, .int .i64 (i : Nat))]) (fun ⟨i, hi, hI⟩ => [⟨b, 49, pre ++ XLc l, N, false⟩]) (fun ⟨i, hi, hI⟩ => l.length - i) ⟨0, Nat.zero_le _, rfl⟩ ⟨rfl, rfl, trivial⟩ (Weak.refl _) ?_
  rintro ⟨i, hi, hI⟩
  show At _ ⟨72, [(0, .slice a l.length cap), (3, .int .i64 (i : Nat))], [⟨b, 49, pre ++ XLc l, N, false⟩]⟩ _
  refine at_seq (at_seq (at_region (r_move rfl rfl rfl (r_move rfl rfl rfl ?_))))
  refine r_lenV u22 rfl rfl rfl ?_
  refine r_cmpInt rfl rfl rfl rfl rfl (run_nil (at_tn ?_))
  refine at_cond rfl (fun hb2 => ?_) (fun hb2 => ?_)
  ·
   have hlt : i < l.length := (by have := of_decide_eq_true hb2; omega)
   obtain ⟨x, hx⟩ : ∃ x, l[i]? = some x := ⟨l[i], List.getElem?_eq_getElem hlt⟩
   refine at_base 0 rfl (fun hbase => ?_)
   obtain ⟨gb, hgb⟩ := ex_base hbase (by omega)
   replace hgb : b = some gb := hgb
   subst hgb
   obtain rfl : a = some ⟨gb, pre.length, none⟩ := ha (fun e => by rw [e] at hlt; cases hlt)
   refine at_skip (at_tn (at_seq (at_block (at_seq (at_region (r_move rfl rfl rfl (r_move rfl rfl rfl ?_)))))))
   refine r_indexAddr 0 (pre.length + i * 5) u22 ti49 rfl rfl rfl rfl rfl (by omega) (by omega) (pre_ne (XLc_ne (by omega))) (by show pre.length + Int.toNat _ * 5 = _; omega) ?_
   refine r_load (v := ExV x) 0 (pre.length + i * 5) _ rfl rfl rfl rfl ti49 (pre_get (XLc_get hx) rfl) rfl (by decide) rfl ?_
   refine r_alloc [_, _, _, _, _] 5 (fun g => [_, ⟨some g, 49, _, 5, true⟩]) rfl rfl z49 rfl rfl (fun _ => rfl) (fun g0 => ?_)
   refine r_store rfl 1 0 [_, ⟨some g0, 49, _, 5, true⟩] [_, _, _, _, _] rfl rfl rfl rfl ti49 rfl rfl rfl rfl rfl ?_
   refine run_nil (at_tn (at_block (at_seq (at_region ?_))))
   refine r_fieldAddr 1 0 0 rfl rfl rfl rfl rfl ti49 rfl rfl ?_
   refine r_load 1 0 [_] rfl rfl rfl rfl ti3 rfl rfl rfl rfl ?_
   refine r_cmpInt rfl rfl rfl rfl rfl (r_move rfl rfl rfl ?_)
   refine r_split 22 rfl (fun hb3 => ?_) (fun hb3 => ?_)
   ·
    have hs22 := of_decide_eq_true hb3
    refine r_no rfl rfl rfl (r_no rfl rfl rfl (r_no rfl rfl rfl (r_pickT rfl rfl rfl rfl (r_move rfl rfl rfl (r_no rfl rfl rfl (r_no rfl rfl rfl (r_no rfl rfl rfl (r_pickT rfl rfl rfl rfl (r_move rfl rfl rfl (r_no rfl rfl rfl (r_no rfl rfl rfl (r_no rfl rfl rfl (r_pickT rfl rfl rfl rfl (r_assign rfl rfl rfl (run_nil (at_tn (at_condT rfl (at_seq (at_region (r_assign rfl rfl rfl (run_nil (at_tn (at_ret ?_)))))))))))))))))))))))
    refine at_br (at_br (at_tr (at_tr (at_br (at_tr ?_)))))
    refine at_end1 rfl (res_tmp rfl) (fun w hL => ⟨(), ?_, hL.picks [] trivial rfl rfl⟩)
    have he := err2 (x := x) (by omega)
    rw [checkL_le (by omega), errL_stop hx hI (by rw [he]; decide), he]
   ·
    have hs22 := of_decide_eq_false hb3
    refine r_fieldAddr 1 0 0 rfl rfl rfl rfl rfl ti49 rfl rfl ?_
    refine r_load 1 0 [_] rfl rfl rfl rfl ti3 rfl rfl rfl rfl ?_
    refine r_cmpInt rfl rfl rfl rfl rfl (r_pickF rfl rfl rfl rfl (r_move rfl rfl rfl ?_))
    refine r_split 27 rfl (fun hb4 => ?_) (fun hb4 => ?_)
    ·
     have hs27 := of_decide_eq_true hb4
     refine r_no rfl rfl rfl (r_no rfl rfl rfl (r_no rfl rfl rfl (r_pickT rfl rfl rfl rfl (r_move rfl rfl rfl (r_no rfl rfl rfl (r_no rfl rfl rfl (r_no rfl rfl rfl (r_pickT rfl rfl rfl rfl (r_assign rfl rfl rfl (run_nil (at_tn (at_condT rfl (at_seq (at_region (r_assign rfl rfl rfl (run_nil (at_tn (at_ret (at_br (at_br (at_tr (at_tr (at_br ?_)))))))))))))))))))))))
     refine at_tr ?_
     refine at_end1 rfl (res_tmp rfl) (fun w hL => ⟨(), ?_, hL.picks [] trivial rfl rfl⟩)
     have he := err2 (x := x) (by omega)
     rw [checkL_le (by omega), errL_stop hx hI (by rw [he]; decide), he]
    ·
     have hs27 := of_decide_eq_false hb4
     refine r_fieldAddr 1 0 1 rfl rfl rfl rfl rfl ti49 rfl rfl ?_
     refine r_load 1 1 [_] rfl rfl rfl rfl ti3 rfl rfl rfl rfl ?_
     refine r_cmpInt rfl rfl rfl rfl rfl (r_pickF rfl rfl rfl rfl (r_move rfl rfl rfl ?_))
     refine r_split 32 rfl (fun hb5 => ?_) (fun hb5 => ?_)
     ·
      have hs32 := of_decide_eq_true hb5
      refine r_no rfl rfl rfl (r_no rfl rfl rfl (r_no rfl rfl rfl (r_pickT rfl rfl rfl rfl (r_assign rfl rfl rfl (run_nil (at_tn (at_condT rfl (at_seq (at_region (r_assign rfl rfl rfl (run_nil (at_tn (at_ret (at_br (at_br (at_tr (at_tr (at_br (at_tr ?_)))))))))))))))))))
      refine at_end1 rfl (res_tmp rfl) (fun w hL => ⟨(), ?_, hL.picks [] trivial rfl rfl⟩)
      have he := err2 (x := x) (by omega)
      rw [checkL_le (by omega), errL_stop hx hI (by rw [he]; decide), he]
     ·
      have hs32 := of_decide_eq_false hb5
      refine r_fieldAddr 1 0 1 rfl rfl rfl rfl rfl ti49 rfl rfl ?_
      refine r_load 1 1 [_] rfl rfl rfl rfl ti3 rfl rfl rfl rfl ?_
      refine r_cmpInt rfl rfl rfl rfl rfl (r_pickF rfl rfl rfl rfl (r_assign rfl rfl rfl (run_nil (at_tn ?_))))
      refine at_cond rfl (fun hb6 => ?_) (fun hb6 => ?_)
      ·
       have hs18 := of_decide_eq_true hb6
       refine at_seq (at_region (r_assign rfl rfl rfl (run_nil (at_tn (at_ret (at_br (at_br (at_tr (at_tr (at_br (at_tr ?_)))))))))))
       refine at_end1 rfl (res_tmp rfl) (fun w hL => ⟨(), ?_, hL.picks [] trivial rfl rfl⟩)
       have he := err2 (x := x) (by omega)
       rw [checkL_le (by omega), errL_stop hx hI (by rw [he]; decide), he]
      ·
       have hs18 := of_decide_eq_false hb6
       refine at_seq (at_region ?_)
       refine r_fieldAddr 1 0 0 rfl rfl rfl rfl rfl ti49 rfl rfl ?_
       refine r_load 1 0 [_] rfl rfl rfl rfl ti3 rfl rfl rfl rfl ?_
       refine r_fieldAddr 1 0 1 rfl rfl rfl rfl rfl ti49 rfl rfl ?_
       refine r_load 1 1 [_] rfl rfl rfl rfl ti3 rfl rfl rfl rfl ?_
       refine r_cmpInt rfl rfl rfl rfl rfl (r_assign rfl rfl rfl (run_nil (at_tn ?_)))
       refine at_cond rfl (fun hb7 => ?_) (fun hb7 => ?_)
       ·
        have hs37 := eq_of_beq hb7
        refine at_seq (at_region (r_assign rfl rfl rfl (run_nil (at_tn (at_ret (at_br (at_br (at_tr (at_tr (at_br (at_tr ?_)))))))))))
        refine at_end1 rfl (res_tmp rfl) (fun w hL => ⟨(), ?_, hL.picks [] trivial rfl rfl⟩)
        have he := err8 (x := x) (by omega) hs37
        rw [checkL_le (by omega), errL_stop hx hI (by rw [he]; decide), he]
       ·
        have hs37 := ne_of_beq_false hb7
        refine at_seq (at_region ?_)
        refine r_fieldAddr 1 0 2 rfl rfl rfl rfl rfl ti49 rfl rfl ?_
        refine r_load 1 2 [_] rfl rfl rfl rfl ti3 rfl rfl rfl rfl ?_
        refine r_cmpInt rfl rfl rfl rfl rfl (r_move rfl rfl rfl ?_)
        refine r_split 47 rfl (fun hb8 => ?_) (fun hb8 => ?_)
        ·
         have hs47 := of_decide_eq_true hb8
         refine r_no rfl rfl rfl (r_no rfl rfl rfl (r_no rfl rfl rfl (r_pickT rfl rfl rfl rfl (r_move rfl rfl rfl (r_no rfl rfl rfl (r_no rfl rfl rfl (r_no rfl rfl rfl (r_pickT rfl rfl rfl rfl (r_move rfl rfl rfl (r_no rfl rfl rfl (r_no rfl rfl rfl (r_no rfl rfl rfl (r_pickT rfl rfl rfl rfl (r_move rfl rfl rfl (r_no rfl rfl rfl (r_no rfl rfl rfl (r_no rfl rfl rfl (r_pickT rfl rfl rfl rfl (r_move rfl rfl rfl (r_no rfl rfl rfl (r_no rfl rfl rfl (r_no rfl rfl rfl (r_pickT rfl rfl rfl rfl ?_)))))))))))))))))))))))
         refine r_assign rfl rfl rfl (run_nil (at_tn (at_condT rfl (at_seq (at_region (r_assign rfl rfl rfl (run_nil (at_tn (at_ret (at_br (at_br (at_tr (at_tr (at_br (at_tr ?_)))))))))))))))
         refine at_end1 rfl (res_tmp rfl) (fun w hL => ⟨(), ?_, hL.picks [] trivial rfl rfl⟩)
         have he := err26 (x := x) (by omega) hs37 (by omega)
         rw [checkL_le (by omega), errL_stop hx hI (by rw [he]; decide), he]
        ·
         have hs47 := of_decide_eq_false hb8
         refine r_fieldAddr 1 0 2 rfl rfl rfl rfl rfl ti49 rfl rfl ?_
         refine r_load 1 2 [_] rfl rfl rfl rfl ti3 rfl rfl rfl rfl ?_
         refine r_cmpInt rfl rfl rfl rfl rfl (r_pickF rfl rfl rfl rfl (r_move rfl rfl rfl ?_))
         refine r_split 52 rfl (fun hb9 => ?_) (fun hb9 => ?_)
         ·
          have hs52 := of_decide_eq_true hb9
          refine r_no rfl rfl rfl (r_no rfl rfl rfl (r_no rfl rfl rfl (r_pickT rfl rfl rfl rfl (r_move rfl rfl rfl (r_no rfl rfl rfl (r_no rfl rfl rfl (r_no rfl rfl rfl (r_pickT rfl rfl rfl rfl (r_move rfl rfl rfl (r_no rfl rfl rfl (r_no rfl rfl rfl (r_no rfl rfl rfl (r_pickT rfl rfl rfl rfl (r_move rfl rfl rfl (r_no rfl rfl rfl (r_no rfl rfl rfl (r_no rfl rfl rfl (r_pickT rfl rfl rfl rfl (r_assign rfl rfl rfl (run_nil (at_tn (at_condT rfl (at_seq ?_)))))))))))))))))))))))
          refine at_region (r_assign rfl rfl rfl (run_nil (at_tn (at_ret (at_br (at_br (at_tr (at_tr (at_br (at_tr ?_))))))))))
          refine at_end1 rfl (res_tmp rfl) (fun w hL => ⟨(), ?_, hL.picks [] trivial rfl rfl⟩)
          have he := err26 (x := x) (by omega) hs37 (by omega)
          rw [checkL_le (by omega), errL_stop hx hI (by rw [he]; decide), he]
         ·
          have hs52 := of_decide_eq_false hb9
          refine r_fieldAddr 1 0 3 rfl rfl rfl rfl rfl ti49 rfl rfl ?_
          refine r_load 1 3 [_] rfl rfl rfl rfl ti3 rfl rfl rfl rfl ?_
          refine r_cmpInt rfl rfl rfl rfl rfl (r_pickF rfl rfl rfl rfl (r_move rfl rfl rfl ?_))
          refine r_split 57 rfl (fun hb10 => ?_) (fun hb10 => ?_)
          ·
           have hs57 := of_decide_eq_true hb10
           refine r_no rfl rfl rfl (r_no rfl rfl rfl (r_no rfl rfl rfl (r_pickT rfl rfl rfl rfl (r_move rfl rfl rfl (r_no rfl rfl rfl (r_no rfl rfl rfl (r_no rfl rfl rfl (r_pickT rfl rfl rfl rfl (r_move rfl rfl rfl (r_no rfl rfl rfl (r_no rfl rfl rfl (r_no rfl rfl rfl (r_pickT rfl rfl rfl rfl (r_assign rfl rfl rfl (run_nil (at_tn (at_condT rfl (at_seq (at_region (r_assign rfl rfl rfl (run_nil (at_tn (at_ret ?_)))))))))))))))))))))))
           refine at_br (at_br (at_tr (at_tr (at_br (at_tr ?_)))))
           refine at_end1 rfl (res_tmp rfl) (fun w hL => ⟨(), ?_, hL.picks [] trivial rfl rfl⟩)
           have he := err26 (x := x) (by omega) hs37 (by omega)
           rw [checkL_le (by omega), errL_stop hx hI (by rw [he]; decide), he]
          ·
           have hs57 := of_decide_eq_false hb10
           refine r_fieldAddr 1 0 3 rfl rfl rfl rfl rfl ti49 rfl rfl ?_
           refine r_load 1 3 [_] rfl rfl rfl rfl ti3 rfl rfl rfl rfl ?_
           refine r_cmpInt rfl rfl rfl rfl rfl (r_pickF rfl rfl rfl rfl (r_move rfl rfl rfl ?_))
           refine r_split 62 rfl (fun hb11 => ?_) (fun hb11 => ?_)
           ·
            have hs62 := of_decide_eq_true hb11
            refine r_no rfl rfl rfl (r_no rfl rfl rfl (r_no rfl rfl rfl (r_pickT rfl rfl rfl rfl (r_move rfl rfl rfl (r_no rfl rfl rfl (r_no rfl rfl rfl (r_no rfl rfl rfl (r_pickT rfl rfl rfl rfl (r_assign rfl rfl rfl (run_nil (at_tn (at_condT rfl (at_seq (at_region (r_assign rfl rfl rfl (run_nil (at_tn (at_ret (at_br (at_br (at_tr (at_tr (at_br ?_)))))))))))))))))))))))
            refine at_tr ?_
            refine at_end1 rfl (res_tmp rfl) (fun w hL => ⟨(), ?_, hL.picks [] trivial rfl rfl⟩)
            have he := err26 (x := x) (by omega) hs37 (by omega)
            rw [checkL_le (by omega), errL_stop hx hI (by rw [he]; decide), he]
           ·
            have hs62 := of_decide_eq_false hb11
            refine r_fieldAddr 1 0 4 rfl rfl rfl rfl rfl ti49 rfl rfl ?_
            refine r_load 1 4 [_] rfl rfl rfl rfl ti3 rfl rfl rfl rfl ?_
            refine r_cmpInt rfl rfl rfl rfl rfl (r_pickF rfl rfl rfl rfl (r_move rfl rfl rfl ?_))
            refine r_split 67 rfl (fun hb12 => ?_) (fun hb12 => ?_)
            ·
             have hs67 := of_decide_eq_true hb12
             refine r_no rfl rfl rfl (r_no rfl rfl rfl (r_no rfl rfl rfl (r_pickT rfl rfl rfl rfl (r_assign rfl rfl rfl (run_nil (at_tn (at_condT rfl (at_seq (at_region (r_assign rfl rfl rfl (run_nil (at_tn (at_ret (at_br (at_br (at_tr (at_tr (at_br (at_tr ?_)))))))))))))))))))
             refine at_end1 rfl (res_tmp rfl) (fun w hL => ⟨(), ?_, hL.picks [] trivial rfl rfl⟩)
             have he := err26 (x := x) (by omega) hs37 (by omega)
             rw [checkL_le (by omega), errL_stop hx hI (by rw [he]; decide), he]
            ·
             have hs67 := of_decide_eq_false hb12
             refine r_fieldAddr 1 0 4 rfl rfl rfl rfl rfl ti49 rfl rfl ?_
             refine r_load 1 4 [_] rfl rfl rfl rfl ti3 rfl rfl rfl rfl ?_
             refine r_cmpInt rfl rfl rfl rfl rfl (r_pickF rfl rfl rfl rfl (r_assign rfl rfl rfl (run_nil (at_tn ?_))))
             refine at_cond rfl (fun hb13 => ?_) (fun hb13 => ?_)
             ·
              have hs43 := of_decide_eq_true hb13
              refine at_seq (at_region (r_assign rfl rfl rfl (run_nil (at_tn (at_ret (at_br (at_br (at_tr (at_tr (at_br (at_tr ?_)))))))))))
              refine at_end1 rfl (res_tmp rfl) (fun w hL => ⟨(), ?_, hL.picks [] trivial rfl rfl⟩)
              have he := err26 (x := x) (by omega) hs37 (by omega)
              rw [checkL_le (by omega), errL_stop hx hI (by rw [he]; decide), he]
             ·
              have hs43 := of_decide_eq_false hb13
              refine at_skip (at_bn (at_bn (at_tn (at_region (r_move rfl rfl rfl ?_)))))
              refine r_arith (r := ((i + 1 : Nat) : Int)) rfl rfl rfl rfl (congrArg some (wi (by omega) (by omega) (by omega))) ?_
              refine r_assign rfl rfl rfl (run_nil (at_tn ?_))
              exact nextL ⟨i + 1, hlt, errL_step hx hI (err0 (by omega) hs37 (by omega))⟩ (by simp only []; omega) ⟨rfl, rfl, trivial⟩ (weak_picks [some 0] ⟨⟨_, rfl, Blk.le_refl _⟩, trivial⟩ rfl rfl)
  ·
   have hge : i = l.length := (by have := of_decide_eq_false hb2; omega)
   subst hge
   refine at_exit (at_te (at_te (at_be (at_tn (at_seq (at_region (r_assign rfl rfl rfl (run_nil (at_tn (at_ret ?_))))))))))
   refine at_end1 rfl (res_tmp rfl) (fun w hL => ⟨(), ?_, hL.picks [] trivial rfl rfl⟩)
   rw [checkL_le (by omega), errL_end hI]
set_option maxRecDepth 20000 in
theorem c_law_few (l : List Ex) (a : Option Addr) (b : Option Nat) (pre : List Value) (N cap : Nat) (hc : l.length ≤ cap) (ha : l ≠ [] → a = b.map fun g => ⟨g, pre.length, none⟩) : SCall Tryz.prog 13 [⟨b, 49, pre ++ XLc l, N, false⟩] [.slice a l.length cap] Unit (fun _ => .bool (fewB l)) (fun _ => []) := by
 refine ⟨by kernel_rfl, fun w hL0 => ?_⟩
 refine calls_at (args := [.slice a l.length cap]) Tryz.func13 rfl (Nat.le_of_ble_eq_true rfl) hL0 ?_
 show At w ⟨11, [(0, .slice a l.length cap)], [⟨b, 49, pre ++ XLc l, N, false⟩]⟩ _
 refine at_seq (at_region (r_assign rfl rfl rfl (run_nil (at_tn (at_seq (at_region (r_move rfl rfl rfl ?_)))))))
 refine r_lenV u22 rfl rfl rfl ?_
 refine r_cmpInt rfl rfl rfl rfl rfl (r_move rfl rfl rfl ?_)
 refine r_split 6 rfl (fun hb0 => ?_) (fun hb0 => ?_)
 ·
  have hs6 : l.length ≤ 12 := (by have := of_decide_eq_true hb0; omega)
  refine r_move rfl rfl rfl ?_
  refine r_scall0 [_] [0] rfl rfl rfl (c_law_check l a b pre N cap hc ha) ⟨⟨_, rfl, Blk.le_refl _⟩, trivial⟩ rfl ?_
  refine r_cmpInt rfl rfl rfl rfl rfl (r_pickT rfl rfl rfl rfl (r_assign rfl rfl rfl (run_nil (at_tn (at_ret ?_)))))
  refine at_end1 rfl (res_tmp rfl) (fun w hL => ⟨(), ?_, hL.picks [] trivial rfl rfl⟩)
  rw [fewB, decide_eq_true hs6, Bool.true_and]
 ·
  have hs6 : ¬ l.length ≤ 12 := (by have := of_decide_eq_false hb0; omega)
  refine r_no rfl rfl rfl (r_no rfl rfl rfl (r_no rfl rfl rfl (r_pickF rfl rfl rfl rfl (r_assign rfl rfl rfl (run_nil (at_tn (at_ret ?_)))))))
  refine at_end1 rfl (res_tmp rfl) (fun w hL => ⟨(), ?_, hL.picks [] trivial rfl rfl⟩)
  rw [fewB, decide_eq_false hs6, Bool.false_and]
end Go.Proofs.YtncogghlhlnmaaaGreatDoor
set_option linter.unusedVariables false
namespace Go.Proofs.YtncogghlhlnmaaaGreatDoor
open Go Go.RowKit Go.Via
set_option maxRecDepth 20000 in
theorem c_law_has (l : List Int) (b : Option Nat) (N cap : Nat) (hc : l.length ≤ cap) (hn : l.length ≤ 1000000) (n : Int) : SCall Tryz.prog 17 [⟨b, 3, ILc l, N, false⟩] [slv b 0 l.length cap, .int .i64 n] Unit (fun _ => .bool (l.contains n)) (fun _ => []) := by
 refine ⟨by kernel_rfl, fun w hL0 => ?_⟩
 refine calls_at (args := [slv b 0 l.length cap, .int .i64 n]) Tryz.func17 rfl (Nat.le_of_ble_eq_true rfl) hL0 ?_
 show At w ⟨18, [(0, slv b 0 l.length cap), (1, .int .i64 n)], [⟨b, 3, ILc l, N, false⟩]⟩ _
 refine at_seq ?_
 refine at_base 0 rfl (fun hbase => ?_)
 refine at_region (r_assign rfl rfl rfl (run_nil (at_tn (at_seq (at_seq (at_region (r_assign rfl rfl rfl (run_nil (at_tn (at_block ?_))))))))))
 refine enterL (nt := 18) (ι := {i : Nat // i ≤ l.length ∧ l.contains n = (l.drop i).contains n}) (fun ⟨i, hi, hI⟩ => [(0, slv b 0 l.length cap), (1, .int .i64 n), (5, .int .i64 (i : Nat))]) (fun ⟨i, hi, hI⟩ => [⟨b, 3, ILc l, N, false⟩]) (fun ⟨i, hi, hI⟩ => l.length - i) ⟨0, Nat.zero_le _, rfl⟩ ⟨rfl, rfl, rfl, trivial⟩ (Weak.refl _) ?_
 rintro ⟨i, hi, hI⟩
 show At _ ⟨18, [(0, slv b 0 l.length cap), (1, .int .i64 n), (5, .int .i64 (i : Nat))], [⟨b, 3, ILc l, N, false⟩]⟩ _
 refine at_seq (at_seq (at_region (r_move rfl rfl rfl (r_move rfl rfl rfl ?_))))
 refine r_lenS u33 rfl rfl rfl ?_
 refine r_cmpInt rfl rfl rfl rfl rfl (run_nil (at_tn ?_))
 refine at_cond rfl (fun hb1 => ?_) (fun hb1 => ?_)
 ·
  have hlt : i < l.length := (by have := of_decide_eq_true hb1; omega)
  obtain ⟨z, hz⟩ : ∃ z, l[i]? = some z := ⟨l[i], List.getElem?_eq_getElem hlt⟩
  obtain ⟨gb, hgb⟩ := il_base (pre := []) hbase (by omega)
  replace hgb : b = some gb := hgb
  subst hgb
  refine at_skip (at_tn (at_seq (at_block (at_seq (at_region (r_move rfl rfl rfl (r_move rfl rfl rfl ?_)))))))
  refine r_indexAddr 0 (i * 1) u33 ti3 rfl rfl rfl rfl rfl (by omega) (by omega) (ILc_ne (by omega)) (by show 0 + Int.toNat _ * 1 = _; omega) ?_
  refine r_load (v := .int .i64 z) 0 (i * 1) _ rfl rfl rfl rfl ti3 (ILc_get hz) rfl (by decide) rfl ?_
  refine r_move rfl rfl rfl (r_cmpInt rfl rfl rfl rfl rfl (run_nil (at_tn ?_)))
  refine at_cond rfl (fun hb2 => ?_) (fun hb2 => ?_)
  ·
   have hs17 := eq_of_beq hb2
   refine at_seq (at_region (r_assign rfl rfl rfl (run_nil (at_tn (at_ret (at_br (at_tr (at_tr (at_br (at_tr ?_))))))))))
   refine at_end1 rfl (res_tmp rfl) (fun w hL => ⟨(), ?_, hL.picks [] trivial rfl rfl⟩)
   rw [hI, has_yes hz hs17]
  ·
   have hs17 := ne_of_beq_false hb2
   refine at_skip (at_bn (at_tn (at_region (r_move rfl rfl rfl ?_))))
   refine r_arith (r := ((i + 1 : Nat) : Int)) rfl rfl rfl rfl (congrArg some (wi (by omega) (by omega) (by omega))) ?_
   refine r_assign rfl rfl rfl (run_nil (at_tn ?_))
   exact nextL ⟨i + 1, hlt, hI.trans (has_no hz hs17)⟩ (by simp only []; omega) ⟨rfl, rfl, rfl, trivial⟩ (Weak.refl _)
 ·
  have hge : i = l.length := (by have := of_decide_eq_false hb1; omega)
  subst hge
  refine at_exit (at_te (at_te (at_be (at_tn (at_seq (at_region (r_assign rfl rfl rfl (run_nil (at_tn (at_ret ?_))))))))))
  refine at_end1 rfl (res_tmp rfl) (fun w hL => ⟨(), ?_, hL.picks [] trivial rfl rfl⟩)
  rw [hI, List.drop_length]; rfl
end Go.Proofs.YtncogghlhlnmaaaGreatDoor
set_option linter.unusedVariables false
namespace Go.Proofs.YtncogghlhlnmaaaGreatDoor
open Go Go.RowKit Go.Via
set_option maxRecDepth 20000 in
theorem c_clock_Sum (l : List Ex) (a : Option Addr) (b : Option Nat) (pre : List Value) (N cap : Nat) (hc : l.length ≤ cap) (ha : l ≠ [] → a = b.map fun g => ⟨g, pre.length, none⟩) (hok : ∀ x ∈ l, okX x) (c : List Int) (a2 : Option Addr) (b2 : Option Nat) (pre2 : List Value) (N2 cap2 : Nat) (hc2 : c.length ≤ cap2) (ha2 : c ≠ [] → a2 = b2.map fun g => ⟨g, pre2.length, none⟩) (hcn : c.length ≤ 1000000) (fr to : Int) : SCall Tryz.prog 20 [⟨b, 49, pre ++ XLc l, N, false⟩, ⟨b2, 3, pre2 ++ ILc c, N2, false⟩] [.slice a l.length cap, .slice a2 c.length cap2, .int .i64 fr, .int .i64 to] Unit (fun _ => .tuple #[.int .i64 (sumN l c fr to), .int .i64 (sumE l c fr to)]) (fun _ => []) := by
 refine ⟨by kernel_rfl, fun w hL0 => ?_⟩
 refine calls_at (args := [.slice a l.length cap, .slice a2 c.length cap2, .int .i64 fr, .int .i64 to]) Tryz.func20 rfl (Nat.le_of_ble_eq_true rfl) hL0 ?_
 show At w ⟨54, [(0, .slice a l.length cap), (1, .slice a2 c.length cap2), (2, .int .i64 fr), (3, .int .i64 to)], [⟨b, 49, pre ++ XLc l, N, false⟩, ⟨b2, 3, pre2 ++ ILc c, N2, false⟩]⟩ _
 refine at_seq ?_
 refine at_base 0 rfl (fun hbase => ?_)
 refine at_base 1 rfl (fun hbase2 => ?_)
 refine at_region (r_assign rfl rfl rfl (r_assign rfl rfl rfl (run_nil (at_tn (at_seq (at_region (r_move rfl rfl rfl (r_assign rfl rfl rfl (run_nil (at_tn (at_seq (at_seq (at_region (r_move rfl rfl rfl ?_))))))))))))))
 refine r_lenV u33 rfl rfl rfl ?_
 refine r_move rfl rfl rfl (run_nil (at_tn (at_block ?_)))
 refine enterL (nt := 54) (ι := {z : Nat × Int × Int // z.1 ≤ c.length ∧ sumS l c fr 0 = sumS l (c.drop z.1) z.2.1 z.2.2 ∧ -4294967296 * (z.1 : Int) ≤ z.2.2 ∧ z.2.2 ≤ 4294967296 * (z.1 : Int)}) (fun ⟨⟨i, at_, n⟩, hi, hI, hn1, hn2⟩ => [(0, .slice a l.length cap), (1, .slice a2 c.length cap2), (3, .int .i64 to), (8, .int .i64 n), (10, .int .i64 at_), (14, .slice a2 c.length cap2), (15, .int .i64 (c.length : Nat)), (16, .int .i64 (i : Nat))]) (fun ⟨⟨i, at_, n⟩, hi, hI, hn1, hn2⟩ => [⟨b, 49, pre ++ XLc l, N, false⟩, ⟨b2, 3, pre2 ++ ILc c, N2, false⟩]) (fun ⟨⟨i, at_, n⟩, hi, hI, hn1, hn2⟩ => c.length - i) ⟨⟨0, fr, 0⟩, Nat.zero_le _, rfl, by simp, by simp⟩ ⟨rfl, rfl, rfl, rfl, rfl, rfl, rfl, rfl, trivial⟩ (Weak.refl _) ?_
 rintro ⟨⟨i, at_, n⟩, hi, hI, hn1, hn2⟩
 show At _ ⟨54, [(0, .slice a l.length cap), (1, .slice a2 c.length cap2), (3, .int .i64 to), (8, .int .i64 n), (10, .int .i64 at_), (14, .slice a2 c.length cap2), (15, .int .i64 (c.length : Nat)), (16, .int .i64 (i : Nat))], [⟨b, 49, pre ++ XLc l, N, false⟩, ⟨b2, 3, pre2 ++ ILc c, N2, false⟩]⟩ _
 replace hi : i ≤ c.length := hi
 replace hI : sumS l c fr 0 = sumS l (c.drop i) at_ n := hI
 replace hn1 : -4294967296 * (i : Int) ≤ n := hn1
 replace hn2 : n ≤ 4294967296 * (i : Int) := hn2
 refine at_seq (at_region (r_cmpInt rfl rfl rfl rfl rfl (run_nil (at_tn (at_seq ?_)))))
 refine at_cond rfl (fun hb1 => ?_) (fun hb1 => ?_)
 ·
  have hlt : i < c.length := (by have := of_decide_eq_true hb1; omega)
  obtain ⟨k, hk⟩ : ∃ k, c[i]? = some k := ⟨c[i], List.getElem?_eq_getElem hlt⟩
  obtain ⟨gc, hgc⟩ := il_base hbase2 (by omega)
  replace hgc : b2 = some gc := hgc
  subst hgc
  obtain rfl : a2 = some ⟨gc, pre2.length, none⟩ := ha2 (fun e => by rw [e] at hlt; cases hlt)
  refine at_skip (at_tn (at_seq (at_block (at_seq (at_region ?_)))))
  refine r_indexAddr 1 (pre2.length + i * 1) u33 ti3 rfl rfl rfl rfl rfl (by omega) (by omega) (pre_ne (ILc_ne (by omega))) (by show pre2.length + Int.toNat _ * 1 = _; omega) ?_
  refine r_load (v := .int .i64 k) 1 (pre2.length + i * 1) _ rfl rfl rfl rfl ti3 (pre_get (ILc_get hk) rfl) rfl (by decide) rfl ?_
  refine r_assign rfl rfl rfl (run_nil (at_tn (at_seq (at_seq (at_region (r_move rfl rfl rfl (r_cmpInt rfl rfl rfl rfl rfl (r_move rfl rfl rfl ?_))))))))
  refine r_split 22 rfl (fun hb2 => ?_) (fun hb2 => ?_)
  ·
   have hs1 : k < 0 := of_decide_eq_true hb2
   refine r_no rfl rfl rfl (r_no rfl rfl rfl (r_no rfl rfl rfl (r_no rfl rfl rfl (r_pickT rfl rfl rfl rfl (r_move rfl rfl rfl (r_no rfl rfl rfl (r_no rfl rfl rfl (r_no rfl rfl rfl (r_no rfl rfl rfl (r_no rfl rfl rfl (r_no rfl rfl rfl (r_no rfl rfl rfl (r_pickT rfl rfl rfl rfl (run_nil (at_tn (at_condT rfl (at_seq (at_region (r_assign rfl rfl rfl (r_assign rfl rfl rfl (run_nil (at_tn (at_ret ?_)))))))))))))))))))))))
   refine at_tr (at_br (at_tr (at_tr (at_br (at_tr ?_)))))
   refine at_end2 rfl (res_tmp rfl) (res_tmp rfl) (fun w hL => ⟨(), ?_, hL.picks [] trivial rfl rfl⟩)
   have hz := sum_none (b := to) (hI.trans (sumS_bad hk (.inl hs1)))
   rw [hz.1, hz.2.1]
  ·
   have hs1 : ¬ k < 0 := of_decide_eq_false hb2
   refine r_move rfl rfl rfl (r_move rfl rfl rfl ?_)
   refine r_lenV u22 rfl rfl rfl ?_
   refine r_cmpInt rfl rfl rfl rfl rfl (r_pickF rfl rfl rfl rfl (r_move rfl rfl rfl ?_))
   refine r_split 28 rfl (fun hb3 => ?_) (fun hb3 => ?_)
   ·
    have hs2 : (l.length : Int) ≤ k := of_decide_eq_true hb3
    refine r_no rfl rfl rfl (r_no rfl rfl rfl (r_no rfl rfl rfl (r_no rfl rfl rfl (r_no rfl rfl rfl (r_no rfl rfl rfl (r_no rfl rfl rfl (r_pickT rfl rfl rfl rfl (run_nil (at_tn (at_condT rfl (at_seq (at_region (r_assign rfl rfl rfl (r_assign rfl rfl rfl (run_nil (at_tn (at_ret (at_tr (at_br (at_tr (at_tr (at_br (at_tr ?_)))))))))))))))))))))))
    refine at_end2 rfl (res_tmp rfl) (res_tmp rfl) (fun w hL => ⟨(), ?_, hL.picks [] trivial rfl rfl⟩)
    have hz := sum_none (b := to) (hI.trans (sumS_bad hk (.inr hs2)))
    rw [hz.1, hz.2.1]
   ·
    have hs2 : ¬ (l.length : Int) ≤ k := of_decide_eq_false hb3
    have hk2 : k.toNat < l.length := by omega
    obtain ⟨x, hx⟩ : ∃ x, l[k.toNat]? = some x := ⟨_, List.getElem?_eq_getElem hk2⟩
    have hokx := hok x (List.mem_of_getElem? hx)
    have hwb := wt_bound hokx
    obtain ⟨gb, hgb⟩ := ex_base hbase (by omega)
    replace hgb : b = some gb := hgb
    subst hgb
    obtain rfl : a = some ⟨gb, pre.length, none⟩ := ha (fun e => by rw [e] at hk2; cases hk2)
    refine r_move rfl rfl rfl (r_move rfl rfl rfl ?_)
    refine r_indexAddr 0 (pre.length + k.toNat * 5) u22 ti49 rfl rfl rfl rfl rfl (by omega) (by omega) (pre_ne (XLc_ne (by omega))) (by show pre.length + Int.toNat _ * 5 = _; omega) ?_
    refine r_fieldAddr 0 (pre.length + k.toNat * 5) 0 rfl rfl rfl rfl rfl ti49 rfl rfl ?_
    refine r_load (v := .int .i64 x.f) 0 (pre.length + (k.toNat * 5 + 0)) _ rfl rfl rfl rfl ti3 (pre_get (XLc_f hx) rfl) rfl (by decide) rfl ?_
    refine r_move rfl rfl rfl (r_cmpInt rfl rfl rfl rfl rfl (r_pickF rfl rfl rfl rfl (run_nil (at_tn ?_))))
    refine at_cond rfl (fun hb4 => ?_) (fun hb4 => ?_)
    ·
     have hs3 : x.f ≠ at_ := by simpa using hb4
     refine at_seq (at_region (r_assign rfl rfl rfl (r_assign rfl rfl rfl (run_nil (at_tn (at_ret (at_tr (at_br (at_tr (at_tr (at_br (at_tr ?_))))))))))))
     refine at_end2 rfl (res_tmp rfl) (res_tmp rfl) (fun w hL => ⟨(), ?_, hL.picks [] trivial rfl rfl⟩)
     have hz := sum_none (b := to) (hI.trans (sumS_off hk (by omega) (by omega) hx hs3))
     rw [hz.1, hz.2.1]
    ·
     have hs3 : x.f = at_ := by simpa using hb4
     refine at_skip (at_tn ?_)
     refine at_drawn (l' := [⟨_,_,_,_,_,_⟩, ⟨_,_,_,_,_,_⟩, ⟨_,_,_,_,_,_⟩, ⟨_,_,_,_,_,_⟩, ⟨_,_,_,_,_,_⟩, ⟨_,_,_,_,_,_⟩, ⟨_,_,_,_,_,_⟩, ⟨_,_,_,_,_,_⟩, ⟨_,_,_,_,_,_⟩, ⟨_,_,_,_,_,_⟩, ⟨_,_,_,_,_,_⟩, ⟨_,_,_,_,_,_⟩, ⟨_,_,_,_,_,_⟩, ⟨_,_,_,_,_,_⟩]) [2000000] [0, 1, 2, 3, 4, 7, 8, 9, 10, 11, 5, 6, 12, 13] mixed (by kernel_rfl) rfl (by kernel_rfl) ?_
     refine r_move rfl rfl rfl (r_move rfl rfl rfl (r_move rfl rfl rfl ?_))
     refine r_indexAddr 0 (pre.length + k.toNat * 5) u22 ti49 rfl rfl rfl rfl rfl (by omega) (by omega) (pre_ne (XLc_ne (by omega))) (by show pre.length + Int.toNat _ * 5 = _; omega) ?_
     refine r_load (v := ExV x) 0 (pre.length + k.toNat * 5) _ rfl rfl rfl rfl ti49 (pre_get (XLc_get hx) rfl) rfl (by decide) rfl ?_
     refine r_move rfl rfl rfl (r_move rfl rfl rfl ?_)
     refine r_indexAddr 0 (pre.length + k.toNat * 5) u22 ti49 rfl rfl rfl rfl rfl (by omega) (by omega) (pre_ne (XLc_ne (by omega))) (by show pre.length + Int.toNat _ * 5 = _; omega) ?_
     refine r_fieldAddr 0 (pre.length + k.toNat * 5) 1 rfl rfl rfl rfl rfl ti49 rfl rfl ?_
     refine r_load (v := .int .i64 x.t) 0 (pre.length + (k.toNat * 5 + 1)) _ rfl rfl rfl rfl ti3 (pre_get (XLc_t hx) rfl) rfl (by decide) rfl ?_
     refine r_pcall [_] rfl rfl rfl (c_clock_Weight x hokx) ?_
     refine r_arith (r := n + wt x) rfl rfl rfl rfl (congrArg some (wi (by omega) (by omega) rfl)) ?_
     refine r_assign rfl rfl rfl (r_assign rfl rfl rfl (run_nil (at_bn (at_tn (at_region ?_)))))
     refine r_arith (r := ((i + 1 : Nat) : Int)) rfl rfl rfl rfl (congrArg some (wi (by omega) (by omega) (by omega))) ?_
     refine r_move rfl rfl rfl (run_nil (at_tn ?_))
     exact nextL ⟨⟨i + 1, x.t, n + wt x⟩, hlt, hI.trans (sumS_on hk (by omega) (by omega) hx hs3), by show -4294967296 * ((i + 1 : Nat) : Int) ≤ n + wt x; omega, by show n + wt x ≤ 4294967296 * ((i + 1 : Nat) : Int); omega⟩ (by simp only []; omega) ⟨rfl, rfl, rfl, rfl, rfl, rfl, rfl, rfl, trivial⟩ (weak_picks [some 0, some 1] ⟨⟨_, rfl, Blk.le_refl _⟩, ⟨_, rfl, Blk.le_refl _⟩, trivial⟩ rfl rfl)
 ·
  have hge : i = c.length := (by have := of_decide_eq_false hb1; omega)
  subst hge
  refine at_exit (at_te (at_te (at_be (at_tn (at_seq (at_seq (at_region (r_move rfl rfl rfl (r_move rfl rfl rfl (r_cmpInt rfl rfl rfl rfl rfl (run_nil (at_tn ?_))))))))))))
  refine at_cond rfl (fun hb2 => ?_) (fun hb2 => ?_)
  ·
   have hs4 : at_ ≠ to := by simpa using hb2
   refine at_seq (at_region (r_assign rfl rfl rfl (r_assign rfl rfl rfl (run_nil (at_tn (at_ret (at_tr ?_)))))))
   refine at_end2 rfl (res_tmp rfl) (res_tmp rfl) (fun w hL => ⟨(), ?_, hL.picks [] trivial rfl rfl⟩)
   have hz := sum_some (b := to) (hI.trans (by rw [List.drop_length]; rfl))
   rw [hz.1, hz.2.1, if_neg hs4, if_neg hs4]
  ·
   have hs4 : at_ = to := by simpa using hb2
   refine at_skip (at_tn (at_seq (at_region (r_move rfl rfl rfl (r_assign rfl rfl rfl (r_assign rfl rfl rfl (run_nil (at_tn (at_ret ?_)))))))))
   refine at_end2 rfl (res_tmp rfl) (res_tmp rfl) (fun w hL => ⟨(), ?_, hL.picks [] trivial rfl rfl⟩)
   have hz := sum_some (b := to) (hI.trans (by rw [List.drop_length]; rfl))
   rw [hz.1, hz.2.1, if_pos hs4, if_pos hs4]
end Go.Proofs.YtncogghlhlnmaaaGreatDoor
set_option linter.unusedVariables false
namespace Go.Proofs.YtncogghlhlnmaaaGreatDoor
open Go Go.RowKit Go.Via
set_option maxRecDepth 20000 in
theorem c_clock_Offset (l : List Ex) (a : Option Addr) (b : Option Nat) (pre : List Value) (N cap : Nat) (hc : l.length ≤ cap) (ha : l ≠ [] → a = b.map fun g => ⟨g, pre.length, none⟩) (hok : ∀ x ∈ l, okX x) (hn : l.length ≤ 1000) (d : Int) (hd : inI64 d) (hK : ∀ e, 0 ≤ e → e ≤ 1073741824 → CycOK l e (fun _ => True)) (hQ : ChOK l d (ChQ l d)) : SCall Tryz.prog 14 [⟨b, 49, pre ++ XLc l, N, false⟩] [.slice a l.length cap, .int .i64 d] Unit (fun _ => .tuple #[.agg #[.int .i64 (ofLo l d), .int .i64 (ofHi l d)], .int .i64 (chE l d)]) (fun _ => []) := by
 refine ⟨by kernel_rfl, fun w hL0 => ?_⟩
 refine calls_at (args := [.slice a l.length cap, .int .i64 d]) Tryz.func14 rfl (Nat.le_of_ble_eq_true rfl) hL0 ?_
 show At w ⟨46, [(0, .slice a l.length cap), (1, .int .i64 d)], [⟨b, 49, pre ++ XLc l, N, false⟩]⟩ _
 refine at_seq (at_region ?_)
 refine r_alloc [_, _] 2 (fun g => [_, ⟨some g, 26, _, 2, true⟩]) rfl rfl z26 rfl rfl (fun _ => rfl) (fun g0 => ?_)
 refine r_assign rfl rfl rfl (run_nil (at_tn (at_seq (at_region (r_move rfl rfl rfl (r_move rfl rfl rfl ?_))))))
 refine r_scall (hX := hQ.ne) [_, _] [0] rfl rfl rfl (c_clock_Chains l a b pre N cap hc ha hok hn d hd hK (ChQ l d) hQ) ⟨⟨_, rfl, Blk.le_refl _⟩, trivial⟩ rfl (.inr fun z b hb => by rcases List.mem_cons.1 hb with h | h; rw [h]; rw [List.mem_singleton.1 h]) (fun x => ?_)
 refine r_move rfl rfl rfl ?_
 refine r_extract (vs := [_, _, _]) rfl rfl rfl rfl ?_
 refine r_extract (vs := [_, _, _]) rfl rfl rfl rfl ?_
 refine r_extract (vs := [_, _, _]) rfl rfl rfl rfl ?_
 refine r_assign rfl rfl rfl (r_assign rfl rfl rfl (r_assign rfl rfl rfl (run_nil (at_tn (at_seq (at_seq (at_region (r_move rfl rfl rfl (r_cmpInt rfl rfl rfl rfl rfl (run_nil (at_tn ?_)))))))))))
 refine at_cond rfl (fun hb0 => ?_) (fun hb0 => ?_)
 ·
  have hE : chE l d ≠ 0 := by simpa using hb0
  have hgo : ¬ goA l d := fun g => hE (chE_5 g)
  refine at_seq (at_region ?_)
  refine r_build [] rfl rfl rfl (bd26_0) ?_
  refine r_move rfl rfl rfl ?_
  refine r_store rfl 1 0 [_, ⟨some g0, 26, _, 2, true⟩, _, _] [_, _] rfl rfl rfl rfl ti26 rfl rfl rfl rfl rfl ?_
  refine r_assign rfl rfl rfl (run_nil (at_tn (at_ret (at_tr ?_))))
  refine at_end2 rfl (res_cell 1 rfl rfl ti26 (vs := [_, _]) rfl rfl (Nat.le_of_ble_eq_true rfl) rfl) (res_tmp rfl) (fun w hL => ⟨(), ?_, hL.picks [] trivial rfl rfl⟩)
  rw [(of_no hgo).1, (of_no hgo).2]
 ·
  have hE : chE l d = 0 := by simpa using hb0
  refine at_skip (at_tn (at_seq (at_region (r_move rfl rfl rfl (r_move rfl rfl rfl (r_move rfl rfl rfl ?_))))))
  refine r_scall0 [_, _, _, _] [0, 2] rfl rfl rfl (c_clock_Sum l a b pre N cap hc ha hok x.u (x.ub.map fun g => ⟨g, 0, none⟩) x.ub [] x.un x.uc x.hu (fun _ => rfl) x.hl.1 0 d) ⟨⟨_, rfl, Blk.le_refl _⟩, ⟨_, rfl, le_share⟩, trivial⟩ rfl ?_
  refine r_move rfl rfl rfl ?_
  refine r_extract (vs := [_, _]) rfl rfl rfl rfl ?_
  refine r_extract (vs := [_, _]) rfl rfl rfl rfl ?_
  refine r_assign rfl rfl rfl (r_assign rfl rfl rfl (run_nil (at_tn (at_seq (at_region (r_move rfl rfl rfl (r_move rfl rfl rfl (r_move rfl rfl rfl ?_))))))))
  refine r_scall0 [_, _, _, _] [0, 3] rfl rfl rfl (c_clock_Sum l a b pre N cap hc ha hok x.v (x.vb.map fun g => ⟨g, 0, none⟩) x.vb [] x.vn x.vc x.hv (fun _ => rfl) x.hl.2 d 0) ⟨⟨_, rfl, Blk.le_refl _⟩, ⟨_, rfl, le_share⟩, trivial⟩ rfl ?_
  refine r_move rfl rfl rfl ?_
  refine r_extract (vs := [_, _]) rfl rfl rfl rfl ?_
  refine r_extract (vs := [_, _]) rfl rfl rfl rfl ?_
  refine r_assign rfl rfl rfl (r_assign rfl rfl rfl (run_nil (at_tn (at_seq (at_seq (at_region (r_move rfl rfl rfl ?_)))))))
  refine r_lenV u33 rfl rfl rfl ?_
  refine r_cmpInt rfl rfl rfl rfl rfl (run_nil (at_tn ?_))
  refine at_cond rfl (fun hb1 => ?_) (fun hb1 => ?_)
  ·
   have hu0 : x.u = [] := List.eq_nil_of_length_eq_zero (by have : ((x.u.length : Nat) : Int) = 0 := eq_of_beq hb1; omega)
   have hgo : ¬ goA l d := fun g => (x.ht g).1 hu0
   refine at_seq (at_region ?_)
   refine r_build [] rfl rfl rfl (bd26_0) ?_
   refine r_store rfl 1 0 [_, ⟨some g0, 26, _, 2, true⟩, _, _] [_, _] rfl rfl rfl rfl ti26 rfl rfl rfl rfl rfl ?_
   refine r_assign rfl rfl rfl (run_nil (at_tn (at_ret (at_tr ?_))))
   refine at_end2 rfl (res_cell 1 rfl rfl ti26 (vs := [_, _]) rfl rfl (Nat.le_of_ble_eq_true rfl) rfl) (res_tmp rfl) (fun w hL => ⟨(), ?_, hL.picks [] trivial rfl rfl⟩)
   rw [(of_no hgo).1, (of_no hgo).2, hE]
  ·
   have hgo : goA l d := Classical.byContradiction fun g => by have h1 := (x.hf g).1; have h2 := ne_of_beq_false hb1; rw [h1] at h2; exact h2 rfl
   have hq := x.ht hgo
   have hlb := loA_bnd hok hn d
   refine at_skip (at_tn (at_seq (at_region (r_move rfl rfl rfl ?_))))
   refine r_neg (r := -(sumN l x.v d 0)) rfl rfl rfl ((wi (by rw [hq.lo]; omega) (by rw [hq.lo]; omega) (by omega))) ?_
   refine r_move rfl rfl rfl ?_
   refine r_build [(0, _), (1, _)] rfl rfl rfl (bd26_2) ?_
   refine r_store rfl 1 0 [_, ⟨some g0, 26, _, 2, true⟩, _, _] [_, _] rfl rfl rfl rfl ti26 rfl rfl rfl rfl rfl ?_
   refine r_assign rfl rfl rfl (run_nil (at_tn (at_ret ?_)))
   refine at_end2 rfl (res_cell 1 rfl rfl ti26 (vs := [_, _]) rfl rfl (Nat.le_of_ble_eq_true rfl) rfl) (res_tmp rfl) (fun w hL => ⟨(), ?_, hL.picks [] trivial rfl rfl⟩)
   rw [(of_go hgo).1, (of_go hgo).2, hE, ← hq.hi, ← hq.lo]
end Go.Proofs.YtncogghlhlnmaaaGreatDoor
set_option linter.unusedVariables false
namespace Go.Proofs.YtncogghlhlnmaaaGreatDoor
open Go Go.RowKit Go.Via
set_option maxRecDepth 20000 in
theorem c_rational_FromInts (m n : Int) (hm : -9223372036854775808 ≤ m ∧ m ≤ 9223372036854775807) (hn : -9223372036854775808 ≤ n ∧ n ≤ 9223372036854775807) : PCall Tryz.prog 45 #[.int .i64 m, .int .i64 n] (.tuple #[Q (Rat.divInt m n), .int .i64 (if n = 0 then 6 else 0)]) := by
 refine ⟨by kernel_rfl, fun w => ?_⟩
 refine calls_at (args := [.int .i64 m, .int .i64 n]) Tryz.func45 rfl (Nat.le_of_ble_eq_true rfl) (LRel.nil w) ?_
 show At w ⟨13, [(0, .int .i64 m), (1, .int .i64 n)], []⟩ _
 refine at_seq (at_region ?_)
 refine r_alloc [_, _, _, _] 4 (fun g => [⟨some g, 63, _, 4, true⟩]) rfl rfl z63 rfl rfl (fun _ => rfl) (fun g0 => ?_)
 refine r_assign rfl rfl rfl (run_nil (at_tn (at_seq (at_region (r_move rfl rfl rfl ?_)))))
 refine r_pcall [_] rfl rfl rfl (c_integer_FromInt m hm.1 hm.2) ?_
 refine r_move rfl rfl rfl ?_
 refine r_pcall [_] rfl rfl rfl (c_integer_FromInt n hn.1 hn.2) ?_
 refine r_pcall [_, _] rfl rfl rfl (c_rational_Make m n (szI64 hm.1 hm.2) (szI64 hn.1 hn.2)) ?_
 refine r_extract (vs := [_, _]) rfl rfl rfl rfl ?_
 refine r_extract (vs := [_, _]) rfl rfl rfl rfl ?_
 refine r_store rfl 0 0 [⟨some g0, 63, _, 4, true⟩] [_, _, _, _] rfl rfl rfl rfl ti63 rfl rfl rfl rfl rfl ?_
 refine r_assign rfl rfl rfl (run_nil (at_tn (at_ret ?_)))
 refine at_end2 rfl (res_cell 0 rfl rfl ti63 (vs := [_, _, _, _]) rfl rfl (Nat.le_of_ble_eq_true rfl) rfl) (res_tmp rfl) (fun w hL => ⟨?_, hL.below⟩)
 exact rfl
set_option maxRecDepth 20000 in
theorem c_clock_Middle (lo hi : Int) (hs : -9223372036854775808 ≤ lo + hi ∧ lo + hi ≤ 9223372036854775807) : PCall Tryz.prog 27 #[.agg #[.int .i64 lo, .int .i64 hi]] (Q (Rat.divInt (lo + hi) 2)) := by
 refine ⟨by kernel_rfl, fun w => ?_⟩
 refine calls_at (args := [.agg #[.int .i64 lo, .int .i64 hi]]) Tryz.func27 rfl (Nat.le_of_ble_eq_true rfl) (LRel.nil w) ?_
 show At w ⟨15, [(0, .agg #[.int .i64 lo, .int .i64 hi])], []⟩ _
 refine at_seq (at_region ?_)
 refine r_box [_, _] 2 (fun g => [⟨some g, 26, _, 2, true⟩]) rfl rfl rfl rfl rfl (fun _ => rfl) (fun g0 => ?_)
 refine r_alloc [_, _, _, _] 4 (fun g => [_, ⟨some g, 63, _, 4, true⟩]) rfl rfl z63 rfl rfl (fun _ => rfl) (fun g1 => ?_)
 refine run_nil (at_tn (at_seq (at_region ?_)))
 refine r_fieldAddr 0 0 0 rfl rfl rfl rfl rfl ti26 rfl rfl ?_
 refine r_load 0 0 [_] rfl rfl rfl rfl ti3 rfl rfl rfl rfl ?_
 refine r_fieldAddr 0 0 1 rfl rfl rfl rfl rfl ti26 rfl rfl ?_
 refine r_load 0 1 [_] rfl rfl rfl rfl ti3 rfl rfl rfl rfl ?_
 refine r_arith (r := lo + hi) rfl rfl rfl rfl (congrArg some (wi (by omega) (by omega) rfl)) ?_
 refine r_pcall [_, _] rfl rfl rfl (c_rational_FromInts (lo + hi) 2 hs (by omega)) ?_
 refine r_move rfl rfl rfl ?_
 refine r_extract (vs := [_, _]) rfl rfl rfl rfl ?_
 refine r_extract (vs := [_, _]) rfl rfl rfl rfl ?_
 refine r_alloc [_, _, _, _] 4 (fun g => [_, _, ⟨some g, 63, _, 4, true⟩]) rfl rfl z63 rfl rfl (fun _ => rfl) (fun g2 => ?_)
 refine r_store rfl 2 0 [_, _, ⟨some g2, 63, _, 4, true⟩] [_, _, _, _] rfl rfl rfl rfl ti63 rfl rfl rfl rfl rfl ?_
 refine r_assign rfl rfl rfl (run_nil (at_tn (at_seq (at_region ?_))))
 refine r_load 2 0 [_, _, _, _] rfl rfl rfl rfl ti63 rfl rfl rfl rfl ?_
 refine r_store rfl 1 0 [_, ⟨some g1, 63, _, 4, true⟩, _] [_, _, _, _] rfl rfl rfl rfl ti63 rfl rfl rfl rfl rfl ?_
 refine run_nil (at_tn (at_ret ?_))
 refine at_end1 rfl (res_cell 1 rfl rfl ti63 (vs := [_, _, _, _]) rfl rfl (Nat.le_of_ble_eq_true rfl) rfl) (fun w hL => ⟨?_, hL.below⟩)
 exact rfl
set_option maxRecDepth 20000 in
theorem c_clock_Correct (l : List Ex) (a : Option Addr) (b : Option Nat) (pre : List Value) (N cap : Nat) (hc : l.length ≤ cap) (ha : l ≠ [] → a = b.map fun g => ⟨g, pre.length, none⟩) (hok : ∀ x ∈ l, okX x) (hn : l.length ≤ 1000) (d : Int) (hd : inI64 d) (hK : ∀ e, 0 ≤ e → e ≤ 1073741824 → CycOK l e (fun _ => True)) (hQ : ChOK l d (ChQ l d)) (ro rs rv rt rx ry : Int) (rc : Bool) (ht : -9223372036854775808 ≤ rt ∧ rt ≤ 9223372036854775807) : SCall Tryz.prog 29 [⟨b, 49, pre ++ XLc l, N, false⟩] [.slice a l.length cap, .agg #[.int .i64 ro, .int .i64 rs, .int .i64 rv, .int .i64 d, .int .i64 rt, .int .i64 rx, .int .i64 ry, .bool rc]] Unit (fun _ => .tuple #[corA l d rt, .int .i64 (chE l d)]) (fun _ => []) := by
 refine ⟨by kernel_rfl, fun w hL0 => ?_⟩
 have hob := of_bnd hok hn d
 refine calls_at (args := [.slice a l.length cap, .agg #[.int .i64 ro, .int .i64 rs, .int .i64 rv, .int .i64 d, .int .i64 rt, .int .i64 rx, .int .i64 ry, .bool rc]]) Tryz.func29 rfl (Nat.le_of_ble_eq_true rfl) hL0 ?_
 show At w ⟨25, [(0, .slice a l.length cap), (1, .agg #[.int .i64 ro, .int .i64 rs, .int .i64 rv, .int .i64 d, .int .i64 rt, .int .i64 rx, .int .i64 ry, .bool rc])], [⟨b, 49, pre ++ XLc l, N, false⟩]⟩ _
 refine at_seq (at_region ?_)
 refine r_box [_, _, _, _, _, _, _, _] 8 (fun g => [_, ⟨some g, 59, _, 8, true⟩]) rfl rfl rfl rfl rfl (fun _ => rfl) (fun g0 => ?_)
 refine r_alloc [_, _, _, _] 4 (fun g => [_, _, ⟨some g, 63, _, 4, true⟩]) rfl rfl z63 rfl rfl (fun _ => rfl) (fun g1 => ?_)
 refine r_assign rfl rfl rfl (run_nil (at_tn (at_seq (at_region (r_move rfl rfl rfl ?_)))))
 refine r_fieldAddr 1 0 3 rfl rfl rfl rfl rfl ti59 rfl rfl ?_
 refine r_load 1 3 [_] rfl rfl rfl rfl ti3 rfl rfl rfl rfl ?_
 refine r_scall0 [_, _] [0] rfl rfl rfl (c_clock_Offset l a b pre N cap hc ha hok hn d hd hK hQ) ⟨⟨_, rfl, Blk.le_refl _⟩, trivial⟩ rfl ?_
 refine r_move rfl rfl rfl ?_
 refine r_extract (vs := [_, _]) rfl rfl rfl rfl ?_
 refine r_extract (vs := [_, _]) rfl rfl rfl rfl ?_
 refine r_alloc [_, _] 2 (fun g => [_, _, _, ⟨some g, 26, _, 2, true⟩]) rfl rfl z26 rfl rfl (fun _ => rfl) (fun g2 => ?_)
 refine r_store rfl 3 0 [_, _, _, ⟨some g2, 26, _, 2, true⟩] [_, _] rfl rfl rfl rfl ti26 rfl rfl rfl rfl rfl ?_
 refine r_assign rfl rfl rfl (run_nil (at_tn (at_seq (at_seq (at_region (r_move rfl rfl rfl (r_cmpInt rfl rfl rfl rfl rfl (run_nil (at_tn ?_)))))))))
 refine at_cond rfl (fun hb0 => ?_) (fun hb0 => ?_)
 ·
  have hE : chE l d ≠ 0 := by simpa using hb0
  refine at_seq (at_region ?_)
  refine r_build [] rfl rfl rfl (bd63_0) ?_
  refine r_move rfl rfl rfl ?_
  refine r_store rfl 2 0 [_, _, ⟨some g1, 63, _, 4, true⟩, _] [_, _, _, _] rfl rfl rfl rfl ti63 rfl rfl rfl rfl rfl ?_
  refine r_assign rfl rfl rfl (run_nil (at_tn (at_ret (at_tr ?_))))
  refine at_end2 rfl (res_cell 2 rfl rfl ti63 (vs := [_, _, _, _]) rfl rfl (Nat.le_of_ble_eq_true rfl) rfl) (res_tmp rfl) (fun w hL => ⟨(), ?_, hL.picks [] trivial rfl rfl⟩)
  unfold corA; rw [if_neg hE]; rfl
 ·
  have hE : chE l d = 0 := by simpa using hb0
  refine at_skip (at_tn (at_seq ?_))
  refine at_drawn (l' := [⟨_,_,_,_,_,_⟩, ⟨_,_,_,_,_,_⟩, ⟨_,_,_,_,_,_⟩, ⟨_,_,_,_,_,_⟩, ⟨_,_,_,_,_,_⟩, ⟨_,_,_,_,_,_⟩, ⟨_,_,_,_,_,_⟩, ⟨_,_,_,_,_,_⟩]) [] [0, 1, 3, 2, 4, 5, 6, 7] mixed (by kernel_rfl) rfl (by kernel_rfl) ?_
  refine r_fieldAddr 1 0 4 rfl rfl rfl rfl rfl ti59 rfl rfl ?_
  refine r_load 1 4 [_] rfl rfl rfl rfl ti3 rfl rfl rfl rfl ?_
  refine r_load 3 0 [_, _] rfl rfl rfl rfl ti26 rfl rfl rfl rfl ?_
  refine r_pcall [_] rfl rfl rfl (c_rational_FromInt rt ht.1 ht.2) ?_
  refine r_pcall [_] rfl rfl rfl (c_clock_Middle (ofLo l d) (ofHi l d) (by omega)) ?_
  refine r_pcall [_, _] rfl rfl rfl (c_rational_Sub (rt : Rat) (midA l d) (Nat.le_trans (szC ht) (Nat.le_of_ble_eq_true rfl)) (Nat.le_trans (szOfC (by omega) (by omega)) (Nat.le_of_ble_eq_true rfl))) ?_
  refine r_store rfl 2 0 [_, _, ⟨some g1, 63, _, 4, true⟩, _] [_, _, _, _] rfl rfl rfl rfl ti63 rfl rfl rfl rfl rfl ?_
  refine r_assign rfl rfl rfl (run_nil (at_tn (at_ret ?_)))
  refine at_end2 rfl (res_cell 2 rfl rfl ti63 (vs := [_, _, _, _]) rfl rfl (Nat.le_of_ble_eq_true rfl) rfl) (res_tmp rfl) (fun w hL => ⟨(), ?_, hL.picks [] trivial rfl rfl⟩)
  unfold corA; rw [if_pos hE, hE]; rfl
end Go.Proofs.YtncogghlhlnmaaaGreatDoor
set_option linter.unusedVariables false
namespace Go.Proofs.YtncogghlhlnmaaaGreatDoor
open Go Go.RowKit Go.Via
theorem eq26 (a b c d : Int) (w : World) : (Op.equalIn 10000 26 (.agg #[.int .i64 a, .int .i64 b]) (.agg #[.int .i64 c, .int .i64 d])).run Tryz.prog w = .ok ((a == c) && (b == d)) w := by
  simp [go_sem]
  (repeat' split) <;> simp_all
end Go.Proofs.YtncogghlhlnmaaaGreatDoor
set_option linter.unusedVariables false
namespace Go.Proofs.YtncogghlhlnmaaaGreatDoor
open Go Go.RowKit Go.Via
set_option maxRecDepth 20000 in
set_option maxHeartbeats 4000000 in
theorem c_law_known  : PCall Tryz.prog 12 #[] (.bool true) := by
 refine ⟨by kernel_rfl, fun w => ?_⟩
 refine calls_at (args := []) Tryz.func12 rfl (Nat.le_of_ble_eq_true rfl) (LRel.nil w) ?_
 show At w ⟨59, [], []⟩ _
 refine at_seq (at_region (r_assign rfl rfl rfl (run_nil (at_tn (at_seq (at_region ?_))))))
 refine r_build [(0, _), (1, _), (2, _), (3, _), (4, _)] rfl rfl rfl (bd49_5) ?_
 refine r_build [(0, _), (1, _), (2, _), (3, _), (4, _)] rfl rfl rfl (bd49_5) ?_
 refine r_buildSlice [(0, _), (1, _)] (fun g => [⟨some g, 49, _, 10, true⟩]) rfl rfl rfl (bs22_2) rfl (fun _ => rfl) (fun g0 => ?_)
 refine r_assign rfl rfl rfl (run_nil (at_tn (at_seq (at_region (r_move rfl rfl rfl ?_)))))
 refine r_scall0 [_, _] [0] rfl rfl rfl (c_clock_Offset ex0 (some ⟨g0, 0, none⟩) (some g0) [] 10 2 (Nat.le_refl _) (fun _ => rfl) ex0_ok (by decide) 1 ⟨by decide, by decide⟩ (cycT ex0_ok (by decide)) (chOK ex0_ok 1 (by decide))) ⟨⟨_, rfl, le_share⟩, trivial⟩ rfl ?_
 refine r_know 13 (.tuple #[.agg #[.int .i64 5, .int .i64 5], .int .i64 0]) rfl (by rw [ex0_go.1, ex0_go.2.1, ex0_go.2.2]) ?_
 refine r_move rfl rfl rfl ?_
 refine r_extract (vs := [_, _]) rfl rfl rfl rfl ?_
 refine r_extract (vs := [_, _]) rfl rfl rfl rfl ?_
 refine r_alloc [_, _] 2 (fun g => [_, ⟨some g, 26, _, 2, true⟩]) rfl rfl z26 rfl rfl (fun _ => rfl) (fun g1 => ?_)
 refine r_store rfl 1 0 [_, ⟨some g1, 26, _, 2, true⟩] [_, _] rfl rfl rfl rfl ti26 rfl rfl rfl rfl rfl ?_
 refine r_assign rfl rfl rfl (run_nil (at_tn (at_seq (at_region (r_move rfl rfl rfl ?_)))))
 refine r_build [(3, _), (4, _)] rfl rfl rfl (bd59_3_4x) ?_
 refine r_scall0 [_, _] [0] rfl rfl rfl (c_clock_Correct ex0 (some ⟨g0, 0, none⟩) (some g0) [] 10 2 (Nat.le_refl _) (fun _ => rfl) ex0_ok (by decide) 1 ⟨by decide, by decide⟩ (cycT ex0_ok (by decide)) (chOK ex0_ok 1 (by decide)) 0 0 0 30 0 0 false (by omega)) ⟨⟨_, rfl, le_share⟩, trivial⟩ rfl ?_
 refine r_know 19 (.tuple #[Q (Rat.divInt 25 1), .int .i64 0]) rfl (by rw [ex0_cor, ex0_go.2.2]) ?_
 refine r_move rfl rfl rfl ?_
 refine r_extract (vs := [_, _]) rfl rfl rfl rfl ?_
 refine r_extract (vs := [_, _]) rfl rfl rfl rfl ?_
 refine r_alloc [_, _, _, _] 4 (fun g => [_, _, ⟨some g, 63, _, 4, true⟩]) rfl rfl z63 rfl rfl (fun _ => rfl) (fun g2 => ?_)
 refine r_store rfl 2 0 [_, _, ⟨some g2, 63, _, 4, true⟩] [_, _, _, _] rfl rfl rfl rfl ti63 rfl rfl rfl rfl rfl ?_
 refine r_assign rfl rfl rfl (run_nil (at_tn (at_seq (at_region (r_move rfl rfl rfl ?_)))))
 refine r_buildSlice [(0, _), (1, _)] (fun g => [_, _, _, ⟨some g, 3, _, 2, true⟩]) rfl rfl rfl (bs33_2) rfl (fun _ => rfl) (fun g3 => ?_)
 refine r_scall0 [_, _, _, _] [0, 3] rfl rfl rfl (c_clock_Sum ex0 (some ⟨g0, 0, none⟩) (some g0) [] 10 2 (Nat.le_refl _) (fun _ => rfl) ex0_ok [0, 1] (some ⟨g3, 0, none⟩) (some g3) [] 2 2 (Nat.le_refl _) (fun _ => rfl) (by decide) 0 0) ⟨⟨_, rfl, le_share⟩, ⟨_, rfl, le_share⟩, trivial⟩ rfl ?_
 refine r_know 25 (.tuple #[.int .i64 0, .int .i64 0]) rfl (by rw [ex0_sum.1, ex0_sum.2]) ?_
 refine r_move rfl rfl rfl ?_
 refine r_extract (vs := [_, _]) rfl rfl rfl rfl ?_
 refine r_extract (vs := [_, _]) rfl rfl rfl rfl ?_
 refine r_assign rfl rfl rfl (r_assign rfl rfl rfl (run_nil (at_tn (at_seq ?_))))
 refine at_drawn (l' := (⟨_,_,_,_,_,_⟩ :: ⟨_,_,_,_,_,_⟩ :: ⟨_,_,_,_,_,_⟩ :: ⟨_,_,_,_,_,_⟩ :: ⟨_,_,_,_,_,_⟩ :: ⟨_,_,_,_,_,_⟩ :: ⟨_,_,_,_,_,_⟩ :: ⟨_,_,_,_,_,_⟩ :: ⟨_,_,_,_,_,_⟩ :: ⟨_,_,_,_,_,_⟩ :: ⟨_,_,_,_,_,_⟩ :: ⟨_,_,_,_,_,_⟩ :: ⟨_,_,_,_,_,_⟩ :: ⟨_,_,_,_,_,_⟩ :: ⟨_,_,_,_,_,_⟩ :: ⟨_,_,_,_,_,_⟩ :: ⟨_,_,_,_,_,_⟩ :: ⟨_,_,_,_,_,_⟩ :: ⟨_,_,_,_,_,_⟩ :: ⟨_,_,_,_,_,_⟩ :: ⟨_,_,_,_,_,_⟩ :: ⟨_,_,_,_,_,_⟩ :: ⟨_,_,_,_,_,_⟩ :: ⟨_,_,_,_,_,_⟩ :: ⟨_,_,_,_,_,_⟩ :: ⟨_,_,_,_,_,_⟩ :: ⟨_,_,_,_,_,_⟩ :: ⟨_,_,_,_,_,_⟩ :: ⟨_,_,_,_,_,_⟩ :: ⟨_,_,_,_,_,_⟩ :: ⟨_,_,_,_,_,_⟩ :: ⟨_,_,_,_,_,_⟩ :: [])) [] (0 :: 1 :: 2 :: 3 :: 4 :: 5 :: 6 :: 7 :: 8 :: 9 :: 10 :: 11 :: 12 :: 13 :: 14 :: 15 :: 16 :: 17 :: 18 :: 19 :: 20 :: 21 :: 22 :: 23 :: 24 :: 25 :: 26 :: 27 :: 28 :: 29 :: 30 :: 31 :: []) mixed (drawnM (0 :: 1 :: 3 :: 7 :: 7 :: 31 :: 63 :: 127 :: 255 :: 511 :: 1023 :: 2047 :: 4095 :: 4095 :: 16383 :: 32767 :: 65535 :: 131071 :: 262143 :: 524287 :: 1048575 :: 2097151 :: 4194303 :: 8388607 :: 16777215 :: 33554431 :: 67108863 :: 134217727 :: 268435455 :: 536870911 :: 1073741823 :: 2147483647 :: []) (by kernel_rfl)) rfl (by kernel_rfl) ?_
 refine r_move rfl rfl rfl (r_cmpInt rfl rfl rfl rfl rfl ?_)
 refine r_know 29 (.bool true) rfl rfl ?_
 refine r_move rfl rfl rfl ?_
 refine r_load 1 0 [_, _] rfl rfl rfl rfl ti26 rfl rfl rfl rfl ?_
 refine r_build [(0, _), (1, _)] rfl rfl rfl (bd26_2) ?_
 refine r_eqlAgg rfl rfl rfl rfl gd26 (eq26 _ _ _ _) ?_
 refine r_know 33 (.bool true) rfl rfl ?_
 refine r_pickT rfl rfl rfl rfl (r_move rfl rfl rfl (r_move rfl rfl rfl (r_cmpInt rfl rfl rfl rfl rfl ?_)))
 refine r_know 37 (.bool true) rfl rfl ?_
 refine r_pickT rfl rfl rfl rfl (r_move rfl rfl rfl ?_)
 refine r_load 2 0 [_, _, _, _] rfl rfl rfl rfl ti63 rfl rfl rfl rfl ?_
 refine r_pcall [_, _] rfl rfl rfl (c_ref02_Of 25 1 (by omega) (by omega) (by omega) (by omega) (by omega)) ?_
 refine r_eqlAgg rfl rfl rfl rfl gd63 (eq63 (Rat.divInt 25 1) (Rat.divInt 25 1)) ?_
 refine r_know 42 (.bool true) rfl (congrArg Value.bool (decide_eq_true rfl)) ?_
 refine r_pickT rfl rfl rfl rfl (r_move rfl rfl rfl (r_move rfl rfl rfl (r_cmpInt rfl rfl rfl rfl rfl ?_)))
 refine r_know 46 (.bool true) rfl rfl ?_
 refine r_pickT rfl rfl rfl rfl (r_move rfl rfl rfl (r_move rfl rfl rfl (r_cmpInt rfl rfl rfl rfl rfl ?_)))
 refine r_know 50 (.bool true) rfl rfl ?_
 refine r_pickT rfl rfl rfl rfl (r_move rfl rfl rfl (r_move rfl rfl rfl ?_))
 refine r_indexAddr 0 (0 * 5) u22 ti49 rfl rfl rfl rfl rfl (by omega) (by omega) (by simp) (by show 0 + Int.toNat _ * 5 = _; omega) ?_
 refine r_load (v := ExV ⟨0, 1, 10, 17, 2⟩) 0 (0 * 5) _ rfl rfl rfl rfl ti49 rfl rfl (by decide) rfl ?_
 refine r_pcall [_] rfl rfl rfl (c_clock_Weight ⟨0, 1, 10, 17, 2⟩ (ex0_ok _ (by simp [ex0]))) ?_
 refine r_cmpInt rfl rfl rfl rfl rfl ?_
 refine r_know 57 (.bool true) rfl rfl ?_
 refine r_pickT rfl rfl rfl rfl (r_assign rfl rfl rfl (run_nil (at_tn (at_ret ?_))))
 refine at_end1 rfl (res_tmp rfl) (fun w hL => ⟨?_, hL.below⟩)
 exact rfl
end Go.Proofs.YtncogghlhlnmaaaGreatDoor
set_option linter.unusedVariables false
namespace Go.Proofs.YtncogghlhlnmaaaGreatDoor
open Go Go.RowKit Go.Via
set_option maxRecDepth 20000 in
set_option maxHeartbeats 8000000 in
theorem c_law_least (l : List Ex) (a : Option Addr) (b : Option Nat) (pre : List Value) (N cap : Nat) (hc : l.length ≤ cap) (ha : l ≠ [] → a = b.map fun g => ⟨g, pre.length, none⟩) (hok : ∀ x ∈ l, okX x) (hn : l.length ≤ 1000) (nodes : List Int) (bn : Option Nat) (Nn cn : Nat) (hnc : nodes.length ≤ cn) (hnn : nodes.length ≤ 3000) (fr : Int) (steps : Nat) (hst : steps ≤ 3001) : SCall Tryz.prog 36 [⟨b, 49, pre ++ XLc l, N, false⟩, ⟨bn, 3, ILc nodes, Nn, false⟩] [.slice a l.length cap, slv bn 0 nodes.length cn, .int .i64 fr, .int .i64 (steps : Nat)] (SR (leastJ l nodes fr steps).length) (fun x => x.v) (fun x => [⟨x.b, 3, ILc (leastJ l nodes fr steps), x.n, true⟩]) := by
 refine ⟨by kernel_rfl, fun w hL0 => ?_⟩
 refine calls_at (args := [.slice a l.length cap, slv bn 0 nodes.length cn, .int .i64 fr, .int .i64 (steps : Nat)]) Tryz.func36 rfl (Nat.le_of_ble_eq_true rfl) hL0 ?_
 show At w ⟨113, [(0, .slice a l.length cap), (1, slv bn 0 nodes.length cn), (2, .int .i64 fr), (3, .int .i64 (steps : Nat))], [⟨b, 49, pre ++ XLc l, N, false⟩, ⟨bn, 3, ILc nodes, Nn, false⟩]⟩ _
 refine at_seq ?_
 refine at_base 0 rfl (fun hbase => ?_)
 refine at_base 1 rfl (fun hbase1 => ?_)
 refine at_region (r_assign rfl rfl rfl (run_nil (at_tn (at_seq (at_region (r_move rfl rfl rfl ?_))))))
 refine r_lenV u33 rfl rfl rfl ?_
 refine q_makeSlice (c := nodes.length) (ILc (List.replicate nodes.length 0)) (fun g => [_, _, ⟨some g, 3, _, _, true⟩]) u33 el3 rfl rfl rfl rfl rfl rfl (by omega) (ILc_rep _) (fun _ => rfl) (fun g0 => ?_)
 refine r_assign rfl rfl rfl (run_nil (at_tn (at_seq (at_seq (at_region (r_assign rfl rfl rfl (run_nil (at_tn (at_block ?_)))))))))
 refine enterL (nt := 113) (ι := {i : Nat // i ≤ nodes.length}) (fun ⟨i, hi⟩ => [(0, .slice a l.length cap), (1, slv bn 0 nodes.length cn), (2, .int .i64 fr), (3, .int .i64 (steps : Nat)), (9, slv (some g0) 0 nodes.length nodes.length), (10, .int .i64 (i : Nat))]) (fun ⟨i, hi⟩ => [⟨b, 49, pre ++ XLc l, N, false⟩, ⟨bn, 3, ILc nodes, Nn, false⟩, ⟨some g0, 3, ILc (initI nodes fr i), nodes.length, true⟩]) (fun ⟨i, hi⟩ => nodes.length - i) ⟨0, Nat.zero_le _⟩ ⟨rfl, rfl, rfl, rfl, rfl, rfl, trivial⟩ (Weak.refl _) ?_
 rintro ⟨i, hi⟩
 show At _ ⟨113, [(0, .slice a l.length cap), (1, slv bn 0 nodes.length cn), (2, .int .i64 fr), (3, .int .i64 (steps : Nat)), (9, slv (some g0) 0 nodes.length nodes.length), (10, .int .i64 (i : Nat))], [⟨b, 49, pre ++ XLc l, N, false⟩, ⟨bn, 3, ILc nodes, Nn, false⟩, ⟨some g0, 3, ILc (initI nodes fr i), nodes.length, true⟩]⟩ _
 refine at_seq (at_seq (at_region (r_move rfl rfl rfl (r_move rfl rfl rfl ?_))))
 refine r_lenV u33 rfl rfl rfl ?_
 refine r_cmpInt rfl rfl rfl rfl rfl (run_nil (at_tn ?_))
 refine at_cond rfl (fun hb1 => ?_) (fun hb1 => ?_)
 ·
  have hlt : i < nodes.length := (by have := of_decide_eq_true hb1; omega)
  obtain ⟨z, hz⟩ : ∃ z, nodes[i]? = some z := ⟨_, List.getElem?_eq_getElem hlt⟩
  obtain ⟨gn, hgn⟩ := il_base (pre := []) hbase1 (by omega)
  replace hgn : bn = some gn := hgn
  subst hgn
  refine at_skip (at_tn (at_seq (at_block (at_seq (at_region (r_move rfl rfl rfl (r_cmpInt rfl rfl rfl rfl rfl (r_move rfl rfl rfl ?_))))))))
  refine r_split 27 rfl (fun hb2 => ?_) (fun hb2 => ?_)
  ·
   have hf0 : 0 ≤ fr := of_decide_eq_true hb2
   refine r_move rfl rfl rfl (r_move rfl rfl rfl ?_)
   refine r_indexAddr 1 (i * 1) u33 ti3 rfl rfl rfl rfl rfl (by omega) (by omega) (ILc_ne (by omega)) (by show 0 + Int.toNat _ * 1 = _; omega) ?_
   refine r_load (v := .int .i64 z) 1 (i * 1) _ rfl rfl rfl rfl ti3 (ILc_get hz) rfl (by decide) rfl ?_
   refine r_move rfl rfl rfl (r_cmpInt rfl rfl rfl rfl rfl (r_pickT rfl rfl rfl rfl (run_nil (at_tn ?_))))
   refine at_cond rfl (fun hb3 => ?_) (fun hb3 => ?_)
   ·
    have hzf : z ≠ fr := by simpa using hb3
    have hin := initI_yes hf0 hz hzf
    refine at_region (r_move rfl rfl rfl (r_move rfl rfl rfl ?_))
    refine r_indexAddr 2 (i * 1) u33 ti3 rfl rfl rfl rfl rfl (by omega) (by omega) (ILc_ne (by rw [initI_len]; omega)) (by show 0 + Int.toNat _ * 1 = _; omega) ?_
    refine r_store1 rfl 2 (i * 1) [_, _, ⟨some g0, 3, _, _, true⟩] (ILc ((initI nodes fr i).set i farJ)) ti3 rfl rfl rfl rfl rfl rfl rfl rfl (by rw [ILc_length, initI_len]; omega) (ILc_set _ _ _) rfl ?_
    refine run_nil (at_bn (at_tn (at_region (r_move rfl rfl rfl ?_))))
    refine r_arith (r := ((i + 1 : Nat) : Int)) rfl rfl rfl rfl (congrArg some (wi (by omega) (by omega) (by omega))) ?_
    refine r_assign rfl rfl rfl (run_nil (at_tn ?_))
    exact nextL ⟨i + 1, hlt⟩ (by simp only []; omega) ⟨rfl, rfl, rfl, rfl, rfl, rfl, trivial⟩ (weak_picks [some 0, some 1, some 2] ⟨⟨_, rfl, Blk.le_refl _⟩, ⟨_, rfl, Blk.le_refl _⟩, ⟨_, rfl, le_same (congrArg (fun c => (⟨some g0, 3, ILc c, nodes.length, true⟩ : Blk)) (hin))⟩, trivial⟩ rfl rfl)
   ·
    have hzf : z = fr := by simpa using hb3
    have hin := initI_no hz (fr := fr) (fun h => h.2 hzf)
    refine at_skip (at_bn (at_tn (at_region (r_move rfl rfl rfl ?_))))
    refine r_arith (r := ((i + 1 : Nat) : Int)) rfl rfl rfl rfl (congrArg some (wi (by omega) (by omega) (by omega))) ?_
    refine r_assign rfl rfl rfl (run_nil (at_tn ?_))
    exact nextL ⟨i + 1, hlt⟩ (by simp only []; omega) ⟨rfl, rfl, rfl, rfl, rfl, rfl, trivial⟩ (weak_picks [some 0, some 1, some 2] ⟨⟨_, rfl, Blk.le_refl _⟩, ⟨_, rfl, Blk.le_refl _⟩, ⟨_, rfl, le_same (congrArg (fun c => (⟨some g0, 3, ILc c, nodes.length, true⟩ : Blk)) (hin))⟩, trivial⟩ rfl rfl)
  ·
   have hf0 : ¬ 0 ≤ fr := of_decide_eq_false hb2
   have hin := initI_no hz (fr := fr) (fun h => hf0 h.1)
   refine r_no rfl rfl rfl (r_no rfl rfl rfl (r_no rfl rfl rfl (r_no rfl rfl rfl (r_no rfl rfl rfl (r_no rfl rfl rfl (r_pickF rfl rfl rfl rfl (run_nil (at_tn (at_condF rfl (at_skip (at_bn (at_tn (at_region (r_move rfl rfl rfl ?_))))))))))))))
   refine r_arith (r := ((i + 1 : Nat) : Int)) rfl rfl rfl rfl (congrArg some (wi (by omega) (by omega) (by omega))) ?_
   refine r_assign rfl rfl rfl (run_nil (at_tn ?_))
   exact nextL ⟨i + 1, hlt⟩ (by simp only []; omega) ⟨rfl, rfl, rfl, rfl, rfl, rfl, trivial⟩ (weak_picks [some 0, some 1, some 2] ⟨⟨_, rfl, Blk.le_refl _⟩, ⟨_, rfl, Blk.le_refl _⟩, ⟨_, rfl, le_same (congrArg (fun c => (⟨some g0, 3, ILc c, nodes.length, true⟩ : Blk)) (hin))⟩, trivial⟩ rfl rfl)
 ·
  have hge : i = nodes.length := (by have := of_decide_eq_false hb1; omega)
  subst hge
  refine at_exit (at_te (at_te (at_be (at_tn (at_seq (at_seq (at_region (r_assign rfl rfl rfl (run_nil (at_tn (at_block ?_)))))))))))
  refine enterL (nt := 113) (ι := {x : Nat × Option Nat × Nat × Nat // x.1 ≤ steps ∧ nodes.length ≤ x.2.2.2}) (fun ⟨⟨r, ob, oN, oc⟩, hr, h1⟩ => [(0, .slice a l.length cap), (1, slv bn 0 nodes.length cn), (3, .int .i64 (steps : Nat)), (9, slv ob 0 nodes.length oc), (11, .int .i64 (r : Nat))]) (fun ⟨⟨r, ob, oN, oc⟩, hr, h1⟩ => [⟨b, 49, pre ++ XLc l, N, false⟩, ⟨bn, 3, ILc nodes, Nn, false⟩, ⟨ob, 3, ILc (leastJ l nodes fr r), oN, true⟩]) (fun ⟨⟨r, ob, oN, oc⟩, hr, h1⟩ => steps - r) ⟨(0, some g0, nodes.length, nodes.length), Nat.zero_le _, Nat.le_refl _⟩ ⟨rfl, rfl, rfl, rfl, rfl, trivial⟩ (weak_picks [some 0, some 1, some 2] ⟨⟨_, rfl, Blk.le_refl _⟩, ⟨_, rfl, Blk.le_refl _⟩, ⟨_, rfl, le_same (congrArg (fun c => (⟨some g0, 3, ILc c, nodes.length, true⟩ : Blk)) ((initI_end nodes fr).symm))⟩, trivial⟩ rfl rfl) ?_
  rintro ⟨⟨r, ob, oN, oc⟩, hr, h1⟩
  show At _ ⟨113, [(0, .slice a l.length cap), (1, slv bn 0 nodes.length cn), (3, .int .i64 (steps : Nat)), (9, slv ob 0 nodes.length oc), (11, .int .i64 (r : Nat))], [⟨b, 49, pre ++ XLc l, N, false⟩, ⟨bn, 3, ILc nodes, Nn, false⟩, ⟨ob, 3, ILc (leastJ l nodes fr r), oN, true⟩]⟩ _
  replace hr : r ≤ steps := hr
  replace h1 : nodes.length ≤ oc := h1
  refine at_base 2 rfl (fun hbase2 => ?_)
  refine at_seq (at_seq (at_region (r_move rfl rfl rfl (r_move rfl rfl rfl (r_cmpInt rfl rfl rfl rfl rfl (run_nil (at_tn ?_)))))))
  refine at_cond rfl (fun hb3 => ?_) (fun hb3 => ?_)
  ·
   have hrlt : r < steps := (by have := of_decide_eq_true hb3; omega)
   refine at_skip (at_tn (at_seq (at_block (at_seq (at_region ?_)))))
   refine r_buildSlice [] (fun g => [_, _, _, ⟨some g, 3, _, 0, true⟩]) rfl rfl rfl (bs33_0) rfl (fun _ => rfl) (fun g0 => ?_)
   refine r_move rfl rfl rfl ?_
   refine q_appendO (s := 1) (len := 0) (n2 := nodes.length) 3 2 (ILc (leastJ l nodes fr r)) (fun q => [_, _, _, ⟨q.b, 3, ILc (leastJ l nodes fr r), q.n, true⟩]) u33 el3 rfl rfl rfl rfl rfl rfl rfl rfl rfl rfl rfl (Nat.le_refl _) (Nat.le_refl _) (by by_cases hz : nodes.length = 0; exact .inl hz; exact .inr (il_base (pre := []) hbase2 (by rw [leastJ_len]; omega))) (ILc_whole (leastJ_len l nodes fr r)) (by rw [ILc_length, leastJ_len]; omega) (ILc_one _) (by omega) (fun _ => rfl) (fun q => ?_)
   refine r_assign rfl rfl rfl (run_nil (at_tn (at_seq (at_seq (at_region (r_assign rfl rfl rfl (run_nil (at_tn (at_block ?_)))))))))
   refine enterL (nt := 113) (ι := {x : Nat × Option Nat × Nat × Nat // x.1 ≤ l.length ∧ nodes.length ≤ x.2.2.2}) (fun ⟨⟨k, nb, nN, nc⟩, hk, h2⟩ => [(0, .slice a l.length cap), (1, slv bn 0 nodes.length cn), (3, .int .i64 (steps : Nat)), (9, slv ob 0 nodes.length oc), (11, .int .i64 (r : Nat)), (12, slv nb 0 nodes.length nc), (13, .int .i64 (k : Nat))]) (fun ⟨⟨k, nb, nN, nc⟩, hk, h2⟩ => [⟨b, 49, pre ++ XLc l, N, false⟩, ⟨bn, 3, ILc nodes, Nn, false⟩, ⟨ob, 3, ILc (leastJ l nodes fr r), oN, true⟩, ⟨nb, 3, ILc ((l.take k).foldl (exJ nodes (leastJ l nodes fr r)) (leastJ l nodes fr r)), nN, true⟩]) (fun ⟨⟨k, nb, nN, nc⟩, hk, h2⟩ => l.length - k) ⟨(0, q.b, q.n, q.cap), Nat.zero_le _, by have := q.h; show nodes.length ≤ q.cap; omega⟩ ⟨rfl, rfl, rfl, rfl, rfl, (look_val rfl (congrArg (fun m => slv q.b 0 m q.cap) (Nat.zero_add _))), rfl, trivial⟩ (weak_picks [some 0, some 1, some 2, some 3] ⟨⟨_, rfl, Blk.le_refl _⟩, ⟨_, rfl, Blk.le_refl _⟩, ⟨_, rfl, Blk.le_refl _⟩, ⟨_, rfl, Blk.le_refl _⟩, trivial⟩ rfl rfl) ?_
   rintro ⟨⟨k, nb, nN, nc⟩, hk, h2⟩
   show At _ ⟨113, [(0, .slice a l.length cap), (1, slv bn 0 nodes.length cn), (3, .int .i64 (steps : Nat)), (9, slv ob 0 nodes.length oc), (11, .int .i64 (r : Nat)), (12, slv nb 0 nodes.length nc), (13, .int .i64 (k : Nat))], [⟨b, 49, pre ++ XLc l, N, false⟩, ⟨bn, 3, ILc nodes, Nn, false⟩, ⟨ob, 3, ILc (leastJ l nodes fr r), oN, true⟩, ⟨nb, 3, ILc ((l.take k).foldl (exJ nodes (leastJ l nodes fr r)) (leastJ l nodes fr r)), nN, true⟩]⟩ _
   replace hk : k ≤ l.length := hk
   replace h2 : nodes.length ≤ nc := h2
   refine at_base 3 rfl (fun hbase3 => ?_)
   refine at_seq (at_seq (at_region (r_move rfl rfl rfl (r_move rfl rfl rfl ?_))))
   refine r_lenV u22 rfl rfl rfl ?_
   refine r_cmpInt rfl rfl rfl rfl rfl (run_nil (at_tn ?_))
   refine at_cond rfl (fun hb5 => ?_) (fun hb5 => ?_)
   ·
    have hlt : k < l.length := (by have := of_decide_eq_true hb5; omega)
    obtain ⟨x, hx⟩ : ∃ x, l[k]? = some x := ⟨l[k], List.getElem?_eq_getElem hlt⟩
    have hokx := hok x (List.mem_of_getElem? hx)
    have hwb := wt_bound hokx
    obtain ⟨gb, hgb⟩ := ex_base hbase (by omega)
    replace hgb : b = some gb := hgb
    subst hgb
    obtain rfl : a = some ⟨gb, pre.length, none⟩ := ha (fun e => by rw [e] at hlt; cases hlt)
    refine at_skip (at_tn (at_seq (at_block (at_seq (at_region (r_assign rfl rfl rfl (run_nil (at_tn (at_block ?_)))))))))
    refine enterL (nt := 113) (ι := {i : Nat // i ≤ nodes.length}) (fun ⟨i1, hi1⟩ => [(0, .slice (some ⟨gb, pre.length, none⟩) l.length cap), (1, slv bn 0 nodes.length cn), (3, .int .i64 (steps : Nat)), (9, slv ob 0 nodes.length oc), (11, .int .i64 (r : Nat)), (12, slv nb 0 nodes.length nc), (13, .int .i64 (k : Nat)), (14, .int .i64 (i1 : Nat))]) (fun ⟨i1, hi1⟩ => [⟨some gb, 49, pre ++ XLc l, N, false⟩, ⟨bn, 3, ILc nodes, Nn, false⟩, ⟨ob, 3, ILc (leastJ l nodes fr r), oN, true⟩, ⟨nb, 3, ILc ((List.range i1).foldl (rowJ nodes (leastJ l nodes fr r) x) ((l.take k).foldl (exJ nodes (leastJ l nodes fr r)) (leastJ l nodes fr r))), nN, true⟩]) (fun ⟨i1, hi1⟩ => nodes.length - i1) ⟨0, Nat.zero_le _⟩ ⟨rfl, rfl, rfl, rfl, rfl, rfl, rfl, rfl, trivial⟩ (Weak.refl _) ?_
    rintro ⟨i1, hi1⟩
    show At _ ⟨113, [(0, .slice (some ⟨gb, pre.length, none⟩) l.length cap), (1, slv bn 0 nodes.length cn), (3, .int .i64 (steps : Nat)), (9, slv ob 0 nodes.length oc), (11, .int .i64 (r : Nat)), (12, slv nb 0 nodes.length nc), (13, .int .i64 (k : Nat)), (14, .int .i64 (i1 : Nat))], [⟨some gb, 49, pre ++ XLc l, N, false⟩, ⟨bn, 3, ILc nodes, Nn, false⟩, ⟨ob, 3, ILc (leastJ l nodes fr r), oN, true⟩, ⟨nb, 3, ILc ((List.range i1).foldl (rowJ nodes (leastJ l nodes fr r) x) ((l.take k).foldl (exJ nodes (leastJ l nodes fr r)) (leastJ l nodes fr r))), nN, true⟩]⟩ _
    refine at_seq (at_seq (at_region (r_move rfl rfl rfl (r_move rfl rfl rfl ?_))))
    refine r_lenV u33 rfl rfl rfl ?_
    refine r_cmpInt rfl rfl rfl rfl rfl (run_nil (at_tn ?_))
    refine at_cond rfl (fun hb7 => ?_) (fun hb7 => ?_)
    ·
     have hlt1 : i1 < nodes.length := (by have := of_decide_eq_true hb7; omega)
     have hSl : (leastJ l nodes fr r).length = nodes.length := leastJ_len l nodes fr r
     have hTkl : ((l.take k).foldl (exJ nodes (leastJ l nodes fr r)) (leastJ l nodes fr r)).length = nodes.length := (foldl_len _ (fun s x => exJ_len nodes _ s x) _ _).trans hSl
     have hTal : ((List.range i1).foldl (rowJ nodes (leastJ l nodes fr r) x) ((l.take k).foldl (exJ nodes (leastJ l nodes fr r)) (leastJ l nodes fr r))).length = nodes.length := (foldl_len _ (fun s a => rowJ_len nodes _ x s a) _ _).trans hTkl
     obtain ⟨gn, hgn⟩ := il_base (pre := []) hbase1 (by omega)
     replace hgn : bn = some gn := hgn
     subst hgn
     obtain ⟨gs, hgs⟩ := il_base (pre := []) hbase2 (by omega)
     replace hgs : ob = some gs := hgs
     subst hgs
     obtain ⟨gq, hgq⟩ := il_base (pre := []) hbase3 (by omega)
     replace hgq : nb = some gq := hgq
     subst hgq
     obtain ⟨za, hza⟩ : ∃ z, (nodes)[i1]? = some z := ⟨_, List.getElem?_eq_getElem (hlt1)⟩
     obtain ⟨sa, hsa⟩ : ∃ z, (leastJ l nodes fr r)[i1]? = some z := ⟨_, List.getElem?_eq_getElem (by omega)⟩
     have hsb := leastJ_bnd hok nodes fr r sa (List.mem_of_getElem? hsa)
     unfold farJ at hsb
     refine at_skip (at_tn (at_seq (at_block (at_seq (at_region (r_assign rfl rfl rfl (run_nil (at_tn (at_block ?_)))))))))
     refine enterL (nt := 113) (ι := {i : Nat // i ≤ nodes.length}) (fun ⟨i2, hi2⟩ => [(0, .slice (some ⟨gb, pre.length, none⟩) l.length cap), (1, slv (some gn) 0 nodes.length cn), (3, .int .i64 (steps : Nat)), (9, slv (some gs) 0 nodes.length oc), (11, .int .i64 (r : Nat)), (12, slv (some gq) 0 nodes.length nc), (13, .int .i64 (k : Nat)), (14, .int .i64 (i1 : Nat)), (15, .int .i64 (i2 : Nat))]) (fun ⟨i2, hi2⟩ => [⟨some gb, 49, pre ++ XLc l, N, false⟩, ⟨some gn, 3, ILc nodes, Nn, false⟩, ⟨some gs, 3, ILc (leastJ l nodes fr r), oN, true⟩, ⟨some gq, 3, ILc ((List.range i2).foldl (cellJ nodes (leastJ l nodes fr r) x i1) ((List.range i1).foldl (rowJ nodes (leastJ l nodes fr r) x) ((l.take k).foldl (exJ nodes (leastJ l nodes fr r)) (leastJ l nodes fr r)))), nN, true⟩]) (fun ⟨i2, hi2⟩ => nodes.length - i2) ⟨0, Nat.zero_le _⟩ ⟨rfl, rfl, rfl, rfl, rfl, rfl, rfl, rfl, rfl, trivial⟩ (Weak.refl _) ?_
     rintro ⟨i2, hi2⟩
     show At _ ⟨113, [(0, .slice (some ⟨gb, pre.length, none⟩) l.length cap), (1, slv (some gn) 0 nodes.length cn), (3, .int .i64 (steps : Nat)), (9, slv (some gs) 0 nodes.length oc), (11, .int .i64 (r : Nat)), (12, slv (some gq) 0 nodes.length nc), (13, .int .i64 (k : Nat)), (14, .int .i64 (i1 : Nat)), (15, .int .i64 (i2 : Nat))], [⟨some gb, 49, pre ++ XLc l, N, false⟩, ⟨some gn, 3, ILc nodes, Nn, false⟩, ⟨some gs, 3, ILc (leastJ l nodes fr r), oN, true⟩, ⟨some gq, 3, ILc ((List.range i2).foldl (cellJ nodes (leastJ l nodes fr r) x i1) ((List.range i1).foldl (rowJ nodes (leastJ l nodes fr r) x) ((l.take k).foldl (exJ nodes (leastJ l nodes fr r)) (leastJ l nodes fr r)))), nN, true⟩]⟩ _
     refine at_seq (at_seq (at_region (r_move rfl rfl rfl (r_move rfl rfl rfl ?_))))
     refine r_lenV u33 rfl rfl rfl ?_
     refine r_cmpInt rfl rfl rfl rfl rfl (run_nil (at_tn ?_))
     refine at_cond rfl (fun hb9 => ?_) (fun hb9 => ?_)
     ·
      have hlt2 : i2 < nodes.length := (by have := of_decide_eq_true hb9; omega)
      have hTbl : ((List.range i2).foldl (cellJ nodes (leastJ l nodes fr r) x i1) ((List.range i1).foldl (rowJ nodes (leastJ l nodes fr r) x) ((l.take k).foldl (exJ nodes (leastJ l nodes fr r)) (leastJ l nodes fr r)))).length = nodes.length := (foldl_len _ (fun s b => cellJ_len nodes _ x i1 s b) _ _).trans hTal
      obtain ⟨zb, hzb⟩ : ∃ z, (nodes)[i2]? = some z := ⟨_, List.getElem?_eq_getElem (hlt2)⟩
      obtain ⟨tb, htb⟩ : ∃ z, (((List.range i2).foldl (cellJ nodes (leastJ l nodes fr r) x i1) ((List.range i1).foldl (rowJ nodes (leastJ l nodes fr r) x) ((l.take k).foldl (exJ nodes (leastJ l nodes fr r)) (leastJ l nodes fr r)))))[i2]? = some z := ⟨_, List.getElem?_eq_getElem (by omega)⟩
      refine at_skip (at_tn (at_seq (at_block (at_seq ?_))))
      refine at_drawn (l' := [⟨_,_,_,_,_,_⟩, ⟨_,_,_,_,_,_⟩, ⟨_,_,_,_,_,_⟩, ⟨_,_,_,_,_,_⟩, ⟨_,_,_,_,_,_⟩, ⟨_,_,_,_,_,_⟩, ⟨_,_,_,_,_,_⟩, ⟨_,_,_,_,_,_⟩, ⟨_,_,_,_,_,_⟩, ⟨_,_,_,_,_,_⟩, ⟨_,_,_,_,_,_⟩, ⟨_,_,_,_,_,_⟩, ⟨_,_,_,_,_,_⟩, ⟨_,_,_,_,_,_⟩, ⟨_,_,_,_,_,_⟩, ⟨_,_,_,_,_,_⟩, ⟨_,_,_,_,_,_⟩, ⟨_,_,_,_,_,_⟩, ⟨_,_,_,_,_,_⟩, ⟨_,_,_,_,_,_⟩, ⟨_,_,_,_,_,_⟩, ⟨_,_,_,_,_,_⟩, ⟨_,_,_,_,_,_⟩, ⟨_,_,_,_,_,_⟩, ⟨_,_,_,_,_,_⟩, ⟨_,_,_,_,_,_⟩, ⟨_,_,_,_,_,_⟩, ⟨_,_,_,_,_,_⟩, ⟨_,_,_,_,_,_⟩]) [] [0, 1, 2, 3, 4, 5, 6, 7, 8, 9, 10, 11, 12, 13, 14, 15, 16, 17, 18, 19, 20, 21, 22, 23, 24, 25, 26, 27, 28] mixed (drawnM [0, 0, 3, 7, 0, 0, 48, 112, 240, 511, 1023, 2047, 2047, 8191, 16383, 2047, 2047, 100351, 231423, 493567, 1048575, 2097151, 4194303, 8388607, 8388607, 33554431, 67108863, 134217727, 268435455] (by kernel_rfl)) rfl (by kernel_rfl) ?_
      refine r_move rfl rfl rfl (r_move rfl rfl rfl ?_)
      refine r_indexAddr 1 (i1 * 1) u33 ti3 rfl rfl rfl rfl rfl (by omega) (by omega) (ILc_ne (by omega)) (by show 0 + Int.toNat _ * 1 = _; omega) ?_
      refine r_load (v := .int .i64 za) 1 (i1 * 1) _ rfl rfl rfl rfl ti3 (ILc_get hza) rfl (by decide) rfl ?_
      refine r_move rfl rfl rfl (r_move rfl rfl rfl ?_)
      refine r_indexAddr 0 (pre.length + k * 5) u22 ti49 rfl rfl rfl rfl rfl (by omega) (by omega) (pre_ne (XLc_ne (by omega))) (by show pre.length + Int.toNat _ * 5 = _; omega) ?_
      refine r_fieldAddr 0 (pre.length + k * 5) 0 rfl rfl rfl rfl rfl ti49 rfl rfl ?_
      refine r_load (v := .int .i64 x.f) 0 (pre.length + (k * 5 + 0)) _ rfl rfl rfl rfl ti3 (pre_get (XLc_f hx) rfl) rfl (by decide) rfl ?_
      refine r_cmpInt rfl rfl rfl rfl rfl (r_move rfl rfl rfl ?_)
      refine r_split 74 rfl (fun hb10 => ?_) (fun hb10 => ?_)
      ·
       have h74 : za = x.f := eq_of_beq hb10
       refine r_move rfl rfl rfl (r_move rfl rfl rfl ?_)
       refine r_indexAddr 1 (i2 * 1) u33 ti3 rfl rfl rfl rfl rfl (by omega) (by omega) (ILc_ne (by omega)) (by show 0 + Int.toNat _ * 1 = _; omega) ?_
       refine r_load (v := .int .i64 zb) 1 (i2 * 1) _ rfl rfl rfl rfl ti3 (ILc_get hzb) rfl (by decide) rfl ?_
       refine r_move rfl rfl rfl (r_move rfl rfl rfl ?_)
       refine r_indexAddr 0 (pre.length + k * 5) u22 ti49 rfl rfl rfl rfl rfl (by omega) (by omega) (pre_ne (XLc_ne (by omega))) (by show pre.length + Int.toNat _ * 5 = _; omega) ?_
       refine r_fieldAddr 0 (pre.length + k * 5) 1 rfl rfl rfl rfl rfl ti49 rfl rfl ?_
       refine r_load (v := .int .i64 x.t) 0 (pre.length + (k * 5 + 1)) _ rfl rfl rfl rfl ti3 (pre_get (XLc_t hx) rfl) rfl (by decide) rfl ?_
       refine r_cmpInt rfl rfl rfl rfl rfl (r_pickT rfl rfl rfl rfl (r_move rfl rfl rfl ?_))
       refine r_split 86 rfl (fun hb11 => ?_) (fun hb11 => ?_)
       ·
        have h86 : zb = x.t := eq_of_beq hb11
        refine r_move rfl rfl rfl (r_move rfl rfl rfl ?_)
        refine r_indexAddr 2 (i1 * 1) u33 ti3 rfl rfl rfl rfl rfl (by omega) (by omega) (ILc_ne (by omega)) (by show 0 + Int.toNat _ * 1 = _; omega) ?_
        refine r_load (v := .int .i64 sa) 2 (i1 * 1) _ rfl rfl rfl rfl ti3 (ILc_get hsa) rfl (by decide) rfl ?_
        refine r_cmpInt rfl rfl rfl rfl rfl (r_pickT rfl rfl rfl rfl (run_nil (at_tn ?_)))
        refine at_cond rfl (fun hb12 => ?_) (fun hb12 => ?_)
        ·
         have h92 : sa < 1125899906842624 := of_decide_eq_true hb12
         have hcc := cellJ_yes hza h74 hzb h86 hsa h92 htb
         refine at_drawn (l' := [⟨_,_,_,_,_,_⟩, ⟨_,_,_,_,_,_⟩, ⟨_,_,_,_,_,_⟩, ⟨_,_,_,_,_,_⟩, ⟨_,_,_,_,_,_⟩, ⟨_,_,_,_,_,_⟩, ⟨_,_,_,_,_,_⟩, ⟨_,_,_,_,_,_⟩, ⟨_,_,_,_,_,_⟩, ⟨_,_,_,_,_,_⟩, ⟨_,_,_,_,_,_⟩, ⟨_,_,_,_,_,_⟩, ⟨_,_,_,_,_,_⟩, ⟨_,_,_,_,_,_⟩, ⟨_,_,_,_,_,_⟩, ⟨_,_,_,_,_,_⟩, ⟨_,_,_,_,_,_⟩, ⟨_,_,_,_,_,_⟩, ⟨_,_,_,_,_,_⟩]) [] [0, 1, 2, 3, 4, 5, 6, 7, 8, 9, 10, 11, 12, 13, 14, 15, 16, 17, 18] mixed (by kernel_rfl) rfl (by kernel_rfl) ?_
         refine r_move rfl rfl rfl (r_move rfl rfl rfl (r_move rfl rfl rfl (r_move rfl rfl rfl ?_)))
         refine r_indexAddr 3 (i2 * 1) u33 ti3 rfl rfl rfl rfl rfl (by omega) (by omega) (ILc_ne (by omega)) (by show 0 + Int.toNat _ * 1 = _; omega) ?_
         refine r_load (v := .int .i64 tb) 3 (i2 * 1) _ rfl rfl rfl rfl ti3 (ILc_get htb) rfl (by decide) rfl ?_
         refine r_move rfl rfl rfl (r_move rfl rfl rfl ?_)
         refine r_indexAddr 2 (i1 * 1) u33 ti3 rfl rfl rfl rfl rfl (by omega) (by omega) (ILc_ne (by omega)) (by show 0 + Int.toNat _ * 1 = _; omega) ?_
         refine r_load (v := .int .i64 sa) 2 (i1 * 1) _ rfl rfl rfl rfl ti3 (ILc_get hsa) rfl (by decide) rfl ?_
         refine r_move rfl rfl rfl (r_move rfl rfl rfl ?_)
         refine r_indexAddr 0 (pre.length + k * 5) u22 ti49 rfl rfl rfl rfl rfl (by omega) (by omega) (pre_ne (XLc_ne (by omega))) (by show pre.length + Int.toNat _ * 5 = _; omega) ?_
         refine r_load (v := ExV x) 0 (pre.length + k * 5) _ rfl rfl rfl rfl ti49 (pre_get (XLc_get hx) rfl) rfl (by decide) rfl ?_
         refine r_pcall [_] rfl rfl rfl (c_law_weight x hokx) ?_
         refine r_arith (r := sa + wt x) rfl rfl rfl rfl (congrArg some (wi (by omega) (by omega) rfl)) ?_
         refine r_minI rfl rfl rfl rfl ?_
         refine r_indexAddr 3 (i2 * 1) u33 ti3 rfl rfl rfl rfl rfl (by omega) (by omega) (ILc_ne (by omega)) (by show 0 + Int.toNat _ * 1 = _; omega) ?_
         refine r_store1 rfl 3 (i2 * 1) [_, _, _, ⟨some gq, 3, _, _, true⟩] (ILc (((List.range i2).foldl (cellJ nodes (leastJ l nodes fr r) x i1) ((List.range i1).foldl (rowJ nodes (leastJ l nodes fr r) x) ((l.take k).foldl (exJ nodes (leastJ l nodes fr r)) (leastJ l nodes fr r)))).set i2 (min tb (sa + wt x)))) ti3 rfl rfl rfl rfl rfl rfl rfl rfl (by rw [ILc_length]; omega) (ILc_set _ _ _) rfl ?_
         refine run_nil (at_bn (at_tn (at_region (r_move rfl rfl rfl ?_))))
         refine r_arith (r := ((i2 + 1 : Nat) : Int)) rfl rfl rfl rfl (congrArg some (wi (by omega) (by omega) (by omega))) ?_
         refine r_assign rfl rfl rfl (run_nil (at_tn ?_))
         exact nextL ⟨i2 + 1, hlt2⟩ (by simp only []; omega) ⟨rfl, rfl, rfl, rfl, rfl, rfl, rfl, rfl, rfl, trivial⟩ (weak_picks [some 0, some 1, some 2, some 3] ⟨⟨_, rfl, Blk.le_refl _⟩, ⟨_, rfl, Blk.le_refl _⟩, ⟨_, rfl, Blk.le_refl _⟩, ⟨_, rfl, le_same (congrArg (fun c => (⟨some gq, 3, ILc c, nN, true⟩ : Blk)) ((range_step (cellJ nodes (leastJ l nodes fr r) x i1) ((List.range i1).foldl (rowJ nodes (leastJ l nodes fr r) x) ((l.take k).foldl (exJ nodes (leastJ l nodes fr r)) (leastJ l nodes fr r))) i2).trans hcc))⟩, trivial⟩ rfl rfl)
        ·
         have h92 : ¬ sa < 1125899906842624 := of_decide_eq_false hb12
         have hcc := cellJ_no (x := x) (T := ((List.range i2).foldl (cellJ nodes (leastJ l nodes fr r) x i1) ((List.range i1).foldl (rowJ nodes (leastJ l nodes fr r) x) ((l.take k).foldl (exJ nodes (leastJ l nodes fr r)) (leastJ l nodes fr r))))) hza hzb hsa (fun h => h92 h.2.2)
         refine at_skip (at_bn (at_tn (at_region (r_move rfl rfl rfl ?_))))
         refine r_arith (r := ((i2 + 1 : Nat) : Int)) rfl rfl rfl rfl (congrArg some (wi (by omega) (by omega) (by omega))) ?_
         refine r_assign rfl rfl rfl (run_nil (at_tn ?_))
         exact nextL ⟨i2 + 1, hlt2⟩ (by simp only []; omega) ⟨rfl, rfl, rfl, rfl, rfl, rfl, rfl, rfl, rfl, trivial⟩ (weak_picks [some 0, some 1, some 2, some 3] ⟨⟨_, rfl, Blk.le_refl _⟩, ⟨_, rfl, Blk.le_refl _⟩, ⟨_, rfl, Blk.le_refl _⟩, ⟨_, rfl, le_same (congrArg (fun c => (⟨some gq, 3, ILc c, nN, true⟩ : Blk)) ((range_step (cellJ nodes (leastJ l nodes fr r) x i1) ((List.range i1).foldl (rowJ nodes (leastJ l nodes fr r) x) ((l.take k).foldl (exJ nodes (leastJ l nodes fr r)) (leastJ l nodes fr r))) i2).trans hcc))⟩, trivial⟩ rfl rfl)
       ·
        have h86 : zb ≠ x.t := ne_of_beq_false hb11
        have hcc := cellJ_no (x := x) (T := ((List.range i2).foldl (cellJ nodes (leastJ l nodes fr r) x i1) ((List.range i1).foldl (rowJ nodes (leastJ l nodes fr r) x) ((l.take k).foldl (exJ nodes (leastJ l nodes fr r)) (leastJ l nodes fr r))))) hza hzb hsa (fun h => h86 h.2.1)
        refine r_no rfl rfl rfl (r_no rfl rfl rfl (r_no rfl rfl rfl (r_no rfl rfl rfl (r_no rfl rfl rfl (r_pickF rfl rfl rfl rfl (run_nil (at_tn (at_condF rfl (at_skip (at_bn (at_tn (at_region (r_move rfl rfl rfl ?_)))))))))))))
        refine r_arith (r := ((i2 + 1 : Nat) : Int)) rfl rfl rfl rfl (congrArg some (wi (by omega) (by omega) (by omega))) ?_
        refine r_assign rfl rfl rfl (run_nil (at_tn ?_))
        exact nextL ⟨i2 + 1, hlt2⟩ (by simp only []; omega) ⟨rfl, rfl, rfl, rfl, rfl, rfl, rfl, rfl, rfl, trivial⟩ (weak_picks [some 0, some 1, some 2, some 3] ⟨⟨_, rfl, Blk.le_refl _⟩, ⟨_, rfl, Blk.le_refl _⟩, ⟨_, rfl, Blk.le_refl _⟩, ⟨_, rfl, le_same (congrArg (fun c => (⟨some gq, 3, ILc c, nN, true⟩ : Blk)) ((range_step (cellJ nodes (leastJ l nodes fr r) x i1) ((List.range i1).foldl (rowJ nodes (leastJ l nodes fr r) x) ((l.take k).foldl (exJ nodes (leastJ l nodes fr r)) (leastJ l nodes fr r))) i2).trans hcc))⟩, trivial⟩ rfl rfl)
      ·
       have h74 : za ≠ x.f := ne_of_beq_false hb10
       have hcc := cellJ_no (x := x) (T := ((List.range i2).foldl (cellJ nodes (leastJ l nodes fr r) x i1) ((List.range i1).foldl (rowJ nodes (leastJ l nodes fr r) x) ((l.take k).foldl (exJ nodes (leastJ l nodes fr r)) (leastJ l nodes fr r))))) hza hzb hsa (fun h => h74 h.1)
       refine r_no rfl rfl rfl (r_no rfl rfl rfl (r_no rfl rfl rfl (r_no rfl rfl rfl (r_no rfl rfl rfl (r_no rfl rfl rfl (r_no rfl rfl rfl (r_no rfl rfl rfl (r_no rfl rfl rfl (r_no rfl rfl rfl (r_pickF rfl rfl rfl rfl (r_move rfl rfl rfl (r_no rfl rfl rfl (r_no rfl rfl rfl (r_no rfl rfl rfl (r_no rfl rfl rfl (r_no rfl rfl rfl (r_pickF rfl rfl rfl rfl (run_nil (at_tn (at_condF rfl (at_skip (at_bn (at_tn ?_)))))))))))))))))))))))
       refine at_region (r_move rfl rfl rfl ?_)
       refine r_arith (r := ((i2 + 1 : Nat) : Int)) rfl rfl rfl rfl (congrArg some (wi (by omega) (by omega) (by omega))) ?_
       refine r_assign rfl rfl rfl (run_nil (at_tn ?_))
       exact nextL ⟨i2 + 1, hlt2⟩ (by simp only []; omega) ⟨rfl, rfl, rfl, rfl, rfl, rfl, rfl, rfl, rfl, trivial⟩ (weak_picks [some 0, some 1, some 2, some 3] ⟨⟨_, rfl, Blk.le_refl _⟩, ⟨_, rfl, Blk.le_refl _⟩, ⟨_, rfl, Blk.le_refl _⟩, ⟨_, rfl, le_same (congrArg (fun c => (⟨some gq, 3, ILc c, nN, true⟩ : Blk)) ((range_step (cellJ nodes (leastJ l nodes fr r) x i1) ((List.range i1).foldl (rowJ nodes (leastJ l nodes fr r) x) ((l.take k).foldl (exJ nodes (leastJ l nodes fr r)) (leastJ l nodes fr r))) i2).trans hcc))⟩, trivial⟩ rfl rfl)
     ·
      have hge2 : i2 = nodes.length := (by have := of_decide_eq_false hb9; omega)
      subst hge2
      refine at_exit (at_te (at_te (at_be (at_bn (at_tn (at_region (r_move rfl rfl rfl ?_)))))))
      refine r_arith (r := ((i1 + 1 : Nat) : Int)) rfl rfl rfl rfl (congrArg some (wi (by omega) (by omega) (by omega))) ?_
      refine r_assign rfl rfl rfl (run_nil (at_tn ?_))
      exact nextL ⟨i1 + 1, hlt1⟩ (by simp only []; omega) ⟨rfl, rfl, rfl, rfl, rfl, rfl, rfl, rfl, trivial⟩ (weak_picks [some 0, some 1, some 2, some 3] ⟨⟨_, rfl, Blk.le_refl _⟩, ⟨_, rfl, Blk.le_refl _⟩, ⟨_, rfl, Blk.le_refl _⟩, ⟨_, rfl, le_same (congrArg (fun c => (⟨some gq, 3, ILc c, nN, true⟩ : Blk)) (range_step (rowJ nodes (leastJ l nodes fr r) x) ((l.take k).foldl (exJ nodes (leastJ l nodes fr r)) (leastJ l nodes fr r)) i1))⟩, trivial⟩ rfl rfl)
    ·
     have hge1 : i1 = nodes.length := (by have := of_decide_eq_false hb7; omega)
     subst hge1
     refine at_exit (at_te (at_te (at_be (at_bn (at_tn (at_region (r_move rfl rfl rfl ?_)))))))
     refine r_arith (r := ((k + 1 : Nat) : Int)) rfl rfl rfl rfl (congrArg some (wi (by omega) (by omega) (by omega))) ?_
     refine r_assign rfl rfl rfl (run_nil (at_tn ?_))
     exact nextL ⟨(k + 1, nb, nN, nc), hlt, h2⟩ (by show l.length - (k + 1) < l.length - k; omega) ⟨rfl, rfl, rfl, rfl, rfl, rfl, rfl, trivial⟩ (weak_picks [some 0, some 1, some 2, some 3] ⟨⟨_, rfl, Blk.le_refl _⟩, ⟨_, rfl, Blk.le_refl _⟩, ⟨_, rfl, Blk.le_refl _⟩, ⟨_, rfl, le_same (congrArg (fun c => (⟨nb, 3, ILc c, nN, true⟩ : Blk)) (take_step hx (exJ nodes (leastJ l nodes fr r)) (leastJ l nodes fr r)))⟩, trivial⟩ rfl rfl)
   ·
    have hge : k = l.length := (by have := of_decide_eq_false hb5; omega)
    subst hge
    refine at_exit (at_te (at_te (at_be (at_tn (at_region (r_move rfl rfl rfl (r_assign rfl rfl rfl (run_nil (at_bn (at_tn (at_region (r_move rfl rfl rfl ?_))))))))))))
    refine r_arith (r := ((r + 1 : Nat) : Int)) rfl rfl rfl rfl (congrArg some (wi (by omega) (by omega) (by omega))) ?_
    refine r_assign rfl rfl rfl (run_nil (at_tn ?_))
    exact nextL ⟨(r + 1, nb, nN, nc), hrlt, h2⟩ (by show steps - (r + 1) < steps - r; omega) ⟨rfl, rfl, rfl, rfl, rfl, trivial⟩ (weak_picks [some 0, some 1, some 3] ⟨⟨_, rfl, Blk.le_refl _⟩, ⟨_, rfl, Blk.le_refl _⟩, ⟨_, rfl, le_same (congrArg (fun c => (⟨nb, 3, ILc c, nN, true⟩ : Blk)) (by rw [List.take_length]; rfl))⟩, trivial⟩ rfl rfl)
  ·
   have hge : r = steps := (by have := of_decide_eq_false hb3; omega)
   subst hge
   refine at_exit (at_te (at_te (at_be (at_tn (at_seq (at_region (r_move rfl rfl rfl (r_assign rfl rfl rfl (run_nil (at_tn (at_ret ?_)))))))))))
   refine at_end1 rfl (res_tmp rfl) (fun w hL => ⟨⟨ob, oN, oc, by rw [leastJ_len]; exact h1⟩, ?_, hL.picks [some 2] ⟨⟨_, rfl, Blk.le_refl _⟩, trivial⟩ rfl rfl⟩)
   exact congrArg (fun m => Ending.returned (slv ob 0 m oc)) (leastJ_len l nodes fr _).symm
end Go.Proofs.YtncogghlhlnmaaaGreatDoor
set_option linter.unusedVariables false
namespace Go.Proofs.YtncogghlhlnmaaaGreatDoor
open Go Go.RowKit Go.Via
set_option maxRecDepth 20000 in
set_option maxHeartbeats 4000000 in
theorem c_law_contradicted (l : List Ex) (a : Option Addr) (b : Option Nat) (pre : List Value) (N cap : Nat) (hc : l.length ≤ cap) (ha : l ≠ [] → a = b.map fun g => ⟨g, pre.length, none⟩) (hok : ∀ x ∈ l, okX x) (hn : l.length ≤ 1000) (nodes : List Int) (bn : Option Nat) (Nn cn : Nat) (hnc : nodes.length ≤ cn) (hnn : nodes.length ≤ 3000) : SCall Tryz.prog 23 [⟨b, 49, pre ++ XLc l, N, false⟩, ⟨bn, 3, ILc nodes, Nn, false⟩] [.slice a l.length cap, slv bn 0 nodes.length cn] Unit (fun _ => .bool (conB l nodes)) (fun _ => []) := by
 refine ⟨by kernel_rfl, fun w hL0 => ?_⟩
 refine calls_at (args := [.slice a l.length cap, slv bn 0 nodes.length cn]) Tryz.func23 rfl (Nat.le_of_ble_eq_true rfl) hL0 ?_
 show At w ⟨34, [(0, .slice a l.length cap), (1, slv bn 0 nodes.length cn)], [⟨b, 49, pre ++ XLc l, N, false⟩, ⟨bn, 3, ILc nodes, Nn, false⟩]⟩ _
 refine at_seq (at_region (r_assign rfl rfl rfl (run_nil (at_tn (at_seq (at_region (r_move rfl rfl rfl (r_move rfl rfl rfl (r_move rfl rfl rfl ?_)))))))))
 refine r_lenV u33 rfl rfl rfl ?_
 refine r_scall [_, _, _, _] [0, 1] rfl rfl rfl (c_law_least l a b pre N cap hc ha hok hn nodes bn Nn cn hnc hnn (-1) nodes.length (by omega)) ⟨⟨_, rfl, Blk.le_refl _⟩, ⟨_, rfl, Blk.le_refl _⟩, trivial⟩ rfl (.inr fun z b hb => by rw [List.mem_singleton.1 hb]) (fun z => ?_)
 obtain ⟨pb, pn, pc, ph⟩ := z
 refine r_move rfl rfl rfl (r_move rfl rfl rfl (r_move rfl rfl rfl ?_))
 refine r_lenV u33 rfl rfl rfl ?_
 refine r_arith (r := ((nodes.length + 1 : Nat) : Int)) rfl rfl rfl rfl (congrArg some (wi (by omega) (by omega) (by omega))) ?_
 refine r_scall [_, _, _, _] [0, 1] rfl rfl rfl (c_law_least l a b pre N cap hc ha hok hn nodes bn Nn cn hnc hnn (-1) (nodes.length + 1) (by omega)) ⟨⟨_, rfl, Blk.le_refl _⟩, ⟨_, rfl, Blk.le_refl _⟩, trivial⟩ rfl (.inr fun z b hb => by rw [List.mem_singleton.1 hb]) (fun z => ?_)
 obtain ⟨qb, qn, qc, qh⟩ := z
 refine r_assign rfl rfl rfl (r_assign rfl rfl rfl (run_nil (at_tn (at_seq (at_seq (at_region (r_assign rfl rfl rfl (run_nil (at_tn (at_block ?_))))))))))
 refine enterL (nt := 34) (ι := {i : Nat // i ≤ (leastJ l nodes (-1) nodes.length).length ∧ conB l nodes = ltA ((leastJ l nodes (-1) (nodes.length + 1)).drop i) ((leastJ l nodes (-1) nodes.length).drop i)}) (fun ⟨i, hi, hI⟩ => [(5, slv pb 0 (leastJ l nodes (-1) nodes.length).length pc), (6, slv qb 0 (leastJ l nodes (-1) (nodes.length + 1)).length qc), (7, .int .i64 (i : Nat))]) (fun ⟨i, hi, hI⟩ => [⟨b, 49, pre ++ XLc l, N, false⟩, ⟨bn, 3, ILc nodes, Nn, false⟩, ⟨pb, 3, ILc (leastJ l nodes (-1) nodes.length), pn, true⟩, ⟨qb, 3, ILc (leastJ l nodes (-1) (nodes.length + 1)), qn, true⟩]) (fun ⟨i, hi, hI⟩ => (leastJ l nodes (-1) nodes.length).length - i) ⟨0, Nat.zero_le _, rfl⟩ ⟨rfl, rfl, rfl, trivial⟩ (Weak.refl _) ?_
 rintro ⟨i, hi, hI⟩
 show At _ ⟨34, [(5, slv pb 0 (leastJ l nodes (-1) nodes.length).length pc), (6, slv qb 0 (leastJ l nodes (-1) (nodes.length + 1)).length qc), (7, .int .i64 (i : Nat))], [⟨b, 49, pre ++ XLc l, N, false⟩, ⟨bn, 3, ILc nodes, Nn, false⟩, ⟨pb, 3, ILc (leastJ l nodes (-1) nodes.length), pn, true⟩, ⟨qb, 3, ILc (leastJ l nodes (-1) (nodes.length + 1)), qn, true⟩]⟩ _
 refine at_base 2 rfl (fun hbp => ?_)
 refine at_base 3 rfl (fun hbq => ?_)
 refine at_seq (at_seq (at_region (r_move rfl rfl rfl (r_move rfl rfl rfl ?_))))
 refine r_lenV u33 rfl rfl rfl ?_
 refine r_cmpInt rfl rfl rfl rfl rfl (run_nil (at_tn ?_))
 refine at_cond rfl (fun hb1 => ?_) (fun hb1 => ?_)
 ·
  have hlt : i < (leastJ l nodes (-1) nodes.length).length := (by have := of_decide_eq_true hb1; omega)
  have hl1 : (leastJ l nodes (-1) nodes.length).length = nodes.length := leastJ_len ..
  have hl2 : (leastJ l nodes (-1) (nodes.length + 1)).length = nodes.length := leastJ_len ..
  obtain ⟨gp, hgp⟩ := il_base (pre := []) hbp (by omega)
  replace hgp : pb = some gp := hgp
  subst hgp
  obtain ⟨gq, hgq⟩ := il_base (pre := []) hbq (by omega)
  replace hgq : qb = some gq := hgq
  subst hgq
  obtain ⟨pz, hpz⟩ : ∃ z, ((leastJ l nodes (-1) nodes.length))[i]? = some z := ⟨_, List.getElem?_eq_getElem (by omega)⟩
  obtain ⟨qz, hqz⟩ : ∃ z, ((leastJ l nodes (-1) (nodes.length + 1)))[i]? = some z := ⟨_, List.getElem?_eq_getElem (by omega)⟩
  refine at_skip (at_tn (at_seq (at_block (at_seq ?_))))
  refine at_drawn (l' := [⟨_,_,_,_,_,_⟩, ⟨_,_,_,_,_,_⟩, ⟨_,_,_,_,_,_⟩, ⟨_,_,_,_,_,_⟩, ⟨_,_,_,_,_,_⟩, ⟨_,_,_,_,_,_⟩, ⟨_,_,_,_,_,_⟩, ⟨_,_,_,_,_,_⟩, ⟨_,_,_,_,_,_⟩]) [] [0, 1, 2, 3, 4, 5, 6, 7, 8] mixed (by kernel_rfl) rfl (by kernel_rfl) ?_
  refine r_move rfl rfl rfl (r_move rfl rfl rfl ?_)
  refine r_indexAddr 3 (i * 1) u33 ti3 rfl rfl rfl rfl rfl (by omega) (by omega) (ILc_ne (by omega)) (by show 0 + Int.toNat _ * 1 = _; omega) ?_
  refine r_load (v := .int .i64 qz) 3 (i * 1) _ rfl rfl rfl rfl ti3 (ILc_get hqz) rfl (by decide) rfl ?_
  refine r_move rfl rfl rfl (r_move rfl rfl rfl ?_)
  refine r_indexAddr 2 (i * 1) u33 ti3 rfl rfl rfl rfl rfl (by omega) (by omega) (ILc_ne (by omega)) (by show 0 + Int.toNat _ * 1 = _; omega) ?_
  refine r_load (v := .int .i64 pz) 2 (i * 1) _ rfl rfl rfl rfl ti3 (ILc_get hpz) rfl (by decide) rfl ?_
  refine r_cmpInt rfl rfl rfl rfl rfl (run_nil (at_tn ?_))
  refine at_cond rfl (fun hb2 => ?_) (fun hb2 => ?_)
  ·
   have h33 : qz < pz := of_decide_eq_true hb2
   refine at_seq (at_region (r_assign rfl rfl rfl (run_nil (at_tn (at_ret (at_br (at_tr (at_tr (at_br (at_tr ?_))))))))))
   refine at_end1 rfl (res_tmp rfl) (fun w hL => ⟨(), ?_, hL.picks [] trivial rfl rfl⟩)
   rw [hI, ltA_yes hqz hpz h33]
  ·
   have h33 : ¬ qz < pz := of_decide_eq_false hb2
   refine at_skip (at_bn (at_tn (at_region (r_move rfl rfl rfl ?_))))
   refine r_arith (r := ((i + 1 : Nat) : Int)) rfl rfl rfl rfl (congrArg some (wi (by omega) (by omega) (by omega))) ?_
   refine r_assign rfl rfl rfl (run_nil (at_tn ?_))
   exact nextL ⟨i + 1, hlt, hI.trans (ltA_no hqz hpz h33)⟩ (by simp only []; omega) ⟨rfl, rfl, rfl, trivial⟩ (Weak.refl _)
 ·
  have hge : i = (leastJ l nodes (-1) nodes.length).length := (by have := of_decide_eq_false hb1; omega)
  refine at_exit (at_te (at_te (at_be (at_tn (at_seq (at_region (r_assign rfl rfl rfl (run_nil (at_tn (at_ret ?_))))))))))
  refine at_end1 rfl (res_tmp rfl) (fun w hL => ⟨(), ?_, hL.picks [] trivial rfl rfl⟩)
  rw [hI, ltA_end (by omega)]
end Go.Proofs.YtncogghlhlnmaaaGreatDoor
set_option linter.unusedVariables false
namespace Go.Proofs.YtncogghlhlnmaaaGreatDoor
open Go Go.RowKit Go.Via
set_option maxRecDepth 20000 in
set_option maxHeartbeats 2000000 in
theorem c_law_insert (l : List Int) (b : Option Nat) (N cap : Nat) (hc : l.length ≤ cap) (hn : l.length ≤ 1000000) (n : Int) : SCall Tryz.prog 41 [⟨b, 3, ILc l, N, false⟩] [slv b 0 l.length cap, .int .i64 n] (InsX l n) (insRes l n b cap) (insNew l n) := by
 refine ⟨by kernel_rfl, fun w hL0 => ?_⟩
 refine calls_at (args := [slv b 0 l.length cap, .int .i64 n]) Tryz.func41 rfl (Nat.le_of_ble_eq_true rfl) hL0 ?_
 show At w ⟨45, [(0, slv b 0 l.length cap), (1, .int .i64 n)], [⟨b, 3, ILc l, N, false⟩]⟩ _
 refine at_seq ?_
 refine at_base 0 rfl (fun hbase => ?_)
 refine at_region (r_assign rfl rfl rfl (run_nil (at_tn (at_seq (at_region (r_assign rfl rfl rfl (run_nil (at_tn (at_seq (at_block ?_))))))))))
 refine enterL (nt := 45) (ι := {k : Nat // k ≤ l.length ∧ ∀ j z, j < k → l[j]? = some z → z < n}) (fun ⟨k, hk, hall⟩ => [(0, slv b 0 l.length cap), (1, .int .i64 n), (5, .int .i64 (k : Nat))]) (fun ⟨k, hk, hall⟩ => [⟨b, 3, ILc l, N, false⟩]) (fun ⟨k, hk, hall⟩ => l.length - k) ⟨0, Nat.zero_le _, fun j z hj => absurd hj (by omega)⟩ ⟨rfl, rfl, rfl, trivial⟩ (Weak.refl _) ?_
 rintro ⟨k, hk, hall⟩
 show At _ ⟨45, [(0, slv b 0 l.length cap), (1, .int .i64 n), (5, .int .i64 (k : Nat))], [⟨b, 3, ILc l, N, false⟩]⟩ _
 refine at_seq (at_seq (at_region (r_move rfl rfl rfl (r_move rfl rfl rfl ?_))))
 refine r_lenV u33 rfl rfl rfl ?_
 refine r_cmpInt rfl rfl rfl rfl rfl (r_move rfl rfl rfl ?_)
 refine r_split 10 rfl (fun hb1 => ?_) (fun hb1 => ?_)
 ·
  have hlt : k < l.length := (by have := of_decide_eq_true hb1; omega)
  obtain ⟨z, hz⟩ : ∃ z, l[k]? = some z := ⟨l[k], List.getElem?_eq_getElem hlt⟩
  obtain ⟨gb, hgb⟩ := il_base (pre := []) hbase (by omega)
  replace hgb : b = some gb := hgb
  subst hgb
  refine r_move rfl rfl rfl (r_move rfl rfl rfl ?_)
  refine r_indexAddr 0 (k * 1) u33 ti3 rfl rfl rfl rfl rfl (by omega) (by omega) (ILc_ne (by omega)) (by show 0 + Int.toNat _ * 1 = _; omega) ?_
  refine r_load (v := .int .i64 z) 0 (k * 1) _ rfl rfl rfl rfl ti3 (ILc_get hz) rfl (by decide) rfl ?_
  refine r_move rfl rfl rfl (r_cmpInt rfl rfl rfl rfl rfl (r_pickT rfl rfl rfl rfl (run_nil (at_tn ?_))))
  refine at_cond rfl (fun hb2 => ?_) (fun hb2 => ?_)
  ·
   have hz1 : z < n := of_decide_eq_true hb2
   refine at_skip (at_tn (at_block (at_region (r_move rfl rfl rfl ?_))))
   refine r_arith (r := ((k + 1 : Nat) : Int)) rfl rfl rfl rfl (congrArg some (wi (by omega) (by omega) (by omega))) ?_
   refine r_assign rfl rfl rfl (run_nil (at_bn (at_tn ?_)))
   exact nextL ⟨k + 1, hlt, fun j y hj hy => by by_cases e : j < k; exact hall j y e hy; (have : j = k := by omega); subst this; rw [hz] at hy; cases hy; exact hz1⟩ (by simp only []; omega) ⟨rfl, rfl, rfl, trivial⟩ (Weak.refl _)
  ·
   have hz1 : ¬ z < n := of_decide_eq_false hb2
   refine at_exit (at_te (at_te (at_be (at_tn (at_seq (at_seq (at_region (r_move rfl rfl rfl (r_move rfl rfl rfl ?_)))))))))
   refine r_lenV u33 rfl rfl rfl ?_
   refine r_cmpInt rfl rfl rfl rfl rfl (r_move rfl rfl rfl ?_)
   refine r_split 24 rfl (fun hb3 => ?_) (fun hb3 => ?_)
   ·
    refine r_move rfl rfl rfl (r_move rfl rfl rfl ?_)
    refine r_indexAddr 0 (k * 1) u33 ti3 rfl rfl rfl rfl rfl (by omega) (by omega) (ILc_ne (by omega)) (by show 0 + Int.toNat _ * 1 = _; omega) ?_
    refine r_load (v := .int .i64 z) 0 (k * 1) _ rfl rfl rfl rfl ti3 (ILc_get hz) rfl (by decide) rfl ?_
    refine r_move rfl rfl rfl (r_cmpInt rfl rfl rfl rfl rfl (r_pickT rfl rfl rfl rfl (run_nil (at_tn ?_))))
    refine at_cond rfl (fun hb4 => ?_) (fun hb4 => ?_)
    ·
     have hz2 : z = n := eq_of_beq hb4
     have hsame : insS l n = l := insS_eq hall (by rw [hz, hz2])
     refine at_seq (at_region (r_move rfl rfl rfl (r_assign rfl rfl rfl (run_nil (at_tn (at_ret (at_tr ?_)))))))
     refine at_end1 rfl (res_tmp rfl) (fun w hL => ⟨⟨none, fun _ => hsame⟩, ?_, hL.picks [] trivial rfl rfl⟩)
     exact rfl
    ·
     have hz2 : z ≠ n := ne_of_beq_false hb4
     have hins := insS_at hk hall (fun y hy => by rw [hz] at hy; cases hy; exact ⟨hz1, hz2⟩)
     refine at_skip (at_tn (at_seq ?_))
     have hil : (insS l n).length = 0 + k + 1 + (l.length - k) := by rw [hins]; simp; omega
     refine at_drawnE (l' := [⟨_,_,_,_,_,_⟩, ⟨_,_,_,_,_,_⟩, ⟨_,_,_,_,_,_⟩, ⟨_,_,_,_,_,_⟩, ⟨_,_,_,_,_,_⟩, ⟨_,_,_,_,_,_⟩, ⟨_,_,_,_,_,_⟩]) [1, 2, 3, 5, 8, 9, 10] 6 mixed (by kernel_rfl) rfl ?_
     refine r_move rfl rfl rfl (r_move rfl rfl rfl ?_)
     refine r_sliceH k u33 ti3 rfl rfl rfl rfl (by omega) (by omega) rfl ?_
     refine r_move rfl rfl rfl (r_move rfl rfl rfl (r_move rfl rfl rfl ?_))
     refine r_sliceM k u33 ti3 rfl rfl rfl rfl (by omega) rfl rfl rfl ?_
     refine run_nil ?_
     refine t_node [0, 6] (by kernel_rfl) rfl ⟨⟨_, rfl, ?_⟩, ⟨_, rfl, ?_⟩, trivial⟩
     ·
      refine r_buildSlice [] (fun g => [_, ⟨some g, 3, _, 0, true⟩]) rfl rfl rfl (bs33_0) rfl (fun _ => rfl) (fun g0 => ?_)
      refine run_nil ?_
      refine t_node [4, 6] (by kernel_rfl) rfl ⟨⟨_, rfl, ?_⟩, ⟨_, rfl, ?_⟩, trivial⟩
      ·
       refine q_appendO (s := 1) (len := 0) 1 0 (ILc (l.take k)) (fun r => [_, ⟨r.b, 3, ILc (l.take k), r.n, true⟩]) u33 el3 rfl rfl rfl rfl rfl rfl rfl rfl rfl rfl rfl (Nat.le_refl _) (Nat.le_refl _) (by by_cases hz : k = 0; exact .inl hz; exact .inr (il_base (pre := []) hbase (by omega))) (ILc_takeT l k) (by rw [ILc_length, List.length_take]; omega) (ILc_one _) (by omega) (fun _ => rfl) (fun r => ?_)
       refine run_nil ?_
       refine t_node [6] (by kernel_rfl) rfl ⟨⟨_, rfl, ?_⟩, trivial⟩
       ·
        refine r_buildSlice [(0, _)] (fun g => [_, _, ⟨some g, 3, _, 1, true⟩]) rfl rfl rfl (bs33_1) rfl (fun _ => rfl) (fun g1 => ?_)
        refine run_nil ?_
        refine t_node [7] (by kernel_rfl) rfl ⟨⟨_, rfl, ?_⟩, trivial⟩
        ·
         refine q_appendO (s := 1) (len := 0 + k) (n2 := 1) 1 2 [.int .i64 n] (fun r2 => [_, ⟨r2.b, 3, ILc (l.take k) ++ [.int .i64 n], r2.n, true⟩, _]) u33 el3 rfl rfl rfl rfl rfl rfl rfl rfl rfl rfl (by rw [ILc_length, List.length_take]; omega) r.h r.hn (.inr ⟨_, rfl⟩) rfl rfl (Go.Via.one_cell _ _) (by omega) (fun _ => rfl) (fun r2 => ?_)
         refine run_nil ?_
         refine t_node [11] (by kernel_rfl) rfl ⟨⟨_, rfl, ?_⟩, trivial⟩
         ·
          refine q_appendO (s := 1) (len := 0 + k + 1) 1 0 (ILc (l.drop k)) (fun r3 => [_, ⟨r3.b, 3, (ILc (l.take k) ++ [.int .i64 n]) ++ ILc (l.drop k), r3.n, true⟩, _]) u33 el3 rfl rfl rfl rfl rfl rfl rfl rfl rfl rfl (by rw [List.length_append, ILc_length, List.length_take]; simp; omega) r2.h r2.hn (by by_cases hz : l.length - k = 0; exact .inl hz; exact .inr (il_base (pre := []) hbase (by omega))) (ILc_dropT hc) (by rw [ILc_length, List.length_drop]; omega) (ILc_one _) (by omega) (fun _ => rfl) (fun r3 => ?_)
          refine run_nil ?_
          refine t_node [12] (by kernel_rfl) rfl ⟨⟨_, rfl, ?_⟩, trivial⟩
          ·
           refine r_assign rfl rfl rfl (run_nil ?_)
           refine tr_nil (by kernel_rfl) ?_
           refine at_tn (at_ret ?_)
           refine at_end1 rfl (res_tmp rfl) (fun w hL => ⟨⟨some ⟨r3.b, r3.n, r3.cap, by have := r3.h; omega⟩, fun h => by cases h⟩, ?_, hL.picks [some 1] ⟨⟨_, rfl, le_same (congrArg (fun c => (⟨r3.b, 3, c, r3.n, true⟩ : Blk)) (show ILc (insS l n) = (ILc (l.take k) ++ [.int .i64 n]) ++ ILc (l.drop k) by rw [hins]; simp [ILc]))⟩, trivial⟩ rfl rfl⟩)
           exact congrArg (fun m => Ending.returned (slv r3.b 0 m r3.cap)) hil.symm
      ·
       refine r_buildSlice [(0, _)] (fun g => [_, _, ⟨some g, 3, _, 1, true⟩]) rfl rfl rfl (bs33_1) rfl (fun _ => rfl) (fun g1 => ?_)
       refine run_nil ?_
       refine t_node [4] (by kernel_rfl) rfl ⟨⟨_, rfl, ?_⟩, trivial⟩
       ·
        refine q_appendO (s := 1) (len := 0) 1 0 (ILc (l.take k)) (fun r => [_, ⟨r.b, 3, ILc (l.take k), r.n, true⟩, _]) u33 el3 rfl rfl rfl rfl rfl rfl rfl rfl rfl rfl rfl (Nat.le_refl _) (Nat.le_refl _) (by by_cases hz : k = 0; exact .inl hz; exact .inr (il_base (pre := []) hbase (by omega))) (ILc_takeT l k) (by rw [ILc_length, List.length_take]; omega) (ILc_one _) (by omega) (fun _ => rfl) (fun r => ?_)
        refine run_nil ?_
        refine t_node [7] (by kernel_rfl) rfl ⟨⟨_, rfl, ?_⟩, trivial⟩
        ·
         refine q_appendO (s := 1) (len := 0 + k) (n2 := 1) 1 2 [.int .i64 n] (fun r2 => [_, ⟨r2.b, 3, ILc (l.take k) ++ [.int .i64 n], r2.n, true⟩, _]) u33 el3 rfl rfl rfl rfl rfl rfl rfl rfl rfl rfl (by rw [ILc_length, List.length_take]; omega) r.h r.hn (.inr ⟨_, rfl⟩) rfl rfl (Go.Via.one_cell _ _) (by omega) (fun _ => rfl) (fun r2 => ?_)
         refine run_nil ?_
         refine t_node [11] (by kernel_rfl) rfl ⟨⟨_, rfl, ?_⟩, trivial⟩
         ·
          refine q_appendO (s := 1) (len := 0 + k + 1) 1 0 (ILc (l.drop k)) (fun r3 => [_, ⟨r3.b, 3, (ILc (l.take k) ++ [.int .i64 n]) ++ ILc (l.drop k), r3.n, true⟩, _]) u33 el3 rfl rfl rfl rfl rfl rfl rfl rfl rfl rfl (by rw [List.length_append, ILc_length, List.length_take]; simp; omega) r2.h r2.hn (by by_cases hz : l.length - k = 0; exact .inl hz; exact .inr (il_base (pre := []) hbase (by omega))) (ILc_dropT hc) (by rw [ILc_length, List.length_drop]; omega) (ILc_one _) (by omega) (fun _ => rfl) (fun r3 => ?_)
          refine run_nil ?_
          refine t_node [12] (by kernel_rfl) rfl ⟨⟨_, rfl, ?_⟩, trivial⟩
          ·
           refine r_assign rfl rfl rfl (run_nil ?_)
           refine tr_nil (by kernel_rfl) ?_
           refine at_tn (at_ret ?_)
           refine at_end1 rfl (res_tmp rfl) (fun w hL => ⟨⟨some ⟨r3.b, r3.n, r3.cap, by have := r3.h; omega⟩, fun h => by cases h⟩, ?_, hL.picks [some 1] ⟨⟨_, rfl, le_same (congrArg (fun c => (⟨r3.b, 3, c, r3.n, true⟩ : Blk)) (show ILc (insS l n) = (ILc (l.take k) ++ [.int .i64 n]) ++ ILc (l.drop k) by rw [hins]; simp [ILc]))⟩, trivial⟩ rfl rfl⟩)
           exact congrArg (fun m => Ending.returned (slv r3.b 0 m r3.cap)) hil.symm
     ·
      refine r_buildSlice [(0, _)] (fun g => [_, ⟨some g, 3, _, 1, true⟩]) rfl rfl rfl (bs33_1) rfl (fun _ => rfl) (fun g0 => ?_)
      refine run_nil ?_
      refine t_node [0] (by kernel_rfl) rfl ⟨⟨_, rfl, ?_⟩, trivial⟩
      ·
       refine r_buildSlice [] (fun g => [_, _, ⟨some g, 3, _, 0, true⟩]) rfl rfl rfl (bs33_0) rfl (fun _ => rfl) (fun g1 => ?_)
       refine run_nil ?_
       refine t_node [4] (by kernel_rfl) rfl ⟨⟨_, rfl, ?_⟩, trivial⟩
       ·
        refine q_appendO (s := 1) (len := 0) 2 0 (ILc (l.take k)) (fun r => [_, _, ⟨r.b, 3, ILc (l.take k), r.n, true⟩]) u33 el3 rfl rfl rfl rfl rfl rfl rfl rfl rfl rfl rfl (Nat.le_refl _) (Nat.le_refl _) (by by_cases hz : k = 0; exact .inl hz; exact .inr (il_base (pre := []) hbase (by omega))) (ILc_takeT l k) (by rw [ILc_length, List.length_take]; omega) (ILc_one _) (by omega) (fun _ => rfl) (fun r => ?_)
        refine run_nil ?_
        refine t_node [7] (by kernel_rfl) rfl ⟨⟨_, rfl, ?_⟩, trivial⟩
        ·
         refine q_appendO (s := 1) (len := 0 + k) (n2 := 1) 2 1 [.int .i64 n] (fun r2 => [_, _, ⟨r2.b, 3, ILc (l.take k) ++ [.int .i64 n], r2.n, true⟩]) u33 el3 rfl rfl rfl rfl rfl rfl rfl rfl rfl rfl (by rw [ILc_length, List.length_take]; omega) r.h r.hn (.inr ⟨_, rfl⟩) rfl rfl (Go.Via.one_cell _ _) (by omega) (fun _ => rfl) (fun r2 => ?_)
         refine run_nil ?_
         refine t_node [11] (by kernel_rfl) rfl ⟨⟨_, rfl, ?_⟩, trivial⟩
         ·
          refine q_appendO (s := 1) (len := 0 + k + 1) 2 0 (ILc (l.drop k)) (fun r3 => [_, _, ⟨r3.b, 3, (ILc (l.take k) ++ [.int .i64 n]) ++ ILc (l.drop k), r3.n, true⟩]) u33 el3 rfl rfl rfl rfl rfl rfl rfl rfl rfl rfl (by rw [List.length_append, ILc_length, List.length_take]; simp; omega) r2.h r2.hn (by by_cases hz : l.length - k = 0; exact .inl hz; exact .inr (il_base (pre := []) hbase (by omega))) (ILc_dropT hc) (by rw [ILc_length, List.length_drop]; omega) (ILc_one _) (by omega) (fun _ => rfl) (fun r3 => ?_)
          refine run_nil ?_
          refine t_node [12] (by kernel_rfl) rfl ⟨⟨_, rfl, ?_⟩, trivial⟩
          ·
           refine r_assign rfl rfl rfl (run_nil ?_)
           refine tr_nil (by kernel_rfl) ?_
           refine at_tn (at_ret ?_)
           refine at_end1 rfl (res_tmp rfl) (fun w hL => ⟨⟨some ⟨r3.b, r3.n, r3.cap, by have := r3.h; omega⟩, fun h => by cases h⟩, ?_, hL.picks [some 2] ⟨⟨_, rfl, le_same (congrArg (fun c => (⟨r3.b, 3, c, r3.n, true⟩ : Blk)) (show ILc (insS l n) = (ILc (l.take k) ++ [.int .i64 n]) ++ ILc (l.drop k) by rw [hins]; simp [ILc]))⟩, trivial⟩ rfl rfl⟩)
           exact congrArg (fun m => Ending.returned (slv r3.b 0 m r3.cap)) hil.symm
   · exfalso; have := of_decide_eq_false hb3; omega
 ·
  have hge : k = l.length := (by have := of_decide_eq_false hb1; omega)
  have hins := insS_at hk hall (fun z hz => absurd (List.getElem?_eq_some_iff.1 hz).1 (by omega))
  refine r_no rfl rfl rfl (r_no rfl rfl rfl (r_no rfl rfl rfl (r_no rfl rfl rfl (r_no rfl rfl rfl (r_no rfl rfl rfl (r_pickF rfl rfl rfl rfl (run_nil (at_tn (at_condF rfl (at_exit (at_te (at_te (at_be (at_tn (at_seq (at_seq (at_region (r_move rfl rfl rfl (r_move rfl rfl rfl ?_)))))))))))))))))))
  refine r_lenV u33 rfl rfl rfl ?_
  refine r_cmpInt rfl rfl rfl rfl rfl (r_move rfl rfl rfl ?_)
  refine r_split 24 rfl (fun hb2 => ?_) (fun hb2 => ?_)
  · exfalso; have := of_decide_eq_true hb2; omega
  ·
   refine r_no rfl rfl rfl (r_no rfl rfl rfl (r_no rfl rfl rfl (r_no rfl rfl rfl (r_no rfl rfl rfl (r_no rfl rfl rfl (r_pickF rfl rfl rfl rfl (run_nil (at_tn (at_condF rfl (at_skip (at_tn (at_seq ?_))))))))))))
   have hil : (insS l n).length = 0 + k + 1 + (l.length - k) := by rw [hins]; simp; omega
   refine at_drawnE (l' := [⟨_,_,_,_,_,_⟩, ⟨_,_,_,_,_,_⟩, ⟨_,_,_,_,_,_⟩, ⟨_,_,_,_,_,_⟩, ⟨_,_,_,_,_,_⟩, ⟨_,_,_,_,_,_⟩, ⟨_,_,_,_,_,_⟩]) [1, 2, 3, 5, 8, 9, 10] 6 mixed (by kernel_rfl) rfl ?_
   refine r_move rfl rfl rfl (r_move rfl rfl rfl ?_)
   refine r_sliceH k u33 ti3 rfl rfl rfl rfl (by omega) (by omega) rfl ?_
   refine r_move rfl rfl rfl (r_move rfl rfl rfl (r_move rfl rfl rfl ?_))
   refine r_sliceM k u33 ti3 rfl rfl rfl rfl (by omega) rfl rfl rfl ?_
   refine run_nil ?_
   refine t_node [0, 6] (by kernel_rfl) rfl ⟨⟨_, rfl, ?_⟩, ⟨_, rfl, ?_⟩, trivial⟩
   ·
    refine r_buildSlice [] (fun g => [_, ⟨some g, 3, _, 0, true⟩]) rfl rfl rfl (bs33_0) rfl (fun _ => rfl) (fun g0 => ?_)
    refine run_nil ?_
    refine t_node [4, 6] (by kernel_rfl) rfl ⟨⟨_, rfl, ?_⟩, ⟨_, rfl, ?_⟩, trivial⟩
    ·
     refine q_appendO (s := 1) (len := 0) 1 0 (ILc (l.take k)) (fun r => [_, ⟨r.b, 3, ILc (l.take k), r.n, true⟩]) u33 el3 rfl rfl rfl rfl rfl rfl rfl rfl rfl rfl rfl (Nat.le_refl _) (Nat.le_refl _) (by by_cases hz : k = 0; exact .inl hz; exact .inr (il_base (pre := []) hbase (by omega))) (ILc_takeT l k) (by rw [ILc_length, List.length_take]; omega) (ILc_one _) (by omega) (fun _ => rfl) (fun r => ?_)
     refine run_nil ?_
     refine t_node [6] (by kernel_rfl) rfl ⟨⟨_, rfl, ?_⟩, trivial⟩
     ·
      refine r_buildSlice [(0, _)] (fun g => [_, _, ⟨some g, 3, _, 1, true⟩]) rfl rfl rfl (bs33_1) rfl (fun _ => rfl) (fun g1 => ?_)
      refine run_nil ?_
      refine t_node [7] (by kernel_rfl) rfl ⟨⟨_, rfl, ?_⟩, trivial⟩
      ·
       refine q_appendO (s := 1) (len := 0 + k) (n2 := 1) 1 2 [.int .i64 n] (fun r2 => [_, ⟨r2.b, 3, ILc (l.take k) ++ [.int .i64 n], r2.n, true⟩, _]) u33 el3 rfl rfl rfl rfl rfl rfl rfl rfl rfl rfl (by rw [ILc_length, List.length_take]; omega) r.h r.hn (.inr ⟨_, rfl⟩) rfl rfl (Go.Via.one_cell _ _) (by omega) (fun _ => rfl) (fun r2 => ?_)
       refine run_nil ?_
       refine t_node [11] (by kernel_rfl) rfl ⟨⟨_, rfl, ?_⟩, trivial⟩
       ·
        refine q_appendO (s := 1) (len := 0 + k + 1) 1 0 (ILc (l.drop k)) (fun r3 => [_, ⟨r3.b, 3, (ILc (l.take k) ++ [.int .i64 n]) ++ ILc (l.drop k), r3.n, true⟩, _]) u33 el3 rfl rfl rfl rfl rfl rfl rfl rfl rfl rfl (by rw [List.length_append, ILc_length, List.length_take]; simp; omega) r2.h r2.hn (by by_cases hz : l.length - k = 0; exact .inl hz; exact .inr (il_base (pre := []) hbase (by omega))) (ILc_dropT hc) (by rw [ILc_length, List.length_drop]; omega) (ILc_one _) (by omega) (fun _ => rfl) (fun r3 => ?_)
        refine run_nil ?_
        refine t_node [12] (by kernel_rfl) rfl ⟨⟨_, rfl, ?_⟩, trivial⟩
        ·
         refine r_assign rfl rfl rfl (run_nil ?_)
         refine tr_nil (by kernel_rfl) ?_
         refine at_tn (at_ret ?_)
         refine at_end1 rfl (res_tmp rfl) (fun w hL => ⟨⟨some ⟨r3.b, r3.n, r3.cap, by have := r3.h; omega⟩, fun h => by cases h⟩, ?_, hL.picks [some 1] ⟨⟨_, rfl, le_same (congrArg (fun c => (⟨r3.b, 3, c, r3.n, true⟩ : Blk)) (show ILc (insS l n) = (ILc (l.take k) ++ [.int .i64 n]) ++ ILc (l.drop k) by rw [hins]; simp [ILc]))⟩, trivial⟩ rfl rfl⟩)
         exact congrArg (fun m => Ending.returned (slv r3.b 0 m r3.cap)) hil.symm
    ·
     refine r_buildSlice [(0, _)] (fun g => [_, _, ⟨some g, 3, _, 1, true⟩]) rfl rfl rfl (bs33_1) rfl (fun _ => rfl) (fun g1 => ?_)
     refine run_nil ?_
     refine t_node [4] (by kernel_rfl) rfl ⟨⟨_, rfl, ?_⟩, trivial⟩
     ·
      refine q_appendO (s := 1) (len := 0) 1 0 (ILc (l.take k)) (fun r => [_, ⟨r.b, 3, ILc (l.take k), r.n, true⟩, _]) u33 el3 rfl rfl rfl rfl rfl rfl rfl rfl rfl rfl rfl (Nat.le_refl _) (Nat.le_refl _) (by by_cases hz : k = 0; exact .inl hz; exact .inr (il_base (pre := []) hbase (by omega))) (ILc_takeT l k) (by rw [ILc_length, List.length_take]; omega) (ILc_one _) (by omega) (fun _ => rfl) (fun r => ?_)
      refine run_nil ?_
      refine t_node [7] (by kernel_rfl) rfl ⟨⟨_, rfl, ?_⟩, trivial⟩
      ·
       refine q_appendO (s := 1) (len := 0 + k) (n2 := 1) 1 2 [.int .i64 n] (fun r2 => [_, ⟨r2.b, 3, ILc (l.take k) ++ [.int .i64 n], r2.n, true⟩, _]) u33 el3 rfl rfl rfl rfl rfl rfl rfl rfl rfl rfl (by rw [ILc_length, List.length_take]; omega) r.h r.hn (.inr ⟨_, rfl⟩) rfl rfl (Go.Via.one_cell _ _) (by omega) (fun _ => rfl) (fun r2 => ?_)
       refine run_nil ?_
       refine t_node [11] (by kernel_rfl) rfl ⟨⟨_, rfl, ?_⟩, trivial⟩
       ·
        refine q_appendO (s := 1) (len := 0 + k + 1) 1 0 (ILc (l.drop k)) (fun r3 => [_, ⟨r3.b, 3, (ILc (l.take k) ++ [.int .i64 n]) ++ ILc (l.drop k), r3.n, true⟩, _]) u33 el3 rfl rfl rfl rfl rfl rfl rfl rfl rfl rfl (by rw [List.length_append, ILc_length, List.length_take]; simp; omega) r2.h r2.hn (by by_cases hz : l.length - k = 0; exact .inl hz; exact .inr (il_base (pre := []) hbase (by omega))) (ILc_dropT hc) (by rw [ILc_length, List.length_drop]; omega) (ILc_one _) (by omega) (fun _ => rfl) (fun r3 => ?_)
        refine run_nil ?_
        refine t_node [12] (by kernel_rfl) rfl ⟨⟨_, rfl, ?_⟩, trivial⟩
        ·
         refine r_assign rfl rfl rfl (run_nil ?_)
         refine tr_nil (by kernel_rfl) ?_
         refine at_tn (at_ret ?_)
         refine at_end1 rfl (res_tmp rfl) (fun w hL => ⟨⟨some ⟨r3.b, r3.n, r3.cap, by have := r3.h; omega⟩, fun h => by cases h⟩, ?_, hL.picks [some 1] ⟨⟨_, rfl, le_same (congrArg (fun c => (⟨r3.b, 3, c, r3.n, true⟩ : Blk)) (show ILc (insS l n) = (ILc (l.take k) ++ [.int .i64 n]) ++ ILc (l.drop k) by rw [hins]; simp [ILc]))⟩, trivial⟩ rfl rfl⟩)
         exact congrArg (fun m => Ending.returned (slv r3.b 0 m r3.cap)) hil.symm
   ·
    refine r_buildSlice [(0, _)] (fun g => [_, ⟨some g, 3, _, 1, true⟩]) rfl rfl rfl (bs33_1) rfl (fun _ => rfl) (fun g0 => ?_)
    refine run_nil ?_
    refine t_node [0] (by kernel_rfl) rfl ⟨⟨_, rfl, ?_⟩, trivial⟩
    ·
     refine r_buildSlice [] (fun g => [_, _, ⟨some g, 3, _, 0, true⟩]) rfl rfl rfl (bs33_0) rfl (fun _ => rfl) (fun g1 => ?_)
     refine run_nil ?_
     refine t_node [4] (by kernel_rfl) rfl ⟨⟨_, rfl, ?_⟩, trivial⟩
     ·
      refine q_appendO (s := 1) (len := 0) 2 0 (ILc (l.take k)) (fun r => [_, _, ⟨r.b, 3, ILc (l.take k), r.n, true⟩]) u33 el3 rfl rfl rfl rfl rfl rfl rfl rfl rfl rfl rfl (Nat.le_refl _) (Nat.le_refl _) (by by_cases hz : k = 0; exact .inl hz; exact .inr (il_base (pre := []) hbase (by omega))) (ILc_takeT l k) (by rw [ILc_length, List.length_take]; omega) (ILc_one _) (by omega) (fun _ => rfl) (fun r => ?_)
      refine run_nil ?_
      refine t_node [7] (by kernel_rfl) rfl ⟨⟨_, rfl, ?_⟩, trivial⟩
      ·
       refine q_appendO (s := 1) (len := 0 + k) (n2 := 1) 2 1 [.int .i64 n] (fun r2 => [_, _, ⟨r2.b, 3, ILc (l.take k) ++ [.int .i64 n], r2.n, true⟩]) u33 el3 rfl rfl rfl rfl rfl rfl rfl rfl rfl rfl (by rw [ILc_length, List.length_take]; omega) r.h r.hn (.inr ⟨_, rfl⟩) rfl rfl (Go.Via.one_cell _ _) (by omega) (fun _ => rfl) (fun r2 => ?_)
       refine run_nil ?_
       refine t_node [11] (by kernel_rfl) rfl ⟨⟨_, rfl, ?_⟩, trivial⟩
       ·
        refine q_appendO (s := 1) (len := 0 + k + 1) 2 0 (ILc (l.drop k)) (fun r3 => [_, _, ⟨r3.b, 3, (ILc (l.take k) ++ [.int .i64 n]) ++ ILc (l.drop k), r3.n, true⟩]) u33 el3 rfl rfl rfl rfl rfl rfl rfl rfl rfl rfl (by rw [List.length_append, ILc_length, List.length_take]; simp; omega) r2.h r2.hn (by by_cases hz : l.length - k = 0; exact .inl hz; exact .inr (il_base (pre := []) hbase (by omega))) (ILc_dropT hc) (by rw [ILc_length, List.length_drop]; omega) (ILc_one _) (by omega) (fun _ => rfl) (fun r3 => ?_)
        refine run_nil ?_
        refine t_node [12] (by kernel_rfl) rfl ⟨⟨_, rfl, ?_⟩, trivial⟩
        ·
         refine r_assign rfl rfl rfl (run_nil ?_)
         refine tr_nil (by kernel_rfl) ?_
         refine at_tn (at_ret ?_)
         refine at_end1 rfl (res_tmp rfl) (fun w hL => ⟨⟨some ⟨r3.b, r3.n, r3.cap, by have := r3.h; omega⟩, fun h => by cases h⟩, ?_, hL.picks [some 2] ⟨⟨_, rfl, le_same (congrArg (fun c => (⟨r3.b, 3, c, r3.n, true⟩ : Blk)) (show ILc (insS l n) = (ILc (l.take k) ++ [.int .i64 n]) ++ ILc (l.drop k) by rw [hins]; simp [ILc]))⟩, trivial⟩ rfl rfl⟩)
         exact congrArg (fun m => Ending.returned (slv r3.b 0 m r3.cap)) hil.symm
end Go.Proofs.YtncogghlhlnmaaaGreatDoor
set_option linter.unusedVariables false
namespace Go.Proofs.YtncogghlhlnmaaaGreatDoor
open Go Go.RowKit Go.Via
set_option maxRecDepth 20000 in
theorem c_law_devices (l : List Ex) (a : Option Addr) (b : Option Nat) (pre : List Value) (N cap : Nat) (hc : l.length ≤ cap) (ha : l ≠ [] → a = b.map fun g => ⟨g, pre.length, none⟩) (hn : l.length ≤ 100000) : SCall Tryz.prog 18 [⟨b, 49, pre ++ XLc l, N, false⟩] [.slice a l.length cap] (SR (devL l).length) (fun x => x.v) (fun x => [⟨x.b, 3, ILc (devL l), x.n, true⟩]) := by
 refine ⟨by kernel_rfl, fun w hL0 => ?_⟩
 refine calls_at (args := [.slice a l.length cap]) Tryz.func18 rfl (Nat.le_of_ble_eq_true rfl) hL0 ?_
 show At w ⟨25, [(0, .slice a l.length cap)], [⟨b, 49, pre ++ XLc l, N, false⟩]⟩ _
 refine at_seq ?_
 refine at_base 0 rfl (fun hbase => ?_)
 refine at_region (r_assign rfl rfl rfl (run_nil (at_tn (at_seq (at_region (r_assign rfl rfl rfl (run_nil (at_tn (at_seq (at_seq (at_region (r_assign rfl rfl rfl (run_nil (at_tn (at_block ?_)))))))))))))))
 refine enterL (nt := 25) (ι := {x : Nat × Option Nat × Nat × Nat // x.1 ≤ l.length ∧ (devL (l.take x.1)).length ≤ x.2.2.2}) (fun ⟨⟨i, ob, oN, oc⟩, hi, h1⟩ => [(0, .slice a l.length cap), (3, slv ob 0 (devL (l.take i)).length oc), (4, .int .i64 (i : Nat))]) (fun ⟨⟨i, ob, oN, oc⟩, hi, h1⟩ => [⟨b, 49, pre ++ XLc l, N, false⟩, ⟨ob, 3, ILc (devL (l.take i)), oN, true⟩]) (fun ⟨⟨i, ob, oN, oc⟩, hi, h1⟩ => l.length - i) ⟨(0, none, 0, 0), Nat.zero_le _, Nat.le_refl _⟩ ⟨rfl, rfl, rfl, trivial⟩ (weak_picks [some 0, none] ⟨⟨_, rfl, Blk.le_refl _⟩, ⟨rfl, rfl, rfl⟩, trivial⟩ rfl rfl) ?_
 rintro ⟨⟨i, ob, oN, oc⟩, hi, h1⟩
 show At _ ⟨25, [(0, .slice a l.length cap), (3, slv ob 0 (devL (l.take i)).length oc), (4, .int .i64 (i : Nat))], [⟨b, 49, pre ++ XLc l, N, false⟩, ⟨ob, 3, ILc (devL (l.take i)), oN, true⟩]⟩ _
 replace hi : i ≤ l.length := hi
 replace h1 : (devL (l.take i)).length ≤ oc := h1
 refine at_seq (at_seq (at_region (r_move rfl rfl rfl (r_move rfl rfl rfl ?_))))
 refine r_lenV u22 rfl rfl rfl ?_
 refine r_cmpInt rfl rfl rfl rfl rfl (run_nil (at_tn ?_))
 refine at_cond rfl (fun hb1 => ?_) (fun hb1 => ?_)
 ·
  have hlt : i < l.length := (by have := of_decide_eq_true hb1; omega)
  obtain ⟨x, hx⟩ : ∃ x, l[i]? = some x := ⟨l[i], List.getElem?_eq_getElem hlt⟩
  have hdl := devL_len (l.take i)
  have htl : (l.take i).length ≤ i := by rw [List.length_take]; omega
  obtain ⟨gb, hgb⟩ := ex_base hbase (by omega)
  replace hgb : b = some gb := hgb
  subst hgb
  obtain rfl : a = some ⟨gb, pre.length, none⟩ := ha (fun e => by rw [e] at hlt; cases hlt)
  refine at_skip (at_tn (at_seq (at_block ?_)))
  refine at_drawn (l' := [⟨_,_,_,_,_,_⟩, ⟨_,_,_,_,_,_⟩, ⟨_,_,_,_,_,_⟩, ⟨_,_,_,_,_,_⟩, ⟨_,_,_,_,_,_⟩, ⟨_,_,_,_,_,_⟩, ⟨_,_,_,_,_,_⟩, ⟨_,_,_,_,_,_⟩, ⟨_,_,_,_,_,_⟩, ⟨_,_,_,_,_,_⟩, ⟨_,_,_,_,_,_⟩, ⟨_,_,_,_,_,_⟩, ⟨_,_,_,_,_,_⟩, ⟨_,_,_,_,_,_⟩]) [1] [0, 1, 2, 3, 4, 5, 7, 8, 9, 10, 11, 6, 12, 13] mixed (by kernel_rfl) rfl (by kernel_rfl) ?_
  refine r_move rfl rfl rfl (r_move rfl rfl rfl (r_move rfl rfl rfl ?_))
  refine r_indexAddr 0 (pre.length + i * 5) u22 ti49 rfl rfl rfl rfl rfl (by omega) (by omega) (pre_ne (XLc_ne (by omega))) (by show pre.length + Int.toNat _ * 5 = _; omega) ?_
  refine r_fieldAddr 0 (pre.length + i * 5) 0 rfl rfl rfl rfl rfl ti49 rfl rfl ?_
  refine r_load (v := .int .i64 x.f) 0 (pre.length + (i * 5 + 0)) _ rfl rfl rfl rfl ti3 (pre_get (XLc_f hx) rfl) rfl (by decide) rfl ?_
  refine r_move rfl rfl rfl (r_move rfl rfl rfl ?_)
  refine r_indexAddr 0 (pre.length + i * 5) u22 ti49 rfl rfl rfl rfl rfl (by omega) (by omega) (pre_ne (XLc_ne (by omega))) (by show pre.length + Int.toNat _ * 5 = _; omega) ?_
  refine r_fieldAddr 0 (pre.length + i * 5) 1 rfl rfl rfl rfl rfl ti49 rfl rfl ?_
  refine r_load (v := .int .i64 x.t) 0 (pre.length + (i * 5 + 1)) _ rfl rfl rfl rfl ti3 (pre_get (XLc_t hx) rfl) rfl (by decide) rfl ?_
  refine r_kcall1 [_, _] [1] 1 (fun (y : SR (insS (devL (l.take i)) x.f).length) => y.v) (fun y => ⟨y.b, 3, ILc (insS (devL (l.take i)) x.f), y.n, true⟩) (fun y => [_, ⟨y.b, 3, ILc (insS (devL (l.take i)) x.f), y.n, true⟩]) rfl rfl rfl rfl rfl (c_law_insert (devL (l.take i)) ob oN oc h1 (by omega) x.f) ⟨⟨_, rfl, le_share⟩, trivial⟩ rfl (insNew_own _ _) (fun z => ins_merge h1 (k := 1) rfl z) (fun _ => rfl) (fun y1 => ?_)
  refine r_kcall1 [_, _] [1] 1 (fun (y : SR (insS (insS (devL (l.take i)) x.f) x.t).length) => y.v) (fun y => ⟨y.b, 3, ILc (insS (insS (devL (l.take i)) x.f) x.t), y.n, true⟩) (fun y => [_, ⟨y.b, 3, ILc (insS (insS (devL (l.take i)) x.f) x.t), y.n, true⟩]) rfl rfl rfl rfl rfl (c_law_insert (insS (devL (l.take i)) x.f) y1.b y1.n y1.cap y1.h (by have := insS_len (devL (l.take i)) x.f; omega) x.t) ⟨⟨_, rfl, le_share⟩, trivial⟩ rfl (insNew_own _ _) (fun z => ins_merge y1.h (k := 1) rfl z) (fun _ => rfl) (fun y2 => ?_)
  refine r_assign rfl rfl rfl (run_nil (at_bn (at_tn (at_region (r_move rfl rfl rfl ?_)))))
  refine r_arith (r := ((i + 1 : Nat) : Int)) rfl rfl rfl rfl (congrArg some (wi (by omega) (by omega) (by omega))) ?_
  refine r_assign rfl rfl rfl (run_nil (at_tn ?_))
  exact nextL ⟨(i + 1, y2.b, y2.n, y2.cap), hlt, by rw [devL_step hx]; exact y2.h⟩ (by show l.length - (i + 1) < l.length - i; omega) ⟨rfl, (look_val rfl (by rw [devL_step hx]; rfl)), rfl, trivial⟩ (weak_picks [some 0, some 1] ⟨⟨_, rfl, Blk.le_refl _⟩, ⟨_, rfl, le_same (by show Blk.mk _ _ _ _ _ = Blk.mk _ _ _ _ _; rw [devL_step hx])⟩, trivial⟩ rfl rfl)
 ·
  have hge : i = l.length := (by have := of_decide_eq_false hb1; omega)
  subst hge
  refine at_exit (at_te (at_te (at_be (at_tn (at_seq (at_region (r_move rfl rfl rfl (r_assign rfl rfl rfl (run_nil (at_tn (at_ret ?_)))))))))))
  refine at_end1 rfl (res_tmp rfl) (fun w hL => ⟨⟨ob, oN, oc, by rw [← List.take_length (l := l)]; exact h1⟩, ?_, hL.picks [some 1] ⟨⟨_, rfl, le_same (congrArg (fun c => (⟨ob, 3, ILc (devL c), oN, true⟩ : Blk)) (List.take_length (l := l)).symm)⟩, trivial⟩ rfl rfl⟩)
  exact congrArg (fun c => Ending.returned (slv ob 0 (devL c).length oc)) (List.take_length (l := l))
end Go.Proofs.YtncogghlhlnmaaaGreatDoor
