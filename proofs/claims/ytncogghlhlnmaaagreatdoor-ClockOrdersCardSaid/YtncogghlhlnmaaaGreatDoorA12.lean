/-
  For any exchanges and any device, ClockOrders returns true: for up to 12 valid exchanges neither their order nor repetitions nor an exchange between two other devices matter. No further conditions.
-/
import Derived.Test.YtncogghlhlnmaaaGreatDoorA03
import Derived.Test.YtncogghlhlnmaaaGreatDoorA04
import Derived.Test.YtncogghlhlnmaaaGreatDoorA05
import Derived.Test.YtncogghlhlnmaaaGreatDoorA10
import Derived.Test.YtncogghlhlnmaaaGreatDoorA11
set_option linter.unusedVariables false
set_option linter.unusedVariables false
namespace Go.Proofs.YtncogghlhlnmaaaGreatDoor
open Go Go.RowKit Go.Via
set_option maxRecDepth 20000 in
theorem c_law_check (l : List Ex) (a : Option Addr) (b : Option Nat) (pre : List Value) (N cap : Nat) (hc : l.length ≤ cap) (ha : l ≠ [] → a = b.map fun g => ⟨g, pre.length, none⟩) : SCall Tryz.prog 26 [⟨b, 49, pre ++ XLc l, N, false⟩] [.slice a l.length cap] Unit (fun _ => .int .i64 (checkL l)) (fun _ => []) := by
 refine ⟨by kernel_rfl, fun w hL0 => ?_⟩
 refine calls_at (args := [.slice a l.length cap]) Tryz.func26 rfl (Nat.le_of_ble_eq_true rfl) hL0 ?_
 show At w ⟨72, [(0, .slice a l.length cap)], [⟨b, 49, pre ++ XLc l, N, false⟩]⟩ _
 refine at_seq (at_region (r_assign rfl rfl rfl (run_nil (at_tn (at_seq (at_seq (at_region (r_move rfl rfl rfl ?_))))))))
 refine r_lenV u22 rfl rfl rfl ?_
 refine r_cmpInt rfl rfl rfl rfl rfl (run_nil (at_tn ?_))
 refine at_cond rfl (fun hb0 => ?_) (fun hb0 => ?_)
 ·
  have hs7 : 4096 < l.length := (by have := of_decide_eq_true hb0; omega)
  refine at_seq (at_region (r_assign rfl rfl rfl (run_nil (at_tn (at_ret (at_tr ?_))))))
  refine at_end1 rfl (res_tmp rfl) (fun w hL => ⟨(), ?_, hL.picks [] trivial rfl rfl⟩)
  rw [checkL_3 (by omega)]
 ·
  have hs7 : ¬ 4096 < l.length := (by have := of_decide_eq_false hb0; omega)
  refine at_skip (at_tn (at_seq (at_seq (at_region (r_assign rfl rfl rfl (run_nil (at_tn (at_block ?_))))))))
  refine enterL (nt := 72) (ι := {i : Nat // i ≤ l.length ∧ errL l = errL (l.drop i)}) (fun ⟨i, hi, hI⟩ => [(0, .slice a l.length cap), (3, .int .i64 (i : Nat))]) (fun ⟨i, hi, hI⟩ => [⟨b, 49, pre ++ XLc l, N, false⟩]) (fun ⟨i, hi, hI⟩ => l.length - i) ⟨0, Nat.zero_le _, rfl⟩ ⟨rfl, rfl, trivial⟩ (Weak.refl _) ?_
  rintro ⟨i, hi, hI⟩
  show At _ ⟨72, [(0, .slice a l.length cap), (3, .int .i64 (i : Nat))], [⟨b, 49, pre ++ XLc l, N, false⟩]⟩ _
  refine at_seq (at_seq (at_region (r_move rfl rfl rfl (r_move rfl rfl rfl ?_))))
  refine r_lenV u22 rfl rfl rfl ?_
  refine r_cmpInt rfl rfl rfl rfl rfl (run_nil (at_tn ?_))
  refine at_cond rfl (fun hb2 => ?_) (fun hb2 => ?_)
  ·
   have hlt : i < l.length := (by have := of_decide_eq_true hb2; omega)
   obtain ⟨x, hx⟩ : ∃ x, l[i]? = some x := ⟨l[i], List.getElem?_eq_getElem hlt⟩
   refine at_base 0 rfl (fun hbase => ?_)
   obtain ⟨gb, hgb⟩ := ex_base hbase (by omega)
   replace hgb : b = some gb := hgb
   subst hgb
   obtain rfl : a = some ⟨gb, pre.length, none⟩ := ha (fun e => by rw [e] at hlt; cases hlt)
   refine at_skip (at_tn (at_seq (at_block (at_seq (at_region (r_move rfl rfl rfl (r_move rfl rfl rfl ?_)))))))
   refine r_indexAddr 0 (pre.length + i * 5) u22 ti49 rfl rfl rfl rfl rfl (by omega) (by omega) (pre_ne (XLc_ne (by omega))) (by show pre.length + Int.toNat _ * 5 = _; omega) ?_
   refine r_load (v := ExV x) 0 (pre.length + i * 5) _ rfl rfl rfl rfl ti49 (pre_get (XLc_get hx) rfl) rfl (by decide) rfl ?_
   refine r_alloc [_, _, _, _, _] 5 (fun g => [_, ⟨some g, 49, _, 5, true⟩]) rfl rfl z49 rfl rfl (fun _ => rfl) (fun g0 => ?_)
   refine r_store rfl 1 0 [_, ⟨some g0, 49, _, 5, true⟩] [_, _, _, _, _] rfl rfl rfl rfl ti49 rfl rfl rfl rfl rfl ?_
   refine run_nil (at_tn (at_block (at_seq (at_region ?_))))
   refine r_fieldAddr 1 0 0 rfl rfl rfl rfl rfl ti49 rfl rfl ?_
   refine r_load 1 0 [_] rfl rfl rfl rfl ti3 rfl rfl rfl rfl ?_
   refine r_cmpInt rfl rfl rfl rfl rfl (r_move rfl rfl rfl ?_)
   refine r_split 22 rfl (fun hb3 => ?_) (fun hb3 => ?_)
   ·
    have hs22 := of_decide_eq_true hb3
    refine r_no rfl rfl rfl (r_no rfl rfl rfl (r_no rfl rfl rfl (r_pickT rfl rfl rfl rfl (r_move rfl rfl rfl (r_no rfl rfl rfl (r_no rfl rfl rfl (r_no rfl rfl rfl (r_pickT rfl rfl rfl rfl (r_move rfl rfl rfl (r_no rfl rfl rfl (r_no rfl rfl rfl (r_no rfl rfl rfl (r_pickT rfl rfl rfl rfl (r_assign rfl rfl rfl (run_nil (at_tn (at_condT rfl (at_seq (at_region (r_assign rfl rfl rfl (run_nil (at_tn (at_ret ?_)))))))))))))))))))))))
    refine at_br (at_br (at_tr (at_tr (at_br (at_tr ?_)))))
    refine at_end1 rfl (res_tmp rfl) (fun w hL => ⟨(), ?_, hL.picks [] trivial rfl rfl⟩)
    have he := err2 (x := x) (by omega)
    rw [checkL_le (by omega), errL_stop hx hI (by rw [he]; decide), he]
   ·
    have hs22 := of_decide_eq_false hb3
    refine r_fieldAddr 1 0 0 rfl rfl rfl rfl rfl ti49 rfl rfl ?_
    refine r_load 1 0 [_] rfl rfl rfl rfl ti3 rfl rfl rfl rfl ?_
    refine r_cmpInt rfl rfl rfl rfl rfl (r_pickF rfl rfl rfl rfl (r_move rfl rfl rfl ?_))
    refine r_split 27 rfl (fun hb4 => ?_) (fun hb4 => ?_)
    ·
     have hs27 := of_decide_eq_true hb4
     refine r_no rfl rfl rfl (r_no rfl rfl rfl (r_no rfl rfl rfl (r_pickT rfl rfl rfl rfl (r_move rfl rfl rfl (r_no rfl rfl rfl (r_no rfl rfl rfl (r_no rfl rfl rfl (r_pickT rfl rfl rfl rfl (r_assign rfl rfl rfl (run_nil (at_tn (at_condT rfl (at_seq (at_region (r_assign rfl rfl rfl (run_nil (at_tn (at_ret (at_br (at_br (at_tr (at_tr (at_br ?_)))))))))))))))))))))))
     refine at_tr ?_
     refine at_end1 rfl (res_tmp rfl) (fun w hL => ⟨(), ?_, hL.picks [] trivial rfl rfl⟩)
     have he := err2 (x := x) (by omega)
     rw [checkL_le (by omega), errL_stop hx hI (by rw [he]; decide), he]
    ·
     have hs27 := of_decide_eq_false hb4
     refine r_fieldAddr 1 0 1 rfl rfl rfl rfl rfl ti49 rfl rfl ?_
     refine r_load 1 1 [_] rfl rfl rfl rfl ti3 rfl rfl rfl rfl ?_
     refine r_cmpInt rfl rfl rfl rfl rfl (r_pickF rfl rfl rfl rfl (r_move rfl rfl rfl ?_))
     refine r_split 32 rfl (fun hb5 => ?_) (fun hb5 => ?_)
     ·
      have hs32 := of_decide_eq_true hb5
      refine r_no rfl rfl rfl (r_no rfl rfl rfl (r_no rfl rfl rfl (r_pickT rfl rfl rfl rfl (r_assign rfl rfl rfl (run_nil (at_tn (at_condT rfl (at_seq (at_region (r_assign rfl rfl rfl (run_nil (at_tn (at_ret (at_br (at_br (at_tr (at_tr (at_br (at_tr ?_)))))))))))))))))))
      refine at_end1 rfl (res_tmp rfl) (fun w hL => ⟨(), ?_, hL.picks [] trivial rfl rfl⟩)
      have he := err2 (x := x) (by omega)
      rw [checkL_le (by omega), errL_stop hx hI (by rw [he]; decide), he]
     ·
      have hs32 := of_decide_eq_false hb5
      refine r_fieldAddr 1 0 1 rfl rfl rfl rfl rfl ti49 rfl rfl ?_
      refine r_load 1 1 [_] rfl rfl rfl rfl ti3 rfl rfl rfl rfl ?_
      refine r_cmpInt rfl rfl rfl rfl rfl (r_pickF rfl rfl rfl rfl (r_assign rfl rfl rfl (run_nil (at_tn ?_))))
      refine at_cond rfl (fun hb6 => ?_) (fun hb6 => ?_)
      ·
       have hs18 := of_decide_eq_true hb6
       refine at_seq (at_region (r_assign rfl rfl rfl (run_nil (at_tn (at_ret (at_br (at_br (at_tr (at_tr (at_br (at_tr ?_)))))))))))
       refine at_end1 rfl (res_tmp rfl) (fun w hL => ⟨(), ?_, hL.picks [] trivial rfl rfl⟩)
       have he := err2 (x := x) (by omega)
       rw [checkL_le (by omega), errL_stop hx hI (by rw [he]; decide), he]
      ·
       have hs18 := of_decide_eq_false hb6
       refine at_seq (at_region ?_)
       refine r_fieldAddr 1 0 0 rfl rfl rfl rfl rfl ti49 rfl rfl ?_
       refine r_load 1 0 [_] rfl rfl rfl rfl ti3 rfl rfl rfl rfl ?_
       refine r_fieldAddr 1 0 1 rfl rfl rfl rfl rfl ti49 rfl rfl ?_
       refine r_load 1 1 [_] rfl rfl rfl rfl ti3 rfl rfl rfl rfl ?_
       refine r_cmpInt rfl rfl rfl rfl rfl (r_assign rfl rfl rfl (run_nil (at_tn ?_)))
       refine at_cond rfl (fun hb7 => ?_) (fun hb7 => ?_)
       ·
        have hs37 := eq_of_beq hb7
        refine at_seq (at_region (r_assign rfl rfl rfl (run_nil (at_tn (at_ret (at_br (at_br (at_tr (at_tr (at_br (at_tr ?_)))))))))))
        refine at_end1 rfl (res_tmp rfl) (fun w hL => ⟨(), ?_, hL.picks [] trivial rfl rfl⟩)
        have he := err8 (x := x) (by omega) hs37
        rw [checkL_le (by omega), errL_stop hx hI (by rw [he]; decide), he]
       ·
        have hs37 := ne_of_beq_false hb7
        refine at_seq (at_region ?_)
        refine r_fieldAddr 1 0 2 rfl rfl rfl rfl rfl ti49 rfl rfl ?_
        refine r_load 1 2 [_] rfl rfl rfl rfl ti3 rfl rfl rfl rfl ?_
        refine r_cmpInt rfl rfl rfl rfl rfl (r_move rfl rfl rfl ?_)
        refine r_split 47 rfl (fun hb8 => ?_) (fun hb8 => ?_)
        ·
         have hs47 := of_decide_eq_true hb8
         refine r_no rfl rfl rfl (r_no rfl rfl rfl (r_no rfl rfl rfl (r_pickT rfl rfl rfl rfl (r_move rfl rfl rfl (r_no rfl rfl rfl (r_no rfl rfl rfl (r_no rfl rfl rfl (r_pickT rfl rfl rfl rfl (r_move rfl rfl rfl (r_no rfl rfl rfl (r_no rfl rfl rfl (r_no rfl rfl rfl (r_pickT rfl rfl rfl rfl (r_move rfl rfl rfl (r_no rfl rfl rfl (r_no rfl rfl rfl (r_no rfl rfl rfl (r_pickT rfl rfl rfl rfl (r_move rfl rfl rfl (r_no rfl rfl rfl (r_no rfl rfl rfl (r_no rfl rfl rfl (r_pickT rfl rfl rfl rfl ?_)))))))))))))))))))))))
         refine r_assign rfl rfl rfl (run_nil (at_tn (at_condT rfl (at_seq (at_region (r_assign rfl rfl rfl (run_nil (at_tn (at_ret (at_br (at_br (at_tr (at_tr (at_br (at_tr ?_)))))))))))))))
         refine at_end1 rfl (res_tmp rfl) (fun w hL => ⟨(), ?_, hL.picks [] trivial rfl rfl⟩)
         have he := err26 (x := x) (by omega) hs37 (by omega)
         rw [checkL_le (by omega), errL_stop hx hI (by rw [he]; decide), he]
        ·
         have hs47 := of_decide_eq_false hb8
         refine r_fieldAddr 1 0 2 rfl rfl rfl rfl rfl ti49 rfl rfl ?_
         refine r_load 1 2 [_] rfl rfl rfl rfl ti3 rfl rfl rfl rfl ?_
         refine r_cmpInt rfl rfl rfl rfl rfl (r_pickF rfl rfl rfl rfl (r_move rfl rfl rfl ?_))
         refine r_split 52 rfl (fun hb9 => ?_) (fun hb9 => ?_)
         ·
          have hs52 := of_decide_eq_true hb9
          refine r_no rfl rfl rfl (r_no rfl rfl rfl (r_no rfl rfl rfl (r_pickT rfl rfl rfl rfl (r_move rfl rfl rfl (r_no rfl rfl rfl (r_no rfl rfl rfl (r_no rfl rfl rfl (r_pickT rfl rfl rfl rfl (r_move rfl rfl rfl (r_no rfl rfl rfl (r_no rfl rfl rfl (r_no rfl rfl rfl (r_pickT rfl rfl rfl rfl (r_move rfl rfl rfl (r_no rfl rfl rfl (r_no rfl rfl rfl (r_no rfl rfl rfl (r_pickT rfl rfl rfl rfl (r_assign rfl rfl rfl (run_nil (at_tn (at_condT rfl (at_seq ?_)))))))))))))))))))))))
          refine at_region (r_assign rfl rfl rfl (run_nil (at_tn (at_ret (at_br (at_br (at_tr (at_tr (at_br (at_tr ?_))))))))))
          refine at_end1 rfl (res_tmp rfl) (fun w hL => ⟨(), ?_, hL.picks [] trivial rfl rfl⟩)
          have he := err26 (x := x) (by omega) hs37 (by omega)
          rw [checkL_le (by omega), errL_stop hx hI (by rw [he]; decide), he]
         ·
          have hs52 := of_decide_eq_false hb9
          refine r_fieldAddr 1 0 3 rfl rfl rfl rfl rfl ti49 rfl rfl ?_
          refine r_load 1 3 [_] rfl rfl rfl rfl ti3 rfl rfl rfl rfl ?_
          refine r_cmpInt rfl rfl rfl rfl rfl (r_pickF rfl rfl rfl rfl (r_move rfl rfl rfl ?_))
          refine r_split 57 rfl (fun hb10 => ?_) (fun hb10 => ?_)
          ·
           have hs57 := of_decide_eq_true hb10
           refine r_no rfl rfl rfl (r_no rfl rfl rfl (r_no rfl rfl rfl (r_pickT rfl rfl rfl rfl (r_move rfl rfl rfl (r_no rfl rfl rfl (r_no rfl rfl rfl (r_no rfl rfl rfl (r_pickT rfl rfl rfl rfl (r_move rfl rfl rfl (r_no rfl rfl rfl (r_no rfl rfl rfl (r_no rfl rfl rfl (r_pickT rfl rfl rfl rfl (r_assign rfl rfl rfl (run_nil (at_tn (at_condT rfl (at_seq (at_region (r_assign rfl rfl rfl (run_nil (at_tn (at_ret ?_)))))))))))))))))))))))
           refine at_br (at_br (at_tr (at_tr (at_br (at_tr ?_)))))
           refine at_end1 rfl (res_tmp rfl) (fun w hL => ⟨(), ?_, hL.picks [] trivial rfl rfl⟩)
           have he := err26 (x := x) (by omega) hs37 (by omega)
           rw [checkL_le (by omega), errL_stop hx hI (by rw [he]; decide), he]
          ·
           have hs57 := of_decide_eq_false hb10
           refine r_fieldAddr 1 0 3 rfl rfl rfl rfl rfl ti49 rfl rfl ?_
           refine r_load 1 3 [_] rfl rfl rfl rfl ti3 rfl rfl rfl rfl ?_
           refine r_cmpInt rfl rfl rfl rfl rfl (r_pickF rfl rfl rfl rfl (r_move rfl rfl rfl ?_))
           refine r_split 62 rfl (fun hb11 => ?_) (fun hb11 => ?_)
           ·
            have hs62 := of_decide_eq_true hb11
            refine r_no rfl rfl rfl (r_no rfl rfl rfl (r_no rfl rfl rfl (r_pickT rfl rfl rfl rfl (r_move rfl rfl rfl (r_no rfl rfl rfl (r_no rfl rfl rfl (r_no rfl rfl rfl (r_pickT rfl rfl rfl rfl (r_assign rfl rfl rfl (run_nil (at_tn (at_condT rfl (at_seq (at_region (r_assign rfl rfl rfl (run_nil (at_tn (at_ret (at_br (at_br (at_tr (at_tr (at_br ?_)))))))))))))))))))))))
            refine at_tr ?_
            refine at_end1 rfl (res_tmp rfl) (fun w hL => ⟨(), ?_, hL.picks [] trivial rfl rfl⟩)
            have he := err26 (x := x) (by omega) hs37 (by omega)
            rw [checkL_le (by omega), errL_stop hx hI (by rw [he]; decide), he]
           ·
            have hs62 := of_decide_eq_false hb11
            refine r_fieldAddr 1 0 4 rfl rfl rfl rfl rfl ti49 rfl rfl ?_
            refine r_load 1 4 [_] rfl rfl rfl rfl ti3 rfl rfl rfl rfl ?_
            refine r_cmpInt rfl rfl rfl rfl rfl (r_pickF rfl rfl rfl rfl (r_move rfl rfl rfl ?_))
            refine r_split 67 rfl (fun hb12 => ?_) (fun hb12 => ?_)
            ·
             have hs67 := of_decide_eq_true hb12
             refine r_no rfl rfl rfl (r_no rfl rfl rfl (r_no rfl rfl rfl (r_pickT rfl rfl rfl rfl (r_assign rfl rfl rfl (run_nil (at_tn (at_condT rfl (at_seq (at_region (r_assign rfl rfl rfl (run_nil (at_tn (at_ret (at_br (at_br (at_tr (at_tr (at_br (at_tr ?_)))))))))))))))))))
             refine at_end1 rfl (res_tmp rfl) (fun w hL => ⟨(), ?_, hL.picks [] trivial rfl rfl⟩)
             have he := err26 (x := x) (by omega) hs37 (by omega)
             rw [checkL_le (by omega), errL_stop hx hI (by rw [he]; decide), he]
            ·
             have hs67 := of_decide_eq_false hb12
             refine r_fieldAddr 1 0 4 rfl rfl rfl rfl rfl ti49 rfl rfl ?_
             refine r_load 1 4 [_] rfl rfl rfl rfl ti3 rfl rfl rfl rfl ?_
             refine r_cmpInt rfl rfl rfl rfl rfl (r_pickF rfl rfl rfl rfl (r_assign rfl rfl rfl (run_nil (at_tn ?_))))
             refine at_cond rfl (fun hb13 => ?_) (fun hb13 => ?_)
             ·
              have hs43 := of_decide_eq_true hb13
              refine at_seq (at_region (r_assign rfl rfl rfl (run_nil (at_tn (at_ret (at_br (at_br (at_tr (at_tr (at_br (at_tr ?_)))))))))))
              refine at_end1 rfl (res_tmp rfl) (fun w hL => ⟨(), ?_, hL.picks [] trivial rfl rfl⟩)
              have he := err26 (x := x) (by omega) hs37 (by omega)
              rw [checkL_le (by omega), errL_stop hx hI (by rw [he]; decide), he]
             ·
              have hs43 := of_decide_eq_false hb13
              refine at_skip (at_bn (at_bn (at_tn (at_region (r_move rfl rfl rfl ?_)))))
              refine r_arith (r := ((i + 1 : Nat) : Int)) rfl rfl rfl rfl (congrArg some (wi (by omega) (by omega) (by omega))) ?_
              refine r_assign rfl rfl rfl (run_nil (at_tn ?_))
              exact nextL ⟨i + 1, hlt, errL_step hx hI (err0 (by omega) hs37 (by omega))⟩ (by simp only []; omega) ⟨rfl, rfl, trivial⟩ (weak_picks [some 0] ⟨⟨_, rfl, Blk.le_refl _⟩, trivial⟩ rfl rfl)
  ·
   have hge : i = l.length := (by have := of_decide_eq_false hb2; omega)
   subst hge
   refine at_exit (at_te (at_te (at_be (at_tn (at_seq (at_region (r_assign rfl rfl rfl (run_nil (at_tn (at_ret ?_))))))))))
   refine at_end1 rfl (res_tmp rfl) (fun w hL => ⟨(), ?_, hL.picks [] trivial rfl rfl⟩)
   rw [checkL_le (by omega), errL_end hI]
set_option maxRecDepth 20000 in
theorem c_law_few (l : List Ex) (a : Option Addr) (b : Option Nat) (pre : List Value) (N cap : Nat) (hc : l.length ≤ cap) (ha : l ≠ [] → a = b.map fun g => ⟨g, pre.length, none⟩) : SCall Tryz.prog 13 [⟨b, 49, pre ++ XLc l, N, false⟩] [.slice a l.length cap] Unit (fun _ => .bool (fewB l)) (fun _ => []) := by
 refine ⟨by kernel_rfl, fun w hL0 => ?_⟩
 refine calls_at (args := [.slice a l.length cap]) Tryz.func13 rfl (Nat.le_of_ble_eq_true rfl) hL0 ?_
 show At w ⟨11, [(0, .slice a l.length cap)], [⟨b, 49, pre ++ XLc l, N, false⟩]⟩ _
 refine at_seq (at_region (r_assign rfl rfl rfl (run_nil (at_tn (at_seq (at_region (r_move rfl rfl rfl ?_)))))))
 refine r_lenV u22 rfl rfl rfl ?_
 refine r_cmpInt rfl rfl rfl rfl rfl (r_move rfl rfl rfl ?_)
 refine r_split 6 rfl (fun hb0 => ?_) (fun hb0 => ?_)
 ·
  have hs6 : l.length ≤ 12 := (by have := of_decide_eq_true hb0; omega)
  refine r_move rfl rfl rfl ?_
  refine r_scall0 [_] [0] rfl rfl rfl (c_law_check l a b pre N cap hc ha) ⟨⟨_, rfl, Blk.le_refl _⟩, trivial⟩ rfl ?_
  refine r_cmpInt rfl rfl rfl rfl rfl (r_pickT rfl rfl rfl rfl (r_assign rfl rfl rfl (run_nil (at_tn (at_ret ?_)))))
  refine at_end1 rfl (res_tmp rfl) (fun w hL => ⟨(), ?_, hL.picks [] trivial rfl rfl⟩)
  rw [fewB, decide_eq_true hs6, Bool.true_and]
 ·
  have hs6 : ¬ l.length ≤ 12 := (by have := of_decide_eq_false hb0; omega)
  refine r_no rfl rfl rfl (r_no rfl rfl rfl (r_no rfl rfl rfl (r_pickF rfl rfl rfl rfl (r_assign rfl rfl rfl (run_nil (at_tn (at_ret ?_)))))))
  refine at_end1 rfl (res_tmp rfl) (fun w hL => ⟨(), ?_, hL.picks [] trivial rfl rfl⟩)
  rw [fewB, decide_eq_false hs6, Bool.false_and]
end Go.Proofs.YtncogghlhlnmaaaGreatDoor
set_option linter.unusedVariables false
namespace Go.Proofs.YtncogghlhlnmaaaGreatDoor
open Go Go.RowKit Go.Via
set_option maxRecDepth 20000 in
theorem c_law_has (l : List Int) (b : Option Nat) (N cap : Nat) (hc : l.length ≤ cap) (hn : l.length ≤ 1000000) (n : Int) : SCall Tryz.prog 17 [⟨b, 3, ILc l, N, false⟩] [slv b 0 l.length cap, .int .i64 n] Unit (fun _ => .bool (l.contains n)) (fun _ => []) := by
 refine ⟨by kernel_rfl, fun w hL0 => ?_⟩
 refine calls_at (args := [slv b 0 l.length cap, .int .i64 n]) Tryz.func17 rfl (Nat.le_of_ble_eq_true rfl) hL0 ?_
 show At w ⟨18, [(0, slv b 0 l.length cap), (1, .int .i64 n)], [⟨b, 3, ILc l, N, false⟩]⟩ _
 refine at_seq ?_
 refine at_base 0 rfl (fun hbase => ?_)
 refine at_region (r_assign rfl rfl rfl (run_nil (at_tn (at_seq (at_seq (at_region (r_assign rfl rfl rfl (run_nil (at_tn (at_block ?_))))))))))
 refine enterL (nt := 18) (ι := {i : Nat // i ≤ l.length ∧ l.contains n = (l.drop i).contains n}) (fun ⟨i, hi, hI⟩ => [(0, slv b 0 l.length cap), (1, .int .i64 n), (5, .int .i64 (i : Nat))]) (fun ⟨i, hi, hI⟩ => [⟨b, 3, ILc l, N, false⟩]) (fun ⟨i, hi, hI⟩ => l.length - i) ⟨0, Nat.zero_le _, rfl⟩ ⟨rfl, rfl, rfl, trivial⟩ (Weak.refl _) ?_
 rintro ⟨i, hi, hI⟩
 show At _ ⟨18, [(0, slv b 0 l.length cap), (1, .int .i64 n), (5, .int .i64 (i : Nat))], [⟨b, 3, ILc l, N, false⟩]⟩ _
 refine at_seq (at_seq (at_region (r_move rfl rfl rfl (r_move rfl rfl rfl ?_))))
 refine r_lenS u33 rfl rfl rfl ?_
 refine r_cmpInt rfl rfl rfl rfl rfl (run_nil (at_tn ?_))
 refine at_cond rfl (fun hb1 => ?_) (fun hb1 => ?_)
 ·
  have hlt : i < l.length := (by have := of_decide_eq_true hb1; omega)
  obtain ⟨z, hz⟩ : ∃ z, l[i]? = some z := ⟨l[i], List.getElem?_eq_getElem hlt⟩
  obtain ⟨gb, hgb⟩ := il_base (pre := []) hbase (by omega)
  replace hgb : b = some gb := hgb
  subst hgb
  refine at_skip (at_tn (at_seq (at_block (at_seq (at_region (r_move rfl rfl rfl (r_move rfl rfl rfl ?_)))))))
  refine r_indexAddr 0 (i * 1) u33 ti3 rfl rfl rfl rfl rfl (by omega) (by omega) (ILc_ne (by omega)) (by show 0 + Int.toNat _ * 1 = _; omega) ?_
  refine r_load (v := .int .i64 z) 0 (i * 1) _ rfl rfl rfl rfl ti3 (ILc_get hz) rfl (by decide) rfl ?_
  refine r_move rfl rfl rfl (r_cmpInt rfl rfl rfl rfl rfl (run_nil (at_tn ?_)))
  refine at_cond rfl (fun hb2 => ?_) (fun hb2 => ?_)
  ·
   have hs17 := eq_of_beq hb2
   refine at_seq (at_region (r_assign rfl rfl rfl (run_nil (at_tn (at_ret (at_br (at_tr (at_tr (at_br (at_tr ?_))))))))))
   refine at_end1 rfl (res_tmp rfl) (fun w hL => ⟨(), ?_, hL.picks [] trivial rfl rfl⟩)
   rw [hI, has_yes hz hs17]
  ·
   have hs17 := ne_of_beq_false hb2
   refine at_skip (at_bn (at_tn (at_region (r_move rfl rfl rfl ?_))))
   refine r_arith (r := ((i + 1 : Nat) : Int)) rfl rfl rfl rfl (congrArg some (wi (by omega) (by omega) (by omega))) ?_
   refine r_assign rfl rfl rfl (run_nil (at_tn ?_))
   exact nextL ⟨i + 1, hlt, hI.trans (has_no hz hs17)⟩ (by simp only []; omega) ⟨rfl, rfl, rfl, trivial⟩ (Weak.refl _)
 ·
  have hge : i = l.length := (by have := of_decide_eq_false hb1; omega)
  subst hge
  refine at_exit (at_te (at_te (at_be (at_tn (at_seq (at_region (r_assign rfl rfl rfl (run_nil (at_tn (at_ret ?_))))))))))
  refine at_end1 rfl (res_tmp rfl) (fun w hL => ⟨(), ?_, hL.picks [] trivial rfl rfl⟩)
  rw [hI, List.drop_length]; rfl
end Go.Proofs.YtncogghlhlnmaaaGreatDoor
set_option linter.unusedVariables false
namespace Go.Proofs.YtncogghlhlnmaaaGreatDoor
open Go Go.RowKit Go.Via
set_option maxRecDepth 20000 in
theorem c_clock_Sum (l : List Ex) (a : Option Addr) (b : Option Nat) (pre : List Value) (N cap : Nat) (hc : l.length ≤ cap) (ha : l ≠ [] → a = b.map fun g => ⟨g, pre.length, none⟩) (hok : ∀ x ∈ l, okX x) (c : List Int) (a2 : Option Addr) (b2 : Option Nat) (pre2 : List Value) (N2 cap2 : Nat) (hc2 : c.length ≤ cap2) (ha2 : c ≠ [] → a2 = b2.map fun g => ⟨g, pre2.length, none⟩) (hcn : c.length ≤ 1000000) (fr to : Int) : SCall Tryz.prog 20 [⟨b, 49, pre ++ XLc l, N, false⟩, ⟨b2, 3, pre2 ++ ILc c, N2, false⟩] [.slice a l.length cap, .slice a2 c.length cap2, .int .i64 fr, .int .i64 to] Unit (fun _ => .tuple #[.int .i64 (sumN l c fr to), .int .i64 (sumE l c fr to)]) (fun _ => []) := by
 refine ⟨by kernel_rfl, fun w hL0 => ?_⟩
 refine calls_at (args := [.slice a l.length cap, .slice a2 c.length cap2, .int .i64 fr, .int .i64 to]) Tryz.func20 rfl (Nat.le_of_ble_eq_true rfl) hL0 ?_
 show At w ⟨54, [(0, .slice a l.length cap), (1, .slice a2 c.length cap2), (2, .int .i64 fr), (3, .int .i64 to)], [⟨b, 49, pre ++ XLc l, N, false⟩, ⟨b2, 3, pre2 ++ ILc c, N2, false⟩]⟩ _
 refine at_seq ?_
 refine at_base 0 rfl (fun hbase => ?_)
 refine at_base 1 rfl (fun hbase2 => ?_)
 refine at_region (r_assign rfl rfl rfl (r_assign rfl rfl rfl (run_nil (at_tn (at_seq (at_region (r_move rfl rfl rfl (r_assign rfl rfl rfl (run_nil (at_tn (at_seq (at_seq (at_region (r_move rfl rfl rfl ?_))))))))))))))
 refine r_lenV u33 rfl rfl rfl ?_
 refine r_move rfl rfl rfl (run_nil (at_tn (at_block ?_)))
 refine enterL (nt := 54) (ι := {z : Nat × Int × Int // z.1 ≤ c.length ∧ sumS l c fr 0 = sumS l (c.drop z.1) z.2.1 z.2.2 ∧ -4294967296 * (z.1 : Int) ≤ z.2.2 ∧ z.2.2 ≤ 4294967296 * (z.1 : Int)}) (fun ⟨⟨i, at_, n⟩, hi, hI, hn1, hn2⟩ => [(0, .slice a l.length cap), (1, .slice a2 c.length cap2), (3, .int .i64 to), (8, .int .i64 n), (10, .int .i64 at_), (14, .slice a2 c.length cap2), (15, .int .i64 (c.length : Nat)), (16, .int .i64 (i : Nat))]) (fun ⟨⟨i, at_, n⟩, hi, hI, hn1, hn2⟩ => [⟨b, 49, pre ++ XLc l, N, false⟩, ⟨b2, 3, pre2 ++ ILc c, N2, false⟩]) (fun ⟨⟨i, at_, n⟩, hi, hI, hn1, hn2⟩ => c.length - i) ⟨⟨0, fr, 0⟩, Nat.zero_le _, rfl, by simp, by simp⟩ ⟨rfl, rfl, rfl, rfl, rfl, rfl, rfl, rfl, trivial⟩ (Weak.refl _) ?_
 rintro ⟨⟨i, at_, n⟩, hi, hI, hn1, hn2⟩
 show At _ ⟨54, [(0, .slice a l.length cap), (1, .slice a2 c.length cap2), (3, .int .i64 to), (8, .int .i64 n), (10, .int .i64 at_), (14, .slice a2 c.length cap2), (15, .int .i64 (c.length : Nat)), (16, .int .i64 (i : Nat))], [⟨b, 49, pre ++ XLc l, N, false⟩, ⟨b2, 3, pre2 ++ ILc c, N2, false⟩]⟩ _
 replace hi : i ≤ c.length := hi
 replace hI : sumS l c fr 0 = sumS l (c.drop i) at_ n := hI
 replace hn1 : -4294967296 * (i : Int) ≤ n := hn1
 replace hn2 : n ≤ 4294967296 * (i : Int) := hn2
 refine at_seq (at_region (r_cmpInt rfl rfl rfl rfl rfl (run_nil (at_tn (at_seq ?_)))))
 refine at_cond rfl (fun hb1 => ?_) (fun hb1 => ?_)
 ·
  have hlt : i < c.length := (by have := of_decide_eq_true hb1; omega)
  obtain ⟨k, hk⟩ : ∃ k, c[i]? = some k := ⟨c[i], List.getElem?_eq_getElem hlt⟩
  obtain ⟨gc, hgc⟩ := il_base hbase2 (by omega)
  replace hgc : b2 = some gc := hgc
  subst hgc
  obtain rfl : a2 = some ⟨gc, pre2.length, none⟩ := ha2 (fun e => by rw [e] at hlt; cases hlt)
  refine at_skip (at_tn (at_seq (at_block (at_seq (at_region ?_)))))
  refine r_indexAddr 1 (pre2.length + i * 1) u33 ti3 rfl rfl rfl rfl rfl (by omega) (by omega) (pre_ne (ILc_ne (by omega))) (by show pre2.length + Int.toNat _ * 1 = _; omega) ?_
  refine r_load (v := .int .i64 k) 1 (pre2.length + i * 1) _ rfl rfl rfl rfl ti3 (pre_get (ILc_get hk) rfl) rfl (by decide) rfl ?_
  refine r_assign rfl rfl rfl (run_nil (at_tn (at_seq (at_seq (at_region (r_move rfl rfl rfl (r_cmpInt rfl rfl rfl rfl rfl (r_move rfl rfl rfl ?_))))))))
  refine r_split 22 rfl (fun hb2 => ?_) (fun hb2 => ?_)
  ·
   have hs1 : k < 0 := of_decide_eq_true hb2
   refine r_no rfl rfl rfl (r_no rfl rfl rfl (r_no rfl rfl rfl (r_no rfl rfl rfl (r_pickT rfl rfl rfl rfl (r_move rfl rfl rfl (r_no rfl rfl rfl (r_no rfl rfl rfl (r_no rfl rfl rfl (r_no rfl rfl rfl (r_no rfl rfl rfl (r_no rfl rfl rfl (r_no rfl rfl rfl (r_pickT rfl rfl rfl rfl (run_nil (at_tn (at_condT rfl (at_seq (at_region (r_assign rfl rfl rfl (r_assign rfl rfl rfl (run_nil (at_tn (at_ret ?_)))))))))))))))))))))))
   refine at_tr (at_br (at_tr (at_tr (at_br (at_tr ?_)))))
   refine at_end2 rfl (res_tmp rfl) (res_tmp rfl) (fun w hL => ⟨(), ?_, hL.picks [] trivial rfl rfl⟩)
   have hz := sum_none (b := to) (hI.trans (sumS_bad hk (.inl hs1)))
   rw [hz.1, hz.2.1]
  ·
   have hs1 : ¬ k < 0 := of_decide_eq_false hb2
   refine r_move rfl rfl rfl (r_move rfl rfl rfl ?_)
   refine r_lenV u22 rfl rfl rfl ?_
   refine r_cmpInt rfl rfl rfl rfl rfl (r_pickF rfl rfl rfl rfl (r_move rfl rfl rfl ?_))
   refine r_split 28 rfl (fun hb3 => ?_) (fun hb3 => ?_)
   ·
    have hs2 : (l.length : Int) ≤ k := of_decide_eq_true hb3
    refine r_no rfl rfl rfl (r_no rfl rfl rfl (r_no rfl rfl rfl (r_no rfl rfl rfl (r_no rfl rfl rfl (r_no rfl rfl rfl (r_no rfl rfl rfl (r_pickT rfl rfl rfl rfl (run_nil (at_tn (at_condT rfl (at_seq (at_region (r_assign rfl rfl rfl (r_assign rfl rfl rfl (run_nil (at_tn (at_ret (at_tr (at_br (at_tr (at_tr (at_br (at_tr ?_)))))))))))))))))))))))
    refine at_end2 rfl (res_tmp rfl) (res_tmp rfl) (fun w hL => ⟨(), ?_, hL.picks [] trivial rfl rfl⟩)
    have hz := sum_none (b := to) (hI.trans (sumS_bad hk (.inr hs2)))
    rw [hz.1, hz.2.1]
   ·
    have hs2 : ¬ (l.length : Int) ≤ k := of_decide_eq_false hb3
    have hk2 : k.toNat < l.length := by omega
    obtain ⟨x, hx⟩ : ∃ x, l[k.toNat]? = some x := ⟨_, List.getElem?_eq_getElem hk2⟩
    have hokx := hok x (List.mem_of_getElem? hx)
    have hwb := wt_bound hokx
    obtain ⟨gb, hgb⟩ := ex_base hbase (by omega)
    replace hgb : b = some gb := hgb
    subst hgb
    obtain rfl : a = some ⟨gb, pre.length, none⟩ := ha (fun e => by rw [e] at hk2; cases hk2)
    refine r_move rfl rfl rfl (r_move rfl rfl rfl ?_)
    refine r_indexAddr 0 (pre.length + k.toNat * 5) u22 ti49 rfl rfl rfl rfl rfl (by omega) (by omega) (pre_ne (XLc_ne (by omega))) (by show pre.length + Int.toNat _ * 5 = _; omega) ?_
    refine r_fieldAddr 0 (pre.length + k.toNat * 5) 0 rfl rfl rfl rfl rfl ti49 rfl rfl ?_
    refine r_load (v := .int .i64 x.f) 0 (pre.length + (k.toNat * 5 + 0)) _ rfl rfl rfl rfl ti3 (pre_get (XLc_f hx) rfl) rfl (by decide) rfl ?_
    refine r_move rfl rfl rfl (r_cmpInt rfl rfl rfl rfl rfl (r_pickF rfl rfl rfl rfl (run_nil (at_tn ?_))))
    refine at_cond rfl (fun hb4 => ?_) (fun hb4 => ?_)
    ·
     have hs3 : x.f ≠ at_ := by simpa using hb4
     refine at_seq (at_region (r_assign rfl rfl rfl (r_assign rfl rfl rfl (run_nil (at_tn (at_ret (at_tr (at_br (at_tr (at_tr (at_br (at_tr ?_))))))))))))
     refine at_end2 rfl (res_tmp rfl) (res_tmp rfl) (fun w hL => ⟨(), ?_, hL.picks [] trivial rfl rfl⟩)
     have hz := sum_none (b := to) (hI.trans (sumS_off hk (by omega) (by omega) hx hs3))
     rw [hz.1, hz.2.1]
    ·
     have hs3 : x.f = at_ := by simpa using hb4
     refine at_skip (at_tn ?_)
     refine at_drawn (l' := [⟨_,_,_,_,_,_⟩, ⟨_,_,_,_,_,_⟩, ⟨_,_,_,_,_,_⟩, ⟨_,_,_,_,_,_⟩, ⟨_,_,_,_,_,_⟩, ⟨_,_,_,_,_,_⟩, ⟨_,_,_,_,_,_⟩, ⟨_,_,_,_,_,_⟩, ⟨_,_,_,_,_,_⟩, ⟨_,_,_,_,_,_⟩, ⟨_,_,_,_,_,_⟩, ⟨_,_,_,_,_,_⟩, ⟨_,_,_,_,_,_⟩, ⟨_,_,_,_,_,_⟩]) [2000000] [0, 1, 2, 3, 4, 7, 8, 9, 10, 11, 5, 6, 12, 13] mixed (by kernel_rfl) rfl (by kernel_rfl) ?_
     refine r_move rfl rfl rfl (r_move rfl rfl rfl (r_move rfl rfl rfl ?_))
     refine r_indexAddr 0 (pre.length + k.toNat * 5) u22 ti49 rfl rfl rfl rfl rfl (by omega) (by omega) (pre_ne (XLc_ne (by omega))) (by show pre.length + Int.toNat _ * 5 = _; omega) ?_
     refine r_load (v := ExV x) 0 (pre.length + k.toNat * 5) _ rfl rfl rfl rfl ti49 (pre_get (XLc_get hx) rfl) rfl (by decide) rfl ?_
     refine r_move rfl rfl rfl (r_move rfl rfl rfl ?_)
     refine r_indexAddr 0 (pre.length + k.toNat * 5) u22 ti49 rfl rfl rfl rfl rfl (by omega) (by omega) (pre_ne (XLc_ne (by omega))) (by show pre.length + Int.toNat _ * 5 = _; omega) ?_
     refine r_fieldAddr 0 (pre.length + k.toNat * 5) 1 rfl rfl rfl rfl rfl ti49 rfl rfl ?_
     refine r_load (v := .int .i64 x.t) 0 (pre.length + (k.toNat * 5 + 1)) _ rfl rfl rfl rfl ti3 (pre_get (XLc_t hx) rfl) rfl (by decide) rfl ?_
     refine r_pcall [_] rfl rfl rfl (c_clock_Weight x hokx) ?_
     refine r_arith (r := n + wt x) rfl rfl rfl rfl (congrArg some (wi (by omega) (by omega) rfl)) ?_
     refine r_assign rfl rfl rfl (r_assign rfl rfl rfl (run_nil (at_bn (at_tn (at_region ?_)))))
     refine r_arith (r := ((i + 1 : Nat) : Int)) rfl rfl rfl rfl (congrArg some (wi (by omega) (by omega) (by omega))) ?_
     refine r_move rfl rfl rfl (run_nil (at_tn ?_))
     exact nextL ⟨⟨i + 1, x.t, n + wt x⟩, hlt, hI.trans (sumS_on hk (by omega) (by omega) hx hs3), by show -4294967296 * ((i + 1 : Nat) : Int) ≤ n + wt x; omega, by show n + wt x ≤ 4294967296 * ((i + 1 : Nat) : Int); omega⟩ (by simp only []; omega) ⟨rfl, rfl, rfl, rfl, rfl, rfl, rfl, rfl, trivial⟩ (weak_picks [some 0, some 1] ⟨⟨_, rfl, Blk.le_refl _⟩, ⟨_, rfl, Blk.le_refl _⟩, trivial⟩ rfl rfl)
 ·
  have hge : i = c.length := (by have := of_decide_eq_false hb1; omega)
  subst hge
  refine at_exit (at_te (at_te (at_be (at_tn (at_seq (at_seq (at_region (r_move rfl rfl rfl (r_move rfl rfl rfl (r_cmpInt rfl rfl rfl rfl rfl (run_nil (at_tn ?_))))))))))))
  refine at_cond rfl (fun hb2 => ?_) (fun hb2 => ?_)
  ·
   have hs4 : at_ ≠ to := by simpa using hb2
   refine at_seq (at_region (r_assign rfl rfl rfl (r_assign rfl rfl rfl (run_nil (at_tn (at_ret (at_tr ?_)))))))
   refine at_end2 rfl (res_tmp rfl) (res_tmp rfl) (fun w hL => ⟨(), ?_, hL.picks [] trivial rfl rfl⟩)
   have hz := sum_some (b := to) (hI.trans (by rw [List.drop_length]; rfl))
   rw [hz.1, hz.2.1, if_neg hs4, if_neg hs4]
  ·
   have hs4 : at_ = to := by simpa using hb2
   refine at_skip (at_tn (at_seq (at_region (r_move rfl rfl rfl (r_assign rfl rfl rfl (r_assign rfl rfl rfl (run_nil (at_tn (at_ret ?_)))))))))
   refine at_end2 rfl (res_tmp rfl) (res_tmp rfl) (fun w hL => ⟨(), ?_, hL.picks [] trivial rfl rfl⟩)
   have hz := sum_some (b := to) (hI.trans (by rw [List.drop_length]; rfl))
   rw [hz.1, hz.2.1, if_pos hs4, if_pos hs4]
end Go.Proofs.YtncogghlhlnmaaaGreatDoor
set_option linter.unusedVariables false
namespace Go.Proofs.YtncogghlhlnmaaaGreatDoor
open Go Go.RowKit Go.Via
set_option maxRecDepth 20000 in
theorem c_clock_Offset (l : List Ex) (a : Option Addr) (b : Option Nat) (pre : List Value) (N cap : Nat) (hc : l.length ≤ cap) (ha : l ≠ [] → a = b.map fun g => ⟨g, pre.length, none⟩) (hok : ∀ x ∈ l, okX x) (hn : l.length ≤ 1000) (d : Int) (hd : inI64 d) (hK : ∀ e, 0 ≤ e → e ≤ 1073741824 → CycOK l e (fun _ => True)) (hQ : ChOK l d (ChQ l d)) : SCall Tryz.prog 14 [⟨b, 49, pre ++ XLc l, N, false⟩] [.slice a l.length cap, .int .i64 d] Unit (fun _ => .tuple #[.agg #[.int .i64 (ofLo l d), .int .i64 (ofHi l d)], .int .i64 (chE l d)]) (fun _ => []) := by
 refine ⟨by kernel_rfl, fun w hL0 => ?_⟩
 refine calls_at (args := [.slice a l.length cap, .int .i64 d]) Tryz.func14 rfl (Nat.le_of_ble_eq_true rfl) hL0 ?_
 show At w ⟨46, [(0, .slice a l.length cap), (1, .int .i64 d)], [⟨b, 49, pre ++ XLc l, N, false⟩]⟩ _
 refine at_seq (at_region ?_)
 refine r_alloc [_, _] 2 (fun g => [_, ⟨some g, 26, _, 2, true⟩]) rfl rfl z26 rfl rfl (fun _ => rfl) (fun g0 => ?_)
 refine r_assign rfl rfl rfl (run_nil (at_tn (at_seq (at_region (r_move rfl rfl rfl (r_move rfl rfl rfl ?_))))))
 refine r_scall (hX := hQ.ne) [_, _] [0] rfl rfl rfl (c_clock_Chains l a b pre N cap hc ha hok hn d hd hK (ChQ l d) hQ) ⟨⟨_, rfl, Blk.le_refl _⟩, trivial⟩ rfl (.inr fun z b hb => by rcases List.mem_cons.1 hb with h | h; rw [h]; rw [List.mem_singleton.1 h]) (fun x => ?_)
 refine r_move rfl rfl rfl ?_
 refine r_extract (vs := [_, _, _]) rfl rfl rfl rfl ?_
 refine r_extract (vs := [_, _, _]) rfl rfl rfl rfl ?_
 refine r_extract (vs := [_, _, _]) rfl rfl rfl rfl ?_
 refine r_assign rfl rfl rfl (r_assign rfl rfl rfl (r_assign rfl rfl rfl (run_nil (at_tn (at_seq (at_seq (at_region (r_move rfl rfl rfl (r_cmpInt rfl rfl rfl rfl rfl (run_nil (at_tn ?_)))))))))))
 refine at_cond rfl (fun hb0 => ?_) (fun hb0 => ?_)
 ·
  have hE : chE l d ≠ 0 := by simpa using hb0
  have hgo : ¬ goA l d := fun g => hE (chE_5 g)
  refine at_seq (at_region ?_)
  refine r_build [] rfl rfl rfl (bd26_0) ?_
  refine r_move rfl rfl rfl ?_
  refine r_store rfl 1 0 [_, ⟨some g0, 26, _, 2, true⟩, _, _] [_, _] rfl rfl rfl rfl ti26 rfl rfl rfl rfl rfl ?_
  refine r_assign rfl rfl rfl (run_nil (at_tn (at_ret (at_tr ?_))))
  refine at_end2 rfl (res_cell 1 rfl rfl ti26 (vs := [_, _]) rfl rfl (Nat.le_of_ble_eq_true rfl) rfl) (res_tmp rfl) (fun w hL => ⟨(), ?_, hL.picks [] trivial rfl rfl⟩)
  rw [(of_no hgo).1, (of_no hgo).2]
 ·
  have hE : chE l d = 0 := by simpa using hb0
  refine at_skip (at_tn (at_seq (at_region (r_move rfl rfl rfl (r_move rfl rfl rfl (r_move rfl rfl rfl ?_))))))
  refine r_scall0 [_, _, _, _] [0, 2] rfl rfl rfl (c_clock_Sum l a b pre N cap hc ha hok x.u (x.ub.map fun g => ⟨g, 0, none⟩) x.ub [] x.un x.uc x.hu (fun _ => rfl) x.hl.1 0 d) ⟨⟨_, rfl, Blk.le_refl _⟩, ⟨_, rfl, le_share⟩, trivial⟩ rfl ?_
  refine r_move rfl rfl rfl ?_
  refine r_extract (vs := [_, _]) rfl rfl rfl rfl ?_
  refine r_extract (vs := [_, _]) rfl rfl rfl rfl ?_
  refine r_assign rfl rfl rfl (r_assign rfl rfl rfl (run_nil (at_tn (at_seq (at_region (r_move rfl rfl rfl (r_move rfl rfl rfl (r_move rfl rfl rfl ?_))))))))
  refine r_scall0 [_, _, _, _] [0, 3] rfl rfl rfl (c_clock_Sum l a b pre N cap hc ha hok x.v (x.vb.map fun g => ⟨g, 0, none⟩) x.vb [] x.vn x.vc x.hv (fun _ => rfl) x.hl.2 d 0) ⟨⟨_, rfl, Blk.le_refl _⟩, ⟨_, rfl, le_share⟩, trivial⟩ rfl ?_
  refine r_move rfl rfl rfl ?_
  refine r_extract (vs := [_, _]) rfl rfl rfl rfl ?_
  refine r_extract (vs := [_, _]) rfl rfl rfl rfl ?_
  refine r_assign rfl rfl rfl (r_assign rfl rfl rfl (run_nil (at_tn (at_seq (at_seq (at_region (r_move rfl rfl rfl ?_)))))))
  refine r_lenV u33 rfl rfl rfl ?_
  refine r_cmpInt rfl rfl rfl rfl rfl (run_nil (at_tn ?_))
  refine at_cond rfl (fun hb1 => ?_) (fun hb1 => ?_)
  ·
   have hu0 : x.u = [] := List.eq_nil_of_length_eq_zero (by have : ((x.u.length : Nat) : Int) = 0 := eq_of_beq hb1; omega)
   have hgo : ¬ goA l d := fun g => (x.ht g).1 hu0
   refine at_seq (at_region ?_)
   refine r_build [] rfl rfl rfl (bd26_0) ?_
   refine r_store rfl 1 0 [_, ⟨some g0, 26, _, 2, true⟩, _, _] [_, _] rfl rfl rfl rfl ti26 rfl rfl rfl rfl rfl ?_
   refine r_assign rfl rfl rfl (run_nil (at_tn (at_ret (at_tr ?_))))
   refine at_end2 rfl (res_cell 1 rfl rfl ti26 (vs := [_, _]) rfl rfl (Nat.le_of_ble_eq_true rfl) rfl) (res_tmp rfl) (fun w hL => ⟨(), ?_, hL.picks [] trivial rfl rfl⟩)
   rw [(of_no hgo).1, (of_no hgo).2, hE]
  ·
   have hgo : goA l d := Classical.byContradiction fun g => by have h1 := (x.hf g).1; have h2 := ne_of_beq_false hb1; rw [h1] at h2; exact h2 rfl
   have hq := x.ht hgo
   have hlb := loA_bnd hok hn d
   refine at_skip (at_tn (at_seq (at_region (r_move rfl rfl rfl ?_))))
   refine r_neg (r := -(sumN l x.v d 0)) rfl rfl rfl ((wi (by rw [hq.lo]; omega) (by rw [hq.lo]; omega) (by omega))) ?_
   refine r_move rfl rfl rfl ?_
   refine r_build [(0, _), (1, _)] rfl rfl rfl (bd26_2) ?_
   refine r_store rfl 1 0 [_, ⟨some g0, 26, _, 2, true⟩, _, _] [_, _] rfl rfl rfl rfl ti26 rfl rfl rfl rfl rfl ?_
   refine r_assign rfl rfl rfl (run_nil (at_tn (at_ret ?_)))
   refine at_end2 rfl (res_cell 1 rfl rfl ti26 (vs := [_, _]) rfl rfl (Nat.le_of_ble_eq_true rfl) rfl) (res_tmp rfl) (fun w hL => ⟨(), ?_, hL.picks [] trivial rfl rfl⟩)
   rw [(of_go hgo).1, (of_go hgo).2, hE, ← hq.hi, ← hq.lo]
end Go.Proofs.YtncogghlhlnmaaaGreatDoor
set_option linter.unusedVariables false
namespace Go.Proofs.YtncogghlhlnmaaaGreatDoor
open Go Go.RowKit Go.Via
set_option maxRecDepth 20000 in
theorem c_rational_FromInts (m n : Int) (hm : -9223372036854775808 ≤ m ∧ m ≤ 9223372036854775807) (hn : -9223372036854775808 ≤ n ∧ n ≤ 9223372036854775807) : PCall Tryz.prog 45 #[.int .i64 m, .int .i64 n] (.tuple #[Q (Rat.divInt m n), .int .i64 (if n = 0 then 6 else 0)]) := by
 refine ⟨by kernel_rfl, fun w => ?_⟩
 refine calls_at (args := [.int .i64 m, .int .i64 n]) Tryz.func45 rfl (Nat.le_of_ble_eq_true rfl) (LRel.nil w) ?_
 show At w ⟨13, [(0, .int .i64 m), (1, .int .i64 n)], []⟩ _
 refine at_seq (at_region ?_)
 refine r_alloc [_, _, _, _] 4 (fun g => [⟨some g, 63, _, 4, true⟩]) rfl rfl z63 rfl rfl (fun _ => rfl) (fun g0 => ?_)
 refine r_assign rfl rfl rfl (run_nil (at_tn (at_seq (at_region (r_move rfl rfl rfl ?_)))))
 refine r_pcall [_] rfl rfl rfl (c_integer_FromInt m hm.1 hm.2) ?_
 refine r_move rfl rfl rfl ?_
 refine r_pcall [_] rfl rfl rfl (c_integer_FromInt n hn.1 hn.2) ?_
 refine r_pcall [_, _] rfl rfl rfl (c_rational_Make m n (szI64 hm.1 hm.2) (szI64 hn.1 hn.2)) ?_
 refine r_extract (vs := [_, _]) rfl rfl rfl rfl ?_
 refine r_extract (vs := [_, _]) rfl rfl rfl rfl ?_
 refine r_store rfl 0 0 [⟨some g0, 63, _, 4, true⟩] [_, _, _, _] rfl rfl rfl rfl ti63 rfl rfl rfl rfl rfl ?_
 refine r_assign rfl rfl rfl (run_nil (at_tn (at_ret ?_)))
 refine at_end2 rfl (res_cell 0 rfl rfl ti63 (vs := [_, _, _, _]) rfl rfl (Nat.le_of_ble_eq_true rfl) rfl) (res_tmp rfl) (fun w hL => ⟨?_, hL.below⟩)
 exact rfl
set_option maxRecDepth 20000 in
theorem c_clock_Middle (lo hi : Int) (hs : -9223372036854775808 ≤ lo + hi ∧ lo + hi ≤ 9223372036854775807) : PCall Tryz.prog 27 #[.agg #[.int .i64 lo, .int .i64 hi]] (Q (Rat.divInt (lo + hi) 2)) := by
 refine ⟨by kernel_rfl, fun w => ?_⟩
 refine calls_at (args := [.agg #[.int .i64 lo, .int .i64 hi]]) Tryz.func27 rfl (Nat.le_of_ble_eq_true rfl) (LRel.nil w) ?_
 show At w ⟨15, [(0, .agg #[.int .i64 lo, .int .i64 hi])], []⟩ _
 refine at_seq (at_region ?_)
 refine r_box [_, _] 2 (fun g => [⟨some g, 26, _, 2, true⟩]) rfl rfl rfl rfl rfl (fun _ => rfl) (fun g0 => ?_)
 refine r_alloc [_, _, _, _] 4 (fun g => [_, ⟨some g, 63, _, 4, true⟩]) rfl rfl z63 rfl rfl (fun _ => rfl) (fun g1 => ?_)
 refine run_nil (at_tn (at_seq (at_region ?_)))
 refine r_fieldAddr 0 0 0 rfl rfl rfl rfl rfl ti26 rfl rfl ?_
 refine r_load 0 0 [_] rfl rfl rfl rfl ti3 rfl rfl rfl rfl ?_
 refine r_fieldAddr 0 0 1 rfl rfl rfl rfl rfl ti26 rfl rfl ?_
 refine r_load 0 1 [_] rfl rfl rfl rfl ti3 rfl rfl rfl rfl ?_
 refine r_arith (r := lo + hi) rfl rfl rfl rfl (congrArg some (wi (by omega) (by omega) rfl)) ?_
 refine r_pcall [_, _] rfl rfl rfl (c_rational_FromInts (lo + hi) 2 hs (by omega)) ?_
 refine r_move rfl rfl rfl ?_
 refine r_extract (vs := [_, _]) rfl rfl rfl rfl ?_
 refine r_extract (vs := [_, _]) rfl rfl rfl rfl ?_
 refine r_alloc [_, _, _, _] 4 (fun g => [_, _, ⟨some g, 63, _, 4, true⟩]) rfl rfl z63 rfl rfl (fun _ => rfl) (fun g2 => ?_)
 refine r_store rfl 2 0 [_, _, ⟨some g2, 63, _, 4, true⟩] [_, _, _, _] rfl rfl rfl rfl ti63 rfl rfl rfl rfl rfl ?_
 refine r_assign rfl rfl rfl (run_nil (at_tn (at_seq (at_region ?_))))
 refine r_load 2 0 [_, _, _, _] rfl rfl rfl rfl ti63 rfl rfl rfl rfl ?_
 refine r_store rfl 1 0 [_, ⟨some g1, 63, _, 4, true⟩, _] [_, _, _, _] rfl rfl rfl rfl ti63 rfl rfl rfl rfl rfl ?_
 refine run_nil (at_tn (at_ret ?_))
 refine at_end1 rfl (res_cell 1 rfl rfl ti63 (vs := [_, _, _, _]) rfl rfl (Nat.le_of_ble_eq_true rfl) rfl) (fun w hL => ⟨?_, hL.below⟩)
 exact rfl
set_option maxRecDepth 20000 in
theorem c_clock_Correct (l : List Ex) (a : Option Addr) (b : Option Nat) (pre : List Value) (N cap : Nat) (hc : l.length ≤ cap) (ha : l ≠ [] → a = b.map fun g => ⟨g, pre.length, none⟩) (hok : ∀ x ∈ l, okX x) (hn : l.length ≤ 1000) (d : Int) (hd : inI64 d) (hK : ∀ e, 0 ≤ e → e ≤ 1073741824 → CycOK l e (fun _ => True)) (hQ : ChOK l d (ChQ l d)) (ro rs rv rt rx ry : Int) (rc : Bool) (ht : -9223372036854775808 ≤ rt ∧ rt ≤ 9223372036854775807) : SCall Tryz.prog 29 [⟨b, 49, pre ++ XLc l, N, false⟩] [.slice a l.length cap, .agg #[.int .i64 ro, .int .i64 rs, .int .i64 rv, .int .i64 d, .int .i64 rt, .int .i64 rx, .int .i64 ry, .bool rc]] Unit (fun _ => .tuple #[corA l d rt, .int .i64 (chE l d)]) (fun _ => []) := by
 refine ⟨by kernel_rfl, fun w hL0 => ?_⟩
 have hob := of_bnd hok hn d
 refine calls_at (args := [.slice a l.length cap, .agg #[.int .i64 ro, .int .i64 rs, .int .i64 rv, .int .i64 d, .int .i64 rt, .int .i64 rx, .int .i64 ry, .bool rc]]) Tryz.func29 rfl (Nat.le_of_ble_eq_true rfl) hL0 ?_
 show At w ⟨25, [(0, .slice a l.length cap), (1, .agg #[.int .i64 ro, .int .i64 rs, .int .i64 rv, .int .i64 d, .int .i64 rt, .int .i64 rx, .int .i64 ry, .bool rc])], [⟨b, 49, pre ++ XLc l, N, false⟩]⟩ _
 refine at_seq (at_region ?_)
 refine r_box [_, _, _, _, _, _, _, _] 8 (fun g => [_, ⟨some g, 59, _, 8, true⟩]) rfl rfl rfl rfl rfl (fun _ => rfl) (fun g0 => ?_)
 refine r_alloc [_, _, _, _] 4 (fun g => [_, _, ⟨some g, 63, _, 4, true⟩]) rfl rfl z63 rfl rfl (fun _ => rfl) (fun g1 => ?_)
 refine r_assign rfl rfl rfl (run_nil (at_tn (at_seq (at_region (r_move rfl rfl rfl ?_)))))
 refine r_fieldAddr 1 0 3 rfl rfl rfl rfl rfl ti59 rfl rfl ?_
 refine r_load 1 3 [_] rfl rfl rfl rfl ti3 rfl rfl rfl rfl ?_
 refine r_scall0 [_, _] [0] rfl rfl rfl (c_clock_Offset l a b pre N cap hc ha hok hn d hd hK hQ) ⟨⟨_, rfl, Blk.le_refl _⟩, trivial⟩ rfl ?_
 refine r_move rfl rfl rfl ?_
 refine r_extract (vs := [_, _]) rfl rfl rfl rfl ?_
 refine r_extract (vs := [_, _]) rfl rfl rfl rfl ?_
 refine r_alloc [_, _] 2 (fun g => [_, _, _, ⟨some g, 26, _, 2, true⟩]) rfl rfl z26 rfl rfl (fun _ => rfl) (fun g2 => ?_)
 refine r_store rfl 3 0 [_, _, _, ⟨some g2, 26, _, 2, true⟩] [_, _] rfl rfl rfl rfl ti26 rfl rfl rfl rfl rfl ?_
 refine r_assign rfl rfl rfl (run_nil (at_tn (at_seq (at_seq (at_region (r_move rfl rfl rfl (r_cmpInt rfl rfl rfl rfl rfl (run_nil (at_tn ?_)))))))))
 refine at_cond rfl (fun hb0 => ?_) (fun hb0 => ?_)
 ·
  have hE : chE l d ≠ 0 := by simpa using hb0
  refine at_seq (at_region ?_)
  refine r_build [] rfl rfl rfl (bd63_0) ?_
  refine r_move rfl rfl rfl ?_
  refine r_store rfl 2 0 [_, _, ⟨some g1, 63, _, 4, true⟩, _] [_, _, _, _] rfl rfl rfl rfl ti63 rfl rfl rfl rfl rfl ?_
  refine r_assign rfl rfl rfl (run_nil (at_tn (at_ret (at_tr ?_))))
  refine at_end2 rfl (res_cell 2 rfl rfl ti63 (vs := [_, _, _, _]) rfl rfl (Nat.le_of_ble_eq_true rfl) rfl) (res_tmp rfl) (fun w hL => ⟨(), ?_, hL.picks [] trivial rfl rfl⟩)
  unfold corA; rw [if_neg hE]; rfl
 ·
  have hE : chE l d = 0 := by simpa using hb0
  refine at_skip (at_tn (at_seq ?_))
  refine at_drawn (l' := [⟨_,_,_,_,_,_⟩, ⟨_,_,_,_,_,_⟩, ⟨_,_,_,_,_,_⟩, ⟨_,_,_,_,_,_⟩, ⟨_,_,_,_,_,_⟩, ⟨_,_,_,_,_,_⟩, ⟨_,_,_,_,_,_⟩, ⟨_,_,_,_,_,_⟩]) [] [0, 1, 3, 2, 4, 5, 6, 7] mixed (by kernel_rfl) rfl (by kernel_rfl) ?_
  refine r_fieldAddr 1 0 4 rfl rfl rfl rfl rfl ti59 rfl rfl ?_
  refine r_load 1 4 [_] rfl rfl rfl rfl ti3 rfl rfl rfl rfl ?_
  refine r_load 3 0 [_, _] rfl rfl rfl rfl ti26 rfl rfl rfl rfl ?_
  refine r_pcall [_] rfl rfl rfl (c_rational_FromInt rt ht.1 ht.2) ?_
  refine r_pcall [_] rfl rfl rfl (c_clock_Middle (ofLo l d) (ofHi l d) (by omega)) ?_
  refine r_pcall [_, _] rfl rfl rfl (c_rational_Sub (rt : Rat) (midA l d) (Nat.le_trans (szC ht) (Nat.le_of_ble_eq_true rfl)) (Nat.le_trans (szOfC (by omega) (by omega)) (Nat.le_of_ble_eq_true rfl))) ?_
  refine r_store rfl 2 0 [_, _, ⟨some g1, 63, _, 4, true⟩, _] [_, _, _, _] rfl rfl rfl rfl ti63 rfl rfl rfl rfl rfl ?_
  refine r_assign rfl rfl rfl (run_nil (at_tn (at_ret ?_)))
  refine at_end2 rfl (res_cell 2 rfl rfl ti63 (vs := [_, _, _, _]) rfl rfl (Nat.le_of_ble_eq_true rfl) rfl) (res_tmp rfl) (fun w hL => ⟨(), ?_, hL.picks [] trivial rfl rfl⟩)
  unfold corA; rw [if_pos hE, hE]; rfl
end Go.Proofs.YtncogghlhlnmaaaGreatDoor
set_option linter.unusedVariables false
namespace Go.Proofs.YtncogghlhlnmaaaGreatDoor
open Go Go.RowKit Go.Via
theorem eq26 (a b c d : Int) (w : World) : (Op.equalIn 10000 26 (.agg #[.int .i64 a, .int .i64 b]) (.agg #[.int .i64 c, .int .i64 d])).run Tryz.prog w = .ok ((a == c) && (b == d)) w := by
  simp [go_sem]
  (repeat' split) <;> simp_all
end Go.Proofs.YtncogghlhlnmaaaGreatDoor
set_option linter.unusedVariables false
namespace Go.Proofs.YtncogghlhlnmaaaGreatDoor
open Go Go.RowKit Go.Via
set_option maxRecDepth 20000 in
set_option maxHeartbeats 4000000 in
theorem c_law_known  : PCall Tryz.prog 12 #[] (.bool true) := by
 refine ⟨by kernel_rfl, fun w => ?_⟩
 refine calls_at (args := []) Tryz.func12 rfl (Nat.le_of_ble_eq_true rfl) (LRel.nil w) ?_
 show At w ⟨59, [], []⟩ _
 refine at_seq (at_region (r_assign rfl rfl rfl (run_nil (at_tn (at_seq (at_region ?_))))))
 refine r_build [(0, _), (1, _), (2, _), (3, _), (4, _)] rfl rfl rfl (bd49_5) ?_
 refine r_build [(0, _), (1, _), (2, _), (3, _), (4, _)] rfl rfl rfl (bd49_5) ?_
 refine r_buildSlice [(0, _), (1, _)] (fun g => [⟨some g, 49, _, 10, true⟩]) rfl rfl rfl (bs22_2) rfl (fun _ => rfl) (fun g0 => ?_)
 refine r_assign rfl rfl rfl (run_nil (at_tn (at_seq (at_region (r_move rfl rfl rfl ?_)))))
 refine r_scall0 [_, _] [0] rfl rfl rfl (c_clock_Offset ex0 (some ⟨g0, 0, none⟩) (some g0) [] 10 2 (Nat.le_refl _) (fun _ => rfl) ex0_ok (by decide) 1 ⟨by decide, by decide⟩ (cycT ex0_ok (by decide)) (chOK ex0_ok 1 (by decide))) ⟨⟨_, rfl, le_share⟩, trivial⟩ rfl ?_
 refine r_know 13 (.tuple #[.agg #[.int .i64 5, .int .i64 5], .int .i64 0]) rfl (by rw [ex0_go.1, ex0_go.2.1, ex0_go.2.2]) ?_
 refine r_move rfl rfl rfl ?_
 refine r_extract (vs := [_, _]) rfl rfl rfl rfl ?_
 refine r_extract (vs := [_, _]) rfl rfl rfl rfl ?_
 refine r_alloc [_, _] 2 (fun g => [_, ⟨some g, 26, _, 2, true⟩]) rfl rfl z26 rfl rfl (fun _ => rfl) (fun g1 => ?_)
 refine r_store rfl 1 0 [_, ⟨some g1, 26, _, 2, true⟩] [_, _] rfl rfl rfl rfl ti26 rfl rfl rfl rfl rfl ?_
 refine r_assign rfl rfl rfl (run_nil (at_tn (at_seq (at_region (r_move rfl rfl rfl ?_)))))
 refine r_build [(3, _), (4, _)] rfl rfl rfl (bd59_3_4x) ?_
 refine r_scall0 [_, _] [0] rfl rfl rfl (c_clock_Correct ex0 (some ⟨g0, 0, none⟩) (some g0) [] 10 2 (Nat.le_refl _) (fun _ => rfl) ex0_ok (by decide) 1 ⟨by decide, by decide⟩ (cycT ex0_ok (by decide)) (chOK ex0_ok 1 (by decide)) 0 0 0 30 0 0 false (by omega)) ⟨⟨_, rfl, le_share⟩, trivial⟩ rfl ?_
 refine r_know 19 (.tuple #[Q (Rat.divInt 25 1), .int .i64 0]) rfl (by rw [ex0_cor, ex0_go.2.2]) ?_
 refine r_move rfl rfl rfl ?_
 refine r_extract (vs := [_, _]) rfl rfl rfl rfl ?_
 refine r_extract (vs := [_, _]) rfl rfl rfl rfl ?_
 refine r_alloc [_, _, _, _] 4 (fun g => [_, _, ⟨some g, 63, _, 4, true⟩]) rfl rfl z63 rfl rfl (fun _ => rfl) (fun g2 => ?_)
 refine r_store rfl 2 0 [_, _, ⟨some g2, 63, _, 4, true⟩] [_, _, _, _] rfl rfl rfl rfl ti63 rfl rfl rfl rfl rfl ?_
 refine r_assign rfl rfl rfl (run_nil (at_tn (at_seq (at_region (r_move rfl rfl rfl ?_)))))
 refine r_buildSlice [(0, _), (1, _)] (fun g => [_, _, _, ⟨some g, 3, _, 2, true⟩]) rfl rfl rfl (bs33_2) rfl (fun _ => rfl) (fun g3 => ?_)
 refine r_scall0 [_, _, _, _] [0, 3] rfl rfl rfl (c_clock_Sum ex0 (some ⟨g0, 0, none⟩) (some g0) [] 10 2 (Nat.le_refl _) (fun _ => rfl) ex0_ok [0, 1] (some ⟨g3, 0, none⟩) (some g3) [] 2 2 (Nat.le_refl _) (fun _ => rfl) (by decide) 0 0) ⟨⟨_, rfl, le_share⟩, ⟨_, rfl, le_share⟩, trivial⟩ rfl ?_
 refine r_know 25 (.tuple #[.int .i64 0, .int .i64 0]) rfl (by rw [ex0_sum.1, ex0_sum.2]) ?_
 refine r_move rfl rfl rfl ?_
 refine r_extract (vs := [_, _]) rfl rfl rfl rfl ?_
 refine r_extract (vs := [_, _]) rfl rfl rfl rfl ?_
 refine r_assign rfl rfl rfl (r_assign rfl rfl rfl (run_nil (at_tn (at_seq ?_))))
 refine at_drawn (l' := (⟨_,_,_,_,_,_⟩ :: ⟨_,_,_,_,_,_⟩ :: ⟨_,_,_,_,_,_⟩ :: ⟨_,_,_,_,_,_⟩ :: ⟨_,_,_,_,_,_⟩ :: ⟨_,_,_,_,_,_⟩ :: ⟨_,_,_,_,_,_⟩ :: ⟨_,_,_,_,_,_⟩ :: ⟨_,_,_,_,_,_⟩ :: ⟨_,_,_,_,_,_⟩ :: ⟨_,_,_,_,_,_⟩ :: ⟨_,_,_,_,_,_⟩ :: ⟨_,_,_,_,_,_⟩ :: ⟨_,_,_,_,_,_⟩ :: ⟨_,_,_,_,_,_⟩ :: ⟨_,_,_,_,_,_⟩ :: ⟨_,_,_,_,_,_⟩ :: ⟨_,_,_,_,_,_⟩ :: ⟨_,_,_,_,_,_⟩ :: ⟨_,_,_,_,_,_⟩ :: ⟨_,_,_,_,_,_⟩ :: ⟨_,_,_,_,_,_⟩ :: ⟨_,_,_,_,_,_⟩ :: ⟨_,_,_,_,_,_⟩ :: ⟨_,_,_,_,_,_⟩ :: ⟨_,_,_,_,_,_⟩ :: ⟨_,_,_,_,_,_⟩ :: ⟨_,_,_,_,_,_⟩ :: ⟨_,_,_,_,_,_⟩ :: ⟨_,_,_,_,_,_⟩ :: ⟨_,_,_,_,_,_⟩ :: ⟨_,_,_,_,_,_⟩ :: [])) [] (0 :: 1 :: 2 :: 3 :: 4 :: 5 :: 6 :: 7 :: 8 :: 9 :: 10 :: 11 :: 12 :: 13 :: 14 :: 15 :: 16 :: 17 :: 18 :: 19 :: 20 :: 21 :: 22 :: 23 :: 24 :: 25 :: 26 :: 27 :: 28 :: 29 :: 30 :: 31 :: []) mixed (drawnM (0 :: 1 :: 3 :: 7 :: 7 :: 31 :: 63 :: 127 :: 255 :: 511 :: 1023 :: 2047 :: 4095 :: 4095 :: 16383 :: 32767 :: 65535 :: 131071 :: 262143 :: 524287 :: 1048575 :: 2097151 :: 4194303 :: 8388607 :: 16777215 :: 33554431 :: 67108863 :: 134217727 :: 268435455 :: 536870911 :: 1073741823 :: 2147483647 :: []) (by kernel_rfl)) rfl (by kernel_rfl) ?_
 refine r_move rfl rfl rfl (r_cmpInt rfl rfl rfl rfl rfl ?_)
 refine r_know 29 (.bool true) rfl rfl ?_
 refine r_move rfl rfl rfl ?_
 refine r_load 1 0 [_, _] rfl rfl rfl rfl ti26 rfl rfl rfl rfl ?_
 refine r_build [(0, _), (1, _)] rfl rfl rfl (bd26_2) ?_
 refine r_eqlAgg rfl rfl rfl rfl gd26 (eq26 _ _ _ _) ?_
 refine r_know 33 (.bool true) rfl rfl ?_
 refine r_pickT rfl rfl rfl rfl (r_move rfl rfl rfl (r_move rfl rfl rfl (r_cmpInt rfl rfl rfl rfl rfl ?_)))
 refine r_know 37 (.bool true) rfl rfl ?_
 refine r_pickT rfl rfl rfl rfl (r_move rfl rfl rfl ?_)
 refine r_load 2 0 [_, _, _, _] rfl rfl rfl rfl ti63 rfl rfl rfl rfl ?_
 refine r_pcall [_, _] rfl rfl rfl (c_ref02_Of 25 1 (by omega) (by omega) (by omega) (by omega) (by omega)) ?_
 refine r_eqlAgg rfl rfl rfl rfl gd63 (eq63 (Rat.divInt 25 1) (Rat.divInt 25 1)) ?_
 refine r_know 42 (.bool true) rfl (congrArg Value.bool (decide_eq_true rfl)) ?_
 refine r_pickT rfl rfl rfl rfl (r_move rfl rfl rfl (r_move rfl rfl rfl (r_cmpInt rfl rfl rfl rfl rfl ?_)))
 refine r_know 46 (.bool true) rfl rfl ?_
 refine r_pickT rfl rfl rfl rfl (r_move rfl rfl rfl (r_move rfl rfl rfl (r_cmpInt rfl rfl rfl rfl rfl ?_)))
 refine r_know 50 (.bool true) rfl rfl ?_
 refine r_pickT rfl rfl rfl rfl (r_move rfl rfl rfl (r_move rfl rfl rfl ?_))
 refine r_indexAddr 0 (0 * 5) u22 ti49 rfl rfl rfl rfl rfl (by omega) (by omega) (by simp) (by show 0 + Int.toNat _ * 5 = _; omega) ?_
 refine r_load (v := ExV ⟨0, 1, 10, 17, 2⟩) 0 (0 * 5) _ rfl rfl rfl rfl ti49 rfl rfl (by decide) rfl ?_
 refine r_pcall [_] rfl rfl rfl (c_clock_Weight ⟨0, 1, 10, 17, 2⟩ (ex0_ok _ (by simp [ex0]))) ?_
 refine r_cmpInt rfl rfl rfl rfl rfl ?_
 refine r_know 57 (.bool true) rfl rfl ?_
 refine r_pickT rfl rfl rfl rfl (r_assign rfl rfl rfl (run_nil (at_tn (at_ret ?_))))
 refine at_end1 rfl (res_tmp rfl) (fun w hL => ⟨?_, hL.below⟩)
 exact rfl
end Go.Proofs.YtncogghlhlnmaaaGreatDoor
set_option linter.unusedVariables false
namespace Go.Proofs.YtncogghlhlnmaaaGreatDoor
open Go Go.RowKit Go.Via
set_option maxRecDepth 20000 in
set_option maxHeartbeats 2000000 in
theorem c_law_insert (l : List Int) (b : Option Nat) (N cap : Nat) (hc : l.length ≤ cap) (hn : l.length ≤ 1000000) (n : Int) : SCall Tryz.prog 41 [⟨b, 3, ILc l, N, false⟩] [slv b 0 l.length cap, .int .i64 n] (InsX l n) (insRes l n b cap) (insNew l n) := by
 refine ⟨by kernel_rfl, fun w hL0 => ?_⟩
 refine calls_at (args := [slv b 0 l.length cap, .int .i64 n]) Tryz.func41 rfl (Nat.le_of_ble_eq_true rfl) hL0 ?_
 show At w ⟨45, [(0, slv b 0 l.length cap), (1, .int .i64 n)], [⟨b, 3, ILc l, N, false⟩]⟩ _
 refine at_seq ?_
 refine at_base 0 rfl (fun hbase => ?_)
 refine at_region (r_assign rfl rfl rfl (run_nil (at_tn (at_seq (at_region (r_assign rfl rfl rfl (run_nil (at_tn (at_seq (at_block ?_))))))))))
 refine enterL (nt := 45) (ι := {k : Nat // k ≤ l.length ∧ ∀ j z, j < k → l[j]? = some z → z < n}) (fun ⟨k, hk, hall⟩ => [(0, slv b 0 l.length cap), (1, .int .i64 n), (5, .int .i64 (k : Nat))]) (fun ⟨k, hk, hall⟩ => [⟨b, 3, ILc l, N, false⟩]) (fun ⟨k, hk, hall⟩ => l.length - k) ⟨0, Nat.zero_le _, fun j z hj => absurd hj (by omega)⟩ ⟨rfl, rfl, rfl, trivial⟩ (Weak.refl _) ?_
 rintro ⟨k, hk, hall⟩
 show At _ ⟨45, [(0, slv b 0 l.length cap), (1, .int .i64 n), (5, .int .i64 (k : Nat))], [⟨b, 3, ILc l, N, false⟩]⟩ _
 refine at_seq (at_seq (at_region (r_move rfl rfl rfl (r_move rfl rfl rfl ?_))))
 refine r_lenV u33 rfl rfl rfl ?_
 refine r_cmpInt rfl rfl rfl rfl rfl (r_move rfl rfl rfl ?_)
 refine r_split 10 rfl (fun hb1 => ?_) (fun hb1 => ?_)
 ·
  have hlt : k < l.length := (by have := of_decide_eq_true hb1; omega)
  obtain ⟨z, hz⟩ : ∃ z, l[k]? = some z := ⟨l[k], List.getElem?_eq_getElem hlt⟩
  obtain ⟨gb, hgb⟩ := il_base (pre := []) hbase (by omega)
  replace hgb : b = some gb := hgb
  subst hgb
  refine r_move rfl rfl rfl (r_move rfl rfl rfl ?_)
  refine r_indexAddr 0 (k * 1) u33 ti3 rfl rfl rfl rfl rfl (by omega) (by omega) (ILc_ne (by omega)) (by show 0 + Int.toNat _ * 1 = _; omega) ?_
  refine r_load (v := .int .i64 z) 0 (k * 1) _ rfl rfl rfl rfl ti3 (ILc_get hz) rfl (by decide) rfl ?_
  refine r_move rfl rfl rfl (r_cmpInt rfl rfl rfl rfl rfl (r_pickT rfl rfl rfl rfl (run_nil (at_tn ?_))))
  refine at_cond rfl (fun hb2 => ?_) (fun hb2 => ?_)
  ·
   have hz1 : z < n := of_decide_eq_true hb2
   refine at_skip (at_tn (at_block (at_region (r_move rfl rfl rfl ?_))))
   refine r_arith (r := ((k + 1 : Nat) : Int)) rfl rfl rfl rfl (congrArg some (wi (by omega) (by omega) (by omega))) ?_
   refine r_assign rfl rfl rfl (run_nil (at_bn (at_tn ?_)))
   exact nextL ⟨k + 1, hlt, fun j y hj hy => by by_cases e : j < k; exact hall j y e hy; (have : j = k := by omega); subst this; rw [hz] at hy; cases hy; exact hz1⟩ (by simp only []; omega) ⟨rfl, rfl, rfl, trivial⟩ (Weak.refl _)
  ·
   have hz1 : ¬ z < n := of_decide_eq_false hb2
   refine at_exit (at_te (at_te (at_be (at_tn (at_seq (at_seq (at_region (r_move rfl rfl rfl (r_move rfl rfl rfl ?_)))))))))
   refine r_lenV u33 rfl rfl rfl ?_
   refine r_cmpInt rfl rfl rfl rfl rfl (r_move rfl rfl rfl ?_)
   refine r_split 24 rfl (fun hb3 => ?_) (fun hb3 => ?_)
   ·
    refine r_move rfl rfl rfl (r_move rfl rfl rfl ?_)
    refine r_indexAddr 0 (k * 1) u33 ti3 rfl rfl rfl rfl rfl (by omega) (by omega) (ILc_ne (by omega)) (by show 0 + Int.toNat _ * 1 = _; omega) ?_
    refine r_load (v := .int .i64 z) 0 (k * 1) _ rfl rfl rfl rfl ti3 (ILc_get hz) rfl (by decide) rfl ?_
    refine r_move rfl rfl rfl (r_cmpInt rfl rfl rfl rfl rfl (r_pickT rfl rfl rfl rfl (run_nil (at_tn ?_))))
    refine at_cond rfl (fun hb4 => ?_) (fun hb4 => ?_)
    ·
     have hz2 : z = n := eq_of_beq hb4
     have hsame : insS l n = l := insS_eq hall (by rw [hz, hz2])
     refine at_seq (at_region (r_move rfl rfl rfl (r_assign rfl rfl rfl (run_nil (at_tn (at_ret (at_tr ?_)))))))
     refine at_end1 rfl (res_tmp rfl) (fun w hL => ⟨⟨none, fun _ => hsame⟩, ?_, hL.picks [] trivial rfl rfl⟩)
     exact rfl
    ·
     have hz2 : z ≠ n := ne_of_beq_false hb4
     have hins := insS_at hk hall (fun y hy => by rw [hz] at hy; cases hy; exact ⟨hz1, hz2⟩)
     refine at_skip (at_tn (at_seq ?_))
     have hil : (insS l n).length = 0 + k + 1 + (l.length - k) := by rw [hins]; simp; omega
     refine at_drawnE (l' := [⟨_,_,_,_,_,_⟩, ⟨_,_,_,_,_,_⟩, ⟨_,_,_,_,_,_⟩, ⟨_,_,_,_,_,_⟩, ⟨_,_,_,_,_,_⟩, ⟨_,_,_,_,_,_⟩, ⟨_,_,_,_,_,_⟩]) [1, 2, 3, 5, 8, 9, 10] 6 mixed (by kernel_rfl) rfl ?_
     refine r_move rfl rfl rfl (r_move rfl rfl rfl ?_)
     refine r_sliceH k u33 ti3 rfl rfl rfl rfl (by omega) (by omega) rfl ?_
     refine r_move rfl rfl rfl (r_move rfl rfl rfl (r_move rfl rfl rfl ?_))
     refine r_sliceM k u33 ti3 rfl rfl rfl rfl (by omega) rfl rfl rfl ?_
     refine run_nil ?_
     refine t_node [0, 6] (by kernel_rfl) rfl ⟨⟨_, rfl, ?_⟩, ⟨_, rfl, ?_⟩, trivial⟩
     ·
      refine r_buildSlice [] (fun g => [_, ⟨some g, 3, _, 0, true⟩]) rfl rfl rfl (bs33_0) rfl (fun _ => rfl) (fun g0 => ?_)
      refine run_nil ?_
      refine t_node [4, 6] (by kernel_rfl) rfl ⟨⟨_, rfl, ?_⟩, ⟨_, rfl, ?_⟩, trivial⟩
      ·
       refine q_appendO (s := 1) (len := 0) 1 0 (ILc (l.take k)) (fun r => [_, ⟨r.b, 3, ILc (l.take k), r.n, true⟩]) u33 el3 rfl rfl rfl rfl rfl rfl rfl rfl rfl rfl rfl (Nat.le_refl _) (Nat.le_refl _) (by by_cases hz : k = 0; exact .inl hz; exact .inr (il_base (pre := []) hbase (by omega))) (ILc_takeT l k) (by rw [ILc_length, List.length_take]; omega) (ILc_one _) (by omega) (fun _ => rfl) (fun r => ?_)
       refine run_nil ?_
       refine t_node [6] (by kernel_rfl) rfl ⟨⟨_, rfl, ?_⟩, trivial⟩
       ·
        refine r_buildSlice [(0, _)] (fun g => [_, _, ⟨some g, 3, _, 1, true⟩]) rfl rfl rfl (bs33_1) rfl (fun _ => rfl) (fun g1 => ?_)
        refine run_nil ?_
        refine t_node [7] (by kernel_rfl) rfl ⟨⟨_, rfl, ?_⟩, trivial⟩
        ·
         refine q_appendO (s := 1) (len := 0 + k) (n2 := 1) 1 2 [.int .i64 n] (fun r2 => [_, ⟨r2.b, 3, ILc (l.take k) ++ [.int .i64 n], r2.n, true⟩, _]) u33 el3 rfl rfl rfl rfl rfl rfl rfl rfl rfl rfl (by rw [ILc_length, List.length_take]; omega) r.h r.hn (.inr ⟨_, rfl⟩) rfl rfl (Go.Via.one_cell _ _) (by omega) (fun _ => rfl) (fun r2 => ?_)
         refine run_nil ?_
         refine t_node [11] (by kernel_rfl) rfl ⟨⟨_, rfl, ?_⟩, trivial⟩
         ·
          refine q_appendO (s := 1) (len := 0 + k + 1) 1 0 (ILc (l.drop k)) (fun r3 => [_, ⟨r3.b, 3, (ILc (l.take k) ++ [.int .i64 n]) ++ ILc (l.drop k), r3.n, true⟩, _]) u33 el3 rfl rfl rfl rfl rfl rfl rfl rfl rfl rfl (by rw [List.length_append, ILc_length, List.length_take]; simp; omega) r2.h r2.hn (by by_cases hz : l.length - k = 0; exact .inl hz; exact .inr (il_base (pre := []) hbase (by omega))) (ILc_dropT hc) (by rw [ILc_length, List.length_drop]; omega) (ILc_one _) (by omega) (fun _ => rfl) (fun r3 => ?_)
          refine run_nil ?_
          refine t_node [12] (by kernel_rfl) rfl ⟨⟨_, rfl, ?_⟩, trivial⟩
          ·
           refine r_assign rfl rfl rfl (run_nil ?_)
           refine tr_nil (by kernel_rfl) ?_
           refine at_tn (at_ret ?_)
           refine at_end1 rfl (res_tmp rfl) (fun w hL => ⟨⟨some ⟨r3.b, r3.n, r3.cap, by have := r3.h; omega⟩, fun h => by cases h⟩, ?_, hL.picks [some 1] ⟨⟨_, rfl, le_same (congrArg (fun c => (⟨r3.b, 3, c, r3.n, true⟩ : Blk)) (show ILc (insS l n) = (ILc (l.take k) ++ [.int .i64 n]) ++ ILc (l.drop k) by rw [hins]; simp [ILc]))⟩, trivial⟩ rfl rfl⟩)
           exact congrArg (fun m => Ending.returned (slv r3.b 0 m r3.cap)) hil.symm
      ·
       refine r_buildSlice [(0, _)] (fun g => [_, _, ⟨some g, 3, _, 1, true⟩]) rfl rfl rfl (bs33_1) rfl (fun _ => rfl) (fun g1 => ?_)
       refine run_nil ?_
       refine t_node [4] (by kernel_rfl) rfl ⟨⟨_, rfl, ?_⟩, trivial⟩
       ·
        refine q_appendO (s := 1) (len := 0) 1 0 (ILc (l.take k)) (fun r => [_, ⟨r.b, 3, ILc (l.take k), r.n, true⟩, _]) u33 el3 rfl rfl rfl rfl rfl rfl rfl rfl rfl rfl rfl (Nat.le_refl _) (Nat.le_refl _) (by by_cases hz : k = 0; exact .inl hz; exact .inr (il_base (pre := []) hbase (by omega))) (ILc_takeT l k) (by rw [ILc_length, List.length_take]; omega) (ILc_one _) (by omega) (fun _ => rfl) (fun r => ?_)
        refine run_nil ?_
        refine t_node [7] (by kernel_rfl) rfl ⟨⟨_, rfl, ?_⟩, trivial⟩
        ·
         refine q_appendO (s := 1) (len := 0 + k) (n2 := 1) 1 2 [.int .i64 n] (fun r2 => [_, ⟨r2.b, 3, ILc (l.take k) ++ [.int .i64 n], r2.n, true⟩, _]) u33 el3 rfl rfl rfl rfl rfl rfl rfl rfl rfl rfl (by rw [ILc_length, List.length_take]; omega) r.h r.hn (.inr ⟨_, rfl⟩) rfl rfl (Go.Via.one_cell _ _) (by omega) (fun _ => rfl) (fun r2 => ?_)
         refine run_nil ?_
         refine t_node [11] (by kernel_rfl) rfl ⟨⟨_, rfl, ?_⟩, trivial⟩
         ·
          refine q_appendO (s := 1) (len := 0 + k + 1) 1 0 (ILc (l.drop k)) (fun r3 => [_, ⟨r3.b, 3, (ILc (l.take k) ++ [.int .i64 n]) ++ ILc (l.drop k), r3.n, true⟩, _]) u33 el3 rfl rfl rfl rfl rfl rfl rfl rfl rfl rfl (by rw [List.length_append, ILc_length, List.length_take]; simp; omega) r2.h r2.hn (by by_cases hz : l.length - k = 0; exact .inl hz; exact .inr (il_base (pre := []) hbase (by omega))) (ILc_dropT hc) (by rw [ILc_length, List.length_drop]; omega) (ILc_one _) (by omega) (fun _ => rfl) (fun r3 => ?_)
          refine run_nil ?_
          refine t_node [12] (by kernel_rfl) rfl ⟨⟨_, rfl, ?_⟩, trivial⟩
          ·
           refine r_assign rfl rfl rfl (run_nil ?_)
           refine tr_nil (by kernel_rfl) ?_
           refine at_tn (at_ret ?_)
           refine at_end1 rfl (res_tmp rfl) (fun w hL => ⟨⟨some ⟨r3.b, r3.n, r3.cap, by have := r3.h; omega⟩, fun h => by cases h⟩, ?_, hL.picks [some 1] ⟨⟨_, rfl, le_same (congrArg (fun c => (⟨r3.b, 3, c, r3.n, true⟩ : Blk)) (show ILc (insS l n) = (ILc (l.take k) ++ [.int .i64 n]) ++ ILc (l.drop k) by rw [hins]; simp [ILc]))⟩, trivial⟩ rfl rfl⟩)
           exact congrArg (fun m => Ending.returned (slv r3.b 0 m r3.cap)) hil.symm
     ·
      refine r_buildSlice [(0, _)] (fun g => [_, ⟨some g, 3, _, 1, true⟩]) rfl rfl rfl (bs33_1) rfl (fun _ => rfl) (fun g0 => ?_)
      refine run_nil ?_
      refine t_node [0] (by kernel_rfl) rfl ⟨⟨_, rfl, ?_⟩, trivial⟩
      ·
       refine r_buildSlice [] (fun g => [_, _, ⟨some g, 3, _, 0, true⟩]) rfl rfl rfl (bs33_0) rfl (fun _ => rfl) (fun g1 => ?_)
       refine run_nil ?_
       refine t_node [4] (by kernel_rfl) rfl ⟨⟨_, rfl, ?_⟩, trivial⟩
       ·
        refine q_appendO (s := 1) (len := 0) 2 0 (ILc (l.take k)) (fun r => [_, _, ⟨r.b, 3, ILc (l.take k), r.n, true⟩]) u33 el3 rfl rfl rfl rfl rfl rfl rfl rfl rfl rfl rfl (Nat.le_refl _) (Nat.le_refl _) (by by_cases hz : k = 0; exact .inl hz; exact .inr (il_base (pre := []) hbase (by omega))) (ILc_takeT l k) (by rw [ILc_length, List.length_take]; omega) (ILc_one _) (by omega) (fun _ => rfl) (fun r => ?_)
        refine run_nil ?_
        refine t_node [7] (by kernel_rfl) rfl ⟨⟨_, rfl, ?_⟩, trivial⟩
        ·
         refine q_appendO (s := 1) (len := 0 + k) (n2 := 1) 2 1 [.int .i64 n] (fun r2 => [_, _, ⟨r2.b, 3, ILc (l.take k) ++ [.int .i64 n], r2.n, true⟩]) u33 el3 rfl rfl rfl rfl rfl rfl rfl rfl rfl rfl (by rw [ILc_length, List.length_take]; omega) r.h r.hn (.inr ⟨_, rfl⟩) rfl rfl (Go.Via.one_cell _ _) (by omega) (fun _ => rfl) (fun r2 => ?_)
         refine run_nil ?_
         refine t_node [11] (by kernel_rfl) rfl ⟨⟨_, rfl, ?_⟩, trivial⟩
         ·
          refine q_appendO (s := 1) (len := 0 + k + 1) 2 0 (ILc (l.drop k)) (fun r3 => [_, _, ⟨r3.b, 3, (ILc (l.take k) ++ [.int .i64 n]) ++ ILc (l.drop k), r3.n, true⟩]) u33 el3 rfl rfl rfl rfl rfl rfl rfl rfl rfl rfl (by rw [List.length_append, ILc_length, List.length_take]; simp; omega) r2.h r2.hn (by by_cases hz : l.length - k = 0; exact .inl hz; exact .inr (il_base (pre := []) hbase (by omega))) (ILc_dropT hc) (by rw [ILc_length, List.length_drop]; omega) (ILc_one _) (by omega) (fun _ => rfl) (fun r3 => ?_)
          refine run_nil ?_
          refine t_node [12] (by kernel_rfl) rfl ⟨⟨_, rfl, ?_⟩, trivial⟩
          ·
           refine r_assign rfl rfl rfl (run_nil ?_)
           refine tr_nil (by kernel_rfl) ?_
           refine at_tn (at_ret ?_)
           refine at_end1 rfl (res_tmp rfl) (fun w hL => ⟨⟨some ⟨r3.b, r3.n, r3.cap, by have := r3.h; omega⟩, fun h => by cases h⟩, ?_, hL.picks [some 2] ⟨⟨_, rfl, le_same (congrArg (fun c => (⟨r3.b, 3, c, r3.n, true⟩ : Blk)) (show ILc (insS l n) = (ILc (l.take k) ++ [.int .i64 n]) ++ ILc (l.drop k) by rw [hins]; simp [ILc]))⟩, trivial⟩ rfl rfl⟩)
           exact congrArg (fun m => Ending.returned (slv r3.b 0 m r3.cap)) hil.symm
   · exfalso; have := of_decide_eq_false hb3; omega
 ·
  have hge : k = l.length := (by have := of_decide_eq_false hb1; omega)
  have hins := insS_at hk hall (fun z hz => absurd (List.getElem?_eq_some_iff.1 hz).1 (by omega))
  refine r_no rfl rfl rfl (r_no rfl rfl rfl (r_no rfl rfl rfl (r_no rfl rfl rfl (r_no rfl rfl rfl (r_no rfl rfl rfl (r_pickF rfl rfl rfl rfl (run_nil (at_tn (at_condF rfl (at_exit (at_te (at_te (at_be (at_tn (at_seq (at_seq (at_region (r_move rfl rfl rfl (r_move rfl rfl rfl ?_)))))))))))))))))))
  refine r_lenV u33 rfl rfl rfl ?_
  refine r_cmpInt rfl rfl rfl rfl rfl (r_move rfl rfl rfl ?_)
  refine r_split 24 rfl (fun hb2 => ?_) (fun hb2 => ?_)
  · exfalso; have := of_decide_eq_true hb2; omega
  ·
   refine r_no rfl rfl rfl (r_no rfl rfl rfl (r_no rfl rfl rfl (r_no rfl rfl rfl (r_no rfl rfl rfl (r_no rfl rfl rfl (r_pickF rfl rfl rfl rfl (run_nil (at_tn (at_condF rfl (at_skip (at_tn (at_seq ?_))))))))))))
   have hil : (insS l n).length = 0 + k + 1 + (l.length - k) := by rw [hins]; simp; omega
   refine at_drawnE (l' := [⟨_,_,_,_,_,_⟩, ⟨_,_,_,_,_,_⟩, ⟨_,_,_,_,_,_⟩, ⟨_,_,_,_,_,_⟩, ⟨_,_,_,_,_,_⟩, ⟨_,_,_,_,_,_⟩, ⟨_,_,_,_,_,_⟩]) [1, 2, 3, 5, 8, 9, 10] 6 mixed (by kernel_rfl) rfl ?_
   refine r_move rfl rfl rfl (r_move rfl rfl rfl ?_)
   refine r_sliceH k u33 ti3 rfl rfl rfl rfl (by omega) (by omega) rfl ?_
   refine r_move rfl rfl rfl (r_move rfl rfl rfl (r_move rfl rfl rfl ?_))
   refine r_sliceM k u33 ti3 rfl rfl rfl rfl (by omega) rfl rfl rfl ?_
   refine run_nil ?_
   refine t_node [0, 6] (by kernel_rfl) rfl ⟨⟨_, rfl, ?_⟩, ⟨_, rfl, ?_⟩, trivial⟩
   ·
    refine r_buildSlice [] (fun g => [_, ⟨some g, 3, _, 0, true⟩]) rfl rfl rfl (bs33_0) rfl (fun _ => rfl) (fun g0 => ?_)
    refine run_nil ?_
    refine t_node [4, 6] (by kernel_rfl) rfl ⟨⟨_, rfl, ?_⟩, ⟨_, rfl, ?_⟩, trivial⟩
    ·
     refine q_appendO (s := 1) (len := 0) 1 0 (ILc (l.take k)) (fun r => [_, ⟨r.b, 3, ILc (l.take k), r.n, true⟩]) u33 el3 rfl rfl rfl rfl rfl rfl rfl rfl rfl rfl rfl (Nat.le_refl _) (Nat.le_refl _) (by by_cases hz : k = 0; exact .inl hz; exact .inr (il_base (pre := []) hbase (by omega))) (ILc_takeT l k) (by rw [ILc_length, List.length_take]; omega) (ILc_one _) (by omega) (fun _ => rfl) (fun r => ?_)
     refine run_nil ?_
     refine t_node [6] (by kernel_rfl) rfl ⟨⟨_, rfl, ?_⟩, trivial⟩
     ·
      refine r_buildSlice [(0, _)] (fun g => [_, _, ⟨some g, 3, _, 1, true⟩]) rfl rfl rfl (bs33_1) rfl (fun _ => rfl) (fun g1 => ?_)
      refine run_nil ?_
      refine t_node [7] (by kernel_rfl) rfl ⟨⟨_, rfl, ?_⟩, trivial⟩
      ·
       refine q_appendO (s := 1) (len := 0 + k) (n2 := 1) 1 2 [.int .i64 n] (fun r2 => [_, ⟨r2.b, 3, ILc (l.take k) ++ [.int .i64 n], r2.n, true⟩, _]) u33 el3 rfl rfl rfl rfl rfl rfl rfl rfl rfl rfl (by rw [ILc_length, List.length_take]; omega) r.h r.hn (.inr ⟨_, rfl⟩) rfl rfl (Go.Via.one_cell _ _) (by omega) (fun _ => rfl) (fun r2 => ?_)
       refine run_nil ?_
       refine t_node [11] (by kernel_rfl) rfl ⟨⟨_, rfl, ?_⟩, trivial⟩
       ·
        refine q_appendO (s := 1) (len := 0 + k + 1) 1 0 (ILc (l.drop k)) (fun r3 => [_, ⟨r3.b, 3, (ILc (l.take k) ++ [.int .i64 n]) ++ ILc (l.drop k), r3.n, true⟩, _]) u33 el3 rfl rfl rfl rfl rfl rfl rfl rfl rfl rfl (by rw [List.length_append, ILc_length, List.length_take]; simp; omega) r2.h r2.hn (by by_cases hz : l.length - k = 0; exact .inl hz; exact .inr (il_base (pre := []) hbase (by omega))) (ILc_dropT hc) (by rw [ILc_length, List.length_drop]; omega) (ILc_one _) (by omega) (fun _ => rfl) (fun r3 => ?_)
        refine run_nil ?_
        refine t_node [12] (by kernel_rfl) rfl ⟨⟨_, rfl, ?_⟩, trivial⟩
        ·
         refine r_assign rfl rfl rfl (run_nil ?_)
         refine tr_nil (by kernel_rfl) ?_
         refine at_tn (at_ret ?_)
         refine at_end1 rfl (res_tmp rfl) (fun w hL => ⟨⟨some ⟨r3.b, r3.n, r3.cap, by have := r3.h; omega⟩, fun h => by cases h⟩, ?_, hL.picks [some 1] ⟨⟨_, rfl, le_same (congrArg (fun c => (⟨r3.b, 3, c, r3.n, true⟩ : Blk)) (show ILc (insS l n) = (ILc (l.take k) ++ [.int .i64 n]) ++ ILc (l.drop k) by rw [hins]; simp [ILc]))⟩, trivial⟩ rfl rfl⟩)
         exact congrArg (fun m => Ending.returned (slv r3.b 0 m r3.cap)) hil.symm
    ·
     refine r_buildSlice [(0, _)] (fun g => [_, _, ⟨some g, 3, _, 1, true⟩]) rfl rfl rfl (bs33_1) rfl (fun _ => rfl) (fun g1 => ?_)
     refine run_nil ?_
     refine t_node [4] (by kernel_rfl) rfl ⟨⟨_, rfl, ?_⟩, trivial⟩
     ·
      refine q_appendO (s := 1) (len := 0) 1 0 (ILc (l.take k)) (fun r => [_, ⟨r.b, 3, ILc (l.take k), r.n, true⟩, _]) u33 el3 rfl rfl rfl rfl rfl rfl rfl rfl rfl rfl rfl (Nat.le_refl _) (Nat.le_refl _) (by by_cases hz : k = 0; exact .inl hz; exact .inr (il_base (pre := []) hbase (by omega))) (ILc_takeT l k) (by rw [ILc_length, List.length_take]; omega) (ILc_one _) (by omega) (fun _ => rfl) (fun r => ?_)
      refine run_nil ?_
      refine t_node [7] (by kernel_rfl) rfl ⟨⟨_, rfl, ?_⟩, trivial⟩
      ·
       refine q_appendO (s := 1) (len := 0 + k) (n2 := 1) 1 2 [.int .i64 n] (fun r2 => [_, ⟨r2.b, 3, ILc (l.take k) ++ [.int .i64 n], r2.n, true⟩, _]) u33 el3 rfl rfl rfl rfl rfl rfl rfl rfl rfl rfl (by rw [ILc_length, List.length_take]; omega) r.h r.hn (.inr ⟨_, rfl⟩) rfl rfl (Go.Via.one_cell _ _) (by omega) (fun _ => rfl) (fun r2 => ?_)
       refine run_nil ?_
       refine t_node [11] (by kernel_rfl) rfl ⟨⟨_, rfl, ?_⟩, trivial⟩
       ·
        refine q_appendO (s := 1) (len := 0 + k + 1) 1 0 (ILc (l.drop k)) (fun r3 => [_, ⟨r3.b, 3, (ILc (l.take k) ++ [.int .i64 n]) ++ ILc (l.drop k), r3.n, true⟩, _]) u33 el3 rfl rfl rfl rfl rfl rfl rfl rfl rfl rfl (by rw [List.length_append, ILc_length, List.length_take]; simp; omega) r2.h r2.hn (by by_cases hz : l.length - k = 0; exact .inl hz; exact .inr (il_base (pre := []) hbase (by omega))) (ILc_dropT hc) (by rw [ILc_length, List.length_drop]; omega) (ILc_one _) (by omega) (fun _ => rfl) (fun r3 => ?_)
        refine run_nil ?_
        refine t_node [12] (by kernel_rfl) rfl ⟨⟨_, rfl, ?_⟩, trivial⟩
        ·
         refine r_assign rfl rfl rfl (run_nil ?_)
         refine tr_nil (by kernel_rfl) ?_
         refine at_tn (at_ret ?_)
         refine at_end1 rfl (res_tmp rfl) (fun w hL => ⟨⟨some ⟨r3.b, r3.n, r3.cap, by have := r3.h; omega⟩, fun h => by cases h⟩, ?_, hL.picks [some 1] ⟨⟨_, rfl, le_same (congrArg (fun c => (⟨r3.b, 3, c, r3.n, true⟩ : Blk)) (show ILc (insS l n) = (ILc (l.take k) ++ [.int .i64 n]) ++ ILc (l.drop k) by rw [hins]; simp [ILc]))⟩, trivial⟩ rfl rfl⟩)
         exact congrArg (fun m => Ending.returned (slv r3.b 0 m r3.cap)) hil.symm
   ·
    refine r_buildSlice [(0, _)] (fun g => [_, ⟨some g, 3, _, 1, true⟩]) rfl rfl rfl (bs33_1) rfl (fun _ => rfl) (fun g0 => ?_)
    refine run_nil ?_
    refine t_node [0] (by kernel_rfl) rfl ⟨⟨_, rfl, ?_⟩, trivial⟩
    ·
     refine r_buildSlice [] (fun g => [_, _, ⟨some g, 3, _, 0, true⟩]) rfl rfl rfl (bs33_0) rfl (fun _ => rfl) (fun g1 => ?_)
     refine run_nil ?_
     refine t_node [4] (by kernel_rfl) rfl ⟨⟨_, rfl, ?_⟩, trivial⟩
     ·
      refine q_appendO (s := 1) (len := 0) 2 0 (ILc (l.take k)) (fun r => [_, _, ⟨r.b, 3, ILc (l.take k), r.n, true⟩]) u33 el3 rfl rfl rfl rfl rfl rfl rfl rfl rfl rfl rfl (Nat.le_refl _) (Nat.le_refl _) (by by_cases hz : k = 0; exact .inl hz; exact .inr (il_base (pre := []) hbase (by omega))) (ILc_takeT l k) (by rw [ILc_length, List.length_take]; omega) (ILc_one _) (by omega) (fun _ => rfl) (fun r => ?_)
      refine run_nil ?_
      refine t_node [7] (by kernel_rfl) rfl ⟨⟨_, rfl, ?_⟩, trivial⟩
      ·
       refine q_appendO (s := 1) (len := 0 + k) (n2 := 1) 2 1 [.int .i64 n] (fun r2 => [_, _, ⟨r2.b, 3, ILc (l.take k) ++ [.int .i64 n], r2.n, true⟩]) u33 el3 rfl rfl rfl rfl rfl rfl rfl rfl rfl rfl (by rw [ILc_length, List.length_take]; omega) r.h r.hn (.inr ⟨_, rfl⟩) rfl rfl (Go.Via.one_cell _ _) (by omega) (fun _ => rfl) (fun r2 => ?_)
       refine run_nil ?_
       refine t_node [11] (by kernel_rfl) rfl ⟨⟨_, rfl, ?_⟩, trivial⟩
       ·
        refine q_appendO (s := 1) (len := 0 + k + 1) 2 0 (ILc (l.drop k)) (fun r3 => [_, _, ⟨r3.b, 3, (ILc (l.take k) ++ [.int .i64 n]) ++ ILc (l.drop k), r3.n, true⟩]) u33 el3 rfl rfl rfl rfl rfl rfl rfl rfl rfl rfl (by rw [List.length_append, ILc_length, List.length_take]; simp; omega) r2.h r2.hn (by by_cases hz : l.length - k = 0; exact .inl hz; exact .inr (il_base (pre := []) hbase (by omega))) (ILc_dropT hc) (by rw [ILc_length, List.length_drop]; omega) (ILc_one _) (by omega) (fun _ => rfl) (fun r3 => ?_)
        refine run_nil ?_
        refine t_node [12] (by kernel_rfl) rfl ⟨⟨_, rfl, ?_⟩, trivial⟩
        ·
         refine r_assign rfl rfl rfl (run_nil ?_)
         refine tr_nil (by kernel_rfl) ?_
         refine at_tn (at_ret ?_)
         refine at_end1 rfl (res_tmp rfl) (fun w hL => ⟨⟨some ⟨r3.b, r3.n, r3.cap, by have := r3.h; omega⟩, fun h => by cases h⟩, ?_, hL.picks [some 2] ⟨⟨_, rfl, le_same (congrArg (fun c => (⟨r3.b, 3, c, r3.n, true⟩ : Blk)) (show ILc (insS l n) = (ILc (l.take k) ++ [.int .i64 n]) ++ ILc (l.drop k) by rw [hins]; simp [ILc]))⟩, trivial⟩ rfl rfl⟩)
         exact congrArg (fun m => Ending.returned (slv r3.b 0 m r3.cap)) hil.symm
end Go.Proofs.YtncogghlhlnmaaaGreatDoor
set_option linter.unusedVariables false
namespace Go.Proofs.YtncogghlhlnmaaaGreatDoor
open Go Go.RowKit Go.Via
set_option maxRecDepth 20000 in
theorem c_law_devices (l : List Ex) (a : Option Addr) (b : Option Nat) (pre : List Value) (N cap : Nat) (hc : l.length ≤ cap) (ha : l ≠ [] → a = b.map fun g => ⟨g, pre.length, none⟩) (hn : l.length ≤ 100000) : SCall Tryz.prog 18 [⟨b, 49, pre ++ XLc l, N, false⟩] [.slice a l.length cap] (SR (devL l).length) (fun x => x.v) (fun x => [⟨x.b, 3, ILc (devL l), x.n, true⟩]) := by
 refine ⟨by kernel_rfl, fun w hL0 => ?_⟩
 refine calls_at (args := [.slice a l.length cap]) Tryz.func18 rfl (Nat.le_of_ble_eq_true rfl) hL0 ?_
 show At w ⟨25, [(0, .slice a l.length cap)], [⟨b, 49, pre ++ XLc l, N, false⟩]⟩ _
 refine at_seq ?_
 refine at_base 0 rfl (fun hbase => ?_)
 refine at_region (r_assign rfl rfl rfl (run_nil (at_tn (at_seq (at_region (r_assign rfl rfl rfl (run_nil (at_tn (at_seq (at_seq (at_region (r_assign rfl rfl rfl (run_nil (at_tn (at_block ?_)))))))))))))))
 refine enterL (nt := 25) (ι := {x : Nat × Option Nat × Nat × Nat // x.1 ≤ l.length ∧ (devL (l.take x.1)).length ≤ x.2.2.2}) (fun ⟨⟨i, ob, oN, oc⟩, hi, h1⟩ => [(0, .slice a l.length cap), (3, slv ob 0 (devL (l.take i)).length oc), (4, .int .i64 (i : Nat))]) (fun ⟨⟨i, ob, oN, oc⟩, hi, h1⟩ => [⟨b, 49, pre ++ XLc l, N, false⟩, ⟨ob, 3, ILc (devL (l.take i)), oN, true⟩]) (fun ⟨⟨i, ob, oN, oc⟩, hi, h1⟩ => l.length - i) ⟨(0, none, 0, 0), Nat.zero_le _, Nat.le_refl _⟩ ⟨rfl, rfl, rfl, trivial⟩ (weak_picks [some 0, none] ⟨⟨_, rfl, Blk.le_refl _⟩, ⟨rfl, rfl, rfl⟩, trivial⟩ rfl rfl) ?_
 rintro ⟨⟨i, ob, oN, oc⟩, hi, h1⟩
 show At _ ⟨25, [(0, .slice a l.length cap), (3, slv ob 0 (devL (l.take i)).length oc), (4, .int .i64 (i : Nat))], [⟨b, 49, pre ++ XLc l, N, false⟩, ⟨ob, 3, ILc (devL (l.take i)), oN, true⟩]⟩ _
 replace hi : i ≤ l.length := hi
 replace h1 : (devL (l.take i)).length ≤ oc := h1
 refine at_seq (at_seq (at_region (r_move rfl rfl rfl (r_move rfl rfl rfl ?_))))
 refine r_lenV u22 rfl rfl rfl ?_
 refine r_cmpInt rfl rfl rfl rfl rfl (run_nil (at_tn ?_))
 refine at_cond rfl (fun hb1 => ?_) (fun hb1 => ?_)
 ·
  have hlt : i < l.length := (by have := of_decide_eq_true hb1; omega)
  obtain ⟨x, hx⟩ : ∃ x, l[i]? = some x := ⟨l[i], List.getElem?_eq_getElem hlt⟩
  have hdl := devL_len (l.take i)
  have htl : (l.take i).length ≤ i := by rw [List.length_take]; omega
  obtain ⟨gb, hgb⟩ := ex_base hbase (by omega)
  replace hgb : b = some gb := hgb
  subst hgb
  obtain rfl : a = some ⟨gb, pre.length, none⟩ := ha (fun e => by rw [e] at hlt; cases hlt)
  refine at_skip (at_tn (at_seq (at_block ?_)))
  refine at_drawn (l' := [⟨_,_,_,_,_,_⟩, ⟨_,_,_,_,_,_⟩, ⟨_,_,_,_,_,_⟩, ⟨_,_,_,_,_,_⟩, ⟨_,_,_,_,_,_⟩, ⟨_,_,_,_,_,_⟩, ⟨_,_,_,_,_,_⟩, ⟨_,_,_,_,_,_⟩, ⟨_,_,_,_,_,_⟩, ⟨_,_,_,_,_,_⟩, ⟨_,_,_,_,_,_⟩, ⟨_,_,_,_,_,_⟩, ⟨_,_,_,_,_,_⟩, ⟨_,_,_,_,_,_⟩]) [1] [0, 1, 2, 3, 4, 5, 7, 8, 9, 10, 11, 6, 12, 13] mixed (by kernel_rfl) rfl (by kernel_rfl) ?_
  refine r_move rfl rfl rfl (r_move rfl rfl rfl (r_move rfl rfl rfl ?_))
  refine r_indexAddr 0 (pre.length + i * 5) u22 ti49 rfl rfl rfl rfl rfl (by omega) (by omega) (pre_ne (XLc_ne (by omega))) (by show pre.length + Int.toNat _ * 5 = _; omega) ?_
  refine r_fieldAddr 0 (pre.length + i * 5) 0 rfl rfl rfl rfl rfl ti49 rfl rfl ?_
  refine r_load (v := .int .i64 x.f) 0 (pre.length + (i * 5 + 0)) _ rfl rfl rfl rfl ti3 (pre_get (XLc_f hx) rfl) rfl (by decide) rfl ?_
  refine r_move rfl rfl rfl (r_move rfl rfl rfl ?_)
  refine r_indexAddr 0 (pre.length + i * 5) u22 ti49 rfl rfl rfl rfl rfl (by omega) (by omega) (pre_ne (XLc_ne (by omega))) (by show pre.length + Int.toNat _ * 5 = _; omega) ?_
  refine r_fieldAddr 0 (pre.length + i * 5) 1 rfl rfl rfl rfl rfl ti49 rfl rfl ?_
  refine r_load (v := .int .i64 x.t) 0 (pre.length + (i * 5 + 1)) _ rfl rfl rfl rfl ti3 (pre_get (XLc_t hx) rfl) rfl (by decide) rfl ?_
  refine r_kcall1 [_, _] [1] 1 (fun (y : SR (insS (devL (l.take i)) x.f).length) => y.v) (fun y => ⟨y.b, 3, ILc (insS (devL (l.take i)) x.f), y.n, true⟩) (fun y => [_, ⟨y.b, 3, ILc (insS (devL (l.take i)) x.f), y.n, true⟩]) rfl rfl rfl rfl rfl (c_law_insert (devL (l.take i)) ob oN oc h1 (by omega) x.f) ⟨⟨_, rfl, le_share⟩, trivial⟩ rfl (insNew_own _ _) (fun z => ins_merge h1 (k := 1) rfl z) (fun _ => rfl) (fun y1 => ?_)
  refine r_kcall1 [_, _] [1] 1 (fun (y : SR (insS (insS (devL (l.take i)) x.f) x.t).length) => y.v) (fun y => ⟨y.b, 3, ILc (insS (insS (devL (l.take i)) x.f) x.t), y.n, true⟩) (fun y => [_, ⟨y.b, 3, ILc (insS (insS (devL (l.take i)) x.f) x.t), y.n, true⟩]) rfl rfl rfl rfl rfl (c_law_insert (insS (devL (l.take i)) x.f) y1.b y1.n y1.cap y1.h (by have := insS_len (devL (l.take i)) x.f; omega) x.t) ⟨⟨_, rfl, le_share⟩, trivial⟩ rfl (insNew_own _ _) (fun z => ins_merge y1.h (k := 1) rfl z) (fun _ => rfl) (fun y2 => ?_)
  refine r_assign rfl rfl rfl (run_nil (at_bn (at_tn (at_region (r_move rfl rfl rfl ?_)))))
  refine r_arith (r := ((i + 1 : Nat) : Int)) rfl rfl rfl rfl (congrArg some (wi (by omega) (by omega) (by omega))) ?_
  refine r_assign rfl rfl rfl (run_nil (at_tn ?_))
  exact nextL ⟨(i + 1, y2.b, y2.n, y2.cap), hlt, by rw [devL_step hx]; exact y2.h⟩ (by show l.length - (i + 1) < l.length - i; omega) ⟨rfl, (look_val rfl (by rw [devL_step hx]; rfl)), rfl, trivial⟩ (weak_picks [some 0, some 1] ⟨⟨_, rfl, Blk.le_refl _⟩, ⟨_, rfl, le_same (by show Blk.mk _ _ _ _ _ = Blk.mk _ _ _ _ _; rw [devL_step hx])⟩, trivial⟩ rfl rfl)
 ·
  have hge : i = l.length := (by have := of_decide_eq_false hb1; omega)
  subst hge
  refine at_exit (at_te (at_te (at_be (at_tn (at_seq (at_region (r_move rfl rfl rfl (r_assign rfl rfl rfl (run_nil (at_tn (at_ret ?_)))))))))))
  refine at_end1 rfl (res_tmp rfl) (fun w hL => ⟨⟨ob, oN, oc, by rw [← List.take_length (l := l)]; exact h1⟩, ?_, hL.picks [some 1] ⟨⟨_, rfl, le_same (congrArg (fun c => (⟨ob, 3, ILc (devL c), oN, true⟩ : Blk)) (List.take_length (l := l)).symm)⟩, trivial⟩ rfl rfl⟩)
  exact congrArg (fun c => Ending.returned (slv ob 0 (devL c).length oc)) (List.take_length (l := l))
end Go.Proofs.YtncogghlhlnmaaaGreatDoor
set_option linter.unusedVariables false
namespace Go.Via
open Go Go.RowKit
/-! ### for ClockOrders -/
theorem XLc_append (l m : List Ex) : XLc (l ++ m) = XLc l ++ XLc m := by
  induction l with
  | nil => rfl
  | cons x l ih => rw [List.cons_append, XLc, ih, XLc, List.append_assoc]
theorem exC_one (x : Ex) : ∀ v ∈ exC x, v.oneCell' = true := fun v hv => by
  simp only [exC, List.mem_cons, List.not_mem_nil, or_false] at hv
  rcases hv with rfl | rfl | rfl | rfl | rfl <;> rfl
theorem exC2_one (x y : Ex) : ∀ v ∈ exC x ++ exC y, v.oneCell' = true := fun v hv => by
  rcases List.mem_append.1 hv with h | h
  · exact exC_one x v h
  · exact exC_one y v h
theorem dupR_drop {l : List Ex} {j : Nat} {x : Ex} (h0 : 0 < j) (h : l[j - 1]? = some x) : dupR (l.drop (j - 1)) = dupR (l.drop j) ++ [x, x] := by
  obtain ⟨hl, h2⟩ := List.getElem?_eq_some_iff.1 h
  rw [List.drop_eq_getElem_cons hl, h2, show j - 1 + 1 = j by omega]
  rfl
theorem dupR_dlen {l : List Ex} {j : Nat} (h : j ≤ l.length) : (dupR (l.drop j)).length = 2 * (l.length - j) := by rw [dupR_len, List.length_drop]
theorem dupR_dlen1 {l : List Ex} {j : Nat} {x : Ex} (h0 : 0 < j) (h : l[j - 1]? = some x) : (dupR (l.drop (j - 1))).length = (dupR (l.drop j)).length + 2 := by rw [dupR_drop h0 h]; simp
theorem backL_len (l : List Ex) (u : Int) : (backL l u).length = (dupR l).length + 2 := by simp [backL]
theorem backL_cells (l : List Ex) (u : Int) : XLc (backL l u) = XLc (dupR l) ++ (exC (exU u) ++ exC (exV u)) := by
  rw [backL, XLc_append]
  simp [XLc]
def uM (l : List Ex) (d : Int) : List Int := d :: devL l
def uMu (l : List Ex) (d u : Int) : Nat := (uM l d).countP (fun z => decide (u ≤ z)) + (uM l d).countP (fun z => decide (u + 1 ≤ z))
theorem uMu_le (l : List Ex) (d u : Int) : uMu l d u ≤ 2 * (2 * l.length + 1) := by
  have h1 : (uM l d).countP (fun z => decide (u ≤ z)) ≤ (uM l d).length := List.countP_le_length
  have h2 : (uM l d).countP (fun z => decide (u + 1 ≤ z)) ≤ (uM l d).length := List.countP_le_length
  have h3 := devL_len l
  unfold uMu
  unfold uM at *
  rw [List.length_cons] at h1 h2
  omega
theorem uMu_dec {l : List Ex} {d u z : Int} (hz : z ∈ uM l d) (h : z = u ∨ z = u + 1) : uMu l d (u + 1) < uMu l d u := by
  have h1 : (uM l d).countP (fun z => decide (u + 1 + 1 ≤ z)) < (uM l d).countP (fun z => decide (u ≤ z)) :=
    countP_lt (fun x _ hx => by simp at hx ⊢; omega) ⟨z, hz, by simp; omega, by simp; omega⟩
  unfold uMu
  omega
theorem uM_dev {l : List Ex} {d z : Int} (h : (devL l).contains z = true) : z ∈ uM l d := List.mem_cons_of_mem _ (by simpa using h)
theorem uM_d (l : List Ex) (d : Int) : d ∈ uM l d := List.mem_cons_self
theorem check_ok {l : List Ex} (hl : l.length ≤ 4096) (h : checkL l = 0) : ∀ x ∈ l, okX x := fun x hx => okX_of (errL_zero (by rw [← checkL_le (by omega)]; exact h) x hx)
end Go.Via
set_option linter.unusedVariables false
namespace Go.Proofs.YtncogghlhlnmaaaGreatDoor
open Go Go.RowKit Go.Via
set_option maxRecDepth 20000 in
set_option maxHeartbeats 8000000 in
theorem c_ClockOrders (l : List Ex) (a : Option Addr) (b : Option Nat) (pre : List Value) (N cap : Nat) (hc : l.length ≤ cap) (ha : l ≠ [] → a = b.map fun g => ⟨g, pre.length, none⟩) (d : Int) (hd : inI64 d) : SCall Tryz.prog 8 [⟨b, 49, pre ++ XLc l, N, false⟩] [.slice a l.length cap, .int .i64 d] Unit (fun _ => .bool true) (fun _ => []) := by
 refine ⟨by kernel_rfl, fun w hL0 => ?_⟩
 refine calls_at (args := [.slice a l.length cap, .int .i64 d]) Tryz.func8 rfl (Nat.le_of_ble_eq_true rfl) hL0 ?_
 show At w ⟨107, [(0, .slice a l.length cap), (1, .int .i64 d)], [⟨b, 49, pre ++ XLc l, N, false⟩]⟩ _
 refine at_seq ?_
 refine at_base 0 rfl (fun hbase => ?_)
 refine at_region (r_assign rfl rfl rfl (run_nil (at_tn (at_seq (at_seq (at_region ?_))))))
 refine r_pcall [] rfl rfl rfl (c_law_known) ?_
 refine r_know 14 (.bool true) rfl rfl ?_
 refine r_not rfl rfl rfl (r_move rfl rfl rfl (r_move rfl rfl rfl ?_))
 refine r_scall0 [_] [0] rfl rfl rfl (c_law_few l a b pre N cap hc ha) ⟨⟨_, rfl, Blk.le_refl _⟩, trivial⟩ rfl ?_
 refine r_not rfl rfl rfl (r_pickF rfl rfl rfl rfl (run_nil (at_tn ?_)))
 refine at_cond rfl (fun hb0 => ?_) (fun hb0 => ?_)
 ·
  have hf : fewB l = false := by simpa using hb0
  refine at_seq (at_region ?_)
  refine r_pcall [] rfl rfl rfl (c_law_known) ?_
  refine r_assign rfl rfl rfl (run_nil (at_tn (at_ret (at_tr ?_))))
  refine at_end1 rfl (res_tmp rfl) (fun w hL => ⟨(), ?_, hL.picks [] trivial rfl rfl⟩)
  exact rfl
 ·
  have hf : fewB l = true := by simpa using hb0
  obtain ⟨h12, hok⟩ := fewB_ok hf
  refine at_skip (at_tn (at_seq (at_region (r_assign rfl rfl rfl (run_nil (at_tn (at_seq (at_seq (at_region (r_move rfl rfl rfl ?_))))))))))
  refine r_lenV u22 rfl rfl rfl ?_
  refine r_arith (r := ((l.length : Nat) : Int) - 1) rfl rfl rfl rfl (congrArg some (wi (by omega) (by omega) rfl)) ?_
  refine r_assign rfl rfl rfl (run_nil (at_tn (at_block ?_)))
  refine enterL (nt := 107) (ι := {x : Nat × Option Nat × Nat × Nat // x.1 ≤ l.length ∧ (dupR (l.drop x.1)).length ≤ x.2.2.2 ∧ x.2.2.2 * 5 ≤ x.2.2.1}) (fun ⟨⟨j, ob, oN, oc⟩, hj, h1, h2⟩ => [(0, .slice a l.length cap), (1, .int .i64 d), (5, slv ob 0 (dupR (l.drop j)).length oc), (6, .int .i64 ((j : Int) - 1))]) (fun ⟨⟨j, ob, oN, oc⟩, hj, h1, h2⟩ => [⟨b, 49, pre ++ XLc l, N, false⟩, ⟨ob, 49, XLc (dupR (l.drop j)), oN, true⟩]) (fun ⟨⟨j, ob, oN, oc⟩, hj, h1, h2⟩ => j) ⟨(l.length, none, 0, 0), Nat.le_refl _, (by rw [List.drop_length]; exact Nat.le_refl _), Nat.le_refl _⟩ ⟨rfl, rfl, (look_val rfl (by rw [List.drop_length]; rfl)), rfl, trivial⟩ (weak_picks [some 0, none] ⟨⟨_, rfl, Blk.le_refl _⟩, ⟨rfl, (by rw [List.drop_length]; rfl), rfl⟩, trivial⟩ rfl rfl) ?_
  rintro ⟨⟨j, ob, oN, oc⟩, hj, h1, h2⟩
  show At _ ⟨107, [(0, .slice a l.length cap), (1, .int .i64 d), (5, slv ob 0 (dupR (l.drop j)).length oc), (6, .int .i64 ((j : Int) - 1))], [⟨b, 49, pre ++ XLc l, N, false⟩, ⟨ob, 49, XLc (dupR (l.drop j)), oN, true⟩]⟩ _
  replace hj : j ≤ l.length := hj
  replace h1 : (dupR (l.drop j)).length ≤ oc := h1
  replace h2 : oc * 5 ≤ oN := h2
  refine at_seq (at_seq (at_region (r_move rfl rfl rfl (r_cmpInt rfl rfl rfl rfl rfl (run_nil (at_tn ?_))))))
  refine at_cond rfl (fun hb2 => ?_) (fun hb2 => ?_)
  ·
   have hj1 : 0 < j := by have := of_decide_eq_true hb2; omega
   have hlt : j - 1 < l.length := by omega
   obtain ⟨x, hx⟩ : ∃ x, l[j - 1]? = some x := ⟨_, List.getElem?_eq_getElem hlt⟩
   have hdl := dupR_dlen hj
   obtain ⟨gb, hgb⟩ := ex_base hbase (by omega)
   replace hgb : b = some gb := hgb
   subst hgb
   obtain rfl : a = some ⟨gb, pre.length, none⟩ := ha (fun e => by rw [e] at hlt; cases hlt)
   refine at_skip (at_tn (at_seq (at_block ?_)))
   refine at_drawnEM (X := (OR ((dupR (l.drop j)).length + 2) 5 × Nat)) (l' := [⟨_,_,_,_,_,_⟩, ⟨_,_,_,_,_,_⟩, ⟨_,_,_,_,_,_⟩, ⟨_,_,_,_,_,_⟩, ⟨_,_,_,_,_,_⟩]) (fun ⟨r, gz⟩ => [(0, .slice (some ⟨gb, pre.length, none⟩) l.length cap), (1, .int .i64 d), (5, slv r.b 0 ((dupR (l.drop j)).length + 2) r.cap), (6, .int .i64 ((j : Int) - 1))]) (fun ⟨r, gz⟩ => [⟨some gb, 49, pre ++ XLc l, N, false⟩, ⟨r.b, 49, XLc (dupR (l.drop j)) ++ (exC x ++ exC x), r.n, true⟩, ⟨some gz, 49, exC x ++ exC x, 10, true⟩]) [0, 1, 2, 5, 6] 7 mixed (by kernel_rfl) rfl ?_ ?_
   ·
    refine r_move rfl rfl rfl (r_move rfl rfl rfl (r_move rfl rfl rfl (r_move rfl rfl rfl (r_move rfl rfl rfl (run_nil ?_)))))
    refine t_node [3, 7] (by kernel_rfl) rfl ⟨⟨_, rfl, ?_⟩, ⟨_, rfl, ?_⟩, trivial⟩
    ·
     refine r_indexAddr 0 (pre.length + (j - 1) * 5) u22 ti49 rfl rfl rfl rfl rfl (by omega) (by omega) (pre_ne (XLc_ne (by omega))) (by show pre.length + Int.toNat _ * 5 = _; omega) ?_
     refine run_nil ?_
     refine t_node [4, 7] (by kernel_rfl) rfl ⟨⟨_, rfl, ?_⟩, ⟨_, rfl, ?_⟩, trivial⟩
     ·
      refine r_load (v := ExV x) 0 (pre.length + (j - 1) * 5) _ rfl rfl rfl rfl ti49 (pre_get (XLc_get hx) rfl) rfl (by decide) rfl ?_
      refine run_nil ?_
      refine t_node [7] (by kernel_rfl) rfl ⟨⟨_, rfl, ?_⟩, trivial⟩
      ·
       refine r_indexAddr 0 (pre.length + (j - 1) * 5) u22 ti49 rfl rfl rfl rfl rfl (by omega) (by omega) (pre_ne (XLc_ne (by omega))) (by show pre.length + Int.toNat _ * 5 = _; omega) ?_
       refine run_nil ?_
       refine t_node [8] (by kernel_rfl) rfl ⟨⟨_, rfl, ?_⟩, trivial⟩
       ·
        refine r_load (v := ExV x) 0 (pre.length + (j - 1) * 5) _ rfl rfl rfl rfl ti49 (pre_get (XLc_get hx) rfl) rfl (by decide) rfl ?_
        refine run_nil ?_
        refine t_node [9] (by kernel_rfl) rfl ⟨⟨_, rfl, ?_⟩, trivial⟩
        ·
         refine r_buildSlice [(0, _), (1, _)] (fun g => [_, _, ⟨some g, 49, _, 10, true⟩]) rfl rfl rfl (bs22_2) rfl (fun _ => rfl) (fun g0 => ?_)
         refine run_nil ?_
         refine t_node [10] (by kernel_rfl) rfl ⟨⟨_, rfl, ?_⟩, trivial⟩
         ·
          refine q_appendO (s := 5) (len := (dupR (l.drop j)).length) (n2 := 2) 1 2 (exC x ++ exC x) (fun r => [_, ⟨r.b, 49, XLc (dupR (l.drop j)) ++ (exC x ++ exC x), r.n, true⟩, _]) u22 el49 rfl rfl rfl rfl rfl rfl rfl rfl rfl rfl (XLc_length _) h1 h2 (.inr ⟨_, rfl⟩) rfl rfl (exC2_one x x) (by omega) (fun _ => rfl) (fun r => ?_)
          refine run_nil ?_
          refine t_node [11] (by kernel_rfl) rfl ⟨⟨_, rfl, ?_⟩, trivial⟩
          ·
           refine r_assign rfl rfl rfl (run_nil ?_)
           refine tr_nil (by kernel_rfl) ?_
           exact ⟨(r, g0), rfl, ⟨rfl, rfl, rfl, rfl, trivial⟩, List.Perm.refl _⟩
     ·
      refine r_indexAddr 0 (pre.length + (j - 1) * 5) u22 ti49 rfl rfl rfl rfl rfl (by omega) (by omega) (pre_ne (XLc_ne (by omega))) (by show pre.length + Int.toNat _ * 5 = _; omega) ?_
      refine run_nil ?_
      refine t_node [4, 8] (by kernel_rfl) rfl ⟨⟨_, rfl, ?_⟩, ⟨_, rfl, ?_⟩, trivial⟩
      ·
       refine r_load (v := ExV x) 0 (pre.length + (j - 1) * 5) _ rfl rfl rfl rfl ti49 (pre_get (XLc_get hx) rfl) rfl (by decide) rfl ?_
       refine run_nil ?_
       refine t_node [8] (by kernel_rfl) rfl ⟨⟨_, rfl, ?_⟩, trivial⟩
       ·
        refine r_load (v := ExV x) 0 (pre.length + (j - 1) * 5) _ rfl rfl rfl rfl ti49 (pre_get (XLc_get hx) rfl) rfl (by decide) rfl ?_
        refine run_nil ?_
        refine t_node [9] (by kernel_rfl) rfl ⟨⟨_, rfl, ?_⟩, trivial⟩
        ·
         refine r_buildSlice [(0, _), (1, _)] (fun g => [_, _, ⟨some g, 49, _, 10, true⟩]) rfl rfl rfl (bs22_2) rfl (fun _ => rfl) (fun g0 => ?_)
         refine run_nil ?_
         refine t_node [10] (by kernel_rfl) rfl ⟨⟨_, rfl, ?_⟩, trivial⟩
         ·
          refine q_appendO (s := 5) (len := (dupR (l.drop j)).length) (n2 := 2) 1 2 (exC x ++ exC x) (fun r => [_, ⟨r.b, 49, XLc (dupR (l.drop j)) ++ (exC x ++ exC x), r.n, true⟩, _]) u22 el49 rfl rfl rfl rfl rfl rfl rfl rfl rfl rfl (XLc_length _) h1 h2 (.inr ⟨_, rfl⟩) rfl rfl (exC2_one x x) (by omega) (fun _ => rfl) (fun r => ?_)
          refine run_nil ?_
          refine t_node [11] (by kernel_rfl) rfl ⟨⟨_, rfl, ?_⟩, trivial⟩
          ·
           refine r_assign rfl rfl rfl (run_nil ?_)
           refine tr_nil (by kernel_rfl) ?_
           exact ⟨(r, g0), rfl, ⟨rfl, rfl, rfl, rfl, trivial⟩, List.Perm.refl _⟩
      ·
       refine r_load (v := ExV x) 0 (pre.length + (j - 1) * 5) _ rfl rfl rfl rfl ti49 (pre_get (XLc_get hx) rfl) rfl (by decide) rfl ?_
       refine run_nil ?_
       refine t_node [4] (by kernel_rfl) rfl ⟨⟨_, rfl, ?_⟩, trivial⟩
       ·
        refine r_load (v := ExV x) 0 (pre.length + (j - 1) * 5) _ rfl rfl rfl rfl ti49 (pre_get (XLc_get hx) rfl) rfl (by decide) rfl ?_
        refine run_nil ?_
        refine t_node [9] (by kernel_rfl) rfl ⟨⟨_, rfl, ?_⟩, trivial⟩
        ·
         refine r_buildSlice [(0, _), (1, _)] (fun g => [_, _, ⟨some g, 49, _, 10, true⟩]) rfl rfl rfl (bs22_2) rfl (fun _ => rfl) (fun g0 => ?_)
         refine run_nil ?_
         refine t_node [10] (by kernel_rfl) rfl ⟨⟨_, rfl, ?_⟩, trivial⟩
         ·
          refine q_appendO (s := 5) (len := (dupR (l.drop j)).length) (n2 := 2) 1 2 (exC x ++ exC x) (fun r => [_, ⟨r.b, 49, XLc (dupR (l.drop j)) ++ (exC x ++ exC x), r.n, true⟩, _]) u22 el49 rfl rfl rfl rfl rfl rfl rfl rfl rfl rfl (XLc_length _) h1 h2 (.inr ⟨_, rfl⟩) rfl rfl (exC2_one x x) (by omega) (fun _ => rfl) (fun r => ?_)
          refine run_nil ?_
          refine t_node [11] (by kernel_rfl) rfl ⟨⟨_, rfl, ?_⟩, trivial⟩
          ·
           refine r_assign rfl rfl rfl (run_nil ?_)
           refine tr_nil (by kernel_rfl) ?_
           exact ⟨(r, g0), rfl, ⟨rfl, rfl, rfl, rfl, trivial⟩, List.Perm.refl _⟩
    ·
     refine r_indexAddr 0 (pre.length + (j - 1) * 5) u22 ti49 rfl rfl rfl rfl rfl (by omega) (by omega) (pre_ne (XLc_ne (by omega))) (by show pre.length + Int.toNat _ * 5 = _; omega) ?_
     refine run_nil ?_
     refine t_node [3, 8] (by kernel_rfl) rfl ⟨⟨_, rfl, ?_⟩, ⟨_, rfl, ?_⟩, trivial⟩
     ·
      refine r_indexAddr 0 (pre.length + (j - 1) * 5) u22 ti49 rfl rfl rfl rfl rfl (by omega) (by omega) (pre_ne (XLc_ne (by omega))) (by show pre.length + Int.toNat _ * 5 = _; omega) ?_
      refine run_nil ?_
      refine t_node [4, 8] (by kernel_rfl) rfl ⟨⟨_, rfl, ?_⟩, ⟨_, rfl, ?_⟩, trivial⟩
      ·
       refine r_load (v := ExV x) 0 (pre.length + (j - 1) * 5) _ rfl rfl rfl rfl ti49 (pre_get (XLc_get hx) rfl) rfl (by decide) rfl ?_
       refine run_nil ?_
       refine t_node [8] (by kernel_rfl) rfl ⟨⟨_, rfl, ?_⟩, trivial⟩
       ·
        refine r_load (v := ExV x) 0 (pre.length + (j - 1) * 5) _ rfl rfl rfl rfl ti49 (pre_get (XLc_get hx) rfl) rfl (by decide) rfl ?_
        refine run_nil ?_
        refine t_node [9] (by kernel_rfl) rfl ⟨⟨_, rfl, ?_⟩, trivial⟩
        ·
         refine r_buildSlice [(0, _), (1, _)] (fun g => [_, _, ⟨some g, 49, _, 10, true⟩]) rfl rfl rfl (bs22_2) rfl (fun _ => rfl) (fun g0 => ?_)
         refine run_nil ?_
         refine t_node [10] (by kernel_rfl) rfl ⟨⟨_, rfl, ?_⟩, trivial⟩
         ·
          refine q_appendO (s := 5) (len := (dupR (l.drop j)).length) (n2 := 2) 1 2 (exC x ++ exC x) (fun r => [_, ⟨r.b, 49, XLc (dupR (l.drop j)) ++ (exC x ++ exC x), r.n, true⟩, _]) u22 el49 rfl rfl rfl rfl rfl rfl rfl rfl rfl rfl (XLc_length _) h1 h2 (.inr ⟨_, rfl⟩) rfl rfl (exC2_one x x) (by omega) (fun _ => rfl) (fun r => ?_)
          refine run_nil ?_
          refine t_node [11] (by kernel_rfl) rfl ⟨⟨_, rfl, ?_⟩, trivial⟩
          ·
           refine r_assign rfl rfl rfl (run_nil ?_)
           refine tr_nil (by kernel_rfl) ?_
           exact ⟨(r, g0), rfl, ⟨rfl, rfl, rfl, rfl, trivial⟩, List.Perm.refl _⟩
      ·
       refine r_load (v := ExV x) 0 (pre.length + (j - 1) * 5) _ rfl rfl rfl rfl ti49 (pre_get (XLc_get hx) rfl) rfl (by decide) rfl ?_
       refine run_nil ?_
       refine t_node [4] (by kernel_rfl) rfl ⟨⟨_, rfl, ?_⟩, trivial⟩
       ·
        refine r_load (v := ExV x) 0 (pre.length + (j - 1) * 5) _ rfl rfl rfl rfl ti49 (pre_get (XLc_get hx) rfl) rfl (by decide) rfl ?_
        refine run_nil ?_
        refine t_node [9] (by kernel_rfl) rfl ⟨⟨_, rfl, ?_⟩, trivial⟩
        ·
         refine r_buildSlice [(0, _), (1, _)] (fun g => [_, _, ⟨some g, 49, _, 10, true⟩]) rfl rfl rfl (bs22_2) rfl (fun _ => rfl) (fun g0 => ?_)
         refine run_nil ?_
         refine t_node [10] (by kernel_rfl) rfl ⟨⟨_, rfl, ?_⟩, trivial⟩
         ·
          refine q_appendO (s := 5) (len := (dupR (l.drop j)).length) (n2 := 2) 1 2 (exC x ++ exC x) (fun r => [_, ⟨r.b, 49, XLc (dupR (l.drop j)) ++ (exC x ++ exC x), r.n, true⟩, _]) u22 el49 rfl rfl rfl rfl rfl rfl rfl rfl rfl rfl (XLc_length _) h1 h2 (.inr ⟨_, rfl⟩) rfl rfl (exC2_one x x) (by omega) (fun _ => rfl) (fun r => ?_)
          refine run_nil ?_
          refine t_node [11] (by kernel_rfl) rfl ⟨⟨_, rfl, ?_⟩, trivial⟩
          ·
           refine r_assign rfl rfl rfl (run_nil ?_)
           refine tr_nil (by kernel_rfl) ?_
           exact ⟨(r, g0), rfl, ⟨rfl, rfl, rfl, rfl, trivial⟩, List.Perm.refl _⟩
     ·
      refine r_load (v := ExV x) 0 (pre.length + (j - 1) * 5) _ rfl rfl rfl rfl ti49 (pre_get (XLc_get hx) rfl) rfl (by decide) rfl ?_
      refine run_nil ?_
      refine t_node [3] (by kernel_rfl) rfl ⟨⟨_, rfl, ?_⟩, trivial⟩
      ·
       refine r_indexAddr 0 (pre.length + (j - 1) * 5) u22 ti49 rfl rfl rfl rfl rfl (by omega) (by omega) (pre_ne (XLc_ne (by omega))) (by show pre.length + Int.toNat _ * 5 = _; omega) ?_
       refine run_nil ?_
       refine t_node [4] (by kernel_rfl) rfl ⟨⟨_, rfl, ?_⟩, trivial⟩
       ·
        refine r_load (v := ExV x) 0 (pre.length + (j - 1) * 5) _ rfl rfl rfl rfl ti49 (pre_get (XLc_get hx) rfl) rfl (by decide) rfl ?_
        refine run_nil ?_
        refine t_node [9] (by kernel_rfl) rfl ⟨⟨_, rfl, ?_⟩, trivial⟩
        ·
         refine r_buildSlice [(0, _), (1, _)] (fun g => [_, _, ⟨some g, 49, _, 10, true⟩]) rfl rfl rfl (bs22_2) rfl (fun _ => rfl) (fun g0 => ?_)
         refine run_nil ?_
         refine t_node [10] (by kernel_rfl) rfl ⟨⟨_, rfl, ?_⟩, trivial⟩
         ·
          refine q_appendO (s := 5) (len := (dupR (l.drop j)).length) (n2 := 2) 1 2 (exC x ++ exC x) (fun r => [_, ⟨r.b, 49, XLc (dupR (l.drop j)) ++ (exC x ++ exC x), r.n, true⟩, _]) u22 el49 rfl rfl rfl rfl rfl rfl rfl rfl rfl rfl (XLc_length _) h1 h2 (.inr ⟨_, rfl⟩) rfl rfl (exC2_one x x) (by omega) (fun _ => rfl) (fun r => ?_)
          refine run_nil ?_
          refine t_node [11] (by kernel_rfl) rfl ⟨⟨_, rfl, ?_⟩, trivial⟩
          ·
           refine r_assign rfl rfl rfl (run_nil ?_)
           refine tr_nil (by kernel_rfl) ?_
           exact ⟨(r, g0), rfl, ⟨rfl, rfl, rfl, rfl, trivial⟩, List.Perm.refl _⟩
   rintro ⟨r, gz⟩
   show At _ ⟨107, [(0, .slice (some ⟨gb, pre.length, none⟩) l.length cap), (1, .int .i64 d), (5, slv r.b 0 ((dupR (l.drop j)).length + 2) r.cap), (6, .int .i64 ((j : Int) - 1))], [⟨some gb, 49, pre ++ XLc l, N, false⟩, ⟨r.b, 49, XLc (dupR (l.drop j)) ++ (exC x ++ exC x), r.n, true⟩, ⟨some gz, 49, exC x ++ exC x, 10, true⟩]⟩ _
   refine at_bn (at_tn (at_region (r_move rfl rfl rfl ?_)))
   refine r_arith (r := ((j - 1 : Nat) : Int) - 1) rfl rfl rfl rfl (congrArg some (wi (by omega) (by omega) (by omega))) ?_
   refine r_assign rfl rfl rfl (run_nil (at_tn ?_))
   exact nextL ⟨(j - 1, r.b, r.n, r.cap), Nat.le_trans (Nat.sub_le _ _) hj, (by rw [dupR_dlen1 hj1 hx]; exact r.h), r.hn⟩ (by show j - 1 < j; omega) ⟨rfl, rfl, (look_val rfl (by rw [dupR_dlen1 hj1 hx])), rfl, trivial⟩ (weak_picks [some 0, some 1] ⟨⟨_, rfl, Blk.le_refl _⟩, ⟨_, rfl, le_same (congrArg (fun c => (⟨r.b, 49, c, r.n, true⟩ : Blk)) (by rw [dupR_drop hj1 hx, XLc_append]; simp [XLc]))⟩, trivial⟩ rfl rfl)
  ·
   have hj0 : j = 0 := by have := of_decide_eq_false hb2; omega
   subst hj0
   refine at_exit (at_te (at_te (at_be (at_tn (at_seq (at_region (r_assign rfl rfl rfl (run_nil (at_tn (at_seq (at_block ?_)))))))))))
   refine enterL (nt := 107) (ι := {u : Int // 1 ≤ u ∧ u + (uMu l d u : Int) ≤ 1 + 2 * (2 * (l.length : Int) + 1)}) (fun ⟨u, hu, hmu⟩ => [(0, .slice a l.length cap), (1, .int .i64 d), (5, slv ob 0 (dupR l).length oc), (7, .int .i64 u)]) (fun ⟨u, hu, hmu⟩ => [⟨b, 49, pre ++ XLc l, N, false⟩, ⟨ob, 49, XLc (dupR l), oN, true⟩]) (fun ⟨u, hu, hmu⟩ => uMu l d u) ⟨1, by decide, by have := uMu_le l d 1; omega⟩ ⟨rfl, rfl, rfl, rfl, trivial⟩ (Weak.refl _) ?_
   rintro ⟨u, hu, hmu⟩
   show At _ ⟨107, [(0, .slice a l.length cap), (1, .int .i64 d), (5, slv ob 0 (dupR l).length oc), (7, .int .i64 u)], [⟨b, 49, pre ++ XLc l, N, false⟩, ⟨ob, 49, XLc (dupR l), oN, true⟩]⟩ _
   have hdl2 := dupR_len l
   refine at_seq (at_seq (at_region (r_move rfl rfl rfl ?_)))
   refine r_scall [_] [0] rfl rfl rfl (c_law_devices l a b pre N cap hc ha (by omega)) ⟨⟨_, rfl, Blk.le_refl _⟩, trivial⟩ rfl (.inr fun z b hb => by rw [List.mem_singleton.1 hb]) (fun zd0 => ?_)
   refine r_move rfl rfl rfl ?_
   refine r_scall0 [_, _] [2] rfl rfl rfl (c_law_has (devL l) zd0.b zd0.n zd0.cap zd0.h (by have := devL_len l; omega) u) ⟨⟨_, rfl, le_share⟩, trivial⟩ rfl ?_
   refine r_move rfl rfl rfl ?_
   refine r_split 44 rfl (fun hb4 => ?_) (fun hb4 => ?_)
   ·
    have hu1 : (devL l).contains u = true := hb4
    have hdec := uMu_dec (uM_dev (d := d) hu1) (.inl rfl)
    refine r_no rfl rfl rfl (r_no rfl rfl rfl (r_no rfl rfl rfl (r_no rfl rfl rfl (r_no rfl rfl rfl (r_pickT rfl rfl rfl rfl (r_move rfl rfl rfl (r_no rfl rfl rfl (r_no rfl rfl rfl (r_no rfl rfl rfl (r_pickT rfl rfl rfl rfl (r_move rfl rfl rfl (r_no rfl rfl rfl (r_no rfl rfl rfl (r_no rfl rfl rfl (r_no rfl rfl rfl (r_pickT rfl rfl rfl rfl (run_nil (at_tn (at_condT rfl (at_skip (at_tn (at_block (at_region ?_)))))))))))))))))))))))
    refine r_move rfl rfl rfl ?_
    refine r_arith (r := u + 1) rfl rfl rfl rfl (congrArg some (wi (by omega) (by omega) rfl)) ?_
    refine r_assign rfl rfl rfl (run_nil (at_bn (at_tn ?_)))
    exact nextL ⟨u + 1, by omega, by omega⟩ hdec ⟨rfl, rfl, rfl, rfl, trivial⟩ (weak_picks [some 0, some 1] ⟨⟨_, rfl, Blk.le_refl _⟩, ⟨_, rfl, Blk.le_refl _⟩, trivial⟩ rfl rfl)
   ·
    have hu1 : (devL l).contains u = false := hb4
    refine r_move rfl rfl rfl ?_
    refine r_scall [_] [0] rfl rfl rfl (c_law_devices l a b pre N cap hc ha (by omega)) ⟨⟨_, rfl, Blk.le_refl _⟩, trivial⟩ rfl (.inr fun z b hb => by rw [List.mem_singleton.1 hb]) (fun zd1 => ?_)
    refine r_move rfl rfl rfl ?_
    refine r_arith (r := u + 1) rfl rfl rfl rfl (congrArg some (wi (by omega) (by omega) rfl)) ?_
    refine r_scall0 [_, _] [3] rfl rfl rfl (c_law_has (devL l) zd1.b zd1.n zd1.cap zd1.h (by have := devL_len l; omega) (u + 1)) ⟨⟨_, rfl, le_share⟩, trivial⟩ rfl ?_
    refine r_pickF rfl rfl rfl rfl (r_move rfl rfl rfl ?_)
    refine r_split 51 rfl (fun hb5 => ?_) (fun hb5 => ?_)
    ·
     have hu2 : (devL l).contains (u + 1) = true := hb5
     have hdec := uMu_dec (uM_dev (d := d) hu2) (.inr rfl)
     refine r_no rfl rfl rfl (r_no rfl rfl rfl (r_no rfl rfl rfl (r_pickT rfl rfl rfl rfl (r_move rfl rfl rfl (r_no rfl rfl rfl (r_no rfl rfl rfl (r_no rfl rfl rfl (r_no rfl rfl rfl (r_pickT rfl rfl rfl rfl (run_nil (at_tn (at_condT rfl (at_skip (at_tn (at_block (at_region (r_move rfl rfl rfl ?_)))))))))))))))))
     refine r_arith (r := u + 1) rfl rfl rfl rfl (congrArg some (wi (by omega) (by omega) rfl)) ?_
     refine r_assign rfl rfl rfl (run_nil (at_bn (at_tn ?_)))
     exact nextL ⟨u + 1, by omega, by omega⟩ hdec ⟨rfl, rfl, rfl, rfl, trivial⟩ (weak_picks [some 0, some 1] ⟨⟨_, rfl, Blk.le_refl _⟩, ⟨_, rfl, Blk.le_refl _⟩, trivial⟩ rfl rfl)
    ·
     have hu2 : (devL l).contains (u + 1) = false := hb5
     refine r_move rfl rfl rfl (r_move rfl rfl rfl (r_cmpInt rfl rfl rfl rfl rfl (r_pickF rfl rfl rfl rfl (r_move rfl rfl rfl ?_))))
     refine r_split 56 rfl (fun hb6 => ?_) (fun hb6 => ?_)
     ·
      have h3 : d = u := eq_of_beq hb6
      have hdec := uMu_dec (uM_d l d) (.inl h3)
      refine r_no rfl rfl rfl (r_no rfl rfl rfl (r_no rfl rfl rfl (r_no rfl rfl rfl (r_pickT rfl rfl rfl rfl (run_nil (at_tn (at_condT rfl (at_skip (at_tn (at_block (at_region (r_move rfl rfl rfl ?_))))))))))))
      refine r_arith (r := u + 1) rfl rfl rfl rfl (congrArg some (wi (by omega) (by omega) rfl)) ?_
      refine r_assign rfl rfl rfl (run_nil (at_bn (at_tn ?_)))
      exact nextL ⟨u + 1, by omega, by omega⟩ hdec ⟨rfl, rfl, rfl, rfl, trivial⟩ (weak_picks [some 0, some 1] ⟨⟨_, rfl, Blk.le_refl _⟩, ⟨_, rfl, Blk.le_refl _⟩, trivial⟩ rfl rfl)
     ·
      have h3 : d ≠ u := ne_of_beq_false hb6
      refine r_move rfl rfl rfl (r_move rfl rfl rfl ?_)
      refine r_arith (r := u + 1) rfl rfl rfl rfl (congrArg some (wi (by omega) (by omega) rfl)) ?_
      refine r_cmpInt rfl rfl rfl rfl rfl (r_pickF rfl rfl rfl rfl (run_nil (at_tn ?_)))
      refine at_cond rfl (fun hb7 => ?_) (fun hb7 => ?_)
      ·
       have h4 : d = u + 1 := eq_of_beq hb7
       have hdec := uMu_dec (uM_d l d) (.inr h4)
       refine at_skip (at_tn (at_block (at_region (r_move rfl rfl rfl ?_))))
       refine r_arith (r := u + 1) rfl rfl rfl rfl (congrArg some (wi (by omega) (by omega) rfl)) ?_
       refine r_assign rfl rfl rfl (run_nil (at_bn (at_tn ?_)))
       exact nextL ⟨u + 1, by omega, by omega⟩ hdec ⟨rfl, rfl, rfl, rfl, trivial⟩ (weak_picks [some 0, some 1] ⟨⟨_, rfl, Blk.le_refl _⟩, ⟨_, rfl, Blk.le_refl _⟩, trivial⟩ rfl rfl)
      ·
       have h4 : d ≠ u + 1 := ne_of_beq_false hb7
       refine at_exit (at_te (at_te (at_be (at_tn (at_seq (at_region (r_move rfl rfl rfl (r_move rfl rfl rfl (r_move rfl rfl rfl ?_)))))))))
       refine r_arith (r := u + 1) rfl rfl rfl rfl (congrArg some (wi (by omega) (by omega) rfl)) ?_
       refine r_build [(0, _), (1, _), (4, _)] rfl rfl rfl (bd49_0_1_4x) ?_
       refine r_move rfl rfl rfl ?_
       refine r_arith (r := u + 1) rfl rfl rfl rfl (congrArg some (wi (by omega) (by omega) rfl)) ?_
       refine r_move rfl rfl rfl ?_
       refine r_build [(0, _), (1, _), (4, _)] rfl rfl rfl (bd49_0_1_4x) ?_
       refine r_buildSlice [(0, _), (1, _)] (fun g => [_, _, _, _, ⟨some g, 49, _, 10, true⟩]) rfl rfl rfl (bs22_2) rfl (fun _ => rfl) (fun g0 => ?_)
       refine q_appendO (s := 5) (len := (dupR l).length) (n2 := 2) 1 4 (exC (exU u) ++ exC (exV u)) (fun r => [_, ⟨r.b, 49, XLc (dupR l) ++ (exC (exU u) ++ exC (exV u)), r.n, true⟩, _, _, _]) u22 el49 rfl rfl rfl rfl rfl rfl rfl rfl rfl rfl (XLc_length _) h1 h2 (.inr ⟨_, rfl⟩) rfl rfl (exC2_one _ _) (by omega) (fun _ => rfl) (fun r => ?_)
       refine r_assign rfl rfl rfl (run_nil (at_tn (at_seq (at_seq ?_))))
       refine at_know 5 (slv r.b 0 (backL l u).length r.cap) rfl (by rw [backL_len]) ?_
       have hrc : (backL l u).length ≤ r.cap := by rw [backL_len]; exact r.h
       refine at_weak [⟨b, 49, pre ++ XLc l, N, false⟩, ⟨r.b, 49, XLc (backL l u), r.n, true⟩] (weak_picks [some 0, some 1] ⟨⟨_, rfl, Blk.le_refl _⟩, ⟨_, rfl, le_same (congrArg (fun c => (⟨r.b, 49, c, r.n, true⟩ : Blk)) (backL_cells l u))⟩, trivial⟩ rfl rfl) ?_
       refine at_region (r_move rfl rfl rfl ?_)
       refine r_scall0 [_] [1] rfl rfl rfl (c_law_check (backL l u) (r.b.map fun g => ⟨g, 0, none⟩) r.b [] r.n r.cap hrc (fun _ => rfl)) ⟨⟨_, rfl, le_share⟩, trivial⟩ rfl ?_
       refine r_cmpInt rfl rfl rfl rfl rfl (run_nil (at_tn ?_))
       refine at_cond rfl (fun hb8 => ?_) (fun hb8 => ?_)
       ·
        refine at_seq (at_region (r_assign rfl rfl rfl (run_nil (at_tn (at_ret (at_tr ?_))))))
        refine at_end1 rfl (res_tmp rfl) (fun w hL => ⟨(), ?_, hL.picks [] trivial rfl rfl⟩)
        exact rfl
       ·
        have hck : checkL (backL l u) = 0 := by simpa using hb8
        have hbl := backL_len l u
        have hd2 := dupR_len l
        have hok2 := check_ok (by omega) hck
        have ho := orders hok hok2 hu1 hu2 h3 h4
        refine at_skip (at_tn (at_seq (at_region (r_move rfl rfl rfl (r_move rfl rfl rfl ?_)))))
        refine r_scall0 [_, _] [0] rfl rfl rfl (c_clock_Offset l a b pre N cap hc ha hok (by omega) d hd (cycT hok (by omega)) (chOK hok d (by omega))) ⟨⟨_, rfl, Blk.le_refl _⟩, trivial⟩ rfl ?_
        refine r_move rfl rfl rfl ?_
        refine r_extract (vs := [_, _]) rfl rfl rfl rfl ?_
        refine r_extract (vs := [_, _]) rfl rfl rfl rfl ?_
        refine r_alloc [_, _] 2 (fun g => [_, _, ⟨some g, 26, _, 2, true⟩]) rfl rfl z26 rfl rfl (fun _ => rfl) (fun g1 => ?_)
        refine r_store rfl 2 0 [_, _, ⟨some g1, 26, _, 2, true⟩] [_, _] rfl rfl rfl rfl ti26 rfl rfl rfl rfl rfl ?_
        refine r_assign rfl rfl rfl (run_nil (at_tn (at_seq (at_region (r_move rfl rfl rfl (r_move rfl rfl rfl ?_))))))
        refine r_scall0 [_, _] [1] rfl rfl rfl (c_clock_Offset (backL l u) (r.b.map fun g => ⟨g, 0, none⟩) r.b [] r.n r.cap hrc (fun _ => rfl) hok2 (by omega) d hd (cycT hok2 (by omega)) (chOK hok2 d (by omega))) ⟨⟨_, rfl, le_share⟩, trivial⟩ rfl ?_
        refine r_move rfl rfl rfl ?_
        refine r_extract (vs := [_, _]) rfl rfl rfl rfl ?_
        refine r_extract (vs := [_, _]) rfl rfl rfl rfl ?_
        refine r_alloc [_, _] 2 (fun g => [_, _, _, ⟨some g, 26, _, 2, true⟩]) rfl rfl z26 rfl rfl (fun _ => rfl) (fun g2 => ?_)
        refine r_store rfl 3 0 [_, _, _, ⟨some g2, 26, _, 2, true⟩] [_, _] rfl rfl rfl rfl ti26 rfl rfl rfl rfl rfl ?_
        refine r_assign rfl rfl rfl (run_nil (at_tn (at_seq (at_region (r_move rfl rfl rfl (r_move rfl rfl rfl ?_))))))
        refine r_scall [_, _] [1] rfl rfl rfl (c_clock_Cycle (backL l u) (r.b.map fun g => ⟨g, 0, none⟩) r.b [] r.n r.cap hrc (fun _ => rfl) hok2 (by omega) u ⟨by show (-9223372036854775808 : Int) ≤ _; omega, by show _ ≤ (9223372036854775807 : Int); omega⟩ (fun _ => True) (cycT hok2 (by omega) u (by omega) (by omega))) ⟨⟨_, rfl, le_share⟩, trivial⟩ rfl (.inr fun z b hb => by rw [List.mem_singleton.1 hb]) (fun zc => ?_)
        refine r_know 93 (.tuple #[slv zc.b 0 zc.c.length zc.cap, .bool true]) rfl (by rw [ho.2.2.2]) ?_
        refine r_move rfl rfl rfl ?_
        refine r_extract (vs := [_, _]) rfl rfl rfl rfl ?_
        refine r_extract (vs := [_, _]) rfl rfl rfl rfl ?_
        refine r_know 95 (.bool true) rfl rfl ?_
        refine r_assign rfl rfl rfl (r_assign rfl rfl rfl (run_nil (at_tn (at_seq (at_region ?_)))))
        refine r_load 2 0 [_, _] rfl rfl rfl rfl ti26 rfl rfl rfl rfl ?_
        refine r_load 3 0 [_, _] rfl rfl rfl rfl ti26 rfl rfl rfl rfl ?_
        refine r_eqlAgg rfl rfl rfl rfl gd26 (eq26 _ _ _ _) ?_
        refine r_know 98 (.bool true) rfl (by rw [ho.2.1, ho.2.2.1, beq_self_eq_true, beq_self_eq_true]; rfl) ?_
        refine r_move rfl rfl rfl (r_move rfl rfl rfl (r_move rfl rfl rfl (r_cmpInt rfl rfl rfl rfl rfl ?_)))
        refine r_know 102 (.bool true) rfl (by rw [ho.1, beq_self_eq_true]) ?_
        refine r_pickT rfl rfl rfl rfl (r_move rfl rfl rfl (r_move rfl rfl rfl (r_pickT rfl rfl rfl rfl (r_assign rfl rfl rfl (run_nil (at_tn (at_ret ?_)))))))
        refine at_end1 rfl (res_tmp rfl) (fun w hL => ⟨(), ?_, hL.picks [] trivial rfl rfl⟩)
        exact rfl
end Go.Proofs.YtncogghlhlnmaaaGreatDoor
set_option linter.unusedVariables false
namespace Go.Proofs.YtncogghlhlnmaaaGreatDoor.clockOrders
open Go Go.ChangeShapes Go.WideShapes Go.ChangeAt Go.RowKit Go.Via
theorem laid : laidOutB Tryz.prog = true := by kernel_rfl
set_option maxRecDepth 20000 in
theorem contract (H : Type) (enc : TypeId × Value → H) (W : World) (base : Nat) (args : Array Value) (ds gs : List (DataW H)) (before : List MemPlace)
    (hval : ∀ (j : Nat) t v, Tryz.f8.params[j]? = some t → args[j]? = some v → Value.okWide Tryz.prog W .any base t v)
    (hW : DataW.Whole enc Tryz.prog Tryz.f8.params.toList Rows.clockOrdersSpec.vars false W args.toList ds gs before)
    (hsz : (DataW.weightsEach Tryz.prog (Tryz.f8.params.toList ++ (OpenSpec.ofChange Rows.clockOrdersSpec).bare.plain.varTypes Tryz.prog) (ds ++ gs)).all (· ≤ reachBytes) = true) :
    Calls Tryz.prog 8 args W fun e W' => ∃ v, e = .returned v ∧ Rows.clockOrdersSpec.post enc Tryz.prog Tryz.f8 false true false false W args v W' := by
  have hW' := hW
  obtain ⟨p, q, hA0, hV, rfl, hfz, hnd⟩ := hW
  have hA : DataW.TrodAll enc Tryz.prog W 0 (fun _ => true) true Tryz.f8.params.toList args.toList ds p := hA0
  rw [Tryz.params8] at hA hval
  obtain ⟨v0, vs0, d0, ds0, p0, q0, hargs, rfl, rfl, h0, r0⟩ := trodAll_cons hA
  obtain ⟨v1, vs1, d1, ds1, p1, q1, rfl, rfl, rfl, h1, r1⟩ := trodAll_cons r0
  obtain ⟨rfl, rfl, rfl⟩ := trodAll_nil r1
  obtain rfl : args = #[v0, v1] := by cases args; simp_all
  obtain ⟨rfl, rfl⟩ := trodVars_none hV
  have h0k := h0
  have h1k := h1
  obtain ⟨l0, a0, b0, pre0, N0, cap0, rfl, hc0, ha0, hB0, hn0⟩ := openXs (hval 0 22 v0 rfl rfl) h0
  obtain ⟨n1, rfl, z1⟩ := openN (hval 1 3 v1 rfl rfl) h1
  clear hA0
  simp only [List.append_nil] at hW'
  have walk := (c_ClockOrders l0 a0 b0 pre0 N0 cap0 hc0 ha0 n1 z1).2 W (relF_cons rfl hB0 hn0 (relF_nil W) (fun c hc => by cases hc))
  refine walk.mono fun e W' ⟨_, he, hg⟩ => ?_
  subst he
  have hlt : ∀ x ∈ p0 ++ (p1 ++ []), x.block < W.heap.size := fun x hx => hW'.lt x (by simpa using hx)
  have k0 : DataW.Trod enc Tryz.prog W' 0 (fun b => decide (b < W.heap.size)) true 22 (.slice a0 l0.length cap0) d0 p0 := Below.trod laid (by kernel_rfl) (of_decide_eq_true (by kernel_rfl)) h0k hg.below (fun x hx => hlt x (by simp [hx]))
  have k1 : DataW.Trod enc Tryz.prog W' 0 (fun b => decide (b < W.heap.size)) true 3 (.int .i64 n1) d1 p1 := Below.trod laid (by kernel_rfl) (of_decide_eq_true (by kernel_rfl)) h1k hg.below (fun x hx => hlt x (by simp [hx]))
  exact ⟨_, rfl, [d0, d1], [], p0 ++ (p1 ++ []), [], p0 ++ (p1 ++ []), [], by simpa using hW', trodAll_cons_mk (shut_bool Tryz.underlying4 _) trodAll_mk0, trodAll_cons_mk k0 (trodAll_cons_mk k1 (trodAll_mk0)), rfl, below_kept hg.below _, fun h => by cases h⟩
abbrev wit : Array Value := #[.slice none 0 0, .int .i64 0]
theorem reads (os : Os) {H : Type} (enc : TypeId × Value → H) : ∃ places, DataW.whole enc Tryz.prog ((laidWorld os).forCall (fun _ _ => 0) ⟨#[], wit, []⟩).memory Tryz.f8.params.toList Rows.clockOrdersSpec.vars false wit.toList 8 = some ([.nil, .lit (.int .i64 0)], [], places) :=
  ⟨[], by kernel_rfl⟩
set_option maxRecDepth 100000 in
theorem lifted (os : Os) (started : os.Started) (H : Type) (enc : TypeId × Value → H) (F : Stop.Interp) :
    ReturnsInHanded {} Tryz.checked os 8 .any ((OpenSpec.ofChange Rows.clockOrdersSpec).preRow enc Tryz.prog Tryz.f8 Rows.clockOrdersRow.domain false Rows.clockOrdersRow.laid) (((OpenSpec.ofChange Rows.clockOrdersSpec).at F).post enc Tryz.prog Tryz.f8 false true false false) := by
  obtain ⟨places, hx⟩ := reads os enc
  refine returnsInHanded_of_row (C := Tryz.checked) (s := OpenSpec.ofChange Rows.clockOrdersSpec) own started (by kernel_rfl) Tryz.func8
    (witness_row_at (enc := enc) (C := Tryz.checked) false (laidWorld os) wit rfl (by kernel_rfl) (by kernel_rfl) (by kernel_rfl)
      (OpenSpec.preRow_of_cond 8 hx (by kernel_rfl) (fun k hk => by cases hk) (by kernel_rfl) (laid_met os _))) ?_
  intro W base args ds gs before hval hW _ _ hsz hL _ _
  exact contract H enc W base args ds gs before hval hW hsz
theorem said : Rows.ClockOrdersSaid :=
  OpenClaim.holds_of_cond 8 Tryz.f8 rfl rfl rfl rfl rfl rfl rfl ⟨rfl, rfl, rfl, rfl, rfl⟩ rfl rfl rfl rfl rfl (by kernel_rfl) Tryz.func8 (by kernel_rfl)
    (of_decide_eq_true (by kernel_rfl)) (by unfold Func.isWrapper; first | (rw [if_pos (by decide +kernel)]; kernel_rfl) | (rw [if_neg (by decide +kernel)]; exact ⟨rfl, rfl⟩))
    (fun os started H enc _ F => by rw [OpenClaim.pre_eq_preRow]; exact lifted os started H enc F)
/-- No parameter wants a stand-in; the program's own looks are off. -/
theorem plain (f : FuncId) (fn : Func) (hf : Tryz.pinned.checked.prog.funcNamed "viator/viatorlaw26.ClockOrders" = some f) (hfn : Tryz.pinned.checked.prog.funcs[f]? = some fn) :
    false = Tryz.pinned.checked.prog.looks [] ∧ ∀ (j : Nat) t, fn.params[j]? = some t → Tryz.pinned.checked.prog.wantsStandIn t = false := by
  obtain rfl : f = 8 := Option.some.inj ((show Tryz.prog.funcNamed "viator/viatorlaw26.ClockOrders" = some 8 by kernel_rfl).symm.trans hf) |>.symm
  obtain rfl : fn = Tryz.f8 := (Option.some.inj (Tryz.func8.symm.trans hfn)).symm
  refine ⟨by kernel_rfl, fun j t ht => ?_⟩
  rw [Tryz.params8] at ht
  have hm : t ∈ ([22, 3] : List Nat) := by simpa using Array.mem_of_getElem? ht
  have hw : ∀ t ∈ ([22, 3] : List Nat), Tryz.prog.wantsStandIn t = false := by
    intro t ht
    simp only [List.mem_cons, List.mem_nil_iff, or_false] at ht
    rcases ht with rfl | rfl
    · exact (show Tryz.prog.wantsStandIn 22 = false by kernel_rfl)
    · exact (show Tryz.prog.wantsStandIn 3 = false by kernel_rfl)
  exact hw t hm
/-- ████ THE CARD ████ -/
theorem card : Rows.ClockOrdersCardSaid :=
  Claim7.holds_tied_plain_at .later [] _ _ _ _ said (fun _ h => by cases h) (by kernel_rfl) (fun _ h => by cases h) clockOrders_row_tie rfl ⟨rfl, rfl⟩ (by kernel_rfl) rfl plain (by kernel_rfl)
end Go.Proofs.YtncogghlhlnmaaaGreatDoor.clockOrders
namespace Go.Proofs.YtncogghlhlnmaaaGreatDoor
/-- the card -/
theorem clockOrders_holds : Rows.ClockOrdersCardSaid := clockOrders.card
end Go.Proofs.YtncogghlhlnmaaaGreatDoor
