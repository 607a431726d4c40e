/-
  For any clocks and messages, any device and any weight, ClockNarrows returns true: a further exchange makes High the lesser one of both and leaves Low, or contradicts the others. No further conditions.
-/
import Derived.Test.YtncogghlhlnmaaaGreatDoorA02
import Derived.Test.YtncogghlhlnmaaaGreatDoorA03
import Derived.Test.YtncogghlhlnmaaaGreatDoorA04
import Derived.Test.YtncogghlhlnmaaaGreatDoorA05
import Derived.Test.YtncogghlhlnmaaaGreatDoorA10
import Derived.Test.YtncogghlhlnmaaaGreatDoorA11
set_option linter.unusedVariables false
set_option linter.unusedVariables false
namespace Go.Proofs.YtncogghlhlnmaaaGreatDoor
open Go Go.RowKit Go.Via
set_option maxRecDepth 20000 in
theorem c_clock_Sum (l : List Ex) (a : Option Addr) (b : Option Nat) (pre : List Value) (N cap : Nat) (hc : l.length ≤ cap) (ha : l ≠ [] → a = b.map fun g => ⟨g, pre.length, none⟩) (hok : ∀ x ∈ l, okX x) (c : List Int) (a2 : Option Addr) (b2 : Option Nat) (pre2 : List Value) (N2 cap2 : Nat) (hc2 : c.length ≤ cap2) (ha2 : c ≠ [] → a2 = b2.map fun g => ⟨g, pre2.length, none⟩) (hcn : c.length ≤ 1000000) (fr to : Int) : SCall Tryz.prog 20 [⟨b, 49, pre ++ XLc l, N, false⟩, ⟨b2, 3, pre2 ++ ILc c, N2, false⟩] [.slice a l.length cap, .slice a2 c.length cap2, .int .i64 fr, .int .i64 to] Unit (fun _ => .tuple #[.int .i64 (sumN l c fr to), .int .i64 (sumE l c fr to)]) (fun _ => []) := by
 refine ⟨by kernel_rfl, fun w hL0 => ?_⟩
 refine calls_at (args := [.slice a l.length cap, .slice a2 c.length cap2, .int .i64 fr, .int .i64 to]) Tryz.func20 rfl (Nat.le_of_ble_eq_true rfl) hL0 ?_
 show At w ⟨54, [(0, .slice a l.length cap), (1, .slice a2 c.length cap2), (2, .int .i64 fr), (3, .int .i64 to)], [⟨b, 49, pre ++ XLc l, N, false⟩, ⟨b2, 3, pre2 ++ ILc c, N2, false⟩]⟩ _
 refine at_seq ?_
 refine at_base 0 rfl (fun hbase => ?_)
 refine at_base 1 rfl (fun hbase2 => ?_)
 refine at_region (r_assign rfl rfl rfl (r_assign rfl rfl rfl (run_nil (at_tn (at_seq (at_region (r_move rfl rfl rfl (r_assign rfl rfl rfl (run_nil (at_tn (at_seq (at_seq (at_region (r_move rfl rfl rfl ?_))))))))))))))
 refine r_lenV u33 rfl rfl rfl ?_
 refine r_move rfl rfl rfl (run_nil (at_tn (at_block ?_)))
 refine enterL (nt := 54) (ι := {z : Nat × Int × Int // z.1 ≤ c.length ∧ sumS l c fr 0 = sumS l (c.drop z.1) z.2.1 z.2.2 ∧ -4294967296 * (z.1 : Int) ≤ z.2.2 ∧ z.2.2 ≤ 4294967296 * (z.1 : Int)}) (fun ⟨⟨i, at_, n⟩, hi, hI, hn1, hn2⟩ => [(0, .slice a l.length cap), (1, .slice a2 c.length cap2), (3, .int .i64 to), (8, .int .i64 n), (10, .int .i64 at_), (14, .slice a2 c.length cap2), (15, .int .i64 (c.length : Nat)), (16, .int .i64 (i : Nat))]) (fun ⟨⟨i, at_, n⟩, hi, hI, hn1, hn2⟩ => [⟨b, 49, pre ++ XLc l, N, false⟩, ⟨b2, 3, pre2 ++ ILc c, N2, false⟩]) (fun ⟨⟨i, at_, n⟩, hi, hI, hn1, hn2⟩ => c.length - i) ⟨⟨0, fr, 0⟩, Nat.zero_le _, rfl, by simp, by simp⟩ ⟨rfl, rfl, rfl, rfl, rfl, rfl, rfl, rfl, trivial⟩ (Weak.refl _) ?_
 rintro ⟨⟨i, at_, n⟩, hi, hI, hn1, hn2⟩
 show At _ ⟨54, [(0, .slice a l.length cap), (1, .slice a2 c.length cap2), (3, .int .i64 to), (8, .int .i64 n), (10, .int .i64 at_), (14, .slice a2 c.length cap2), (15, .int .i64 (c.length : Nat)), (16, .int .i64 (i : Nat))], [⟨b, 49, pre ++ XLc l, N, false⟩, ⟨b2, 3, pre2 ++ ILc c, N2, false⟩]⟩ _
 replace hi : i ≤ c.length := hi
 replace hI : sumS l c fr 0 = sumS l (c.drop i) at_ n := hI
 replace hn1 : -4294967296 * (i : Int) ≤ n := hn1
 replace hn2 : n ≤ 4294967296 * (i : Int) := hn2
 refine at_seq (at_region (r_cmpInt rfl rfl rfl rfl rfl (run_nil (at_tn (at_seq ?_)))))
 refine at_cond rfl (fun hb1 => ?_) (fun hb1 => ?_)
 ·
  have hlt : i < c.length := (by have := of_decide_eq_true hb1; omega)
  obtain ⟨k, hk⟩ : ∃ k, c[i]? = some k := ⟨c[i], List.getElem?_eq_getElem hlt⟩
  obtain ⟨gc, hgc⟩ := il_base hbase2 (by omega)
  replace hgc : b2 = some gc := hgc
  subst hgc
  obtain rfl : a2 = some ⟨gc, pre2.length, none⟩ := ha2 (fun e => by rw [e] at hlt; cases hlt)
  refine at_skip (at_tn (at_seq (at_block (at_seq (at_region ?_)))))
  refine r_indexAddr 1 (pre2.length + i * 1) u33 ti3 rfl rfl rfl rfl rfl (by omega) (by omega) (pre_ne (ILc_ne (by omega))) (by show pre2.length + Int.toNat _ * 1 = _; omega) ?_
  refine r_load (v := .int .i64 k) 1 (pre2.length + i * 1) _ rfl rfl rfl rfl ti3 (pre_get (ILc_get hk) rfl) rfl (by decide) rfl ?_
  refine r_assign rfl rfl rfl (run_nil (at_tn (at_seq (at_seq (at_region (r_move rfl rfl rfl (r_cmpInt rfl rfl rfl rfl rfl (r_move rfl rfl rfl ?_))))))))
  refine r_split 22 rfl (fun hb2 => ?_) (fun hb2 => ?_)
  ·
   have hs1 : k < 0 := of_decide_eq_true hb2
   refine r_no rfl rfl rfl (r_no rfl rfl rfl (r_no rfl rfl rfl (r_no rfl rfl rfl (r_pickT rfl rfl rfl rfl (r_move rfl rfl rfl (r_no rfl rfl rfl (r_no rfl rfl rfl (r_no rfl rfl rfl (r_no rfl rfl rfl (r_no rfl rfl rfl (r_no rfl rfl rfl (r_no rfl rfl rfl (r_pickT rfl rfl rfl rfl (run_nil (at_tn (at_condT rfl (at_seq (at_region (r_assign rfl rfl rfl (r_assign rfl rfl rfl (run_nil (at_tn (at_ret ?_)))))))))))))))))))))))
   refine at_tr (at_br (at_tr (at_tr (at_br (at_tr ?_)))))
   refine at_end2 rfl (res_tmp rfl) (res_tmp rfl) (fun w hL => ⟨(), ?_, hL.picks [] trivial rfl rfl⟩)
   have hz := sum_none (b := to) (hI.trans (sumS_bad hk (.inl hs1)))
   rw [hz.1, hz.2.1]
  ·
   have hs1 : ¬ k < 0 := of_decide_eq_false hb2
   refine r_move rfl rfl rfl (r_move rfl rfl rfl ?_)
   refine r_lenV u22 rfl rfl rfl ?_
   refine r_cmpInt rfl rfl rfl rfl rfl (r_pickF rfl rfl rfl rfl (r_move rfl rfl rfl ?_))
   refine r_split 28 rfl (fun hb3 => ?_) (fun hb3 => ?_)
   ·
    have hs2 : (l.length : Int) ≤ k := of_decide_eq_true hb3
    refine r_no rfl rfl rfl (r_no rfl rfl rfl (r_no rfl rfl rfl (r_no rfl rfl rfl (r_no rfl rfl rfl (r_no rfl rfl rfl (r_no rfl rfl rfl (r_pickT rfl rfl rfl rfl (run_nil (at_tn (at_condT rfl (at_seq (at_region (r_assign rfl rfl rfl (r_assign rfl rfl rfl (run_nil (at_tn (at_ret (at_tr (at_br (at_tr (at_tr (at_br (at_tr ?_)))))))))))))))))))))))
    refine at_end2 rfl (res_tmp rfl) (res_tmp rfl) (fun w hL => ⟨(), ?_, hL.picks [] trivial rfl rfl⟩)
    have hz := sum_none (b := to) (hI.trans (sumS_bad hk (.inr hs2)))
    rw [hz.1, hz.2.1]
   ·
    have hs2 : ¬ (l.length : Int) ≤ k := of_decide_eq_false hb3
    have hk2 : k.toNat < l.length := by omega
    obtain ⟨x, hx⟩ : ∃ x, l[k.toNat]? = some x := ⟨_, List.getElem?_eq_getElem hk2⟩
    have hokx := hok x (List.mem_of_getElem? hx)
    have hwb := wt_bound hokx
    obtain ⟨gb, hgb⟩ := ex_base hbase (by omega)
    replace hgb : b = some gb := hgb
    subst hgb
    obtain rfl : a = some ⟨gb, pre.length, none⟩ := ha (fun e => by rw [e] at hk2; cases hk2)
    refine r_move rfl rfl rfl (r_move rfl rfl rfl ?_)
    refine r_indexAddr 0 (pre.length + k.toNat * 5) u22 ti49 rfl rfl rfl rfl rfl (by omega) (by omega) (pre_ne (XLc_ne (by omega))) (by show pre.length + Int.toNat _ * 5 = _; omega) ?_
    refine r_fieldAddr 0 (pre.length + k.toNat * 5) 0 rfl rfl rfl rfl rfl ti49 rfl rfl ?_
    refine r_load (v := .int .i64 x.f) 0 (pre.length + (k.toNat * 5 + 0)) _ rfl rfl rfl rfl ti3 (pre_get (XLc_f hx) rfl) rfl (by decide) rfl ?_
    refine r_move rfl rfl rfl (r_cmpInt rfl rfl rfl rfl rfl (r_pickF rfl rfl rfl rfl (run_nil (at_tn ?_))))
    refine at_cond rfl (fun hb4 => ?_) (fun hb4 => ?_)
    ·
     have hs3 : x.f ≠ at_ := by simpa using hb4
     refine at_seq (at_region (r_assign rfl rfl rfl (r_assign rfl rfl rfl (run_nil (at_tn (at_ret (at_tr (at_br (at_tr (at_tr (at_br (at_tr ?_))))))))))))
     refine at_end2 rfl (res_tmp rfl) (res_tmp rfl) (fun w hL => ⟨(), ?_, hL.picks [] trivial rfl rfl⟩)
     have hz := sum_none (b := to) (hI.trans (sumS_off hk (by omega) (by omega) hx hs3))
     rw [hz.1, hz.2.1]
    ·
     have hs3 : x.f = at_ := by simpa using hb4
     refine at_skip (at_tn ?_)
     refine at_drawn (l' := [⟨_,_,_,_,_,_⟩, ⟨_,_,_,_,_,_⟩, ⟨_,_,_,_,_,_⟩, ⟨_,_,_,_,_,_⟩, ⟨_,_,_,_,_,_⟩, ⟨_,_,_,_,_,_⟩, ⟨_,_,_,_,_,_⟩, ⟨_,_,_,_,_,_⟩, ⟨_,_,_,_,_,_⟩, ⟨_,_,_,_,_,_⟩, ⟨_,_,_,_,_,_⟩, ⟨_,_,_,_,_,_⟩, ⟨_,_,_,_,_,_⟩, ⟨_,_,_,_,_,_⟩]) [2000000] [0, 1, 2, 3, 4, 7, 8, 9, 10, 11, 5, 6, 12, 13] mixed (by kernel_rfl) rfl (by kernel_rfl) ?_
     refine r_move rfl rfl rfl (r_move rfl rfl rfl (r_move rfl rfl rfl ?_))
     refine r_indexAddr 0 (pre.length + k.toNat * 5) u22 ti49 rfl rfl rfl rfl rfl (by omega) (by omega) (pre_ne (XLc_ne (by omega))) (by show pre.length + Int.toNat _ * 5 = _; omega) ?_
     refine r_load (v := ExV x) 0 (pre.length + k.toNat * 5) _ rfl rfl rfl rfl ti49 (pre_get (XLc_get hx) rfl) rfl (by decide) rfl ?_
     refine r_move rfl rfl rfl (r_move rfl rfl rfl ?_)
     refine r_indexAddr 0 (pre.length + k.toNat * 5) u22 ti49 rfl rfl rfl rfl rfl (by omega) (by omega) (pre_ne (XLc_ne (by omega))) (by show pre.length + Int.toNat _ * 5 = _; omega) ?_
     refine r_fieldAddr 0 (pre.length + k.toNat * 5) 1 rfl rfl rfl rfl rfl ti49 rfl rfl ?_
     refine r_load (v := .int .i64 x.t) 0 (pre.length + (k.toNat * 5 + 1)) _ rfl rfl rfl rfl ti3 (pre_get (XLc_t hx) rfl) rfl (by decide) rfl ?_
     refine r_pcall [_] rfl rfl rfl (c_clock_Weight x hokx) ?_
     refine r_arith (r := n + wt x) rfl rfl rfl rfl (congrArg some (wi (by omega) (by omega) rfl)) ?_
     refine r_assign rfl rfl rfl (r_assign rfl rfl rfl (run_nil (at_bn (at_tn (at_region ?_)))))
     refine r_arith (r := ((i + 1 : Nat) : Int)) rfl rfl rfl rfl (congrArg some (wi (by omega) (by omega) (by omega))) ?_
     refine r_move rfl rfl rfl (run_nil (at_tn ?_))
     exact nextL ⟨⟨i + 1, x.t, n + wt x⟩, hlt, hI.trans (sumS_on hk (by omega) (by omega) hx hs3), by show -4294967296 * ((i + 1 : Nat) : Int) ≤ n + wt x; omega, by show n + wt x ≤ 4294967296 * ((i + 1 : Nat) : Int); omega⟩ (by simp only []; omega) ⟨rfl, rfl, rfl, rfl, rfl, rfl, rfl, rfl, trivial⟩ (weak_picks [some 0, some 1] ⟨⟨_, rfl, Blk.le_refl _⟩, ⟨_, rfl, Blk.le_refl _⟩, trivial⟩ rfl rfl)
 ·
  have hge : i = c.length := (by have := of_decide_eq_false hb1; omega)
  subst hge
  refine at_exit (at_te (at_te (at_be (at_tn (at_seq (at_seq (at_region (r_move rfl rfl rfl (r_move rfl rfl rfl (r_cmpInt rfl rfl rfl rfl rfl (run_nil (at_tn ?_))))))))))))
  refine at_cond rfl (fun hb2 => ?_) (fun hb2 => ?_)
  ·
   have hs4 : at_ ≠ to := by simpa using hb2
   refine at_seq (at_region (r_assign rfl rfl rfl (r_assign rfl rfl rfl (run_nil (at_tn (at_ret (at_tr ?_)))))))
   refine at_end2 rfl (res_tmp rfl) (res_tmp rfl) (fun w hL => ⟨(), ?_, hL.picks [] trivial rfl rfl⟩)
   have hz := sum_some (b := to) (hI.trans (by rw [List.drop_length]; rfl))
   rw [hz.1, hz.2.1, if_neg hs4, if_neg hs4]
  ·
   have hs4 : at_ = to := by simpa using hb2
   refine at_skip (at_tn (at_seq (at_region (r_move rfl rfl rfl (r_assign rfl rfl rfl (r_assign rfl rfl rfl (run_nil (at_tn (at_ret ?_)))))))))
   refine at_end2 rfl (res_tmp rfl) (res_tmp rfl) (fun w hL => ⟨(), ?_, hL.picks [] trivial rfl rfl⟩)
   have hz := sum_some (b := to) (hI.trans (by rw [List.drop_length]; rfl))
   rw [hz.1, hz.2.1, if_pos hs4, if_pos hs4]
end Go.Proofs.YtncogghlhlnmaaaGreatDoor
set_option linter.unusedVariables false
namespace Go.Proofs.YtncogghlhlnmaaaGreatDoor
open Go Go.RowKit Go.Via
set_option maxRecDepth 20000 in
theorem c_clock_Offset (l : List Ex) (a : Option Addr) (b : Option Nat) (pre : List Value) (N cap : Nat) (hc : l.length ≤ cap) (ha : l ≠ [] → a = b.map fun g => ⟨g, pre.length, none⟩) (hok : ∀ x ∈ l, okX x) (hn : l.length ≤ 1000) (d : Int) (hd : inI64 d) (hK : ∀ e, 0 ≤ e → e ≤ 1073741824 → CycOK l e (fun _ => True)) (hQ : ChOK l d (ChQ l d)) : SCall Tryz.prog 14 [⟨b, 49, pre ++ XLc l, N, false⟩] [.slice a l.length cap, .int .i64 d] Unit (fun _ => .tuple #[.agg #[.int .i64 (ofLo l d), .int .i64 (ofHi l d)], .int .i64 (chE l d)]) (fun _ => []) := by
 refine ⟨by kernel_rfl, fun w hL0 => ?_⟩
 refine calls_at (args := [.slice a l.length cap, .int .i64 d]) Tryz.func14 rfl (Nat.le_of_ble_eq_true rfl) hL0 ?_
 show At w ⟨46, [(0, .slice a l.length cap), (1, .int .i64 d)], [⟨b, 49, pre ++ XLc l, N, false⟩]⟩ _
 refine at_seq (at_region ?_)
 refine r_alloc [_, _] 2 (fun g => [_, ⟨some g, 26, _, 2, true⟩]) rfl rfl z26 rfl rfl (fun _ => rfl) (fun g0 => ?_)
 refine r_assign rfl rfl rfl (run_nil (at_tn (at_seq (at_region (r_move rfl rfl rfl (r_move rfl rfl rfl ?_))))))
 refine r_scall (hX := hQ.ne) [_, _] [0] rfl rfl rfl (c_clock_Chains l a b pre N cap hc ha hok hn d hd hK (ChQ l d) hQ) ⟨⟨_, rfl, Blk.le_refl _⟩, trivial⟩ rfl (.inr fun z b hb => by rcases List.mem_cons.1 hb with h | h; rw [h]; rw [List.mem_singleton.1 h]) (fun x => ?_)
 refine r_move rfl rfl rfl ?_
 refine r_extract (vs := [_, _, _]) rfl rfl rfl rfl ?_
 refine r_extract (vs := [_, _, _]) rfl rfl rfl rfl ?_
 refine r_extract (vs := [_, _, _]) rfl rfl rfl rfl ?_
 refine r_assign rfl rfl rfl (r_assign rfl rfl rfl (r_assign rfl rfl rfl (run_nil (at_tn (at_seq (at_seq (at_region (r_move rfl rfl rfl (r_cmpInt rfl rfl rfl rfl rfl (run_nil (at_tn ?_)))))))))))
 refine at_cond rfl (fun hb0 => ?_) (fun hb0 => ?_)
 ·
  have hE : chE l d ≠ 0 := by simpa using hb0
  have hgo : ¬ goA l d := fun g => hE (chE_5 g)
  refine at_seq (at_region ?_)
  refine r_build [] rfl rfl rfl (bd26_0) ?_
  refine r_move rfl rfl rfl ?_
  refine r_store rfl 1 0 [_, ⟨some g0, 26, _, 2, true⟩, _, _] [_, _] rfl rfl rfl rfl ti26 rfl rfl rfl rfl rfl ?_
  refine r_assign rfl rfl rfl (run_nil (at_tn (at_ret (at_tr ?_))))
  refine at_end2 rfl (res_cell 1 rfl rfl ti26 (vs := [_, _]) rfl rfl (Nat.le_of_ble_eq_true rfl) rfl) (res_tmp rfl) (fun w hL => ⟨(), ?_, hL.picks [] trivial rfl rfl⟩)
  rw [(of_no hgo).1, (of_no hgo).2]
 ·
  have hE : chE l d = 0 := by simpa using hb0
  refine at_skip (at_tn (at_seq (at_region (r_move rfl rfl rfl (r_move rfl rfl rfl (r_move rfl rfl rfl ?_))))))
  refine r_scall0 [_, _, _, _] [0, 2] rfl rfl rfl (c_clock_Sum l a b pre N cap hc ha hok x.u (x.ub.map fun g => ⟨g, 0, none⟩) x.ub [] x.un x.uc x.hu (fun _ => rfl) x.hl.1 0 d) ⟨⟨_, rfl, Blk.le_refl _⟩, ⟨_, rfl, le_share⟩, trivial⟩ rfl ?_
  refine r_move rfl rfl rfl ?_
  refine r_extract (vs := [_, _]) rfl rfl rfl rfl ?_
  refine r_extract (vs := [_, _]) rfl rfl rfl rfl ?_
  refine r_assign rfl rfl rfl (r_assign rfl rfl rfl (run_nil (at_tn (at_seq (at_region (r_move rfl rfl rfl (r_move rfl rfl rfl (r_move rfl rfl rfl ?_))))))))
  refine r_scall0 [_, _, _, _] [0, 3] rfl rfl rfl (c_clock_Sum l a b pre N cap hc ha hok x.v (x.vb.map fun g => ⟨g, 0, none⟩) x.vb [] x.vn x.vc x.hv (fun _ => rfl) x.hl.2 d 0) ⟨⟨_, rfl, Blk.le_refl _⟩, ⟨_, rfl, le_share⟩, trivial⟩ rfl ?_
  refine r_move rfl rfl rfl ?_
  refine r_extract (vs := [_, _]) rfl rfl rfl rfl ?_
  refine r_extract (vs := [_, _]) rfl rfl rfl rfl ?_
  refine r_assign rfl rfl rfl (r_assign rfl rfl rfl (run_nil (at_tn (at_seq (at_seq (at_region (r_move rfl rfl rfl ?_)))))))
  refine r_lenV u33 rfl rfl rfl ?_
  refine r_cmpInt rfl rfl rfl rfl rfl (run_nil (at_tn ?_))
  refine at_cond rfl (fun hb1 => ?_) (fun hb1 => ?_)
  ·
   have hu0 : x.u = [] := List.eq_nil_of_length_eq_zero (by have : ((x.u.length : Nat) : Int) = 0 := eq_of_beq hb1; omega)
   have hgo : ¬ goA l d := fun g => (x.ht g).1 hu0
   refine at_seq (at_region ?_)
   refine r_build [] rfl rfl rfl (bd26_0) ?_
   refine r_store rfl 1 0 [_, ⟨some g0, 26, _, 2, true⟩, _, _] [_, _] rfl rfl rfl rfl ti26 rfl rfl rfl rfl rfl ?_
   refine r_assign rfl rfl rfl (run_nil (at_tn (at_ret (at_tr ?_))))
   refine at_end2 rfl (res_cell 1 rfl rfl ti26 (vs := [_, _]) rfl rfl (Nat.le_of_ble_eq_true rfl) rfl) (res_tmp rfl) (fun w hL => ⟨(), ?_, hL.picks [] trivial rfl rfl⟩)
   rw [(of_no hgo).1, (of_no hgo).2, hE]
  ·
   have hgo : goA l d := Classical.byContradiction fun g => by have h1 := (x.hf g).1; have h2 := ne_of_beq_false hb1; rw [h1] at h2; exact h2 rfl
   have hq := x.ht hgo
   have hlb := loA_bnd hok hn d
   refine at_skip (at_tn (at_seq (at_region (r_move rfl rfl rfl ?_))))
   refine r_neg (r := -(sumN l x.v d 0)) rfl rfl rfl ((wi (by rw [hq.lo]; omega) (by rw [hq.lo]; omega) (by omega))) ?_
   refine r_move rfl rfl rfl ?_
   refine r_build [(0, _), (1, _)] rfl rfl rfl (bd26_2) ?_
   refine r_store rfl 1 0 [_, ⟨some g0, 26, _, 2, true⟩, _, _] [_, _] rfl rfl rfl rfl ti26 rfl rfl rfl rfl rfl ?_
   refine r_assign rfl rfl rfl (run_nil (at_tn (at_ret ?_)))
   refine at_end2 rfl (res_cell 1 rfl rfl ti26 (vs := [_, _]) rfl rfl (Nat.le_of_ble_eq_true rfl) rfl) (res_tmp rfl) (fun w hL => ⟨(), ?_, hL.picks [] trivial rfl rfl⟩)
   rw [(of_go hgo).1, (of_go hgo).2, hE, ← hq.hi, ← hq.lo]
end Go.Proofs.YtncogghlhlnmaaaGreatDoor
set_option linter.unusedVariables false
namespace Go.Proofs.YtncogghlhlnmaaaGreatDoor
open Go Go.RowKit Go.Via
set_option maxRecDepth 20000 in
theorem c_rational_FromInts (m n : Int) (hm : -9223372036854775808 ≤ m ∧ m ≤ 9223372036854775807) (hn : -9223372036854775808 ≤ n ∧ n ≤ 9223372036854775807) : PCall Tryz.prog 45 #[.int .i64 m, .int .i64 n] (.tuple #[Q (Rat.divInt m n), .int .i64 (if n = 0 then 6 else 0)]) := by
 refine ⟨by kernel_rfl, fun w => ?_⟩
 refine calls_at (args := [.int .i64 m, .int .i64 n]) Tryz.func45 rfl (Nat.le_of_ble_eq_true rfl) (LRel.nil w) ?_
 show At w ⟨13, [(0, .int .i64 m), (1, .int .i64 n)], []⟩ _
 refine at_seq (at_region ?_)
 refine r_alloc [_, _, _, _] 4 (fun g => [⟨some g, 63, _, 4, true⟩]) rfl rfl z63 rfl rfl (fun _ => rfl) (fun g0 => ?_)
 refine r_assign rfl rfl rfl (run_nil (at_tn (at_seq (at_region (r_move rfl rfl rfl ?_)))))
 refine r_pcall [_] rfl rfl rfl (c_integer_FromInt m hm.1 hm.2) ?_
 refine r_move rfl rfl rfl ?_
 refine r_pcall [_] rfl rfl rfl (c_integer_FromInt n hn.1 hn.2) ?_
 refine r_pcall [_, _] rfl rfl rfl (c_rational_Make m n (szI64 hm.1 hm.2) (szI64 hn.1 hn.2)) ?_
 refine r_extract (vs := [_, _]) rfl rfl rfl rfl ?_
 refine r_extract (vs := [_, _]) rfl rfl rfl rfl ?_
 refine r_store rfl 0 0 [⟨some g0, 63, _, 4, true⟩] [_, _, _, _] rfl rfl rfl rfl ti63 rfl rfl rfl rfl rfl ?_
 refine r_assign rfl rfl rfl (run_nil (at_tn (at_ret ?_)))
 refine at_end2 rfl (res_cell 0 rfl rfl ti63 (vs := [_, _, _, _]) rfl rfl (Nat.le_of_ble_eq_true rfl) rfl) (res_tmp rfl) (fun w hL => ⟨?_, hL.below⟩)
 exact rfl
set_option maxRecDepth 20000 in
theorem c_clock_Middle (lo hi : Int) (hs : -9223372036854775808 ≤ lo + hi ∧ lo + hi ≤ 9223372036854775807) : PCall Tryz.prog 27 #[.agg #[.int .i64 lo, .int .i64 hi]] (Q (Rat.divInt (lo + hi) 2)) := by
 refine ⟨by kernel_rfl, fun w => ?_⟩
 refine calls_at (args := [.agg #[.int .i64 lo, .int .i64 hi]]) Tryz.func27 rfl (Nat.le_of_ble_eq_true rfl) (LRel.nil w) ?_
 show At w ⟨15, [(0, .agg #[.int .i64 lo, .int .i64 hi])], []⟩ _
 refine at_seq (at_region ?_)
 refine r_box [_, _] 2 (fun g => [⟨some g, 26, _, 2, true⟩]) rfl rfl rfl rfl rfl (fun _ => rfl) (fun g0 => ?_)
 refine r_alloc [_, _, _, _] 4 (fun g => [_, ⟨some g, 63, _, 4, true⟩]) rfl rfl z63 rfl rfl (fun _ => rfl) (fun g1 => ?_)
 refine run_nil (at_tn (at_seq (at_region ?_)))
 refine r_fieldAddr 0 0 0 rfl rfl rfl rfl rfl ti26 rfl rfl ?_
 refine r_load 0 0 [_] rfl rfl rfl rfl ti3 rfl rfl rfl rfl ?_
 refine r_fieldAddr 0 0 1 rfl rfl rfl rfl rfl ti26 rfl rfl ?_
 refine r_load 0 1 [_] rfl rfl rfl rfl ti3 rfl rfl rfl rfl ?_
 refine r_arith (r := lo + hi) rfl rfl rfl rfl (congrArg some (wi (by omega) (by omega) rfl)) ?_
 refine r_pcall [_, _] rfl rfl rfl (c_rational_FromInts (lo + hi) 2 hs (by omega)) ?_
 refine r_move rfl rfl rfl ?_
 refine r_extract (vs := [_, _]) rfl rfl rfl rfl ?_
 refine r_extract (vs := [_, _]) rfl rfl rfl rfl ?_
 refine r_alloc [_, _, _, _] 4 (fun g => [_, _, ⟨some g, 63, _, 4, true⟩]) rfl rfl z63 rfl rfl (fun _ => rfl) (fun g2 => ?_)
 refine r_store rfl 2 0 [_, _, ⟨some g2, 63, _, 4, true⟩] [_, _, _, _] rfl rfl rfl rfl ti63 rfl rfl rfl rfl rfl ?_
 refine r_assign rfl rfl rfl (run_nil (at_tn (at_seq (at_region ?_))))
 refine r_load 2 0 [_, _, _, _] rfl rfl rfl rfl ti63 rfl rfl rfl rfl ?_
 refine r_store rfl 1 0 [_, ⟨some g1, 63, _, 4, true⟩, _] [_, _, _, _] rfl rfl rfl rfl ti63 rfl rfl rfl rfl rfl ?_
 refine run_nil (at_tn (at_ret ?_))
 refine at_end1 rfl (res_cell 1 rfl rfl ti63 (vs := [_, _, _, _]) rfl rfl (Nat.le_of_ble_eq_true rfl) rfl) (fun w hL => ⟨?_, hL.below⟩)
 exact rfl
set_option maxRecDepth 20000 in
theorem c_clock_Correct (l : List Ex) (a : Option Addr) (b : Option Nat) (pre : List Value) (N cap : Nat) (hc : l.length ≤ cap) (ha : l ≠ [] → a = b.map fun g => ⟨g, pre.length, none⟩) (hok : ∀ x ∈ l, okX x) (hn : l.length ≤ 1000) (d : Int) (hd : inI64 d) (hK : ∀ e, 0 ≤ e → e ≤ 1073741824 → CycOK l e (fun _ => True)) (hQ : ChOK l d (ChQ l d)) (ro rs rv rt rx ry : Int) (rc : Bool) (ht : -9223372036854775808 ≤ rt ∧ rt ≤ 9223372036854775807) : SCall Tryz.prog 29 [⟨b, 49, pre ++ XLc l, N, false⟩] [.slice a l.length cap, .agg #[.int .i64 ro, .int .i64 rs, .int .i64 rv, .int .i64 d, .int .i64 rt, .int .i64 rx, .int .i64 ry, .bool rc]] Unit (fun _ => .tuple #[corA l d rt, .int .i64 (chE l d)]) (fun _ => []) := by
 refine ⟨by kernel_rfl, fun w hL0 => ?_⟩
 have hob := of_bnd hok hn d
 refine calls_at (args := [.slice a l.length cap, .agg #[.int .i64 ro, .int .i64 rs, .int .i64 rv, .int .i64 d, .int .i64 rt, .int .i64 rx, .int .i64 ry, .bool rc]]) Tryz.func29 rfl (Nat.le_of_ble_eq_true rfl) hL0 ?_
 show At w ⟨25, [(0, .slice a l.length cap), (1, .agg #[.int .i64 ro, .int .i64 rs, .int .i64 rv, .int .i64 d, .int .i64 rt, .int .i64 rx, .int .i64 ry, .bool rc])], [⟨b, 49, pre ++ XLc l, N, false⟩]⟩ _
 refine at_seq (at_region ?_)
 refine r_box [_, _, _, _, _, _, _, _] 8 (fun g => [_, ⟨some g, 59, _, 8, true⟩]) rfl rfl rfl rfl rfl (fun _ => rfl) (fun g0 => ?_)
 refine r_alloc [_, _, _, _] 4 (fun g => [_, _, ⟨some g, 63, _, 4, true⟩]) rfl rfl z63 rfl rfl (fun _ => rfl) (fun g1 => ?_)
 refine r_assign rfl rfl rfl (run_nil (at_tn (at_seq (at_region (r_move rfl rfl rfl ?_)))))
 refine r_fieldAddr 1 0 3 rfl rfl rfl rfl rfl ti59 rfl rfl ?_
 refine r_load 1 3 [_] rfl rfl rfl rfl ti3 rfl rfl rfl rfl ?_
 refine r_scall0 [_, _] [0] rfl rfl rfl (c_clock_Offset l a b pre N cap hc ha hok hn d hd hK hQ) ⟨⟨_, rfl, Blk.le_refl _⟩, trivial⟩ rfl ?_
 refine r_move rfl rfl rfl ?_
 refine r_extract (vs := [_, _]) rfl rfl rfl rfl ?_
 refine r_extract (vs := [_, _]) rfl rfl rfl rfl ?_
 refine r_alloc [_, _] 2 (fun g => [_, _, _, ⟨some g, 26, _, 2, true⟩]) rfl rfl z26 rfl rfl (fun _ => rfl) (fun g2 => ?_)
 refine r_store rfl 3 0 [_, _, _, ⟨some g2, 26, _, 2, true⟩] [_, _] rfl rfl rfl rfl ti26 rfl rfl rfl rfl rfl ?_
 refine r_assign rfl rfl rfl (run_nil (at_tn (at_seq (at_seq (at_region (r_move rfl rfl rfl (r_cmpInt rfl rfl rfl rfl rfl (run_nil (at_tn ?_)))))))))
 refine at_cond rfl (fun hb0 => ?_) (fun hb0 => ?_)
 ·
  have hE : chE l d ≠ 0 := by simpa using hb0
  refine at_seq (at_region ?_)
  refine r_build [] rfl rfl rfl (bd63_0) ?_
  refine r_move rfl rfl rfl ?_
  refine r_store rfl 2 0 [_, _, ⟨some g1, 63, _, 4, true⟩, _] [_, _, _, _] rfl rfl rfl rfl ti63 rfl rfl rfl rfl rfl ?_
  refine r_assign rfl rfl rfl (run_nil (at_tn (at_ret (at_tr ?_))))
  refine at_end2 rfl (res_cell 2 rfl rfl ti63 (vs := [_, _, _, _]) rfl rfl (Nat.le_of_ble_eq_true rfl) rfl) (res_tmp rfl) (fun w hL => ⟨(), ?_, hL.picks [] trivial rfl rfl⟩)
  unfold corA; rw [if_neg hE]; rfl
 ·
  have hE : chE l d = 0 := by simpa using hb0
  refine at_skip (at_tn (at_seq ?_))
  refine at_drawn (l' := [⟨_,_,_,_,_,_⟩, ⟨_,_,_,_,_,_⟩, ⟨_,_,_,_,_,_⟩, ⟨_,_,_,_,_,_⟩, ⟨_,_,_,_,_,_⟩, ⟨_,_,_,_,_,_⟩, ⟨_,_,_,_,_,_⟩, ⟨_,_,_,_,_,_⟩]) [] [0, 1, 3, 2, 4, 5, 6, 7] mixed (by kernel_rfl) rfl (by kernel_rfl) ?_
  refine r_fieldAddr 1 0 4 rfl rfl rfl rfl rfl ti59 rfl rfl ?_
  refine r_load 1 4 [_] rfl rfl rfl rfl ti3 rfl rfl rfl rfl ?_
  refine r_load 3 0 [_, _] rfl rfl rfl rfl ti26 rfl rfl rfl rfl ?_
  refine r_pcall [_] rfl rfl rfl (c_rational_FromInt rt ht.1 ht.2) ?_
  refine r_pcall [_] rfl rfl rfl (c_clock_Middle (ofLo l d) (ofHi l d) (by omega)) ?_
  refine r_pcall [_, _] rfl rfl rfl (c_rational_Sub (rt : Rat) (midA l d) (Nat.le_trans (szC ht) (Nat.le_of_ble_eq_true rfl)) (Nat.le_trans (szOfC (by omega) (by omega)) (Nat.le_of_ble_eq_true rfl))) ?_
  refine r_store rfl 2 0 [_, _, ⟨some g1, 63, _, 4, true⟩, _] [_, _, _, _] rfl rfl rfl rfl ti63 rfl rfl rfl rfl rfl ?_
  refine r_assign rfl rfl rfl (run_nil (at_tn (at_ret ?_)))
  refine at_end2 rfl (res_cell 2 rfl rfl ti63 (vs := [_, _, _, _]) rfl rfl (Nat.le_of_ble_eq_true rfl) rfl) (res_tmp rfl) (fun w hL => ⟨(), ?_, hL.picks [] trivial rfl rfl⟩)
  unfold corA; rw [if_pos hE, hE]; rfl
end Go.Proofs.YtncogghlhlnmaaaGreatDoor
set_option linter.unusedVariables false
namespace Go.Proofs.YtncogghlhlnmaaaGreatDoor
open Go Go.RowKit Go.Via
theorem eq26 (a b c d : Int) (w : World) : (Op.equalIn 10000 26 (.agg #[.int .i64 a, .int .i64 b]) (.agg #[.int .i64 c, .int .i64 d])).run Tryz.prog w = .ok ((a == c) && (b == d)) w := by
  simp [go_sem]
  (repeat' split) <;> simp_all
end Go.Proofs.YtncogghlhlnmaaaGreatDoor
set_option linter.unusedVariables false
namespace Go.Proofs.YtncogghlhlnmaaaGreatDoor
open Go Go.RowKit Go.Via
set_option maxRecDepth 20000 in
set_option maxHeartbeats 4000000 in
theorem c_law_known  : PCall Tryz.prog 12 #[] (.bool true) := by
 refine ⟨by kernel_rfl, fun w => ?_⟩
 refine calls_at (args := []) Tryz.func12 rfl (Nat.le_of_ble_eq_true rfl) (LRel.nil w) ?_
 show At w ⟨59, [], []⟩ _
 refine at_seq (at_region (r_assign rfl rfl rfl (run_nil (at_tn (at_seq (at_region ?_))))))
 refine r_build [(0, _), (1, _), (2, _), (3, _), (4, _)] rfl rfl rfl (bd49_5) ?_
 refine r_build [(0, _), (1, _), (2, _), (3, _), (4, _)] rfl rfl rfl (bd49_5) ?_
 refine r_buildSlice [(0, _), (1, _)] (fun g => [⟨some g, 49, _, 10, true⟩]) rfl rfl rfl (bs22_2) rfl (fun _ => rfl) (fun g0 => ?_)
 refine r_assign rfl rfl rfl (run_nil (at_tn (at_seq (at_region (r_move rfl rfl rfl ?_)))))
 refine r_scall0 [_, _] [0] rfl rfl rfl (c_clock_Offset ex0 (some ⟨g0, 0, none⟩) (some g0) [] 10 2 (Nat.le_refl _) (fun _ => rfl) ex0_ok (by decide) 1 ⟨by decide, by decide⟩ (cycT ex0_ok (by decide)) (chOK ex0_ok 1 (by decide))) ⟨⟨_, rfl, le_share⟩, trivial⟩ rfl ?_
 refine r_know 13 (.tuple #[.agg #[.int .i64 5, .int .i64 5], .int .i64 0]) rfl (by rw [ex0_go.1, ex0_go.2.1, ex0_go.2.2]) ?_
 refine r_move rfl rfl rfl ?_
 refine r_extract (vs := [_, _]) rfl rfl rfl rfl ?_
 refine r_extract (vs := [_, _]) rfl rfl rfl rfl ?_
 refine r_alloc [_, _] 2 (fun g => [_, ⟨some g, 26, _, 2, true⟩]) rfl rfl z26 rfl rfl (fun _ => rfl) (fun g1 => ?_)
 refine r_store rfl 1 0 [_, ⟨some g1, 26, _, 2, true⟩] [_, _] rfl rfl rfl rfl ti26 rfl rfl rfl rfl rfl ?_
 refine r_assign rfl rfl rfl (run_nil (at_tn (at_seq (at_region (r_move rfl rfl rfl ?_)))))
 refine r_build [(3, _), (4, _)] rfl rfl rfl (bd59_3_4x) ?_
 refine r_scall0 [_, _] [0] rfl rfl rfl (c_clock_Correct ex0 (some ⟨g0, 0, none⟩) (some g0) [] 10 2 (Nat.le_refl _) (fun _ => rfl) ex0_ok (by decide) 1 ⟨by decide, by decide⟩ (cycT ex0_ok (by decide)) (chOK ex0_ok 1 (by decide)) 0 0 0 30 0 0 false (by omega)) ⟨⟨_, rfl, le_share⟩, trivial⟩ rfl ?_
 refine r_know 19 (.tuple #[Q (Rat.divInt 25 1), .int .i64 0]) rfl (by rw [ex0_cor, ex0_go.2.2]) ?_
 refine r_move rfl rfl rfl ?_
 refine r_extract (vs := [_, _]) rfl rfl rfl rfl ?_
 refine r_extract (vs := [_, _]) rfl rfl rfl rfl ?_
 refine r_alloc [_, _, _, _] 4 (fun g => [_, _, ⟨some g, 63, _, 4, true⟩]) rfl rfl z63 rfl rfl (fun _ => rfl) (fun g2 => ?_)
 refine r_store rfl 2 0 [_, _, ⟨some g2, 63, _, 4, true⟩] [_, _, _, _] rfl rfl rfl rfl ti63 rfl rfl rfl rfl rfl ?_
 refine r_assign rfl rfl rfl (run_nil (at_tn (at_seq (at_region (r_move rfl rfl rfl ?_)))))
 refine r_buildSlice [(0, _), (1, _)] (fun g => [_, _, _, ⟨some g, 3, _, 2, true⟩]) rfl rfl rfl (bs33_2) rfl (fun _ => rfl) (fun g3 => ?_)
 refine r_scall0 [_, _, _, _] [0, 3] rfl rfl rfl (c_clock_Sum ex0 (some ⟨g0, 0, none⟩) (some g0) [] 10 2 (Nat.le_refl _) (fun _ => rfl) ex0_ok [0, 1] (some ⟨g3, 0, none⟩) (some g3) [] 2 2 (Nat.le_refl _) (fun _ => rfl) (by decide) 0 0) ⟨⟨_, rfl, le_share⟩, ⟨_, rfl, le_share⟩, trivial⟩ rfl ?_
 refine r_know 25 (.tuple #[.int .i64 0, .int .i64 0]) rfl (by rw [ex0_sum.1, ex0_sum.2]) ?_
 refine r_move rfl rfl rfl ?_
 refine r_extract (vs := [_, _]) rfl rfl rfl rfl ?_
 refine r_extract (vs := [_, _]) rfl rfl rfl rfl ?_
 refine r_assign rfl rfl rfl (r_assign rfl rfl rfl (run_nil (at_tn (at_seq ?_))))
 refine at_drawn (l' := (⟨_,_,_,_,_,_⟩ :: ⟨_,_,_,_,_,_⟩ :: ⟨_,_,_,_,_,_⟩ :: ⟨_,_,_,_,_,_⟩ :: ⟨_,_,_,_,_,_⟩ :: ⟨_,_,_,_,_,_⟩ :: ⟨_,_,_,_,_,_⟩ :: ⟨_,_,_,_,_,_⟩ :: ⟨_,_,_,_,_,_⟩ :: ⟨_,_,_,_,_,_⟩ :: ⟨_,_,_,_,_,_⟩ :: ⟨_,_,_,_,_,_⟩ :: ⟨_,_,_,_,_,_⟩ :: ⟨_,_,_,_,_,_⟩ :: ⟨_,_,_,_,_,_⟩ :: ⟨_,_,_,_,_,_⟩ :: ⟨_,_,_,_,_,_⟩ :: ⟨_,_,_,_,_,_⟩ :: ⟨_,_,_,_,_,_⟩ :: ⟨_,_,_,_,_,_⟩ :: ⟨_,_,_,_,_,_⟩ :: ⟨_,_,_,_,_,_⟩ :: ⟨_,_,_,_,_,_⟩ :: ⟨_,_,_,_,_,_⟩ :: ⟨_,_,_,_,_,_⟩ :: ⟨_,_,_,_,_,_⟩ :: ⟨_,_,_,_,_,_⟩ :: ⟨_,_,_,_,_,_⟩ :: ⟨_,_,_,_,_,_⟩ :: ⟨_,_,_,_,_,_⟩ :: ⟨_,_,_,_,_,_⟩ :: ⟨_,_,_,_,_,_⟩ :: [])) [] (0 :: 1 :: 2 :: 3 :: 4 :: 5 :: 6 :: 7 :: 8 :: 9 :: 10 :: 11 :: 12 :: 13 :: 14 :: 15 :: 16 :: 17 :: 18 :: 19 :: 20 :: 21 :: 22 :: 23 :: 24 :: 25 :: 26 :: 27 :: 28 :: 29 :: 30 :: 31 :: []) mixed (drawnM (0 :: 1 :: 3 :: 7 :: 7 :: 31 :: 63 :: 127 :: 255 :: 511 :: 1023 :: 2047 :: 4095 :: 4095 :: 16383 :: 32767 :: 65535 :: 131071 :: 262143 :: 524287 :: 1048575 :: 2097151 :: 4194303 :: 8388607 :: 16777215 :: 33554431 :: 67108863 :: 134217727 :: 268435455 :: 536870911 :: 1073741823 :: 2147483647 :: []) (by kernel_rfl)) rfl (by kernel_rfl) ?_
 refine r_move rfl rfl rfl (r_cmpInt rfl rfl rfl rfl rfl ?_)
 refine r_know 29 (.bool true) rfl rfl ?_
 refine r_move rfl rfl rfl ?_
 refine r_load 1 0 [_, _] rfl rfl rfl rfl ti26 rfl rfl rfl rfl ?_
 refine r_build [(0, _), (1, _)] rfl rfl rfl (bd26_2) ?_
 refine r_eqlAgg rfl rfl rfl rfl gd26 (eq26 _ _ _ _) ?_
 refine r_know 33 (.bool true) rfl rfl ?_
 refine r_pickT rfl rfl rfl rfl (r_move rfl rfl rfl (r_move rfl rfl rfl (r_cmpInt rfl rfl rfl rfl rfl ?_)))
 refine r_know 37 (.bool true) rfl rfl ?_
 refine r_pickT rfl rfl rfl rfl (r_move rfl rfl rfl ?_)
 refine r_load 2 0 [_, _, _, _] rfl rfl rfl rfl ti63 rfl rfl rfl rfl ?_
 refine r_pcall [_, _] rfl rfl rfl (c_ref02_Of 25 1 (by omega) (by omega) (by omega) (by omega) (by omega)) ?_
 refine r_eqlAgg rfl rfl rfl rfl gd63 (eq63 (Rat.divInt 25 1) (Rat.divInt 25 1)) ?_
 refine r_know 42 (.bool true) rfl (congrArg Value.bool (decide_eq_true rfl)) ?_
 refine r_pickT rfl rfl rfl rfl (r_move rfl rfl rfl (r_move rfl rfl rfl (r_cmpInt rfl rfl rfl rfl rfl ?_)))
 refine r_know 46 (.bool true) rfl rfl ?_
 refine r_pickT rfl rfl rfl rfl (r_move rfl rfl rfl (r_move rfl rfl rfl (r_cmpInt rfl rfl rfl rfl rfl ?_)))
 refine r_know 50 (.bool true) rfl rfl ?_
 refine r_pickT rfl rfl rfl rfl (r_move rfl rfl rfl (r_move rfl rfl rfl ?_))
 refine r_indexAddr 0 (0 * 5) u22 ti49 rfl rfl rfl rfl rfl (by omega) (by omega) (by simp) (by show 0 + Int.toNat _ * 5 = _; omega) ?_
 refine r_load (v := ExV ⟨0, 1, 10, 17, 2⟩) 0 (0 * 5) _ rfl rfl rfl rfl ti49 rfl rfl (by decide) rfl ?_
 refine r_pcall [_] rfl rfl rfl (c_clock_Weight ⟨0, 1, 10, 17, 2⟩ (ex0_ok _ (by simp [ex0]))) ?_
 refine r_cmpInt rfl rfl rfl rfl rfl ?_
 refine r_know 57 (.bool true) rfl rfl ?_
 refine r_pickT rfl rfl rfl rfl (r_assign rfl rfl rfl (run_nil (at_tn (at_ret ?_))))
 refine at_end1 rfl (res_tmp rfl) (fun w hL => ⟨?_, hL.below⟩)
 exact rfl
end Go.Proofs.YtncogghlhlnmaaaGreatDoor
set_option linter.unusedVariables false
namespace Go.Proofs.YtncogghlhlnmaaaGreatDoor
open Go Go.RowKit Go.Via
set_option maxRecDepth 20000 in
set_option maxHeartbeats 8000000 in
theorem c_law_exchanges (z : Int) (o : Off6) (ho : okO o) (ms : List Msg) (hms : ∀ m ∈ ms, okM m) (a : Option Addr) (b : Option Nat) (pre : List Value) (N cap : Nat) (hc : ms.length ≤ cap) (ha : ms ≠ [] → a = b.map fun g => ⟨g, pre.length, none⟩) : SCall Tryz.prog 24 [⟨b, 87, pre ++ MLc ms, N, false⟩] [clkV z o (.slice a ms.length cap)] (SR (exL o ms).length) (fun x => x.v) (fun x => [⟨x.b, 49, XLc (exL o ms), x.n, true⟩]) := by
 refine ⟨by kernel_rfl, fun w hL0 => ?_⟩
 refine calls_at (args := [clkV z o (.slice a ms.length cap)]) Tryz.func24 rfl (Nat.le_of_ble_eq_true rfl) hL0 ?_
 show At w ⟨77, [(0, clkV z o (.slice a ms.length cap))], [⟨b, 87, pre ++ MLc ms, N, false⟩]⟩ _
 refine at_seq ?_
 refine at_base 0 rfl (fun hbase => ?_)
 refine at_region ?_
 refine r_box [_, _, _, _, _, _, _] 7 (fun g => [_, ⟨some g, 54, _, 7, true⟩]) rfl rfl rfl rfl rfl (fun _ => rfl) (fun g0 => ?_)
 refine r_assign rfl rfl rfl (run_nil (at_tn (at_seq (at_region (r_assign rfl rfl rfl (run_nil (at_tn (at_seq (at_region ?_)))))))))
 refine r_fieldAddr 1 0 0 rfl rfl rfl rfl rfl ti54 rfl rfl ?_
 refine r_indexAddrA 0 u51 ti50 rfl rfl rfl rfl (by omega) (by omega) rfl ?_
 refine r_store rfl 1 0 [_, ⟨some g0, 54, _, 7, true⟩] [_, _, _, _, _, _, _] rfl rfl rfl rfl ti50 rfl rfl rfl rfl rfl ?_
 refine run_nil (at_tn (at_seq (at_seq (at_region (r_assign rfl rfl rfl (run_nil (at_tn (at_block ?_))))))))
 refine enterL (nt := 77) (ι := {x : Nat × Option Nat × Nat × Nat // x.1 ≤ ms.length ∧ x.1 ≤ 12 ∧ (exS o ms x.1).length ≤ x.2.2.2 ∧ x.2.2.2 * 5 ≤ x.2.2.1}) (fun ⟨⟨i, ob, oN, oc⟩, hi, hi2, h1, h2⟩ => [(1, .pointer (some ⟨g0, 0, none⟩)), (3, slv ob 0 (exS o ms i).length oc), (4, .int .i64 (i : Nat))]) (fun ⟨⟨i, ob, oN, oc⟩, hi, hi2, h1, h2⟩ => [⟨b, 87, pre ++ MLc ms, N, false⟩, ⟨some g0, 54, clkC 0 o (.slice a ms.length cap), 7, true⟩, ⟨ob, 49, XLc (exS o ms i), oN, true⟩]) (fun ⟨⟨i, ob, oN, oc⟩, hi, hi2, h1, h2⟩ => ms.length - i) ⟨(0, none, 0, 0), Nat.zero_le _, Nat.zero_le _, Nat.le_refl _, Nat.le_refl _⟩ ⟨rfl, rfl, rfl, trivial⟩ (weak_picks [some 0, some 1, none] ⟨⟨_, rfl, Blk.le_refl _⟩, ⟨_, rfl, Blk.le_refl _⟩, ⟨rfl, rfl, rfl⟩, trivial⟩ rfl rfl) ?_
 rintro ⟨⟨i, ob, oN, oc⟩, hi, hi2, h1, h2⟩
 show At _ ⟨77, [(1, .pointer (some ⟨g0, 0, none⟩)), (3, slv ob 0 (exS o ms i).length oc), (4, .int .i64 (i : Nat))], [⟨b, 87, pre ++ MLc ms, N, false⟩, ⟨some g0, 54, clkC 0 o (.slice a ms.length cap), 7, true⟩, ⟨ob, 49, XLc (exS o ms i), oN, true⟩]⟩ _
 replace hi : i ≤ ms.length := hi
 replace hi2 : i ≤ 12 := hi2
 replace h1 : (exS o ms i).length ≤ oc := h1
 replace h2 : oc * 5 ≤ oN := h2
 have hxl := exS_len o ms i
 refine at_seq (at_seq (at_region (r_move rfl rfl rfl ?_)))
 refine r_fieldAddr 1 0 6 rfl rfl rfl rfl rfl ti54 rfl rfl ?_
 refine r_load 1 6 [_] rfl rfl rfl rfl ti52 rfl rfl rfl rfl ?_
 refine r_lenV u52 rfl rfl rfl ?_
 refine r_cmpInt rfl rfl rfl rfl rfl (r_move rfl rfl rfl ?_)
 refine r_split 14 rfl (fun hb1 => ?_) (fun hb1 => ?_)
 ·
  have hlt : i < ms.length := (by have := of_decide_eq_true hb1; omega)
  refine r_move rfl rfl rfl (r_cmpInt rfl rfl rfl rfl rfl (r_pickT rfl rfl rfl rfl (run_nil (at_tn ?_))))
  refine at_cond rfl (fun hb2 => ?_) (fun hb2 => ?_)
  ·
   have hlt2 : i < 12 := by have := of_decide_eq_true hb2; omega
   obtain ⟨m, hm⟩ : ∃ m, ms[i]? = some m := ⟨_, List.getElem?_eq_getElem hlt⟩
   obtain ⟨_, _, _, _, _, _, _, _, _, _⟩ := hms m (List.mem_of_getElem? hm)
   obtain ⟨gb, hgb⟩ := ms_base hbase (by omega)
   replace hgb : b = some gb := hgb
   subst hgb
   obtain rfl : a = some ⟨gb, pre.length, none⟩ := ha (fun e => by rw [e] at hlt; cases hlt)
   have hof1 := oF_bnd ho (m.f % 6)
   have hof2 := oF_bnd ho (m.t % 6)
   refine at_skip (at_tn (at_seq (at_block (at_seq (at_region ?_)))))
   refine r_fieldAddr 1 0 6 rfl rfl rfl rfl rfl ti54 rfl rfl ?_
   refine r_load 1 6 [_] rfl rfl rfl rfl ti52 rfl rfl rfl rfl ?_
   refine r_move rfl rfl rfl ?_
   refine r_indexAddr 0 (pre.length + i * 5) u52 ti87 rfl rfl rfl rfl rfl (by omega) (by omega) (pre_ne (MLc_ne (by omega))) (by show pre.length + Int.toNat _ * 5 = _; omega) ?_
   refine r_load (v := MV m) 0 (pre.length + i * 5) _ rfl rfl rfl rfl ti87 (pre_get (MLc_get hm) rfl) rfl (by decide) rfl ?_
   refine r_alloc [_, _, _, _, _] 5 (fun g => [_, _, _, ⟨some g, 87, _, 5, true⟩]) rfl rfl z87 rfl rfl (fun _ => rfl) (fun g1 => ?_)
   refine r_store rfl 3 0 [_, _, _, ⟨some g1, 87, _, 5, true⟩] [_, _, _, _, _] rfl rfl rfl rfl ti87 rfl rfl rfl rfl rfl ?_
   refine run_nil (at_tn (at_seq (at_region ?_)))
   refine r_fieldAddr 3 0 0 rfl rfl rfl rfl rfl ti87 rfl rfl ?_
   refine r_load 3 0 [_] rfl rfl rfl rfl ti5 rfl rfl rfl rfl ?_
   refine r_div (r := m.f % 6) rfl rfl rfl rfl (by omega) (congrArg some (Int.tmod_eq_emod_of_nonneg (by omega))) ?_
   refine r_conv (r := m.f % 6) u5 u3 rfl rfl rfl (wi (by omega) (by omega) rfl) ?_
   refine r_fieldAddr 3 0 1 rfl rfl rfl rfl rfl ti87 rfl rfl ?_
   refine r_load 3 1 [_] rfl rfl rfl rfl ti5 rfl rfl rfl rfl ?_
   refine r_div (r := m.t % 6) rfl rfl rfl rfl (by omega) (congrArg some (Int.tmod_eq_emod_of_nonneg (by omega))) ?_
   refine r_conv (r := m.t % 6) u5 u3 rfl rfl rfl (wi (by omega) (by omega) rfl) ?_
   refine r_fieldAddr 3 0 4 rfl rfl rfl rfl rfl ti87 rfl rfl ?_
   refine r_load 3 4 [_] rfl rfl rfl rfl ti50 rfl rfl rfl rfl ?_
   refine r_conv (r := m.s) u50 u3 rfl rfl rfl (wi (by omega) (by omega) rfl) ?_
   refine r_arith (r := 200000 + m.s) rfl rfl rfl rfl (congrArg some (wi (by omega) (by omega) rfl)) ?_
   refine r_fieldAddr 3 0 2 rfl rfl rfl rfl rfl ti87 rfl rfl ?_
   refine r_load 3 2 [_] rfl rfl rfl rfl ti5 rfl rfl rfl rfl ?_
   refine r_div (r := m.l % 16) rfl rfl rfl rfl (by omega) (congrArg some (Int.tmod_eq_emod_of_nonneg (by omega))) ?_
   refine r_conv (r := m.l % 16) u5 u3 rfl rfl rfl (wi (by omega) (by omega) rfl) ?_
   refine r_build [(0, _), (1, _), (2, _), (4, _)] rfl rfl rfl (bd49_0_1_2_4x) ?_
   refine r_alloc [_, _, _, _, _] 5 (fun g => [_, _, _, _, ⟨some g, 49, _, 5, true⟩]) rfl rfl z49 rfl rfl (fun _ => rfl) (fun g2 => ?_)
   refine r_store rfl 4 0 [_, _, _, _, ⟨some g2, 49, _, 5, true⟩] [_, _, _, _, _] rfl rfl rfl rfl ti49 rfl rfl rfl rfl rfl ?_
   refine run_nil (at_tn (at_seq (at_seq (at_region ?_))))
   refine r_fieldAddr 4 0 0 rfl rfl rfl rfl rfl ti49 rfl rfl ?_
   refine r_load 4 0 [_] rfl rfl rfl rfl ti3 rfl rfl rfl rfl ?_
   refine r_fieldAddr 4 0 1 rfl rfl rfl rfl rfl ti49 rfl rfl ?_
   refine r_load 4 1 [_] rfl rfl rfl rfl ti3 rfl rfl rfl rfl ?_
   refine r_cmpInt rfl rfl rfl rfl rfl (run_nil (at_tn ?_))
   refine at_cond rfl (fun hb3 => ?_) (fun hb3 => ?_)
   ·
    have heq : m.f % 6 = m.t % 6 := eq_of_beq hb3
    refine at_exit (at_te (at_be (at_tn (at_region (r_move rfl rfl rfl ?_)))))
    refine r_arith (r := ((i + 1 : Nat) : Int)) rfl rfl rfl rfl (congrArg some (wi (by omega) (by omega) (by omega))) ?_
    refine r_assign rfl rfl rfl (run_nil (at_tn ?_))
    exact nextL ⟨(i + 1, ob, oN, oc), hlt, hlt2, (by rw [exS_no hm heq]; exact h1), h2⟩ (by show ms.length - (i + 1) < ms.length - i; omega) ⟨rfl, (look_val rfl (by rw [exS_no hm heq])), rfl, trivial⟩ (weak_picks [some 0, some 1, some 2] ⟨⟨_, rfl, Blk.le_refl _⟩, ⟨_, rfl, Blk.le_refl _⟩, ⟨_, rfl, le_same (congrArg (fun c => (⟨ob, 49, XLc c, oN, true⟩ : Blk)) (exS_no hm heq))⟩, trivial⟩ rfl rfl)
   ·
    have heq : m.f % 6 ≠ m.t % 6 := ne_of_beq_false hb3
    refine at_skip (at_tn (at_seq ?_))
    refine at_drawn (l' := [⟨_,_,_,_,_,_⟩, ⟨_,_,_,_,_,_⟩, ⟨_,_,_,_,_,_⟩, ⟨_,_,_,_,_,_⟩, ⟨_,_,_,_,_,_⟩, ⟨_,_,_,_,_,_⟩, ⟨_,_,_,_,_,_⟩, ⟨_,_,_,_,_,_⟩, ⟨_,_,_,_,_,_⟩, ⟨_,_,_,_,_,_⟩, ⟨_,_,_,_,_,_⟩, ⟨_,_,_,_,_,_⟩, ⟨_,_,_,_,_,_⟩, ⟨_,_,_,_,_,_⟩, ⟨_,_,_,_,_,_⟩, ⟨_,_,_,_,_,_⟩, ⟨_,_,_,_,_,_⟩, ⟨_,_,_,_,_,_⟩, ⟨_,_,_,_,_,_⟩, ⟨_,_,_,_,_,_⟩, ⟨_,_,_,_,_,_⟩, ⟨_,_,_,_,_,_⟩, ⟨_,_,_,_,_,_⟩, ⟨_,_,_,_,_,_⟩, ⟨_,_,_,_,_,_⟩, ⟨_,_,_,_,_,_⟩]) [] [0, 1, 2, 3, 4, 5, 6, 7, 8, 9, 10, 11, 12, 13, 14, 15, 16, 17, 18, 19, 20, 21, 22, 23, 24, 25] mixed (drawnM [0, 1, 0, 4, 0, 28, 60, 124, 255, 0, 512, 0, 3584, 7680, 15872, 32767, 0, 65536, 262143, 0, 524288, 1572864, 3670016, 8388607, 16777215, 33554431] (by kernel_rfl)) rfl (by kernel_rfl) ?_
    refine r_fieldAddr 4 0 2 rfl rfl rfl rfl rfl ti49 rfl rfl ?_
    refine r_load 4 2 [_] rfl rfl rfl rfl ti3 rfl rfl rfl rfl ?_
    refine r_fieldAddr 4 0 0 rfl rfl rfl rfl rfl ti49 rfl rfl ?_
    refine r_load 4 0 [_] rfl rfl rfl rfl ti3 rfl rfl rfl rfl ?_
    refine r_fieldAddr 1 0 0 rfl rfl rfl rfl rfl ti54 rfl rfl ?_
    refine r_indexAddrA (0 + (m.f % 6).toNat * 1) u51 ti50 rfl rfl rfl rfl (by omega) (by omega) rfl ?_
    refine r_load (v := .int .i16 (oF 0 o (m.f % 6))) 1 (0 + (m.f % 6).toNat * 1) _ rfl rfl rfl rfl ti50 (clk_get 0 o _ (by omega) (by omega)) rfl (by decide) rfl ?_
    refine r_conv (r := oF 0 o (m.f % 6)) u50 u3 rfl rfl rfl (wi (by omega) (by omega) rfl) ?_
    refine r_arith (r := 200000 + m.s - oF 0 o (m.f % 6)) rfl rfl rfl rfl (congrArg some (wi (by omega) (by omega) rfl)) ?_
    refine r_fieldAddr 4 0 1 rfl rfl rfl rfl rfl ti49 rfl rfl ?_
    refine r_load 4 1 [_] rfl rfl rfl rfl ti3 rfl rfl rfl rfl ?_
    refine r_fieldAddr 1 0 0 rfl rfl rfl rfl rfl ti54 rfl rfl ?_
    refine r_indexAddrA (0 + (m.t % 6).toNat * 1) u51 ti50 rfl rfl rfl rfl (by omega) (by omega) rfl ?_
    refine r_load (v := .int .i16 (oF 0 o (m.t % 6))) 1 (0 + (m.t % 6).toNat * 1) _ rfl rfl rfl rfl ti50 (clk_get 0 o _ (by omega) (by omega)) rfl (by decide) rfl ?_
    refine r_conv (r := oF 0 o (m.t % 6)) u50 u3 rfl rfl rfl (wi (by omega) (by omega) rfl) ?_
    refine r_arith (r := 200000 + m.s - oF 0 o (m.f % 6) + oF 0 o (m.t % 6)) rfl rfl rfl rfl (congrArg some (wi (by omega) (by omega) rfl)) ?_
    refine r_fieldAddr 4 0 4 rfl rfl rfl rfl rfl ti49 rfl rfl ?_
    refine r_load 4 4 [_] rfl rfl rfl rfl ti3 rfl rfl rfl rfl ?_
    refine r_arith (r := 200000 + m.s - oF 0 o (m.f % 6) + oF 0 o (m.t % 6) + m.l % 16) rfl rfl rfl rfl (congrArg some (wi (by omega) (by omega) rfl)) ?_
    refine r_fieldAddr 3 0 3 rfl rfl rfl rfl rfl ti87 rfl rfl ?_
    refine r_load 3 3 [_] rfl rfl rfl rfl ti5 rfl rfl rfl rfl ?_
    refine r_div (r := m.e % 64) rfl rfl rfl rfl (by omega) (congrArg some (Int.tmod_eq_emod_of_nonneg (by omega))) ?_
    refine r_conv (r := m.e % 64) u5 u3 rfl rfl rfl (wi (by omega) (by omega) rfl) ?_
    refine r_arith (r := 200000 + m.s - oF 0 o (m.f % 6) + oF 0 o (m.t % 6) + m.l % 16 + m.e % 64) rfl rfl rfl rfl (congrArg some (wi (by omega) (by omega) rfl)) ?_
    refine r_fieldAddr 4 0 3 rfl rfl rfl rfl rfl ti49 rfl rfl ?_
    refine r_store rfl 4 3 [_, _, _, _, ⟨some g2, 49, _, 5, true⟩] [_, _, _, _, _] rfl rfl rfl rfl ti3 rfl rfl rfl rfl rfl ?_
    refine run_nil (at_tn (at_region (r_move rfl rfl rfl ?_)))
    refine r_load 4 0 [_, _, _, _, _] rfl rfl rfl rfl ti49 rfl rfl rfl rfl ?_
    refine r_buildSlice [(0, _)] (fun g => [_, _, _, _, _, ⟨some g, 49, _, 5, true⟩]) rfl rfl rfl (bs22_1) rfl (fun _ => rfl) (fun g3 => ?_)
    refine q_appendO (s := 5) (len := (exS o ms i).length) (n2 := 1) 2 5 (exC (exM o m)) (fun r => [_, _, ⟨r.b, 49, XLc (exS o ms i) ++ exC (exM o m), r.n, true⟩, _, _, _]) u22 el49 rfl rfl rfl rfl rfl rfl rfl rfl rfl rfl (XLc_length _) h1 h2 (.inr ⟨_, rfl⟩) rfl rfl (exC_one _) (by omega) (fun _ => rfl) (fun r => ?_)
    refine r_assign rfl rfl rfl (run_nil (at_bn (at_tn (at_region (r_move rfl rfl rfl ?_)))))
    refine r_arith (r := ((i + 1 : Nat) : Int)) rfl rfl rfl rfl (congrArg some (wi (by omega) (by omega) (by omega))) ?_
    refine r_assign rfl rfl rfl (run_nil (at_tn ?_))
    exact nextL ⟨(i + 1, r.b, r.n, r.cap), hlt, hlt2, (by rw [exS_yes hm heq, List.length_append]; exact r.h), r.hn⟩ (by show ms.length - (i + 1) < ms.length - i; omega) ⟨rfl, (look_val rfl (by rw [exS_yes hm heq, List.length_append]; rfl)), rfl, trivial⟩ (weak_picks [some 0, some 1, some 2] ⟨⟨_, rfl, Blk.le_refl _⟩, ⟨_, rfl, Blk.le_refl _⟩, ⟨_, rfl, le_same (congrArg (fun c => (⟨r.b, 49, c, r.n, true⟩ : Blk)) (by rw [exS_yes hm heq, XLc_append]; simp [XLc]))⟩, trivial⟩ rfl rfl)
  ·
   have hi12 : i = 12 := by have := of_decide_eq_false hb2; omega
   have hend : exS o ms i = exL o ms := by rw [hi12]; rfl
   refine at_exit (at_te (at_te (at_be (at_tn (at_seq (at_region (r_move rfl rfl rfl (r_assign rfl rfl rfl (run_nil (at_tn (at_ret ?_)))))))))))
   refine at_end1 rfl (res_tmp rfl) (fun w hL => ⟨⟨ob, oN, oc, by rw [← hend]; exact h1⟩, ?_, hL.picks [some 2] ⟨⟨_, rfl, le_same (congrArg (fun c => (⟨ob, 49, XLc c, oN, true⟩ : Blk)) hend.symm)⟩, trivial⟩ rfl rfl⟩)
   exact congrArg (fun c => Ending.returned (slv ob 0 (List.length c) oc)) hend
 ·
  have hge : ms.length ≤ i := by have := of_decide_eq_false hb1; omega
  have hend := exS_end (o := o) hge hi2
  refine r_no rfl rfl rfl (r_no rfl rfl rfl (r_pickF rfl rfl rfl rfl (run_nil (at_tn (at_condF rfl (at_exit (at_te (at_te (at_be (at_tn (at_seq (at_region (r_move rfl rfl rfl (r_assign rfl rfl rfl (run_nil (at_tn (at_ret ?_)))))))))))))))))
  refine at_end1 rfl (res_tmp rfl) (fun w hL => ⟨⟨ob, oN, oc, by rw [← hend]; exact h1⟩, ?_, hL.picks [some 2] ⟨⟨_, rfl, le_same (congrArg (fun c => (⟨ob, 49, XLc c, oN, true⟩ : Blk)) hend.symm)⟩, trivial⟩ rfl rfl⟩)
  exact congrArg (fun c => Ending.returned (slv ob 0 (List.length c) oc)) hend
end Go.Proofs.YtncogghlhlnmaaaGreatDoor
set_option linter.unusedVariables false
namespace Go.Proofs.YtncogghlhlnmaaaGreatDoor
open Go Go.RowKit Go.Via
set_option maxRecDepth 20000 in
set_option maxHeartbeats 4000000 in
theorem c_ClockNarrows (z : Int) (o : Off6) (ho : okO o) (ms : List Msg) (hms : ∀ m ∈ ms, okM m) (a : Option Addr) (b : Option Nat) (pre : List Value) (N cap : Nat) (hc : ms.length ≤ cap) (ha : ms ≠ [] → a = b.map fun g => ⟨g, pre.length, none⟩) (v_ : Int) (hv : 0 ≤ v_ ∧ v_ ≤ 255) (w_ : Int) (hw : -32768 ≤ w_ ∧ w_ ≤ 32767) : SCall Tryz.prog 7 [⟨b, 87, pre ++ MLc ms, N, false⟩] [clkV z o (.slice a ms.length cap), .int .u8 v_, .int .i16 w_] Unit (fun _ => .bool true) (fun _ => []) := by
 refine ⟨by kernel_rfl, fun w hL0 => ?_⟩
 refine calls_at (args := [clkV z o (.slice a ms.length cap), .int .u8 v_, .int .i16 w_]) Tryz.func7 rfl (Nat.le_of_ble_eq_true rfl) hL0 ?_
 show At w ⟨90, [(0, clkV z o (.slice a ms.length cap)), (1, .int .u8 v_), (2, .int .i16 w_)], [⟨b, 87, pre ++ MLc ms, N, false⟩]⟩ _
 refine at_seq (at_region ?_)
 refine r_box [_, _, _, _, _, _, _] 7 (fun g => [_, ⟨some g, 54, _, 7, true⟩]) rfl rfl rfl rfl rfl (fun _ => rfl) (fun g0 => ?_)
 refine r_assign rfl rfl rfl (run_nil (at_tn (at_seq (at_seq (at_region ?_)))))
 refine r_pcall [] rfl rfl rfl (c_law_known) ?_
 refine r_know 14 (.bool true) rfl rfl ?_
 refine r_not rfl rfl rfl (run_nil (at_tn (at_condF rfl (at_skip (at_tn (at_seq (at_region ?_)))))))
 refine r_load 1 0 [_, _, _, _, _, _, _] rfl rfl rfl rfl ti54 rfl rfl rfl rfl ?_
 refine r_scall [_] [0] rfl rfl rfl (c_law_exchanges z o ho ms hms a b pre N cap hc ha) ⟨⟨_, rfl, Blk.le_refl _⟩, trivial⟩ rfl (.inr fun z b hb => by rw [List.mem_singleton.1 hb]) (fun x => ?_)
 have hok : ∀ x ∈ (exL o ms), okX x := fun y hy => (exL_ok ho hms y hy).1
 have h12 := exL_len o ms
 refine r_assign rfl rfl rfl (run_nil (at_tn (at_seq (at_region (r_move rfl rfl rfl ?_)))))
 refine r_div (r := v_ % 5) rfl rfl rfl rfl (by omega) (congrArg some (Int.tmod_eq_emod_of_nonneg (by omega))) ?_
 refine r_conv (r := v_ % 5) u5 u3 rfl rfl rfl (wi (by omega) (by omega) rfl) ?_
 refine r_arith (r := 1 + v_ % 5) rfl rfl rfl rfl (congrArg some (wi (by omega) (by omega) rfl)) ?_
 refine r_assign rfl rfl rfl (run_nil (at_tn (at_seq ?_)))
 obtain ⟨d, hd⟩ : ∃ d, d = 1 + v_ % 5 := ⟨_, rfl⟩
 have hd1 : 0 < d := by omega
 have hd6 : d < 6 := by omega
 refine at_know 8 (.int .i64 d) rfl (congrArg (Value.int .i64) hd.symm) ?_
 have hdI : inI64 d := ⟨by show (-9223372036854775808 : Int) ≤ _; omega, by show _ ≤ (9223372036854775807 : Int); omega⟩
 obtain ⟨hb, hE, _⟩ := exL_contains ho hms (d := d) (by omega) (by omega)
 refine at_region (r_move rfl rfl rfl (r_move rfl rfl rfl ?_))
 refine r_scall0 [_, _] [2] rfl rfl rfl (c_clock_Offset (exL o ms) (x.b.map fun g => ⟨g, 0, none⟩) x.b [] x.n x.cap x.h (fun _ => rfl) hok (by omega) d hdI (cycT hok (by omega)) (chOK hok d (by omega))) ⟨⟨_, rfl, le_share⟩, trivial⟩ rfl ?_
 refine r_move rfl rfl rfl ?_
 refine r_extract (vs := [_, _]) rfl rfl rfl rfl ?_
 refine r_extract (vs := [_, _]) rfl rfl rfl rfl ?_
 refine r_alloc [_, _] 2 (fun g => [_, _, _, ⟨some g, 26, _, 2, true⟩]) rfl rfl z26 rfl rfl (fun _ => rfl) (fun g1 => ?_)
 refine r_store rfl 3 0 [_, _, _, ⟨some g1, 26, _, 2, true⟩] [_, _] rfl rfl rfl rfl ti26 rfl rfl rfl rfl rfl ?_
 refine r_assign rfl rfl rfl (run_nil (at_tn (at_seq (at_seq (at_region (r_move rfl rfl rfl (r_cmpInt rfl rfl rfl rfl rfl (r_move rfl rfl rfl ?_))))))))
 refine r_split 30 rfl (fun hb0 => ?_) (fun hb0 => ?_)
 ·
  have hE0 : chE (exL o ms) d ≠ 0 := by simpa using hb0
  have hE31 := hE.resolve_left hE0
  refine r_no rfl rfl rfl (r_no rfl rfl rfl (r_no rfl rfl rfl (r_no rfl rfl rfl (r_no rfl rfl rfl (r_pickT rfl rfl rfl rfl (run_nil (at_tn (at_condT rfl (at_seq (at_region (r_move rfl rfl rfl (r_cmpInt rfl rfl rfl rfl rfl ?_))))))))))))
  refine r_know 38 (.bool false) rfl (congrArg Value.bool (by rw [hE31]; rfl)) ?_
  refine r_move rfl rfl rfl (r_move rfl rfl rfl (r_cmpInt rfl rfl rfl rfl rfl ?_))
  refine r_know 41 (.bool true) rfl (by rw [hE31]; rfl) ?_
  refine r_pickF rfl rfl rfl rfl (r_assign rfl rfl rfl (run_nil (at_tn (at_ret (at_tr ?_)))))
  refine at_end1 rfl (res_tmp rfl) (fun w hL => ⟨(), ?_, hL.picks [] trivial rfl rfl⟩)
  exact rfl
 ·
  have hE0 : chE (exL o ms) d = 0 := by simpa using hb0
  refine r_move rfl rfl rfl ?_
  refine r_scall [_] [2] rfl rfl rfl (c_clock_Devices (exL o ms) (x.b.map fun g => ⟨g, 0, none⟩) x.b [] x.n x.cap x.h (fun _ => rfl) hok (by omega)) ⟨⟨_, rfl, le_share⟩, trivial⟩ rfl (.inr fun z b hb => by rw [List.mem_singleton.1 hb]) (fun zd => ?_)
  refine r_move rfl rfl rfl ?_
  refine r_scall0 [_, _] [4] rfl rfl rfl (c_law_has (devL (exL o ms)) zd.b zd.n zd.cap zd.h (by have := devL_len (exL o ms); omega) d) ⟨⟨_, rfl, le_share⟩, trivial⟩ rfl ?_
  refine r_not rfl rfl rfl (r_pickF rfl rfl rfl rfl (run_nil (at_tn ?_)))
  refine at_cond rfl (fun hb1 => ?_) (fun hb1 => ?_)
  ·
   have hdv : (devL (exL o ms)).contains d = false := by simpa using hb1
   refine at_seq (at_region (r_move rfl rfl rfl (r_cmpInt rfl rfl rfl rfl rfl ?_)))
   refine r_know 38 (.bool true) rfl (by rw [hE0]; rfl) ?_
   refine r_move rfl rfl rfl (r_no rfl rfl rfl (r_no rfl rfl rfl (r_pickT rfl rfl rfl rfl (r_assign rfl rfl rfl (run_nil (at_tn (at_ret (at_tr ?_))))))))
   refine at_end1 rfl (res_tmp rfl) (fun w hL => ⟨(), ?_, hL.picks [] trivial rfl rfl⟩)
   exact rfl
  ·
   have hdv : (devL (exL o ms)).contains d = true := by simpa using hb1
   have hgo := goA_of hE0 (fun h => by rcases h with h | h; omega; rw [hdv] at h; cases h)
   have hok2 := moreL_ok hok hd1 hd6 hw.1 hw.2
   obtain ⟨hn1, hn2⟩ := narrows hok hok2 hgo
   refine at_skip (at_tn (at_seq ?_))
   refine at_base 2 rfl (fun hbx => ?_)
   refine at_region ?_
   refine r_buildSlice [] (fun g => [_, _, _, _, _, ⟨some g, 49, _, 0, true⟩]) rfl rfl rfl (bs22_0) rfl (fun _ => rfl) (fun g2 => ?_)
   refine r_move rfl rfl rfl ?_
   refine q_appendO (s := 5) (len := 0) (n2 := (exL o ms).length) 5 2 (XLc (exL o ms)) (fun q => [_, _, _, _, _, ⟨q.b, 49, XLc (exL o ms), q.n, true⟩]) u22 el49 rfl rfl rfl rfl rfl rfl rfl rfl rfl rfl rfl (Nat.le_refl _) (Nat.le_refl _) (by by_cases hz0 : (exL o ms).length = 0; exact .inl hz0; exact .inr (ex_base (pre := []) hbx (by omega))) (XLc_whole rfl) (XLc_length _) (XLc_one _) (by omega) (fun _ => rfl) (fun q => ?_)
   refine r_move rfl rfl rfl (r_move rfl rfl rfl ?_)
   refine r_conv (r := w_) u50 u3 rfl rfl rfl (wi (by omega) (by omega) rfl) ?_
   refine r_arith (r := 100000 + w_) rfl rfl rfl rfl (congrArg some (wi (by omega) (by omega) rfl)) ?_
   refine r_build [(0, _), (1, _), (2, _), (3, _)] rfl rfl rfl (bd49_4) ?_
   refine r_buildSlice [(0, _)] (fun g => [_, _, _, _, _, _, ⟨some g, 49, _, 5, true⟩]) rfl rfl rfl (bs22_1) rfl (fun _ => rfl) (fun g3 => ?_)
   refine q_appendO (s := 5) (len := 0 + (exL o ms).length) (n2 := 1) 5 6 (exC ⟨0, d, 100000, 100000 + w_, 0⟩) (fun r => [_, _, _, _, _, ⟨r.b, 49, XLc (exL o ms) ++ exC ⟨0, d, 100000, 100000 + w_, 0⟩, r.n, true⟩, _]) u22 el49 rfl rfl rfl rfl rfl rfl rfl rfl rfl rfl (by rw [XLc_length]; omega) q.h q.hn (.inr ⟨_, rfl⟩) rfl rfl (exC_one _) (by omega) (fun _ => rfl) (fun r => ?_)
   refine r_assign rfl rfl rfl (run_nil (at_tn (at_seq ?_)))
   refine at_know 11 (slv r.b 0 (moreL (exL o ms) d w_).length r.cap) rfl (congrArg (fun m => slv r.b 0 m r.cap) (by rw [moreL_len]; omega)) ?_
   have hrc : (moreL (exL o ms) d w_).length ≤ r.cap := by rw [moreL_len]; have := r.h; omega
   refine at_weak [⟨b, 87, pre ++ MLc ms, N, false⟩, ⟨some g1, 26, [.int .i64 (ofLo (exL o ms) d), .int .i64 (ofHi (exL o ms) d)], 2, true⟩, ⟨r.b, 49, XLc (moreL (exL o ms) d w_), r.n, true⟩] (weak_picks [some 0, some 3, some 5] ⟨⟨_, rfl, Blk.le_refl _⟩, ⟨_, rfl, Blk.le_refl _⟩, ⟨_, rfl, le_same (congrArg (fun c => (⟨r.b, 49, c, r.n, true⟩ : Blk)) (moreL_cells _ _ _))⟩, trivial⟩ rfl rfl) ?_
   refine at_region (r_move rfl rfl rfl (r_move rfl rfl rfl ?_))
   refine r_scall0 [_, _] [2] rfl rfl rfl (c_clock_Offset (moreL (exL o ms) d w_) (r.b.map fun g => ⟨g, 0, none⟩) r.b [] r.n r.cap hrc (fun _ => rfl) hok2 (by rw [moreL_len]; omega) d hdI (cycT hok2 (by rw [moreL_len]; omega)) (chOK hok2 d (by rw [moreL_len]; omega))) ⟨⟨_, rfl, le_share⟩, trivial⟩ rfl ?_
   refine r_move rfl rfl rfl ?_
   refine r_extract (vs := [_, _]) rfl rfl rfl rfl ?_
   refine r_extract (vs := [_, _]) rfl rfl rfl rfl ?_
   refine r_alloc [_, _] 2 (fun g => [_, _, _, ⟨some g, 26, _, 2, true⟩]) rfl rfl z26 rfl rfl (fun _ => rfl) (fun g4 => ?_)
   refine r_store rfl 3 0 [_, _, _, ⟨some g4, 26, _, 2, true⟩] [_, _] rfl rfl rfl rfl ti26 rfl rfl rfl rfl rfl ?_
   refine r_assign rfl rfl rfl (run_nil (at_tn (at_seq (at_seq (at_region (r_move rfl rfl rfl ?_))))))
   refine r_conv (r := w_) u50 u3 rfl rfl rfl (wi (by omega) (by omega) rfl) ?_
   refine r_fieldAddr 1 0 0 rfl rfl rfl rfl rfl ti26 rfl rfl ?_
   refine r_load 1 0 [_] rfl rfl rfl rfl ti3 rfl rfl rfl rfl ?_
   refine r_cmpInt rfl rfl rfl rfl rfl (run_nil (at_tn ?_))
   refine at_cond rfl (fun hb2 => ?_) (fun hb2 => ?_)
   ·
    have hlow : w_ < ofLo (exL o ms) d := of_decide_eq_true hb2
    have hE2 := hn1 hlow
    have hng : ¬ goA (moreL (exL o ms) d w_) d := fun g => by rw [chE_5 g] at hE2; cases hE2
    refine at_seq (at_region (r_move rfl rfl rfl (r_cmpInt rfl rfl rfl rfl rfl ?_)))
    refine r_know 65 (.bool true) rfl (by rw [hE2]; rfl) ?_
    refine r_move rfl rfl rfl ?_
    refine r_load 3 0 [_, _] rfl rfl rfl rfl ti26 rfl rfl rfl rfl ?_
    refine r_build [] rfl rfl rfl (bd26_0) ?_
    refine r_eqlAgg rfl rfl rfl rfl gd26 (eq26 _ _ _ _) ?_
    refine r_know 69 (.bool true) rfl (by rw [(of_no hng).1, (of_no hng).2]; rfl) ?_
    refine r_pickT rfl rfl rfl rfl (r_assign rfl rfl rfl (run_nil (at_tn (at_ret (at_tr ?_)))))
    refine at_end1 rfl (res_tmp rfl) (fun w hL => ⟨(), ?_, hL.picks [] trivial rfl rfl⟩)
    exact rfl
   ·
    have hlow : ¬ w_ < ofLo (exL o ms) d := of_decide_eq_false hb2
    obtain ⟨hE2, hhi, hlo⟩ := hn2 hlow
    refine at_skip (at_tn (at_seq (at_region (r_move rfl rfl rfl (r_cmpInt rfl rfl rfl rfl rfl ?_)))))
    refine r_know 72 (.bool true) rfl (by rw [hE2]; rfl) ?_
    refine r_move rfl rfl rfl ?_
    refine r_fieldAddr 3 0 1 rfl rfl rfl rfl rfl ti26 rfl rfl ?_
    refine r_load 3 1 [_] rfl rfl rfl rfl ti3 rfl rfl rfl rfl ?_
    refine r_fieldAddr 1 0 1 rfl rfl rfl rfl rfl ti26 rfl rfl ?_
    refine r_load 1 1 [_] rfl rfl rfl rfl ti3 rfl rfl rfl rfl ?_
    refine r_move rfl rfl rfl ?_
    refine r_conv (r := w_) u50 u3 rfl rfl rfl (wi (by omega) (by omega) rfl) ?_
    refine r_minI rfl rfl rfl rfl (r_cmpInt rfl rfl rfl rfl rfl ?_)
    refine r_know 81 (.bool true) rfl (by rw [hhi, beq_self_eq_true]) ?_
    refine r_pickT rfl rfl rfl rfl (r_move rfl rfl rfl ?_)
    refine r_fieldAddr 3 0 0 rfl rfl rfl rfl rfl ti26 rfl rfl ?_
    refine r_load 3 0 [_] rfl rfl rfl rfl ti3 rfl rfl rfl rfl ?_
    refine r_fieldAddr 1 0 0 rfl rfl rfl rfl rfl ti26 rfl rfl ?_
    refine r_load 1 0 [_] rfl rfl rfl rfl ti3 rfl rfl rfl rfl ?_
    refine r_cmpInt rfl rfl rfl rfl rfl ?_
    refine r_know 88 (.bool true) rfl (by rw [hlo, beq_self_eq_true]) ?_
    refine r_pickT rfl rfl rfl rfl (r_assign rfl rfl rfl (run_nil (at_tn (at_ret ?_))))
    refine at_end1 rfl (res_tmp rfl) (fun w hL => ⟨(), ?_, hL.picks [] trivial rfl rfl⟩)
    exact rfl
end Go.Proofs.YtncogghlhlnmaaaGreatDoor
set_option linter.unusedVariables false
namespace Go.Proofs.YtncogghlhlnmaaaGreatDoor.clockNarrows
open Go Go.ChangeShapes Go.WideShapes Go.ChangeAt Go.RowKit Go.Via
theorem laid : laidOutB Tryz.prog = true := by kernel_rfl
set_option maxRecDepth 20000 in
theorem contract (H : Type) (enc : TypeId × Value → H) (W : World) (base : Nat) (args : Array Value) (ds gs : List (DataW H)) (before : List MemPlace)
    (hval : ∀ (j : Nat) t v, Tryz.f7.params[j]? = some t → args[j]? = some v → Value.okWide Tryz.prog W .any base t v)
    (hW : DataW.Whole enc Tryz.prog Tryz.f7.params.toList Rows.clockNarrowsSpec.vars false W args.toList ds gs before)
    (hsz : (DataW.weightsEach Tryz.prog (Tryz.f7.params.toList ++ (OpenSpec.ofChange Rows.clockNarrowsSpec).bare.plain.varTypes Tryz.prog) (ds ++ gs)).all (· ≤ reachBytes) = true) :
    Calls Tryz.prog 7 args W fun e W' => ∃ v, e = .returned v ∧ Rows.clockNarrowsSpec.post enc Tryz.prog Tryz.f7 false true false false W args v W' := by
  have hW' := hW
  obtain ⟨p, q, hA0, hV, rfl, hfz, hnd⟩ := hW
  have hA : DataW.TrodAll enc Tryz.prog W 0 (fun _ => true) true Tryz.f7.params.toList args.toList ds p := hA0
  rw [Tryz.params7] at hA hval
  obtain ⟨v0, vs0, d0, ds0, p0, q0, hargs, rfl, rfl, h0, r0⟩ := trodAll_cons hA
  obtain ⟨v1, vs1, d1, ds1, p1, q1, rfl, rfl, rfl, h1, r1⟩ := trodAll_cons r0
  obtain ⟨v2, vs2, d2, ds2, p2, q2, rfl, rfl, rfl, h2, r2⟩ := trodAll_cons r1
  obtain ⟨rfl, rfl, rfl⟩ := trodAll_nil r2
  obtain rfl : args = #[v0, v1, v2] := by cases args; simp_all
  obtain ⟨rfl, rfl⟩ := trodVars_none hV
  have h0k := h0
  have h1k := h1
  have h2k := h2
  obtain ⟨z0, o0, l0, a0, b0, pre0, N0, cap0, rfl, hz0, ho0, hl0, hc0, ha0, hB0, hn0⟩ := openK (hval 0 54 v0 rfl rfl) h0
  obtain ⟨n1, rfl, z1⟩ := openU8 (hval 1 5 v1 rfl rfl) h1
  obtain ⟨n2, rfl, z2⟩ := openI16 (hval 2 50 v2 rfl rfl) h2
  clear hA0
  simp only [List.append_nil] at hW'
  have walk := (c_ClockNarrows z0 o0 ho0 l0 hl0 a0 b0 pre0 N0 cap0 hc0 ha0 n1 z1 n2 z2).2 W (relF_cons rfl hB0 hn0 (relF_nil W) (fun c hc => by cases hc))
  refine walk.mono fun e W' ⟨_, he, hg⟩ => ?_
  subst he
  have hlt : ∀ x ∈ p0 ++ (p1 ++ (p2 ++ [])), x.block < W.heap.size := fun x hx => hW'.lt x (by simpa using hx)
  have k0 : DataW.Trod enc Tryz.prog W' 0 (fun b => decide (b < W.heap.size)) true 54 (clkV z0 o0 (.slice a0 l0.length cap0)) d0 p0 := Below.trod laid (by kernel_rfl) (of_decide_eq_true (by kernel_rfl)) h0k hg.below (fun x hx => hlt x (by simp [hx]))
  have k1 : DataW.Trod enc Tryz.prog W' 0 (fun b => decide (b < W.heap.size)) true 5 (.int .u8 n1) d1 p1 := Below.trod laid (by kernel_rfl) (of_decide_eq_true (by kernel_rfl)) h1k hg.below (fun x hx => hlt x (by simp [hx]))
  have k2 : DataW.Trod enc Tryz.prog W' 0 (fun b => decide (b < W.heap.size)) true 50 (.int .i16 n2) d2 p2 := Below.trod laid (by kernel_rfl) (of_decide_eq_true (by kernel_rfl)) h2k hg.below (fun x hx => hlt x (by simp [hx]))
  exact ⟨_, rfl, [d0, d1, d2], [], p0 ++ (p1 ++ (p2 ++ [])), [], p0 ++ (p1 ++ (p2 ++ [])), [], by simpa using hW', trodAll_cons_mk (shut_bool Tryz.underlying4 _) trodAll_mk0, trodAll_cons_mk k0 (trodAll_cons_mk k1 (trodAll_cons_mk k2 (trodAll_mk0))), rfl, below_kept hg.below _, fun h => by cases h⟩
abbrev wit : Array Value := #[.agg #[.int .i16 0, .int .i16 0, .int .i16 0, .int .i16 0, .int .i16 0, .int .i16 0, .slice none 0 0], .int .u8 0, .int .i16 0]
theorem reads (os : Os) {H : Type} (enc : TypeId × Value → H) : ∃ places, DataW.whole enc Tryz.prog ((laidWorld os).forCall (fun _ _ => 0) ⟨#[], wit, []⟩).memory Tryz.f7.params.toList Rows.clockNarrowsSpec.vars false wit.toList 8 = some ([.agg [.agg [.lit (.int .i16 0), .lit (.int .i16 0), .lit (.int .i16 0), .lit (.int .i16 0), .lit (.int .i16 0), .lit (.int .i16 0)], .nil], .lit (.int .u8 0), .lit (.int .i16 0)], [], places) :=
  ⟨[], by kernel_rfl⟩
set_option maxRecDepth 100000 in
theorem lifted (os : Os) (started : os.Started) (H : Type) (enc : TypeId × Value → H) (F : Stop.Interp) :
    ReturnsInHanded {} Tryz.checked os 7 .any ((OpenSpec.ofChange Rows.clockNarrowsSpec).preRow enc Tryz.prog Tryz.f7 Rows.clockNarrowsRow.domain false Rows.clockNarrowsRow.laid) (((OpenSpec.ofChange Rows.clockNarrowsSpec).at F).post enc Tryz.prog Tryz.f7 false true false false) := by
  obtain ⟨places, hx⟩ := reads os enc
  refine returnsInHanded_of_row (C := Tryz.checked) (s := OpenSpec.ofChange Rows.clockNarrowsSpec) own started (by kernel_rfl) Tryz.func7
    (witness_row_at (enc := enc) (C := Tryz.checked) false (laidWorld os) wit rfl (by kernel_rfl) (by kernel_rfl) (by kernel_rfl)
      (OpenSpec.preRow_of_cond 8 hx (by kernel_rfl) (fun k hk => by cases hk) (by kernel_rfl) (laid_met os _))) ?_
  intro W base args ds gs before hval hW _ _ hsz hL _ _
  exact contract H enc W base args ds gs before hval hW hsz
theorem said : Rows.ClockNarrowsSaid :=
  OpenClaim.holds_of_cond 7 Tryz.f7 rfl rfl rfl rfl rfl rfl rfl ⟨rfl, rfl, rfl, rfl, rfl⟩ rfl rfl rfl rfl rfl (by kernel_rfl) Tryz.func7 (by kernel_rfl)
    (of_decide_eq_true (by kernel_rfl)) (by unfold Func.isWrapper; first | (rw [if_pos (by decide +kernel)]; kernel_rfl) | (rw [if_neg (by decide +kernel)]; exact ⟨rfl, rfl⟩))
    (fun os started H enc _ F => by rw [OpenClaim.pre_eq_preRow]; exact lifted os started H enc F)
/-- No parameter wants a stand-in; the program's own looks are off. -/
theorem plain (f : FuncId) (fn : Func) (hf : Tryz.pinned.checked.prog.funcNamed "viator/viatorlaw26.ClockNarrows" = some f) (hfn : Tryz.pinned.checked.prog.funcs[f]? = some fn) :
    false = Tryz.pinned.checked.prog.looks [] ∧ ∀ (j : Nat) t, fn.params[j]? = some t → Tryz.pinned.checked.prog.wantsStandIn t = false := by
  obtain rfl : f = 7 := Option.some.inj ((show Tryz.prog.funcNamed "viator/viatorlaw26.ClockNarrows" = some 7 by kernel_rfl).symm.trans hf) |>.symm
  obtain rfl : fn = Tryz.f7 := (Option.some.inj (Tryz.func7.symm.trans hfn)).symm
  refine ⟨by kernel_rfl, fun j t ht => ?_⟩
  rw [Tryz.params7] at ht
  have hm : t ∈ ([54, 5, 50] : List Nat) := by simpa using Array.mem_of_getElem? ht
  have hw : ∀ t ∈ ([54, 5, 50] : List Nat), Tryz.prog.wantsStandIn t = false := by
    intro t ht
    simp only [List.mem_cons, List.mem_nil_iff, or_false] at ht
    rcases ht with rfl | rfl | rfl
    · exact (show Tryz.prog.wantsStandIn 54 = false by kernel_rfl)
    · exact (show Tryz.prog.wantsStandIn 5 = false by kernel_rfl)
    · exact (show Tryz.prog.wantsStandIn 50 = false by kernel_rfl)
  exact hw t hm
/-- ████ THE CARD ████ -/
theorem card : Rows.ClockNarrowsCardSaid :=
  Claim7.holds_tied_plain_at .later [] _ _ _ _ said (fun _ h => by cases h) (by kernel_rfl) (fun _ h => by cases h) clockNarrows_row_tie rfl ⟨rfl, rfl⟩ (by kernel_rfl) rfl plain (by kernel_rfl)
end Go.Proofs.YtncogghlhlnmaaaGreatDoor.clockNarrows
namespace Go.Proofs.YtncogghlhlnmaaaGreatDoor
/-- the card -/
theorem clockNarrows_holds : Rows.ClockNarrowsCardSaid := clockNarrows.card
end Go.Proofs.YtncogghlhlnmaaaGreatDoor
