/-
  Part 9: lemmas, and walks through the functions that the laws of chapter 26 call. Each theorem states its own conditions.
-/
import Derived.Test.YtncogghlhlnmaaaGreatDoorA05
import Derived.Test.YtncogghlhlnmaaaGreatDoorA08
set_option linter.unusedVariables false
set_option linter.unusedVariables false
namespace Go.Proofs.YtncogghlhlnmaaaGreatDoor
open Go Go.RowKit Go.Via
set_option maxRecDepth 20000 in
theorem c_ref02_trim (l : List Nat) (hl : ∀ d ∈ l, d < 256) (hn : l.length ≤ 1073741824) {len : Nat} (hlen : l.length = len) (x : SR len) : SCall Tryz.prog 81 [⟨x.b, 3, NV .i64 l, x.n, false⟩] [x.v] Unit (fun _ => slv x.b 0 (digs 256 (val 256 l)).length x.cap) (fun _ => []) := by
 refine ⟨by kernel_rfl, fun w hL0 => ?_⟩
 subst hlen
 refine calls_at (args := [x.v]) Tryz.func81 rfl (Nat.le_of_ble_eq_true rfl) hL0 ?_
 show At w ⟨21, [(0, x.v)], [⟨x.b, 3, NV .i64 l, x.n, false⟩]⟩ _
 refine at_seq (at_region (r_assign rfl rfl rfl (run_nil (at_tn (at_seq (at_region (r_move rfl rfl rfl ?_)))))))
 refine r_lenS u33 rfl rfl rfl ?_
 refine r_assign rfl rfl rfl (run_nil (at_tn (at_seq (at_block ?_))))
 refine enterL (nt := 21) (ι := {m : Nat // m ≤ l.length ∧ val 256 (l.take m) = val 256 l}) (fun ⟨m, hm, hv⟩ => [(0, x.v), (3, .int .i64 (m : Nat))]) (fun ⟨m, hm, hv⟩ => [⟨x.b, 3, NV .i64 l, x.n, false⟩]) (fun ⟨m, hm, hv⟩ => m) ⟨l.length, Nat.le_refl _, by rw [List.take_of_length_le (Nat.le_refl _)]⟩ ⟨rfl, rfl, trivial⟩ (Weak.refl _) ?_
 rintro ⟨m, hm, hv⟩
 show At _ ⟨21, [(0, x.v), (3, .int .i64 (m : Nat))], [⟨x.b, 3, NV .i64 l, x.n, false⟩]⟩ _
 refine at_seq (at_seq (at_region (r_move rfl rfl rfl (r_cmpInt rfl rfl rfl rfl rfl (r_move rfl rfl rfl ?_)))))
 refine r_split 8 rfl (fun hb1 => ?_) (fun hb1 => ?_)
 ·
  have h0 : 0 < m := (by have := of_decide_eq_true hb1; omega)
  refine r_move rfl rfl rfl (r_move rfl rfl rfl ?_)
  refine r_arith (r := ((m - 1 : Nat) : Int)) rfl rfl rfl rfl (congrArg some (wi (by omega) (by omega) (by omega))) ?_
  refine r_indexAddr 0 (m - 1) u33 ti3 rfl rfl rfl rfl rfl (by omega) (by omega) (NV_ne (by omega)) (by show 0 + Int.toNat _ * 1 = _; omega) ?_
  refine r_load1 0 (m - 1) ti3 rfl rfl rfl rfl (NV_get (l := l) (List.getElem?_eq_getElem (by omega))) ?_
  refine r_cmpInt rfl rfl rfl rfl rfl (r_pickT rfl rfl rfl rfl (run_nil (at_tn ?_)))
  refine at_cond rfl (fun hb2 => ?_) (fun hb2 => ?_)
  ·
   have hz : l[m - 1] = 0 := (by have := eq_of_beq hb2; omega)
   refine at_skip (at_tn (at_block (at_region (r_move rfl rfl rfl ?_))))
   refine r_arith (r := ((m - 1 : Nat) : Int)) rfl rfl rfl rfl (congrArg some (wi (by omega) (by omega) (by omega))) ?_
   refine r_assign rfl rfl rfl (run_nil (at_bn (at_tn ?_)))
   exact nextL ⟨m - 1, by omega, trim_step' h0 hm hv (by omega) hz⟩ (by simp only []; omega) ⟨rfl, rfl, trivial⟩ (Weak.refl _)
  ·
   have hz : l[m - 1] ≠ 0 := (by have := ne_of_beq_false hb2; omega)
   refine at_exit (at_te (at_te (at_be (at_tn (at_seq (at_region (r_move rfl rfl rfl (r_move rfl rfl rfl ?_))))))))
   refine r_sliceH m u33 ti3 rfl rfl rfl rfl (by omega) (by have := x.h; omega) (by omega) ?_
   refine r_assign rfl rfl rfl (run_nil (at_tn (at_ret ?_)))
   refine at_end1 rfl (res_tmp rfl) (fun w hL => ⟨(), ?_, hL.picks [] trivial rfl rfl⟩)
   rw [trim_len (B := 256) (by decide) hl hm hv (.inr ⟨by omega, hz⟩)]
 ·
  have h0 : m = 0 := (by have := of_decide_eq_false hb1; omega)
  refine r_no rfl rfl rfl (r_no rfl rfl rfl (r_no rfl rfl rfl (r_no rfl rfl rfl (r_no rfl rfl rfl (r_no rfl rfl rfl (r_pickF rfl rfl rfl rfl (run_nil (at_tn (at_condF rfl (at_exit (at_te (at_te (at_be (at_tn (at_seq (at_region (r_move rfl rfl rfl (r_move rfl rfl rfl ?_))))))))))))))))))
  refine r_sliceH m u33 ti3 rfl rfl rfl rfl (by omega) (by have := x.h; omega) (by omega) ?_
  refine r_assign rfl rfl rfl (run_nil (at_tn (at_ret ?_)))
  refine at_end1 rfl (res_tmp rfl) (fun w hL => ⟨(), ?_, hL.picks [] trivial rfl rfl⟩)
  rw [trim_len (B := 256) (by decide) hl hm hv (.inl h0)]
set_option maxRecDepth 20000 in
theorem c_ref02_compare (a b : Nat) (ha : nb a ≤ 1073741824) (x : SR (nb a)) (y : SR (nb b)) : SCall Tryz.prog 68 [⟨x.b, 3, NV .i64 (D8 a), x.n, false⟩, ⟨y.b, 3, NV .i64 (D8 b), y.n, false⟩] [x.v, y.v] Unit (fun _ => .int .i64 (cmpN a b)) (fun _ => []) := by
 refine ⟨by kernel_rfl, fun w hL0 => ?_⟩
 refine calls_at (args := [x.v, y.v]) Tryz.func68 rfl (Nat.le_of_ble_eq_true rfl) hL0 ?_
 show At w ⟨41, [(0, x.v), (1, y.v)], [⟨x.b, 3, NV .i64 (D8 a), x.n, false⟩, ⟨y.b, 3, NV .i64 (D8 b), y.n, false⟩]⟩ _
 refine at_seq (at_region (r_assign rfl rfl rfl (run_nil (at_tn (at_seq (at_seq (at_region (r_move rfl rfl rfl ?_))))))))
 refine r_lenS u33 rfl rfl rfl ?_
 refine r_move rfl rfl rfl ?_
 refine r_lenS u33 rfl rfl rfl ?_
 refine r_cmpInt rfl rfl rfl rfl rfl (run_nil (at_tn ?_))
 refine at_cond rfl (fun hb0 => ?_) (fun hb0 => ?_)
 ·
  have hl : nb a ≠ nb b := by have := bne_iff_ne.1 hb0; omega
  refine at_seq (at_seq (at_region (r_move rfl rfl rfl ?_)))
  refine r_lenS u33 rfl rfl rfl ?_
  refine r_move rfl rfl rfl ?_
  refine r_lenS u33 rfl rfl rfl ?_
  refine r_cmpInt rfl rfl rfl rfl rfl (run_nil (at_tn ?_))
  refine at_cond rfl (fun hb1 => ?_) (fun hb1 => ?_)
  ·
   have h1 : nb a < nb b := (by have := of_decide_eq_true hb1; omega)
   refine at_seq (at_region (r_assign rfl rfl rfl (run_nil (at_tn (at_ret (at_tr (at_tr ?_)))))))
   refine at_end1 rfl (res_tmp rfl) (fun w hL => ⟨(), ?_, hL.picks [] trivial rfl rfl⟩)
   rw [cmp_len_lt h1]
  ·
   have h1 : nb b < nb a := (by have := of_decide_eq_false hb1; omega)
   refine at_skip (at_tn (at_seq (at_region (r_assign rfl rfl rfl (run_nil (at_tn (at_ret (at_tr ?_))))))))
   refine at_end1 rfl (res_tmp rfl) (fun w hL => ⟨(), ?_, hL.picks [] trivial rfl rfl⟩)
   rw [cmp_len_gt h1]
 ·
  have hl : nb a = nb b := by have := of_bne_f hb0; omega
  refine at_skip (at_tn (at_seq (at_seq (at_region (r_move rfl rfl rfl ?_)))))
  refine r_lenS u33 rfl rfl rfl ?_
  refine r_arith (r := ((nb a : Nat) : Int) - 1) rfl rfl rfl rfl (congrArg some (wi (by omega) (by omega) (by omega))) ?_
  refine r_assign rfl rfl rfl (run_nil (at_tn (at_block ?_)))
  refine enterL (nt := 41) (ι := {p : Nat // p ≤ nb a ∧ a / 256 ^ p = b / 256 ^ p}) (fun ⟨p, hp, he⟩ => [(0, x.v), (1, y.v), (5, .int .i64 ((p : Nat) - 1))]) (fun ⟨p, hp, he⟩ => [⟨x.b, 3, NV .i64 (D8 a), x.n, false⟩, ⟨y.b, 3, NV .i64 (D8 b), y.n, false⟩]) (fun ⟨p, hp, he⟩ => p) ⟨nb a, Nat.le_refl _, cmp_top hl⟩ ⟨rfl, rfl, rfl, trivial⟩ (Weak.refl _) ?_
  rintro ⟨p, hp, he⟩
  show At _ ⟨41, [(0, x.v), (1, y.v), (5, .int .i64 ((p : Nat) - 1))], [⟨x.b, 3, NV .i64 (D8 a), x.n, false⟩, ⟨y.b, 3, NV .i64 (D8 b), y.n, false⟩]⟩ _
  refine at_seq (at_seq (at_region (r_move rfl rfl rfl (r_cmpInt rfl rfl rfl rfl rfl (run_nil (at_tn ?_))))))
  refine at_cond rfl (fun hb2 => ?_) (fun hb2 => ?_)
  ·
   obtain ⟨q, rfl⟩ : ∃ q, p = q + 1 := ⟨p - 1, by have := of_decide_eq_true hb2; omega⟩
   refine at_know 5 (.int .i64 (q : Nat)) rfl (congrArg (Value.int .i64) (by omega)) ?_
   refine at_skip (at_tn (at_seq (at_block (at_seq (at_seq ?_)))))
   refine at_drawn (l' := [⟨_,_,_,_,_,_⟩, ⟨_,_,_,_,_,_⟩, ⟨_,_,_,_,_,_⟩, ⟨_,_,_,_,_,_⟩, ⟨_,_,_,_,_,_⟩, ⟨_,_,_,_,_,_⟩, ⟨_,_,_,_,_,_⟩, ⟨_,_,_,_,_,_⟩, ⟨_,_,_,_,_,_⟩]) [] [0, 1, 2, 3, 4, 5, 6, 7, 8] mixed (by kernel_rfl) rfl (by kernel_rfl) ?_
   refine r_move rfl rfl rfl (r_move rfl rfl rfl ?_)
   refine r_indexAddr 0 (q) u33 ti3 rfl rfl rfl rfl rfl (by omega) (by omega) (NV_ne (by rw [D8_length]; omega)) (by show 0 + Int.toNat _ * 1 = _; omega) ?_
   refine r_load1 0 (q) ti3 rfl rfl rfl rfl (NV_get (D8_get (by omega))) ?_
   refine r_move rfl rfl rfl (r_move rfl rfl rfl ?_)
   refine r_indexAddr 1 (q) u33 ti3 rfl rfl rfl rfl rfl (by omega) (by omega) (NV_ne (by rw [D8_length]; omega)) (by show 0 + Int.toNat _ * 1 = _; omega) ?_
   refine r_load1 1 (q) ti3 rfl rfl rfl rfl (NV_get (D8_get (by omega))) ?_
   refine r_cmpInt rfl rfl rfl rfl rfl (run_nil (at_tn ?_))
   refine at_cond rfl (fun hb3 => ?_) (fun hb3 => ?_)
   ·
    have h1 : a / 256 ^ q % 256 < b / 256 ^ q % 256 := (by have := of_decide_eq_true hb3; omega)
    refine at_seq (at_region (r_assign rfl rfl rfl (run_nil (at_tn (at_ret (at_tr (at_br (at_tr (at_tr (at_br (at_tr ?_)))))))))))
    refine at_end1 rfl (res_tmp rfl) (fun w hL => ⟨(), ?_, hL.picks [] trivial rfl rfl⟩)
    rw [cmp_dig_lt he h1]
   ·
    have h1 : ¬ a / 256 ^ q % 256 < b / 256 ^ q % 256 := (by have := of_decide_eq_false hb3; omega)
    refine at_skip (at_tn (at_seq ?_))
    refine at_drawn (l' := [⟨_,_,_,_,_,_⟩, ⟨_,_,_,_,_,_⟩, ⟨_,_,_,_,_,_⟩, ⟨_,_,_,_,_,_⟩, ⟨_,_,_,_,_,_⟩, ⟨_,_,_,_,_,_⟩, ⟨_,_,_,_,_,_⟩, ⟨_,_,_,_,_,_⟩, ⟨_,_,_,_,_,_⟩]) [] [0, 1, 2, 3, 4, 5, 6, 7, 8] mixed (by kernel_rfl) rfl (by kernel_rfl) ?_
    refine r_move rfl rfl rfl (r_move rfl rfl rfl ?_)
    refine r_indexAddr 0 (q) u33 ti3 rfl rfl rfl rfl rfl (by omega) (by omega) (NV_ne (by rw [D8_length]; omega)) (by show 0 + Int.toNat _ * 1 = _; omega) ?_
    refine r_load1 0 (q) ti3 rfl rfl rfl rfl (NV_get (D8_get (by omega))) ?_
    refine r_move rfl rfl rfl (r_move rfl rfl rfl ?_)
    refine r_indexAddr 1 (q) u33 ti3 rfl rfl rfl rfl rfl (by omega) (by omega) (NV_ne (by rw [D8_length]; omega)) (by show 0 + Int.toNat _ * 1 = _; omega) ?_
    refine r_load1 1 (q) ti3 rfl rfl rfl rfl (NV_get (D8_get (by omega))) ?_
    refine r_cmpInt rfl rfl rfl rfl rfl (run_nil (at_tn ?_))
    refine at_cond rfl (fun hb4 => ?_) (fun hb4 => ?_)
    ·
     have h2 : b / 256 ^ q % 256 < a / 256 ^ q % 256 := (by have := of_decide_eq_true hb4; omega)
     refine at_seq (at_region (r_assign rfl rfl rfl (run_nil (at_tn (at_ret (at_br (at_tr (at_tr (at_br (at_tr ?_))))))))))
     refine at_end1 rfl (res_tmp rfl) (fun w hL => ⟨(), ?_, hL.picks [] trivial rfl rfl⟩)
     rw [cmp_dig_gt he h2]
    ·
     have h2 : ¬ b / 256 ^ q % 256 < a / 256 ^ q % 256 := (by have := of_decide_eq_false hb4; omega)
     refine at_skip (at_bn (at_tn (at_region (r_move rfl rfl rfl ?_))))
     refine r_arith (r := ((q : Nat) : Int) - 1) rfl rfl rfl rfl (congrArg some (wi (by omega) (by omega) (by omega))) ?_
     refine r_assign rfl rfl rfl (run_nil (at_tn ?_))
     exact nextL ⟨q, by omega, cmp_dig_eq he h1 h2⟩ (by simp only []; omega) ⟨rfl, rfl, rfl, trivial⟩ (Weak.refl _)
  ·
   have hp0 : p = 0 := by have := of_decide_eq_false hb2; omega
   subst hp0
   refine at_exit (at_te (at_te (at_be (at_tn (at_seq (at_region (r_assign rfl rfl rfl (run_nil (at_tn (at_ret ?_))))))))))
   refine at_end1 rfl (res_tmp rfl) (fun w hL => ⟨(), ?_, hL.picks [] trivial rfl rfl⟩)
   rw [cmp_end he]
set_option maxRecDepth 20000 in
theorem c_ref02_small (n : Nat) (hn : nb n ≤ 1073741824) (x : SR (nb n)) : SCall Tryz.prog 100 [⟨x.b, 3, NV .i64 (D8 n), x.n, false⟩] [x.v] Unit (fun _ => .tuple #[.int .i64 (if nb n ≤ 7 then (n : Int) else 0), .bool (decide (nb n ≤ 7))]) (fun _ => []) := by
 refine ⟨by kernel_rfl, fun w hL0 => ?_⟩
 refine calls_at (args := [x.v]) Tryz.func100 rfl (Nat.le_of_ble_eq_true rfl) hL0 ?_
 show At w ⟨24, [(0, x.v)], [⟨x.b, 3, NV .i64 (D8 n), x.n, false⟩]⟩ _
 refine at_seq (at_region (r_assign rfl rfl rfl (r_assign rfl rfl rfl (run_nil (at_tn (at_seq (at_seq (at_region (r_move rfl rfl rfl ?_)))))))))
 refine r_lenS u33 rfl rfl rfl ?_
 refine r_cmpInt rfl rfl rfl rfl rfl (run_nil (at_tn ?_))
 refine at_cond rfl (fun hb0 => ?_) (fun hb0 => ?_)
 ·
  have h8 : ¬ nb n ≤ 7 := (by have := of_decide_eq_true hb0; omega)
  refine at_seq (at_region (r_assign rfl rfl rfl (r_assign rfl rfl rfl (run_nil (at_tn (at_ret (at_tr ?_)))))))
  refine at_end2 rfl (res_tmp rfl) (res_tmp rfl) (fun w hL => ⟨(), ?_, hL.picks [] trivial rfl rfl⟩)
  rw [if_neg h8, decide_eq_false h8]
 ·
  have h8 : nb n ≤ 7 := (by have := of_decide_eq_false hb0; omega)
  refine at_skip (at_tn (at_seq (at_region (r_assign rfl rfl rfl (run_nil (at_tn (at_seq (at_seq (at_region (r_move rfl rfl rfl ?_))))))))))
  refine r_lenS u33 rfl rfl rfl ?_
  refine r_arith (r := ((nb n : Nat) : Int) - 1) rfl rfl rfl rfl (congrArg some (wi (by omega) (by omega) (by omega))) ?_
  refine r_assign rfl rfl rfl (run_nil (at_tn (at_block ?_)))
  refine enterL (nt := 24) (ι := {p : Nat // p ≤ nb n}) (fun ⟨p, hp⟩ => [(0, x.v), (4, .int .i64 (n / 256 ^ p : Nat)), (5, .int .i64 ((p : Nat) - 1))]) (fun ⟨p, hp⟩ => [⟨x.b, 3, NV .i64 (D8 n), x.n, false⟩]) (fun ⟨p, hp⟩ => p) ⟨nb n, Nat.le_refl _⟩ ⟨rfl, (look_val rfl (by rw [Nat.div_eq_of_lt (lt_nb n)]; rfl)), rfl, trivial⟩ (Weak.refl _) ?_
  rintro ⟨p, hp⟩
  show At _ ⟨24, [(0, x.v), (4, .int .i64 (n / 256 ^ p : Nat)), (5, .int .i64 ((p : Nat) - 1))], [⟨x.b, 3, NV .i64 (D8 n), x.n, false⟩]⟩ _
  refine at_seq (at_seq (at_region (r_move rfl rfl rfl (r_cmpInt rfl rfl rfl rfl rfl (run_nil (at_tn ?_))))))
  refine at_cond rfl (fun hb2 => ?_) (fun hb2 => ?_)
  ·
   obtain ⟨q, rfl⟩ : ∃ q, p = q + 1 := ⟨p - 1, by have := of_decide_eq_true hb2; omega⟩
   refine at_know 5 (.int .i64 (q : Nat)) rfl (congrArg (Value.int .i64) (by omega)) ?_
   have hs1 := small_lt (q := q) h8
   have hs2 := step256 n q
   refine at_skip (at_tn (at_seq (at_block (at_region (r_move rfl rfl rfl ?_)))))
   refine r_arith (r := ((n / 256 ^ (q + 1) * 256 : Nat) : Int)) rfl rfl rfl rfl (congrArg some (wi (by omega) (by omega) (by omega))) ?_
   refine r_move rfl rfl rfl (r_move rfl rfl rfl ?_)
   refine r_indexAddr 0 (q) u33 ti3 rfl rfl rfl rfl rfl (by omega) (by omega) (NV_ne (by rw [D8_length]; omega)) (by show 0 + Int.toNat _ * 1 = _; omega) ?_
   refine r_load1 0 (q) ti3 rfl rfl rfl rfl (NV_get (D8_get (by omega))) ?_
   refine r_arith (r := ((n / 256 ^ q : Nat) : Int)) rfl rfl rfl rfl (congrArg some (wi (by omega) (by omega) (by omega))) ?_
   refine r_assign rfl rfl rfl (run_nil (at_bn (at_tn (at_region (r_move rfl rfl rfl ?_)))))
   refine r_arith (r := ((q : Nat) : Int) - 1) rfl rfl rfl rfl (congrArg some (wi (by omega) (by omega) (by omega))) ?_
   refine r_assign rfl rfl rfl (run_nil (at_tn ?_))
   exact nextL ⟨q, by omega⟩ (by simp only []; omega) ⟨rfl, rfl, rfl, trivial⟩ (Weak.refl _)
  ·
   have hp0 : p = 0 := by have := of_decide_eq_false hb2; omega
   subst hp0
   refine at_exit (at_te (at_te (at_be (at_tn (at_seq (at_region (r_move rfl rfl rfl (r_assign rfl rfl rfl (r_assign rfl rfl rfl (run_nil (at_tn (at_ret ?_))))))))))))
   refine at_end2 rfl (res_tmp rfl) (res_tmp rfl) (fun w hL => ⟨(), ?_, hL.picks [] trivial rfl rfl⟩)
   rw [if_pos h8, decide_eq_true h8]; simp
set_option maxRecDepth 20000 in
theorem c_ref02_large (n : Nat) (hn : n ≤ 9223372036854775807) : SCall Tryz.prog 101 [] [.int .i64 (n : Nat)] (SR (nb n)) SR.v (fun x => [⟨x.b, 3, NV .i64 (D8 n), x.n, true⟩]) := by
 refine ⟨by kernel_rfl, fun w hL0 => ?_⟩
 have hnb : nb n ≤ 8 := nb_le (by omega)
 refine calls_at (args := [.int .i64 (n : Nat)]) Tryz.func101 rfl (Nat.le_of_ble_eq_true rfl) hL0 ?_
 show At w ⟨14, [(0, .int .i64 (n : Nat))], []⟩ _
 refine at_seq (at_region (r_assign rfl rfl rfl (run_nil (at_tn (at_seq (at_region (r_assign rfl rfl rfl (run_nil (at_tn (at_seq (at_block ?_)))))))))))
 refine enterL (nt := 14) (ι := {x : Nat × Option Nat × Nat × Nat // x.1 ≤ nb n ∧ x.1 ≤ x.2.2.2 ∧ x.2.2.2 ≤ x.2.2.1}) (fun ⟨⟨i, ob, oN, oc⟩, hi, h1, h2⟩ => [(0, .int .i64 (n / 256 ^ i : Nat)), (3, slv ob 0 i oc)]) (fun ⟨⟨i, ob, oN, oc⟩, hi, h1, h2⟩ => [⟨ob, 3, NV .i64 (row i (dg8 n)), oN, true⟩]) (fun ⟨⟨i, ob, oN, oc⟩, hi, h1, h2⟩ => nb n - i) ⟨(0, none, 0, 0), Nat.zero_le _, Nat.le_refl _, Nat.le_refl _⟩ ⟨(look_val rfl (by rw [Nat.pow_zero, Nat.div_one])), rfl, trivial⟩ (weak_picks [none] ⟨⟨rfl, rfl, rfl⟩, trivial⟩ rfl rfl) ?_
 rintro ⟨⟨i, ob, oN, oc⟩, hi, h1, h2⟩
 show At _ ⟨14, [(0, .int .i64 (n / 256 ^ i : Nat)), (3, slv ob 0 i oc)], [⟨ob, 3, NV .i64 (row i (dg8 n)), oN, true⟩]⟩ _
 replace hi : i ≤ nb n := hi
 replace h1 : i ≤ oc := h1
 replace h2 : oc ≤ oN := h2
 refine at_seq (at_seq (at_region (r_move rfl rfl rfl (r_cmpInt rfl rfl rfl rfl rfl (run_nil (at_tn ?_))))))
 refine at_cond rfl (fun hb1 => ?_) (fun hb1 => ?_)
 ·
  have hgt : 0 < n / 256 ^ i := by have := of_decide_eq_true hb1; omega
  have hlt := div_le_nb hgt
  have hle : n / 256 ^ i ≤ n := Nat.div_le_self _ _
  refine at_skip (at_tn (at_block (at_seq (at_region (r_move rfl rfl rfl (r_move rfl rfl rfl ?_))))))
  refine r_div (r := ((dg8 n i : Nat) : Int)) rfl rfl rfl rfl (by omega) (congrArg some (rem_n _ 256 rfl rfl)) ?_
  refine r_buildSlice [(0, _)] (fun g => [_, ⟨some g, 3, _, 1, true⟩]) rfl rfl rfl (bs33_1) rfl (fun _ => rfl) (fun g0 => ?_)
  refine q_append (s := 1) (len := i) (n2 := 1) 0 1 (fun r => [⟨some r.g, 3, NV .i64 (row (i + 1) (dg8 n)), r.n, true⟩, ⟨some g0, 3, _, 1, true⟩]) u33 el3 rfl rfl rfl rfl rfl rfl rfl rfl rfl rfl rfl rfl (by rw [NV_length, row_length]; omega) (by omega) (by show oc * 1 ≤ oN; omega) rfl (Go.Via.one_cell _ _) (by omega) (fun r => congrArg (fun c => [(⟨some r.g, 3, c, r.n, true⟩ : Blk), ⟨some g0, 3, _, 1, true⟩]) (NV_snoc _ _ _ _ (rfl))) (fun r => ?_)
  refine r_assign rfl rfl rfl (run_nil (at_tn (at_region (r_move rfl rfl rfl ?_))))
  refine r_div (r := ((n / 256 ^ (i + 1) : Nat) : Int)) rfl rfl rfl rfl (by omega) (congrArg some ((quo_i _ 256 rfl rfl (by omega)).trans (by rw [div256]))) ?_
  refine r_assign rfl rfl rfl (run_nil (at_bn (at_tn ?_)))
  exact nextL ⟨(i + 1, some r.g, r.n, r.cap), hlt, r.h, by have := r.hn; show r.cap ≤ r.n; omega⟩ (by show nb n - (i + 1) < nb n - i; omega) ⟨rfl, rfl, trivial⟩ (weak_picks [some 0] ⟨⟨_, rfl, Blk.le_refl _⟩, trivial⟩ rfl rfl)
 ·
  have hge := nb_of_div (n := n) (i := i) (by have := of_decide_eq_false hb1; have := Nat.zero_le (n / 256 ^ i); omega) hi
  subst hge
  refine at_exit (at_te (at_te (at_be (at_tn (at_seq (at_region (r_move rfl rfl rfl (r_assign rfl rfl rfl (run_nil (at_tn (at_ret ?_)))))))))))
  refine at_end1 rfl (res_tmp rfl) (fun w hL => ⟨⟨ob, oN, oc, h1⟩, rfl, ?_⟩)
  rw [D8_row] at hL; exact hL
set_option maxRecDepth 20000 in
theorem c_ref02_digits (z : Int) (hz : szI z ≤ 1073741824) : SCall Tryz.prog 61 [] [I z] (SR (nb z.natAbs)) SR.v (fun x => [⟨x.b, 3, NV .i64 (D8 z.natAbs), x.n, true⟩]) := by
 refine ⟨by kernel_rfl, fun w hL0 => ?_⟩
 have hz : nb z.natAbs ≤ 1073741824 := hz
 refine calls_at (args := [I z]) Tryz.func61 rfl (Nat.le_of_ble_eq_true rfl) hL0 ?_
 show At w ⟨23, [(0, I z)], []⟩ _
 refine at_seq (at_region ?_)
 refine r_box [_, _] 2 (fun g => [⟨some g, 61, _, 2, true⟩]) rfl rfl rfl rfl rfl (fun _ => rfl) (fun g0 => ?_)
 refine r_assign rfl rfl rfl (run_nil (at_tn (at_seq (at_region (r_assign rfl rfl rfl (run_nil (at_tn (at_seq (at_seq (at_region ?_))))))))))
 refine r_fieldAddr 0 0 1 rfl rfl rfl rfl rfl ti61 rfl rfl ?_
 refine r_load 0 1 [_] rfl rfl rfl rfl ti9 rfl rfl rfl rfl ?_
 refine r_len rfl u9 rfl rfl ?_
 refine r_know 7 (.int .i64 (nb z.natAbs : Nat)) rfl (by rw [mag_size]) ?_
 refine r_arith (r := ((nb z.natAbs : Nat) : Int) - 1) rfl rfl rfl rfl (congrArg some (wi (by omega) (by omega) (by omega))) ?_
 refine r_assign rfl rfl rfl (run_nil (at_tn (at_block ?_)))
 refine enterL (nt := 23) (ι := {x : Nat × Option Nat × Nat × Nat // x.1 ≤ nb z.natAbs ∧ x.1 ≤ x.2.2.2 ∧ x.2.2.2 ≤ x.2.2.1}) (fun ⟨⟨k, ob, oN, oc⟩, hk, h1, h2⟩ => [(1, .pointer (some ⟨g0, 0, none⟩)), (3, slv ob 0 k oc), (4, .int .i64 ((nb z.natAbs - k : Nat) - 1))]) (fun ⟨⟨k, ob, oN, oc⟩, hk, h1, h2⟩ => [⟨some g0, 61, [.bool (decide (z < 0)), .string (mag z.natAbs)], 2, true⟩, ⟨ob, 3, NV .i64 (row k (dg8 z.natAbs)), oN, true⟩]) (fun ⟨⟨k, ob, oN, oc⟩, hk, h1, h2⟩ => nb z.natAbs - k) ⟨(0, none, 0, 0), Nat.zero_le _, Nat.le_refl _, Nat.le_refl _⟩ ⟨rfl, rfl, rfl, trivial⟩ (weak_picks [some 0, none] ⟨⟨_, rfl, Blk.le_refl _⟩, ⟨rfl, rfl, rfl⟩, trivial⟩ rfl rfl) ?_
 rintro ⟨⟨k, ob, oN, oc⟩, hk, h1, h2⟩
 show At _ ⟨23, [(1, .pointer (some ⟨g0, 0, none⟩)), (3, slv ob 0 k oc), (4, .int .i64 ((nb z.natAbs - k : Nat) - 1))], [⟨some g0, 61, [.bool (decide (z < 0)), .string (mag z.natAbs)], 2, true⟩, ⟨ob, 3, NV .i64 (row k (dg8 z.natAbs)), oN, true⟩]⟩ _
 replace hk : k ≤ nb z.natAbs := hk
 replace h1 : k ≤ oc := h1
 replace h2 : oc ≤ oN := h2
 refine at_seq (at_seq (at_region (r_move rfl rfl rfl (r_cmpInt rfl rfl rfl rfl rfl (run_nil (at_tn ?_))))))
 refine at_cond rfl (fun hb1 => ?_) (fun hb1 => ?_)
 ·
  have hlt : k < nb z.natAbs := by have := of_decide_eq_true hb1; omega
  refine at_know 4 (.int .i64 (nb z.natAbs - 1 - k : Nat)) rfl (congrArg (Value.int .i64) (by omega)) ?_
  refine at_skip (at_tn (at_seq (at_block (at_region (r_move rfl rfl rfl ?_)))))
  refine r_fieldAddr 0 0 1 rfl rfl rfl rfl rfl ti61 rfl rfl ?_
  refine r_load 0 1 [_] rfl rfl rfl rfl ti9 rfl rfl rfl rfl ?_
  refine r_move rfl rfl rfl ?_
  refine r_idxS (b := UInt8.ofNat (z.natAbs / 256 ^ k % 256)) (r := ((z.natAbs / 256 ^ k % 256 : Nat) : Int)) u9 rfl rfl rfl rfl (by omega) (mag_at' z.natAbs k hlt) (u8_nat _) ?_
  refine r_conv (r := ((dg8 z.natAbs k : Nat) : Int)) u5 u3 rfl rfl rfl (wi (by have := dg8_lt z.natAbs k; omega) (by have := dg8_lt z.natAbs k; omega) rfl) ?_
  refine r_buildSlice [(0, _)] (fun g => [_, _, ⟨some g, 3, _, 1, true⟩]) rfl rfl rfl (bs33_1) rfl (fun _ => rfl) (fun g1 => ?_)
  refine q_append (s := 1) (len := k) (n2 := 1) 1 2 (fun r => [_, ⟨some r.g, 3, NV .i64 (row (k + 1) (dg8 z.natAbs)), r.n, true⟩, ⟨some g1, 3, _, 1, true⟩]) u33 el3 rfl rfl rfl rfl rfl rfl rfl rfl rfl rfl rfl rfl (by rw [NV_length, row_length]; omega) (by omega) (by show oc * 1 ≤ oN; omega) rfl (Go.Via.one_cell _ _) (by omega) (fun r => congrArg (fun c => [_, (⟨some r.g, 3, c, r.n, true⟩ : Blk), ⟨some g1, 3, _, 1, true⟩]) (NV_snoc _ _ _ _ (rfl))) (fun r => ?_)
  refine r_assign rfl rfl rfl (run_nil (at_bn (at_tn (at_region (r_move rfl rfl rfl ?_)))))
  refine r_arith (r := ((nb z.natAbs - (k + 1) : Nat) : Int) - 1) rfl rfl rfl rfl (congrArg some (wi (by omega) (by omega) (by omega))) ?_
  refine r_assign rfl rfl rfl (run_nil (at_tn ?_))
  exact nextL ⟨(k + 1, some r.g, r.n, r.cap), hlt, r.h, by have := r.hn; show r.cap ≤ r.n; omega⟩ (by show nb z.natAbs - (k + 1) < nb z.natAbs - k; omega) ⟨rfl, rfl, rfl, trivial⟩ (weak_picks [some 0, some 1] ⟨⟨_, rfl, Blk.le_refl _⟩, ⟨_, rfl, Blk.le_refl _⟩, trivial⟩ rfl rfl)
 ·
  have hge : k = nb z.natAbs := by have := of_decide_eq_false hb1; omega
  subst hge
  refine at_exit (at_te (at_te (at_be (at_tn (at_seq (at_region (r_move rfl rfl rfl ?_)))))))
  refine r_scall0 [_] [1] rfl rfl rfl (c_ref02_trim (row (nb z.natAbs) (dg8 z.natAbs)) (row_lt fun j => dg8_lt _ j) (by rw [row_length]; omega) (row_length _ _) ⟨ob, oN, oc, h1⟩) ⟨⟨_, rfl, le_share⟩, trivial⟩ rfl ?_
  refine r_know 22 (slv ob 0 (nb z.natAbs) oc) rfl (by rw [D8_row_trim]) ?_
  refine r_assign rfl rfl rfl (run_nil (at_tn (at_ret ?_)))
  refine at_end1 rfl (res_tmp rfl) (fun w hL => ⟨⟨ob, oN, oc, h1⟩, rfl, ?_⟩)
  rw [D8_row] at hL; exact hL.picks [some 1] ⟨⟨_, rfl, Blk.le_refl _⟩, trivial⟩ rfl rfl
set_option maxRecDepth 20000 in
theorem c_ref02_whole (n : Nat) (neg : Bool) (hn : nb n ≤ 1073741824) (x : SR (nb n)) : SCall Tryz.prog 62 [⟨x.b, 3, NV .i64 (D8 n), x.n, false⟩] [x.v, .bool neg] Unit (fun _ => I (if neg = true then -(n : Int) else (n : Int))) (fun _ => []) := by
 refine ⟨by kernel_rfl, fun w hL0 => ?_⟩
 refine calls_at (args := [x.v, .bool neg]) Tryz.func62 rfl (Nat.le_of_ble_eq_true rfl) hL0 ?_
 show At w ⟨39, [(0, x.v), (1, .bool neg)], [⟨x.b, 3, NV .i64 (D8 n), x.n, false⟩]⟩ _
 refine at_seq (at_region ?_)
 refine r_alloc [_, _] 2 (fun g => [_, ⟨some g, 61, _, 2, true⟩]) rfl rfl z61 rfl rfl (fun _ => rfl) (fun g0 => ?_)
 refine run_nil (at_tn (at_seq (at_region (r_move rfl rfl rfl ?_))))
 refine r_scall0 [_] [0] rfl rfl rfl (c_ref02_trim (D8 n) (D8_lt n) (by rw [D8_length]; omega) (D8_length n) x) ⟨⟨_, rfl, le_share⟩, trivial⟩ rfl ?_
 refine r_know 8 (slv x.b 0 (nb n) x.cap) rfl (by rw [D8_trim_len]) ?_
 refine r_assign rfl rfl rfl (run_nil (at_tn (at_seq (at_region (r_move rfl rfl rfl ?_)))))
 refine r_lenS u33 rfl rfl rfl ?_
 refine q_makeSlice (c := nb n) (NV .u8 (row (nb n) (bytT n (nb n) 0))) (fun g => [_, _, ⟨some g, 5, _, _, true⟩]) u122 el5 rfl rfl rfl rfl rfl rfl (by omega) (by rw [row_congr (g := fun _ => 0) (fun j _ => bytT_zero n _ j), row_zero, NV_replicate]) (fun _ => rfl) (fun g1 => ?_)
 refine r_assign rfl rfl rfl (run_nil (at_tn (at_seq (at_seq (at_region (r_assign rfl rfl rfl (run_nil (at_tn (at_block ?_)))))))))
 refine enterL (nt := 39) (ι := {i : Nat // i ≤ nb n}) (fun ⟨i, hi⟩ => [(0, slv x.b 0 (nb n) x.cap), (1, .bool neg), (4, .pointer (some ⟨g0, 0, none⟩)), (5, slv (some g1) 0 (nb n) (nb n)), (6, .int .i64 (i : Nat))]) (fun ⟨i, hi⟩ => [⟨x.b, 3, NV .i64 (D8 n), x.n, false⟩, ⟨some g0, 61, [.bool false, .string ⟨#[]⟩], 2, true⟩, ⟨some g1, 5, NV .u8 (row (nb n) (bytT n (nb n) i)), nb n, true⟩]) (fun ⟨i, hi⟩ => nb n - i) ⟨0, Nat.zero_le _⟩ ⟨rfl, rfl, rfl, rfl, rfl, trivial⟩ (Weak.refl _) ?_
 rintro ⟨i, hi⟩
 show At _ ⟨39, [(0, slv x.b 0 (nb n) x.cap), (1, .bool neg), (4, .pointer (some ⟨g0, 0, none⟩)), (5, slv (some g1) 0 (nb n) (nb n)), (6, .int .i64 (i : Nat))], [⟨x.b, 3, NV .i64 (D8 n), x.n, false⟩, ⟨some g0, 61, [.bool false, .string ⟨#[]⟩], 2, true⟩, ⟨some g1, 5, NV .u8 (row (nb n) (bytT n (nb n) i)), nb n, true⟩]⟩ _
 refine at_seq (at_seq (at_region (r_move rfl rfl rfl (r_move rfl rfl rfl ?_))))
 refine r_lenS u33 rfl rfl rfl ?_
 refine r_cmpInt rfl rfl rfl rfl rfl (run_nil (at_tn ?_))
 refine at_cond rfl (fun hb1 => ?_) (fun hb1 => ?_)
 ·
  have hlt : i < nb n := (by have := of_decide_eq_true hb1; omega)
  refine at_skip (at_tn (at_seq (at_block (at_region (r_move rfl rfl rfl (r_move rfl rfl rfl ?_))))))
  refine r_lenS u33 rfl rfl rfl ?_
  refine r_arith (r := ((nb n - 1 : Nat) : Int)) rfl rfl rfl rfl (congrArg some (wi (by omega) (by omega) (by omega))) ?_
  refine r_move rfl rfl rfl ?_
  refine r_arith (r := ((nb n - 1 - i : Nat) : Int)) rfl rfl rfl rfl (congrArg some (wi (by omega) (by omega) (by omega))) ?_
  refine r_move rfl rfl rfl (r_move rfl rfl rfl ?_)
  refine r_indexAddr 0 (i) u33 ti3 rfl rfl rfl rfl rfl (by omega) (by omega) (NV_ne (by rw [D8_length]; omega)) (by show 0 + Int.toNat _ * 1 = _; omega) ?_
  refine r_load1 0 (i) ti3 rfl rfl rfl rfl (NV_get (D8_get (by omega))) ?_
  refine r_conv (r := ((n / 256 ^ i % 256 : Nat) : Int)) u3 u5 rfl rfl rfl ((c8 _ rfl).trans (by rw [Nat.mod_mod])) ?_
  refine r_indexAddr 2 (nb n - 1 - i) u122 ti5 rfl rfl rfl rfl rfl (by omega) (by omega) (NV_ne (by rw [row_length]; omega)) (by show 0 + Int.toNat _ * 1 = _; omega) ?_
  refine r_store1 rfl 2 (nb n - 1 - i) [_, _, ⟨some g1, 5, _, _, true⟩] (NV .u8 (row (nb n) (bytT n (nb n) (i + 1)))) ti5 rfl rfl rfl rfl rfl rfl rfl rfl (by rw [NV_length, row_length]; omega) (bytT_step n (nb n) i _ hlt rfl) rfl ?_
  refine run_nil (at_bn (at_tn (at_region (r_move rfl rfl rfl ?_))))
  refine r_arith (r := ((i + 1 : Nat) : Int)) rfl rfl rfl rfl (congrArg some (wi (by omega) (by omega) (by omega))) ?_
  refine r_assign rfl rfl rfl (run_nil (at_tn ?_))
  exact nextL ⟨i + 1, hlt⟩ (by simp only []; omega) ⟨rfl, rfl, rfl, rfl, rfl, trivial⟩ (Weak.refl _)
 ·
  have hge : i = nb n := (by have := of_decide_eq_false hb1; omega)
  subst hge
  refine at_exit (at_te (at_te (at_be (at_tn (at_seq (at_region (r_move rfl rfl rfl (r_move rfl rfl rfl ?_))))))))
  refine r_split 31 rfl (fun hb2 => ?_) (fun hb2 => ?_)
  ·
   refine r_move rfl rfl rfl ?_
   refine r_lenS u33 rfl rfl rfl ?_
   refine r_cmpInt rfl rfl rfl rfl rfl (r_pickT rfl rfl rfl rfl (r_move rfl rfl rfl ?_))
   refine r_convBS 2 u122 u5 u9 rfl rfl rfl rfl rfl (by rw [List.take_of_length_le (by rw [NV_length, row_length]; exact Nat.le_refl _), bytT_rev]) (by rw [List.length_reverse]; rfl) (strN_mag n) ?_
   refine r_build [(0, _), (1, _)] rfl rfl rfl (bd61_2) ?_
   refine r_store rfl 1 0 [_, ⟨some g0, 61, _, 2, true⟩, _] [_, _] rfl rfl rfl rfl ti61 rfl rfl rfl rfl rfl ?_
   refine run_nil (at_tn (at_ret ?_))
   refine at_end1 rfl (res_cell 1 rfl rfl ti61 (vs := [_, _]) rfl rfl (Nat.le_of_ble_eq_true rfl) rfl) (fun w hL => ⟨(), ?_, hL.picks [] trivial rfl rfl⟩)
   exact congrArg Ending.returned (whole_T n hb2)
  ·
   refine r_no rfl rfl rfl (r_no rfl rfl rfl (r_no rfl rfl rfl (r_pickF rfl rfl rfl rfl (r_move rfl rfl rfl ?_))))
   refine r_convBS 2 u122 u5 u9 rfl rfl rfl rfl rfl (by rw [List.take_of_length_le (by rw [NV_length, row_length]; exact Nat.le_refl _), bytT_rev]) (by rw [List.length_reverse]; rfl) (strN_mag n) ?_
   refine r_build [(0, _), (1, _)] rfl rfl rfl (bd61_2) ?_
   refine r_store rfl 1 0 [_, ⟨some g0, 61, _, 2, true⟩, _] [_, _] rfl rfl rfl rfl ti61 rfl rfl rfl rfl rfl ?_
   refine run_nil (at_tn (at_ret ?_))
   refine at_end1 rfl (res_cell 1 rfl rfl ti61 (vs := [_, _]) rfl rfl (Nat.le_of_ble_eq_true rfl) rfl) (fun w hL => ⟨(), ?_, hL.picks [] trivial rfl rfl⟩)
   exact congrArg Ending.returned (whole_F n hb2)
end Go.Proofs.YtncogghlhlnmaaaGreatDoor
set_option linter.unusedVariables false
namespace Go.Proofs.YtncogghlhlnmaaaGreatDoor
open Go Go.RowKit Go.Via
set_option maxRecDepth 20000 in
theorem c_ref02_plus (a b : Nat) (ha : nb a ≤ 1073741000) (hb : nb b ≤ 1073741000) (x : SR (nb a)) (y : SR (nb b)) : SCall Tryz.prog 67 [⟨x.b, 3, NV .i64 (D8 a), x.n, false⟩, ⟨y.b, 3, NV .i64 (D8 b), y.n, false⟩] [x.v, y.v] (SR (nb (a + b))) SR.v (fun x => [⟨x.b, 3, NV .i64 (D8 (a + b)), x.n, true⟩]) := by
 refine ⟨by kernel_rfl, fun w hL0 => ?_⟩
 refine calls_at (args := [x.v, y.v]) Tryz.func67 rfl (Nat.le_of_ble_eq_true rfl) hL0 ?_
 show At w ⟨53, [(0, x.v), (1, y.v)], [⟨x.b, 3, NV .i64 (D8 a), x.n, false⟩, ⟨y.b, 3, NV .i64 (D8 b), y.n, false⟩]⟩ _
 refine at_seq (at_region (r_assign rfl rfl rfl (run_nil (at_tn (at_seq (at_region (r_assign rfl rfl rfl (run_nil (at_tn (at_seq (at_region (r_assign rfl rfl rfl (run_nil (at_tn (at_seq (at_seq (at_region (r_assign rfl rfl rfl (run_nil (at_tn (at_block ?_)))))))))))))))))))))
 refine enterL (nt := 53) (ι := {x : Nat × Option Nat × Nat × Nat // x.1 ≤ max (nb a) (nb b) + 1 ∧ x.1 ≤ x.2.2.2 ∧ x.2.2.2 ≤ x.2.2.1}) (fun ⟨⟨i, ob, oN, oc⟩, hi, h1, h2⟩ => [(0, x.v), (1, y.v), (5, slv ob 0 i oc), (6, .int .i64 (ad8C a b i : Nat)), (7, .int .i64 (i : Nat))]) (fun ⟨⟨i, ob, oN, oc⟩, hi, h1, h2⟩ => [⟨x.b, 3, NV .i64 (D8 a), x.n, false⟩, ⟨y.b, 3, NV .i64 (D8 b), y.n, false⟩, ⟨ob, 3, NV .i64 (row i (dg8 (a + b))), oN, true⟩]) (fun ⟨⟨i, ob, oN, oc⟩, hi, h1, h2⟩ => max (nb a) (nb b) + 1 - i) ⟨(0, none, 0, 0), Nat.zero_le _, Nat.le_refl _, Nat.le_refl _⟩ ⟨rfl, rfl, rfl, (look_val rfl (by rw [ad8C_zero]; rfl)), rfl, trivial⟩ (weak_picks [some 0, some 1, none] ⟨⟨_, rfl, Blk.le_refl _⟩, ⟨_, rfl, Blk.le_refl _⟩, ⟨rfl, rfl, rfl⟩, trivial⟩ rfl rfl) ?_
 rintro ⟨⟨i, ob, oN, oc⟩, hi, h1, h2⟩
 show At _ ⟨53, [(0, x.v), (1, y.v), (5, slv ob 0 i oc), (6, .int .i64 (ad8C a b i : Nat)), (7, .int .i64 (i : Nat))], [⟨x.b, 3, NV .i64 (D8 a), x.n, false⟩, ⟨y.b, 3, NV .i64 (D8 b), y.n, false⟩, ⟨ob, 3, NV .i64 (row i (dg8 (a + b))), oN, true⟩]⟩ _
 replace hi : i ≤ max (nb a) (nb b) + 1 := hi
 replace h1 : i ≤ oc := h1
 replace h2 : oc ≤ oN := h2
 refine at_seq (at_seq (at_region (r_move rfl rfl rfl (r_move rfl rfl rfl ?_))))
 refine r_lenS u33 rfl rfl rfl ?_
 refine r_cmpInt rfl rfl rfl rfl rfl (r_move rfl rfl rfl ?_)
 refine r_split 12 rfl (fun hb1 => ?_) (fun hb1 => ?_)
 ·
  have hia : i < nb a := (by have := of_decide_eq_true hb1; omega)
  have hmx : i ≤ max (nb a) (nb b) := by omega
  refine r_no rfl rfl rfl (r_no rfl rfl rfl (r_no rfl rfl rfl (r_no rfl rfl rfl (r_pickT rfl rfl rfl rfl (r_move rfl rfl rfl (r_no rfl rfl rfl (r_no rfl rfl rfl (r_pickT rfl rfl rfl rfl (run_nil (at_tn (at_condT rfl (at_skip (at_tn (at_seq (at_block (at_seq (at_seq (at_region (r_move rfl rfl rfl (r_move rfl rfl rfl ?_))))))))))))))))))))
  refine r_lenS u33 rfl rfl rfl ?_
  refine r_cmpInt rfl rfl rfl rfl rfl (run_nil (at_tn ?_))
  refine at_cond rfl (fun hb2 => ?_) (fun hb2 => ?_)
  ·
   have hja : i < nb a := (by have := of_decide_eq_true hb2; omega)
   have hcl := ad8C_le a b i
   have hax := m256 (a / 256 ^ i)
   have hbx := m256 (b / 256 ^ i)
   have hsl := ad8S_lt a b i
   refine at_region (r_move rfl rfl rfl (r_move rfl rfl rfl (r_move rfl rfl rfl ?_)))
   refine r_indexAddr 0 (i) u33 ti3 rfl rfl rfl rfl rfl (by omega) (by omega) (NV_ne (by rw [D8_length]; omega)) (by show 0 + Int.toNat _ * 1 = _; omega) ?_
   refine r_load1 0 (i) ti3 rfl rfl rfl rfl (NV_get (D8_get (by omega))) ?_
   refine r_arith (r := ((ad8C a b i + a / 256 ^ i % 256 : Nat) : Int)) rfl rfl rfl rfl (congrArg some (wi (by omega) (by omega) (by omega))) ?_
   refine r_assign rfl rfl rfl (run_nil (at_tn (at_seq (at_seq (at_region (r_move rfl rfl rfl (r_move rfl rfl rfl ?_)))))))
   refine r_lenS u33 rfl rfl rfl ?_
   refine r_cmpInt rfl rfl rfl rfl rfl (run_nil (at_tn ?_))
   refine at_cond rfl (fun hb3 => ?_) (fun hb3 => ?_)
   ·
    have hjb : i < nb b := (by have := of_decide_eq_true hb3; omega)
    refine at_region (r_move rfl rfl rfl (r_move rfl rfl rfl (r_move rfl rfl rfl ?_)))
    refine r_indexAddr 1 (i) u33 ti3 rfl rfl rfl rfl rfl (by omega) (by omega) (NV_ne (by rw [D8_length]; omega)) (by show 0 + Int.toNat _ * 1 = _; omega) ?_
    refine r_load1 1 (i) ti3 rfl rfl rfl rfl (NV_get (D8_get (by omega))) ?_
    refine r_arith (r := ((ad8S a b i : Nat) : Int)) rfl rfl rfl rfl (congrArg some (wi (by omega) (by omega) (by rw [ad8S_eq]; omega))) ?_
    refine r_assign rfl rfl rfl (run_nil (at_tn (at_seq (at_region (r_move rfl rfl rfl (r_move rfl rfl rfl ?_))))))
    refine r_div (r := ((dg8 (a + b) i : Nat) : Int)) rfl rfl rfl rfl (by omega) (congrArg some ((rem_n _ 256 rfl rfl).trans (by rw [ad8S_low]; rfl))) ?_
    refine r_buildSlice [(0, _)] (fun g => [_, _, _, ⟨some g, 3, _, 1, true⟩]) rfl rfl rfl (bs33_1) rfl (fun _ => rfl) (fun g0 => ?_)
    refine q_append (s := 1) (len := i) (n2 := 1) 2 3 (fun r => [_, _, ⟨some r.g, 3, NV .i64 (row (i + 1) (dg8 (a + b))), r.n, true⟩, ⟨some g0, 3, _, 1, true⟩]) u33 el3 rfl rfl rfl rfl rfl rfl rfl rfl rfl rfl rfl rfl (by rw [NV_length, row_length]; omega) (by omega) (by show oc * 1 ≤ oN; omega) rfl (Go.Via.one_cell _ _) (by omega) (fun r => congrArg (fun c => [_, _, (⟨some r.g, 3, c, r.n, true⟩ : Blk), ⟨some g0, 3, _, 1, true⟩]) (NV_snoc _ _ _ _ (rfl))) (fun r => ?_)
    refine r_assign rfl rfl rfl (run_nil (at_tn (at_region (r_move rfl rfl rfl ?_))))
    refine r_div (r := ((ad8C a b (i + 1) : Nat) : Int)) rfl rfl rfl rfl (by omega) (congrArg some ((quo_i _ 256 rfl rfl (by omega)).trans (by rw [ad8S_carry]))) ?_
    refine r_assign rfl rfl rfl (run_nil (at_bn (at_tn (at_region (r_move rfl rfl rfl ?_)))))
    refine r_arith (r := ((i + 1 : Nat) : Int)) rfl rfl rfl rfl (congrArg some (wi (by omega) (by omega) (by omega))) ?_
    refine r_assign rfl rfl rfl (run_nil (at_tn ?_))
    exact nextL ⟨(i + 1, some r.g, r.n, r.cap), Nat.succ_le_succ hmx, r.h, by have := r.hn; show r.cap ≤ r.n; omega⟩ (by show max (nb a) (nb b) + 1 - (i + 1) < max (nb a) (nb b) + 1 - i; omega) ⟨rfl, rfl, rfl, rfl, rfl, trivial⟩ (weak_picks [some 0, some 1, some 2] ⟨⟨_, rfl, Blk.le_refl _⟩, ⟨_, rfl, Blk.le_refl _⟩, ⟨_, rfl, Blk.le_refl _⟩, trivial⟩ rfl rfl)
   ·
    have hjb : nb b ≤ i := (by have := of_decide_eq_false hb3; omega)
    refine at_know 6 (.int .i64 (ad8S a b i : Nat)) rfl (by rw [ad8S_eq, dg8_above hjb]; rfl) ?_
    refine at_skip (at_tn (at_seq (at_region (r_move rfl rfl rfl (r_move rfl rfl rfl ?_)))))
    refine r_div (r := ((dg8 (a + b) i : Nat) : Int)) rfl rfl rfl rfl (by omega) (congrArg some ((rem_n _ 256 rfl rfl).trans (by rw [ad8S_low]; rfl))) ?_
    refine r_buildSlice [(0, _)] (fun g => [_, _, _, ⟨some g, 3, _, 1, true⟩]) rfl rfl rfl (bs33_1) rfl (fun _ => rfl) (fun g0 => ?_)
    refine q_append (s := 1) (len := i) (n2 := 1) 2 3 (fun r => [_, _, ⟨some r.g, 3, NV .i64 (row (i + 1) (dg8 (a + b))), r.n, true⟩, ⟨some g0, 3, _, 1, true⟩]) u33 el3 rfl rfl rfl rfl rfl rfl rfl rfl rfl rfl rfl rfl (by rw [NV_length, row_length]; omega) (by omega) (by show oc * 1 ≤ oN; omega) rfl (Go.Via.one_cell _ _) (by omega) (fun r => congrArg (fun c => [_, _, (⟨some r.g, 3, c, r.n, true⟩ : Blk), ⟨some g0, 3, _, 1, true⟩]) (NV_snoc _ _ _ _ (rfl))) (fun r => ?_)
    refine r_assign rfl rfl rfl (run_nil (at_tn (at_region (r_move rfl rfl rfl ?_))))
    refine r_div (r := ((ad8C a b (i + 1) : Nat) : Int)) rfl rfl rfl rfl (by omega) (congrArg some ((quo_i _ 256 rfl rfl (by omega)).trans (by rw [ad8S_carry]))) ?_
    refine r_assign rfl rfl rfl (run_nil (at_bn (at_tn (at_region (r_move rfl rfl rfl ?_)))))
    refine r_arith (r := ((i + 1 : Nat) : Int)) rfl rfl rfl rfl (congrArg some (wi (by omega) (by omega) (by omega))) ?_
    refine r_assign rfl rfl rfl (run_nil (at_tn ?_))
    exact nextL ⟨(i + 1, some r.g, r.n, r.cap), Nat.succ_le_succ hmx, r.h, by have := r.hn; show r.cap ≤ r.n; omega⟩ (by show max (nb a) (nb b) + 1 - (i + 1) < max (nb a) (nb b) + 1 - i; omega) ⟨rfl, rfl, rfl, rfl, rfl, trivial⟩ (weak_picks [some 0, some 1, some 2] ⟨⟨_, rfl, Blk.le_refl _⟩, ⟨_, rfl, Blk.le_refl _⟩, ⟨_, rfl, Blk.le_refl _⟩, trivial⟩ rfl rfl)
  ·
   have hja : nb a ≤ i := (by have := of_decide_eq_false hb2; omega)
   have hcl := ad8C_le a b i
   have hax := m256 (a / 256 ^ i)
   have hbx := m256 (b / 256 ^ i)
   have hsl := ad8S_lt a b i
   refine at_know 6 (.int .i64 (ad8C a b i + a / 256 ^ i % 256 : Nat)) rfl (by rw [dg8_above hja]; rfl) ?_
   refine at_skip (at_tn (at_seq (at_seq (at_region (r_move rfl rfl rfl (r_move rfl rfl rfl ?_))))))
   refine r_lenS u33 rfl rfl rfl ?_
   refine r_cmpInt rfl rfl rfl rfl rfl (run_nil (at_tn ?_))
   refine at_cond rfl (fun hb3 => ?_) (fun hb3 => ?_)
   ·
    have hjb : i < nb b := (by have := of_decide_eq_true hb3; omega)
    refine at_region (r_move rfl rfl rfl (r_move rfl rfl rfl (r_move rfl rfl rfl ?_)))
    refine r_indexAddr 1 (i) u33 ti3 rfl rfl rfl rfl rfl (by omega) (by omega) (NV_ne (by rw [D8_length]; omega)) (by show 0 + Int.toNat _ * 1 = _; omega) ?_
    refine r_load1 1 (i) ti3 rfl rfl rfl rfl (NV_get (D8_get (by omega))) ?_
    refine r_arith (r := ((ad8S a b i : Nat) : Int)) rfl rfl rfl rfl (congrArg some (wi (by omega) (by omega) (by rw [ad8S_eq]; omega))) ?_
    refine r_assign rfl rfl rfl (run_nil (at_tn (at_seq (at_region (r_move rfl rfl rfl (r_move rfl rfl rfl ?_))))))
    refine r_div (r := ((dg8 (a + b) i : Nat) : Int)) rfl rfl rfl rfl (by omega) (congrArg some ((rem_n _ 256 rfl rfl).trans (by rw [ad8S_low]; rfl))) ?_
    refine r_buildSlice [(0, _)] (fun g => [_, _, _, ⟨some g, 3, _, 1, true⟩]) rfl rfl rfl (bs33_1) rfl (fun _ => rfl) (fun g0 => ?_)
    refine q_append (s := 1) (len := i) (n2 := 1) 2 3 (fun r => [_, _, ⟨some r.g, 3, NV .i64 (row (i + 1) (dg8 (a + b))), r.n, true⟩, ⟨some g0, 3, _, 1, true⟩]) u33 el3 rfl rfl rfl rfl rfl rfl rfl rfl rfl rfl rfl rfl (by rw [NV_length, row_length]; omega) (by omega) (by show oc * 1 ≤ oN; omega) rfl (Go.Via.one_cell _ _) (by omega) (fun r => congrArg (fun c => [_, _, (⟨some r.g, 3, c, r.n, true⟩ : Blk), ⟨some g0, 3, _, 1, true⟩]) (NV_snoc _ _ _ _ (rfl))) (fun r => ?_)
    refine r_assign rfl rfl rfl (run_nil (at_tn (at_region (r_move rfl rfl rfl ?_))))
    refine r_div (r := ((ad8C a b (i + 1) : Nat) : Int)) rfl rfl rfl rfl (by omega) (congrArg some ((quo_i _ 256 rfl rfl (by omega)).trans (by rw [ad8S_carry]))) ?_
    refine r_assign rfl rfl rfl (run_nil (at_bn (at_tn (at_region (r_move rfl rfl rfl ?_)))))
    refine r_arith (r := ((i + 1 : Nat) : Int)) rfl rfl rfl rfl (congrArg some (wi (by omega) (by omega) (by omega))) ?_
    refine r_assign rfl rfl rfl (run_nil (at_tn ?_))
    exact nextL ⟨(i + 1, some r.g, r.n, r.cap), Nat.succ_le_succ hmx, r.h, by have := r.hn; show r.cap ≤ r.n; omega⟩ (by show max (nb a) (nb b) + 1 - (i + 1) < max (nb a) (nb b) + 1 - i; omega) ⟨rfl, rfl, rfl, rfl, rfl, trivial⟩ (weak_picks [some 0, some 1, some 2] ⟨⟨_, rfl, Blk.le_refl _⟩, ⟨_, rfl, Blk.le_refl _⟩, ⟨_, rfl, Blk.le_refl _⟩, trivial⟩ rfl rfl)
   ·
    have hjb : nb b ≤ i := (by have := of_decide_eq_false hb3; omega)
    refine at_know 6 (.int .i64 (ad8S a b i : Nat)) rfl (by rw [ad8S_eq, dg8_above hjb]; rfl) ?_
    refine at_skip (at_tn (at_seq (at_region (r_move rfl rfl rfl (r_move rfl rfl rfl ?_)))))
    refine r_div (r := ((dg8 (a + b) i : Nat) : Int)) rfl rfl rfl rfl (by omega) (congrArg some ((rem_n _ 256 rfl rfl).trans (by rw [ad8S_low]; rfl))) ?_
    refine r_buildSlice [(0, _)] (fun g => [_, _, _, ⟨some g, 3, _, 1, true⟩]) rfl rfl rfl (bs33_1) rfl (fun _ => rfl) (fun g0 => ?_)
    refine q_append (s := 1) (len := i) (n2 := 1) 2 3 (fun r => [_, _, ⟨some r.g, 3, NV .i64 (row (i + 1) (dg8 (a + b))), r.n, true⟩, ⟨some g0, 3, _, 1, true⟩]) u33 el3 rfl rfl rfl rfl rfl rfl rfl rfl rfl rfl rfl rfl (by rw [NV_length, row_length]; omega) (by omega) (by show oc * 1 ≤ oN; omega) rfl (Go.Via.one_cell _ _) (by omega) (fun r => congrArg (fun c => [_, _, (⟨some r.g, 3, c, r.n, true⟩ : Blk), ⟨some g0, 3, _, 1, true⟩]) (NV_snoc _ _ _ _ (rfl))) (fun r => ?_)
    refine r_assign rfl rfl rfl (run_nil (at_tn (at_region (r_move rfl rfl rfl ?_))))
    refine r_div (r := ((ad8C a b (i + 1) : Nat) : Int)) rfl rfl rfl rfl (by omega) (congrArg some ((quo_i _ 256 rfl rfl (by omega)).trans (by rw [ad8S_carry]))) ?_
    refine r_assign rfl rfl rfl (run_nil (at_bn (at_tn (at_region (r_move rfl rfl rfl ?_)))))
    refine r_arith (r := ((i + 1 : Nat) : Int)) rfl rfl rfl rfl (congrArg some (wi (by omega) (by omega) (by omega))) ?_
    refine r_assign rfl rfl rfl (run_nil (at_tn ?_))
    exact nextL ⟨(i + 1, some r.g, r.n, r.cap), Nat.succ_le_succ hmx, r.h, by have := r.hn; show r.cap ≤ r.n; omega⟩ (by show max (nb a) (nb b) + 1 - (i + 1) < max (nb a) (nb b) + 1 - i; omega) ⟨rfl, rfl, rfl, rfl, rfl, trivial⟩ (weak_picks [some 0, some 1, some 2] ⟨⟨_, rfl, Blk.le_refl _⟩, ⟨_, rfl, Blk.le_refl _⟩, ⟨_, rfl, Blk.le_refl _⟩, trivial⟩ rfl rfl)
 ·
  have hia : nb a ≤ i := (by have := of_decide_eq_false hb1; omega)
  refine r_move rfl rfl rfl (r_move rfl rfl rfl ?_)
  refine r_lenS u33 rfl rfl rfl ?_
  refine r_cmpInt rfl rfl rfl rfl rfl (r_pickF rfl rfl rfl rfl (r_move rfl rfl rfl ?_))
  refine r_split 18 rfl (fun hb2 => ?_) (fun hb2 => ?_)
  ·
   have hib : i < nb b := (by have := of_decide_eq_true hb2; omega)
   have hmx : i ≤ max (nb a) (nb b) := by omega
   refine r_no rfl rfl rfl (r_no rfl rfl rfl (r_pickT rfl rfl rfl rfl (run_nil (at_tn (at_condT rfl (at_skip (at_tn (at_seq (at_block (at_seq (at_seq (at_region (r_move rfl rfl rfl (r_move rfl rfl rfl ?_))))))))))))))
   refine r_lenS u33 rfl rfl rfl ?_
   refine r_cmpInt rfl rfl rfl rfl rfl (run_nil (at_tn ?_))
   refine at_cond rfl (fun hb3 => ?_) (fun hb3 => ?_)
   ·
    have hja : i < nb a := (by have := of_decide_eq_true hb3; omega)
    have hcl := ad8C_le a b i
    have hax := m256 (a / 256 ^ i)
    have hbx := m256 (b / 256 ^ i)
    have hsl := ad8S_lt a b i
    refine at_region (r_move rfl rfl rfl (r_move rfl rfl rfl (r_move rfl rfl rfl ?_)))
    refine r_indexAddr 0 (i) u33 ti3 rfl rfl rfl rfl rfl (by omega) (by omega) (NV_ne (by rw [D8_length]; omega)) (by show 0 + Int.toNat _ * 1 = _; omega) ?_
    refine r_load1 0 (i) ti3 rfl rfl rfl rfl (NV_get (D8_get (by omega))) ?_
    refine r_arith (r := ((ad8C a b i + a / 256 ^ i % 256 : Nat) : Int)) rfl rfl rfl rfl (congrArg some (wi (by omega) (by omega) (by omega))) ?_
    refine r_assign rfl rfl rfl (run_nil (at_tn (at_seq (at_seq (at_region (r_move rfl rfl rfl (r_move rfl rfl rfl ?_)))))))
    refine r_lenS u33 rfl rfl rfl ?_
    refine r_cmpInt rfl rfl rfl rfl rfl (run_nil (at_tn ?_))
    refine at_cond rfl (fun hb4 => ?_) (fun hb4 => ?_)
    ·
     have hjb : i < nb b := (by have := of_decide_eq_true hb4; omega)
     refine at_region (r_move rfl rfl rfl (r_move rfl rfl rfl (r_move rfl rfl rfl ?_)))
     refine r_indexAddr 1 (i) u33 ti3 rfl rfl rfl rfl rfl (by omega) (by omega) (NV_ne (by rw [D8_length]; omega)) (by show 0 + Int.toNat _ * 1 = _; omega) ?_
     refine r_load1 1 (i) ti3 rfl rfl rfl rfl (NV_get (D8_get (by omega))) ?_
     refine r_arith (r := ((ad8S a b i : Nat) : Int)) rfl rfl rfl rfl (congrArg some (wi (by omega) (by omega) (by rw [ad8S_eq]; omega))) ?_
     refine r_assign rfl rfl rfl (run_nil (at_tn (at_seq (at_region (r_move rfl rfl rfl (r_move rfl rfl rfl ?_))))))
     refine r_div (r := ((dg8 (a + b) i : Nat) : Int)) rfl rfl rfl rfl (by omega) (congrArg some ((rem_n _ 256 rfl rfl).trans (by rw [ad8S_low]; rfl))) ?_
     refine r_buildSlice [(0, _)] (fun g => [_, _, _, ⟨some g, 3, _, 1, true⟩]) rfl rfl rfl (bs33_1) rfl (fun _ => rfl) (fun g0 => ?_)
     refine q_append (s := 1) (len := i) (n2 := 1) 2 3 (fun r => [_, _, ⟨some r.g, 3, NV .i64 (row (i + 1) (dg8 (a + b))), r.n, true⟩, ⟨some g0, 3, _, 1, true⟩]) u33 el3 rfl rfl rfl rfl rfl rfl rfl rfl rfl rfl rfl rfl (by rw [NV_length, row_length]; omega) (by omega) (by show oc * 1 ≤ oN; omega) rfl (Go.Via.one_cell _ _) (by omega) (fun r => congrArg (fun c => [_, _, (⟨some r.g, 3, c, r.n, true⟩ : Blk), ⟨some g0, 3, _, 1, true⟩]) (NV_snoc _ _ _ _ (rfl))) (fun r => ?_)
     refine r_assign rfl rfl rfl (run_nil (at_tn (at_region (r_move rfl rfl rfl ?_))))
     refine r_div (r := ((ad8C a b (i + 1) : Nat) : Int)) rfl rfl rfl rfl (by omega) (congrArg some ((quo_i _ 256 rfl rfl (by omega)).trans (by rw [ad8S_carry]))) ?_
     refine r_assign rfl rfl rfl (run_nil (at_bn (at_tn (at_region (r_move rfl rfl rfl ?_)))))
     refine r_arith (r := ((i + 1 : Nat) : Int)) rfl rfl rfl rfl (congrArg some (wi (by omega) (by omega) (by omega))) ?_
     refine r_assign rfl rfl rfl (run_nil (at_tn ?_))
     exact nextL ⟨(i + 1, some r.g, r.n, r.cap), Nat.succ_le_succ hmx, r.h, by have := r.hn; show r.cap ≤ r.n; omega⟩ (by show max (nb a) (nb b) + 1 - (i + 1) < max (nb a) (nb b) + 1 - i; omega) ⟨rfl, rfl, rfl, rfl, rfl, trivial⟩ (weak_picks [some 0, some 1, some 2] ⟨⟨_, rfl, Blk.le_refl _⟩, ⟨_, rfl, Blk.le_refl _⟩, ⟨_, rfl, Blk.le_refl _⟩, trivial⟩ rfl rfl)
    ·
     have hjb : nb b ≤ i := (by have := of_decide_eq_false hb4; omega)
     refine at_know 6 (.int .i64 (ad8S a b i : Nat)) rfl (by rw [ad8S_eq, dg8_above hjb]; rfl) ?_
     refine at_skip (at_tn (at_seq (at_region (r_move rfl rfl rfl (r_move rfl rfl rfl ?_)))))
     refine r_div (r := ((dg8 (a + b) i : Nat) : Int)) rfl rfl rfl rfl (by omega) (congrArg some ((rem_n _ 256 rfl rfl).trans (by rw [ad8S_low]; rfl))) ?_
     refine r_buildSlice [(0, _)] (fun g => [_, _, _, ⟨some g, 3, _, 1, true⟩]) rfl rfl rfl (bs33_1) rfl (fun _ => rfl) (fun g0 => ?_)
     refine q_append (s := 1) (len := i) (n2 := 1) 2 3 (fun r => [_, _, ⟨some r.g, 3, NV .i64 (row (i + 1) (dg8 (a + b))), r.n, true⟩, ⟨some g0, 3, _, 1, true⟩]) u33 el3 rfl rfl rfl rfl rfl rfl rfl rfl rfl rfl rfl rfl (by rw [NV_length, row_length]; omega) (by omega) (by show oc * 1 ≤ oN; omega) rfl (Go.Via.one_cell _ _) (by omega) (fun r => congrArg (fun c => [_, _, (⟨some r.g, 3, c, r.n, true⟩ : Blk), ⟨some g0, 3, _, 1, true⟩]) (NV_snoc _ _ _ _ (rfl))) (fun r => ?_)
     refine r_assign rfl rfl rfl (run_nil (at_tn (at_region (r_move rfl rfl rfl ?_))))
     refine r_div (r := ((ad8C a b (i + 1) : Nat) : Int)) rfl rfl rfl rfl (by omega) (congrArg some ((quo_i _ 256 rfl rfl (by omega)).trans (by rw [ad8S_carry]))) ?_
     refine r_assign rfl rfl rfl (run_nil (at_bn (at_tn (at_region (r_move rfl rfl rfl ?_)))))
     refine r_arith (r := ((i + 1 : Nat) : Int)) rfl rfl rfl rfl (congrArg some (wi (by omega) (by omega) (by omega))) ?_
     refine r_assign rfl rfl rfl (run_nil (at_tn ?_))
     exact nextL ⟨(i + 1, some r.g, r.n, r.cap), Nat.succ_le_succ hmx, r.h, by have := r.hn; show r.cap ≤ r.n; omega⟩ (by show max (nb a) (nb b) + 1 - (i + 1) < max (nb a) (nb b) + 1 - i; omega) ⟨rfl, rfl, rfl, rfl, rfl, trivial⟩ (weak_picks [some 0, some 1, some 2] ⟨⟨_, rfl, Blk.le_refl _⟩, ⟨_, rfl, Blk.le_refl _⟩, ⟨_, rfl, Blk.le_refl _⟩, trivial⟩ rfl rfl)
   ·
    have hja : nb a ≤ i := (by have := of_decide_eq_false hb3; omega)
    have hcl := ad8C_le a b i
    have hax := m256 (a / 256 ^ i)
    have hbx := m256 (b / 256 ^ i)
    have hsl := ad8S_lt a b i
    refine at_know 6 (.int .i64 (ad8C a b i + a / 256 ^ i % 256 : Nat)) rfl (by rw [dg8_above hja]; rfl) ?_
    refine at_skip (at_tn (at_seq (at_seq (at_region (r_move rfl rfl rfl (r_move rfl rfl rfl ?_))))))
    refine r_lenS u33 rfl rfl rfl ?_
    refine r_cmpInt rfl rfl rfl rfl rfl (run_nil (at_tn ?_))
    refine at_cond rfl (fun hb4 => ?_) (fun hb4 => ?_)
    ·
     have hjb : i < nb b := (by have := of_decide_eq_true hb4; omega)
     refine at_region (r_move rfl rfl rfl (r_move rfl rfl rfl (r_move rfl rfl rfl ?_)))
     refine r_indexAddr 1 (i) u33 ti3 rfl rfl rfl rfl rfl (by omega) (by omega) (NV_ne (by rw [D8_length]; omega)) (by show 0 + Int.toNat _ * 1 = _; omega) ?_
     refine r_load1 1 (i) ti3 rfl rfl rfl rfl (NV_get (D8_get (by omega))) ?_
     refine r_arith (r := ((ad8S a b i : Nat) : Int)) rfl rfl rfl rfl (congrArg some (wi (by omega) (by omega) (by rw [ad8S_eq]; omega))) ?_
     refine r_assign rfl rfl rfl (run_nil (at_tn (at_seq (at_region (r_move rfl rfl rfl (r_move rfl rfl rfl ?_))))))
     refine r_div (r := ((dg8 (a + b) i : Nat) : Int)) rfl rfl rfl rfl (by omega) (congrArg some ((rem_n _ 256 rfl rfl).trans (by rw [ad8S_low]; rfl))) ?_
     refine r_buildSlice [(0, _)] (fun g => [_, _, _, ⟨some g, 3, _, 1, true⟩]) rfl rfl rfl (bs33_1) rfl (fun _ => rfl) (fun g0 => ?_)
     refine q_append (s := 1) (len := i) (n2 := 1) 2 3 (fun r => [_, _, ⟨some r.g, 3, NV .i64 (row (i + 1) (dg8 (a + b))), r.n, true⟩, ⟨some g0, 3, _, 1, true⟩]) u33 el3 rfl rfl rfl rfl rfl rfl rfl rfl rfl rfl rfl rfl (by rw [NV_length, row_length]; omega) (by omega) (by show oc * 1 ≤ oN; omega) rfl (Go.Via.one_cell _ _) (by omega) (fun r => congrArg (fun c => [_, _, (⟨some r.g, 3, c, r.n, true⟩ : Blk), ⟨some g0, 3, _, 1, true⟩]) (NV_snoc _ _ _ _ (rfl))) (fun r => ?_)
     refine r_assign rfl rfl rfl (run_nil (at_tn (at_region (r_move rfl rfl rfl ?_))))
     refine r_div (r := ((ad8C a b (i + 1) : Nat) : Int)) rfl rfl rfl rfl (by omega) (congrArg some ((quo_i _ 256 rfl rfl (by omega)).trans (by rw [ad8S_carry]))) ?_
     refine r_assign rfl rfl rfl (run_nil (at_bn (at_tn (at_region (r_move rfl rfl rfl ?_)))))
     refine r_arith (r := ((i + 1 : Nat) : Int)) rfl rfl rfl rfl (congrArg some (wi (by omega) (by omega) (by omega))) ?_
     refine r_assign rfl rfl rfl (run_nil (at_tn ?_))
     exact nextL ⟨(i + 1, some r.g, r.n, r.cap), Nat.succ_le_succ hmx, r.h, by have := r.hn; show r.cap ≤ r.n; omega⟩ (by show max (nb a) (nb b) + 1 - (i + 1) < max (nb a) (nb b) + 1 - i; omega) ⟨rfl, rfl, rfl, rfl, rfl, trivial⟩ (weak_picks [some 0, some 1, some 2] ⟨⟨_, rfl, Blk.le_refl _⟩, ⟨_, rfl, Blk.le_refl _⟩, ⟨_, rfl, Blk.le_refl _⟩, trivial⟩ rfl rfl)
    ·
     have hjb : nb b ≤ i := (by have := of_decide_eq_false hb4; omega)
     refine at_know 6 (.int .i64 (ad8S a b i : Nat)) rfl (by rw [ad8S_eq, dg8_above hjb]; rfl) ?_
     refine at_skip (at_tn (at_seq (at_region (r_move rfl rfl rfl (r_move rfl rfl rfl ?_)))))
     refine r_div (r := ((dg8 (a + b) i : Nat) : Int)) rfl rfl rfl rfl (by omega) (congrArg some ((rem_n _ 256 rfl rfl).trans (by rw [ad8S_low]; rfl))) ?_
     refine r_buildSlice [(0, _)] (fun g => [_, _, _, ⟨some g, 3, _, 1, true⟩]) rfl rfl rfl (bs33_1) rfl (fun _ => rfl) (fun g0 => ?_)
     refine q_append (s := 1) (len := i) (n2 := 1) 2 3 (fun r => [_, _, ⟨some r.g, 3, NV .i64 (row (i + 1) (dg8 (a + b))), r.n, true⟩, ⟨some g0, 3, _, 1, true⟩]) u33 el3 rfl rfl rfl rfl rfl rfl rfl rfl rfl rfl rfl rfl (by rw [NV_length, row_length]; omega) (by omega) (by show oc * 1 ≤ oN; omega) rfl (Go.Via.one_cell _ _) (by omega) (fun r => congrArg (fun c => [_, _, (⟨some r.g, 3, c, r.n, true⟩ : Blk), ⟨some g0, 3, _, 1, true⟩]) (NV_snoc _ _ _ _ (rfl))) (fun r => ?_)
     refine r_assign rfl rfl rfl (run_nil (at_tn (at_region (r_move rfl rfl rfl ?_))))
     refine r_div (r := ((ad8C a b (i + 1) : Nat) : Int)) rfl rfl rfl rfl (by omega) (congrArg some ((quo_i _ 256 rfl rfl (by omega)).trans (by rw [ad8S_carry]))) ?_
     refine r_assign rfl rfl rfl (run_nil (at_bn (at_tn (at_region (r_move rfl rfl rfl ?_)))))
     refine r_arith (r := ((i + 1 : Nat) : Int)) rfl rfl rfl rfl (congrArg some (wi (by omega) (by omega) (by omega))) ?_
     refine r_assign rfl rfl rfl (run_nil (at_tn ?_))
     exact nextL ⟨(i + 1, some r.g, r.n, r.cap), Nat.succ_le_succ hmx, r.h, by have := r.hn; show r.cap ≤ r.n; omega⟩ (by show max (nb a) (nb b) + 1 - (i + 1) < max (nb a) (nb b) + 1 - i; omega) ⟨rfl, rfl, rfl, rfl, rfl, trivial⟩ (weak_picks [some 0, some 1, some 2] ⟨⟨_, rfl, Blk.le_refl _⟩, ⟨_, rfl, Blk.le_refl _⟩, ⟨_, rfl, Blk.le_refl _⟩, trivial⟩ rfl rfl)
  ·
   have hib : nb b ≤ i := (by have := of_decide_eq_false hb2; omega)
   refine r_move rfl rfl rfl (r_cmpInt rfl rfl rfl rfl rfl (r_pickF rfl rfl rfl rfl (run_nil (at_tn ?_))))
   refine at_cond rfl (fun hb3 => ?_) (fun hb3 => ?_)
   ·
    have hmx := plus_more a b i (by have := of_decide_eq_true hb3; omega) hia hib
    refine at_skip (at_tn (at_seq (at_block (at_seq (at_seq (at_region (r_move rfl rfl rfl (r_move rfl rfl rfl ?_))))))))
    refine r_lenS u33 rfl rfl rfl ?_
    refine r_cmpInt rfl rfl rfl rfl rfl (run_nil (at_tn ?_))
    refine at_cond rfl (fun hb4 => ?_) (fun hb4 => ?_)
    ·
     have hja : i < nb a := (by have := of_decide_eq_true hb4; omega)
     have hcl := ad8C_le a b i
     have hax := m256 (a / 256 ^ i)
     have hbx := m256 (b / 256 ^ i)
     have hsl := ad8S_lt a b i
     refine at_region (r_move rfl rfl rfl (r_move rfl rfl rfl (r_move rfl rfl rfl ?_)))
     refine r_indexAddr 0 (i) u33 ti3 rfl rfl rfl rfl rfl (by omega) (by omega) (NV_ne (by rw [D8_length]; omega)) (by show 0 + Int.toNat _ * 1 = _; omega) ?_
     refine r_load1 0 (i) ti3 rfl rfl rfl rfl (NV_get (D8_get (by omega))) ?_
     refine r_arith (r := ((ad8C a b i + a / 256 ^ i % 256 : Nat) : Int)) rfl rfl rfl rfl (congrArg some (wi (by omega) (by omega) (by omega))) ?_
     refine r_assign rfl rfl rfl (run_nil (at_tn (at_seq (at_seq (at_region (r_move rfl rfl rfl (r_move rfl rfl rfl ?_)))))))
     refine r_lenS u33 rfl rfl rfl ?_
     refine r_cmpInt rfl rfl rfl rfl rfl (run_nil (at_tn ?_))
     refine at_cond rfl (fun hb5 => ?_) (fun hb5 => ?_)
     ·
      have hjb : i < nb b := (by have := of_decide_eq_true hb5; omega)
      refine at_region (r_move rfl rfl rfl (r_move rfl rfl rfl (r_move rfl rfl rfl ?_)))
      refine r_indexAddr 1 (i) u33 ti3 rfl rfl rfl rfl rfl (by omega) (by omega) (NV_ne (by rw [D8_length]; omega)) (by show 0 + Int.toNat _ * 1 = _; omega) ?_
      refine r_load1 1 (i) ti3 rfl rfl rfl rfl (NV_get (D8_get (by omega))) ?_
      refine r_arith (r := ((ad8S a b i : Nat) : Int)) rfl rfl rfl rfl (congrArg some (wi (by omega) (by omega) (by rw [ad8S_eq]; omega))) ?_
      refine r_assign rfl rfl rfl (run_nil (at_tn (at_seq (at_region (r_move rfl rfl rfl (r_move rfl rfl rfl ?_))))))
      refine r_div (r := ((dg8 (a + b) i : Nat) : Int)) rfl rfl rfl rfl (by omega) (congrArg some ((rem_n _ 256 rfl rfl).trans (by rw [ad8S_low]; rfl))) ?_
      refine r_buildSlice [(0, _)] (fun g => [_, _, _, ⟨some g, 3, _, 1, true⟩]) rfl rfl rfl (bs33_1) rfl (fun _ => rfl) (fun g0 => ?_)
      refine q_append (s := 1) (len := i) (n2 := 1) 2 3 (fun r => [_, _, ⟨some r.g, 3, NV .i64 (row (i + 1) (dg8 (a + b))), r.n, true⟩, ⟨some g0, 3, _, 1, true⟩]) u33 el3 rfl rfl rfl rfl rfl rfl rfl rfl rfl rfl rfl rfl (by rw [NV_length, row_length]; omega) (by omega) (by show oc * 1 ≤ oN; omega) rfl (Go.Via.one_cell _ _) (by omega) (fun r => congrArg (fun c => [_, _, (⟨some r.g, 3, c, r.n, true⟩ : Blk), ⟨some g0, 3, _, 1, true⟩]) (NV_snoc _ _ _ _ (rfl))) (fun r => ?_)
      refine r_assign rfl rfl rfl (run_nil (at_tn (at_region (r_move rfl rfl rfl ?_))))
      refine r_div (r := ((ad8C a b (i + 1) : Nat) : Int)) rfl rfl rfl rfl (by omega) (congrArg some ((quo_i _ 256 rfl rfl (by omega)).trans (by rw [ad8S_carry]))) ?_
      refine r_assign rfl rfl rfl (run_nil (at_bn (at_tn (at_region (r_move rfl rfl rfl ?_)))))
      refine r_arith (r := ((i + 1 : Nat) : Int)) rfl rfl rfl rfl (congrArg some (wi (by omega) (by omega) (by omega))) ?_
      refine r_assign rfl rfl rfl (run_nil (at_tn ?_))
      exact nextL ⟨(i + 1, some r.g, r.n, r.cap), Nat.succ_le_succ hmx, r.h, by have := r.hn; show r.cap ≤ r.n; omega⟩ (by show max (nb a) (nb b) + 1 - (i + 1) < max (nb a) (nb b) + 1 - i; omega) ⟨rfl, rfl, rfl, rfl, rfl, trivial⟩ (weak_picks [some 0, some 1, some 2] ⟨⟨_, rfl, Blk.le_refl _⟩, ⟨_, rfl, Blk.le_refl _⟩, ⟨_, rfl, Blk.le_refl _⟩, trivial⟩ rfl rfl)
     ·
      have hjb : nb b ≤ i := (by have := of_decide_eq_false hb5; omega)
      refine at_know 6 (.int .i64 (ad8S a b i : Nat)) rfl (by rw [ad8S_eq, dg8_above hjb]; rfl) ?_
      refine at_skip (at_tn (at_seq (at_region (r_move rfl rfl rfl (r_move rfl rfl rfl ?_)))))
      refine r_div (r := ((dg8 (a + b) i : Nat) : Int)) rfl rfl rfl rfl (by omega) (congrArg some ((rem_n _ 256 rfl rfl).trans (by rw [ad8S_low]; rfl))) ?_
      refine r_buildSlice [(0, _)] (fun g => [_, _, _, ⟨some g, 3, _, 1, true⟩]) rfl rfl rfl (bs33_1) rfl (fun _ => rfl) (fun g0 => ?_)
      refine q_append (s := 1) (len := i) (n2 := 1) 2 3 (fun r => [_, _, ⟨some r.g, 3, NV .i64 (row (i + 1) (dg8 (a + b))), r.n, true⟩, ⟨some g0, 3, _, 1, true⟩]) u33 el3 rfl rfl rfl rfl rfl rfl rfl rfl rfl rfl rfl rfl (by rw [NV_length, row_length]; omega) (by omega) (by show oc * 1 ≤ oN; omega) rfl (Go.Via.one_cell _ _) (by omega) (fun r => congrArg (fun c => [_, _, (⟨some r.g, 3, c, r.n, true⟩ : Blk), ⟨some g0, 3, _, 1, true⟩]) (NV_snoc _ _ _ _ (rfl))) (fun r => ?_)
      refine r_assign rfl rfl rfl (run_nil (at_tn (at_region (r_move rfl rfl rfl ?_))))
      refine r_div (r := ((ad8C a b (i + 1) : Nat) : Int)) rfl rfl rfl rfl (by omega) (congrArg some ((quo_i _ 256 rfl rfl (by omega)).trans (by rw [ad8S_carry]))) ?_
      refine r_assign rfl rfl rfl (run_nil (at_bn (at_tn (at_region (r_move rfl rfl rfl ?_)))))
      refine r_arith (r := ((i + 1 : Nat) : Int)) rfl rfl rfl rfl (congrArg some (wi (by omega) (by omega) (by omega))) ?_
      refine r_assign rfl rfl rfl (run_nil (at_tn ?_))
      exact nextL ⟨(i + 1, some r.g, r.n, r.cap), Nat.succ_le_succ hmx, r.h, by have := r.hn; show r.cap ≤ r.n; omega⟩ (by show max (nb a) (nb b) + 1 - (i + 1) < max (nb a) (nb b) + 1 - i; omega) ⟨rfl, rfl, rfl, rfl, rfl, trivial⟩ (weak_picks [some 0, some 1, some 2] ⟨⟨_, rfl, Blk.le_refl _⟩, ⟨_, rfl, Blk.le_refl _⟩, ⟨_, rfl, Blk.le_refl _⟩, trivial⟩ rfl rfl)
    ·
     have hja : nb a ≤ i := (by have := of_decide_eq_false hb4; omega)
     have hcl := ad8C_le a b i
     have hax := m256 (a / 256 ^ i)
     have hbx := m256 (b / 256 ^ i)
     have hsl := ad8S_lt a b i
     refine at_know 6 (.int .i64 (ad8C a b i + a / 256 ^ i % 256 : Nat)) rfl (by rw [dg8_above hja]; rfl) ?_
     refine at_skip (at_tn (at_seq (at_seq (at_region (r_move rfl rfl rfl (r_move rfl rfl rfl ?_))))))
     refine r_lenS u33 rfl rfl rfl ?_
     refine r_cmpInt rfl rfl rfl rfl rfl (run_nil (at_tn ?_))
     refine at_cond rfl (fun hb5 => ?_) (fun hb5 => ?_)
     ·
      have hjb : i < nb b := (by have := of_decide_eq_true hb5; omega)
      refine at_region (r_move rfl rfl rfl (r_move rfl rfl rfl (r_move rfl rfl rfl ?_)))
      refine r_indexAddr 1 (i) u33 ti3 rfl rfl rfl rfl rfl (by omega) (by omega) (NV_ne (by rw [D8_length]; omega)) (by show 0 + Int.toNat _ * 1 = _; omega) ?_
      refine r_load1 1 (i) ti3 rfl rfl rfl rfl (NV_get (D8_get (by omega))) ?_
      refine r_arith (r := ((ad8S a b i : Nat) : Int)) rfl rfl rfl rfl (congrArg some (wi (by omega) (by omega) (by rw [ad8S_eq]; omega))) ?_
      refine r_assign rfl rfl rfl (run_nil (at_tn (at_seq (at_region (r_move rfl rfl rfl (r_move rfl rfl rfl ?_))))))
      refine r_div (r := ((dg8 (a + b) i : Nat) : Int)) rfl rfl rfl rfl (by omega) (congrArg some ((rem_n _ 256 rfl rfl).trans (by rw [ad8S_low]; rfl))) ?_
      refine r_buildSlice [(0, _)] (fun g => [_, _, _, ⟨some g, 3, _, 1, true⟩]) rfl rfl rfl (bs33_1) rfl (fun _ => rfl) (fun g0 => ?_)
      refine q_append (s := 1) (len := i) (n2 := 1) 2 3 (fun r => [_, _, ⟨some r.g, 3, NV .i64 (row (i + 1) (dg8 (a + b))), r.n, true⟩, ⟨some g0, 3, _, 1, true⟩]) u33 el3 rfl rfl rfl rfl rfl rfl rfl rfl rfl rfl rfl rfl (by rw [NV_length, row_length]; omega) (by omega) (by show oc * 1 ≤ oN; omega) rfl (Go.Via.one_cell _ _) (by omega) (fun r => congrArg (fun c => [_, _, (⟨some r.g, 3, c, r.n, true⟩ : Blk), ⟨some g0, 3, _, 1, true⟩]) (NV_snoc _ _ _ _ (rfl))) (fun r => ?_)
      refine r_assign rfl rfl rfl (run_nil (at_tn (at_region (r_move rfl rfl rfl ?_))))
      refine r_div (r := ((ad8C a b (i + 1) : Nat) : Int)) rfl rfl rfl rfl (by omega) (congrArg some ((quo_i _ 256 rfl rfl (by omega)).trans (by rw [ad8S_carry]))) ?_
      refine r_assign rfl rfl rfl (run_nil (at_bn (at_tn (at_region (r_move rfl rfl rfl ?_)))))
      refine r_arith (r := ((i + 1 : Nat) : Int)) rfl rfl rfl rfl (congrArg some (wi (by omega) (by omega) (by omega))) ?_
      refine r_assign rfl rfl rfl (run_nil (at_tn ?_))
      exact nextL ⟨(i + 1, some r.g, r.n, r.cap), Nat.succ_le_succ hmx, r.h, by have := r.hn; show r.cap ≤ r.n; omega⟩ (by show max (nb a) (nb b) + 1 - (i + 1) < max (nb a) (nb b) + 1 - i; omega) ⟨rfl, rfl, rfl, rfl, rfl, trivial⟩ (weak_picks [some 0, some 1, some 2] ⟨⟨_, rfl, Blk.le_refl _⟩, ⟨_, rfl, Blk.le_refl _⟩, ⟨_, rfl, Blk.le_refl _⟩, trivial⟩ rfl rfl)
     ·
      have hjb : nb b ≤ i := (by have := of_decide_eq_false hb5; omega)
      refine at_know 6 (.int .i64 (ad8S a b i : Nat)) rfl (by rw [ad8S_eq, dg8_above hjb]; rfl) ?_
      refine at_skip (at_tn (at_seq (at_region (r_move rfl rfl rfl (r_move rfl rfl rfl ?_)))))
      refine r_div (r := ((dg8 (a + b) i : Nat) : Int)) rfl rfl rfl rfl (by omega) (congrArg some ((rem_n _ 256 rfl rfl).trans (by rw [ad8S_low]; rfl))) ?_
      refine r_buildSlice [(0, _)] (fun g => [_, _, _, ⟨some g, 3, _, 1, true⟩]) rfl rfl rfl (bs33_1) rfl (fun _ => rfl) (fun g0 => ?_)
      refine q_append (s := 1) (len := i) (n2 := 1) 2 3 (fun r => [_, _, ⟨some r.g, 3, NV .i64 (row (i + 1) (dg8 (a + b))), r.n, true⟩, ⟨some g0, 3, _, 1, true⟩]) u33 el3 rfl rfl rfl rfl rfl rfl rfl rfl rfl rfl rfl rfl (by rw [NV_length, row_length]; omega) (by omega) (by show oc * 1 ≤ oN; omega) rfl (Go.Via.one_cell _ _) (by omega) (fun r => congrArg (fun c => [_, _, (⟨some r.g, 3, c, r.n, true⟩ : Blk), ⟨some g0, 3, _, 1, true⟩]) (NV_snoc _ _ _ _ (rfl))) (fun r => ?_)
      refine r_assign rfl rfl rfl (run_nil (at_tn (at_region (r_move rfl rfl rfl ?_))))
      refine r_div (r := ((ad8C a b (i + 1) : Nat) : Int)) rfl rfl rfl rfl (by omega) (congrArg some ((quo_i _ 256 rfl rfl (by omega)).trans (by rw [ad8S_carry]))) ?_
      refine r_assign rfl rfl rfl (run_nil (at_bn (at_tn (at_region (r_move rfl rfl rfl ?_)))))
      refine r_arith (r := ((i + 1 : Nat) : Int)) rfl rfl rfl rfl (congrArg some (wi (by omega) (by omega) (by omega))) ?_
      refine r_assign rfl rfl rfl (run_nil (at_tn ?_))
      exact nextL ⟨(i + 1, some r.g, r.n, r.cap), Nat.succ_le_succ hmx, r.h, by have := r.hn; show r.cap ≤ r.n; omega⟩ (by show max (nb a) (nb b) + 1 - (i + 1) < max (nb a) (nb b) + 1 - i; omega) ⟨rfl, rfl, rfl, rfl, rfl, trivial⟩ (weak_picks [some 0, some 1, some 2] ⟨⟨_, rfl, Blk.le_refl _⟩, ⟨_, rfl, Blk.le_refl _⟩, ⟨_, rfl, Blk.le_refl _⟩, trivial⟩ rfl rfl)
   ·
    have hab := plus_val a b i hia hib (by have := of_decide_eq_false hb3; omega)
    have hnab : nb (a + b) ≤ i := nb_le hab
    refine at_exit (at_te (at_te (at_be (at_tn (at_seq (at_region (r_move rfl rfl rfl ?_)))))))
    refine r_scall0 [_] [2] rfl rfl rfl (c_ref02_trim (row i (dg8 (a + b))) (row_lt fun j => dg8_lt _ j) (by rw [row_length]; omega) (row_length _ _) ⟨ob, oN, oc, h1⟩) ⟨⟨_, rfl, le_share⟩, trivial⟩ rfl ?_
    refine r_know 52 (slv ob 0 (nb (a + b)) oc) rfl (by rw [row_trim _ _ hab]; rfl) ?_
    refine r_assign rfl rfl rfl (run_nil (at_tn (at_ret ?_)))
    refine at_end1 rfl (res_tmp rfl) (fun w hL => ⟨⟨ob, oN, oc, by omega⟩, rfl, ?_⟩)
    exact hL.picks [some 2] ⟨⟨_, rfl, rfl, rfl, rfl, ⟨nb (a + b), row_take _ _ hab⟩, fun _ => rfl⟩, trivial⟩ rfl rfl
end Go.Proofs.YtncogghlhlnmaaaGreatDoor
set_option linter.unusedVariables false
namespace Go.Proofs.YtncogghlhlnmaaaGreatDoor
open Go Go.RowKit Go.Via
set_option maxRecDepth 20000 in
theorem c_ref02_minus (a b : Nat) (ha : nb a ≤ 1073741000) (hle : b ≤ a) (x : SR (nb a)) (y : SR (nb b)) : SCall Tryz.prog 69 [⟨x.b, 3, NV .i64 (D8 a), x.n, false⟩, ⟨y.b, 3, NV .i64 (D8 b), y.n, false⟩] [x.v, y.v] (SR (nb (a - b))) SR.v (fun x => [⟨x.b, 3, NV .i64 (D8 (a - b)), x.n, true⟩]) := by
 refine ⟨by kernel_rfl, fun w hL0 => ?_⟩
 have hb : nb b ≤ 1073741000 := Nat.le_trans (nb_mono hle) ha
 refine calls_at (args := [x.v, y.v]) Tryz.func69 rfl (Nat.le_of_ble_eq_true rfl) hL0 ?_
 show At w ⟨41, [(0, x.v), (1, y.v)], [⟨x.b, 3, NV .i64 (D8 a), x.n, false⟩, ⟨y.b, 3, NV .i64 (D8 b), y.n, false⟩]⟩ _
 refine at_seq (at_region (r_assign rfl rfl rfl (run_nil (at_tn (at_seq (at_region (r_assign rfl rfl rfl (run_nil (at_tn (at_seq (at_region (r_assign rfl rfl rfl (run_nil (at_tn (at_seq (at_seq (at_region (r_assign rfl rfl rfl (run_nil (at_tn (at_block ?_)))))))))))))))))))))
 refine enterL (nt := 41) (ι := {x : Nat × Option Nat × Nat × Nat // x.1 ≤ nb a ∧ x.1 ≤ x.2.2.2 ∧ x.2.2.2 ≤ x.2.2.1}) (fun ⟨⟨i, ob, oN, oc⟩, hi, h1, h2⟩ => [(0, x.v), (1, y.v), (5, slv ob 0 i oc), (6, .int .i64 (su8B a b i : Nat)), (7, .int .i64 (i : Nat))]) (fun ⟨⟨i, ob, oN, oc⟩, hi, h1, h2⟩ => [⟨x.b, 3, NV .i64 (D8 a), x.n, false⟩, ⟨y.b, 3, NV .i64 (D8 b), y.n, false⟩, ⟨ob, 3, NV .i64 (row i (dg8 (a - b))), oN, true⟩]) (fun ⟨⟨i, ob, oN, oc⟩, hi, h1, h2⟩ => nb a - i) ⟨(0, none, 0, 0), Nat.zero_le _, Nat.le_refl _, Nat.le_refl _⟩ ⟨rfl, rfl, rfl, (look_val rfl (by rw [su8B_zero]; rfl)), rfl, trivial⟩ (weak_picks [some 0, some 1, none] ⟨⟨_, rfl, Blk.le_refl _⟩, ⟨_, rfl, Blk.le_refl _⟩, ⟨rfl, rfl, rfl⟩, trivial⟩ rfl rfl) ?_
 rintro ⟨⟨i, ob, oN, oc⟩, hi, h1, h2⟩
 show At _ ⟨41, [(0, x.v), (1, y.v), (5, slv ob 0 i oc), (6, .int .i64 (su8B a b i : Nat)), (7, .int .i64 (i : Nat))], [⟨x.b, 3, NV .i64 (D8 a), x.n, false⟩, ⟨y.b, 3, NV .i64 (D8 b), y.n, false⟩, ⟨ob, 3, NV .i64 (row i (dg8 (a - b))), oN, true⟩]⟩ _
 replace hi : i ≤ nb a := hi
 replace h1 : i ≤ oc := h1
 replace h2 : oc ≤ oN := h2
 refine at_seq (at_seq (at_region (r_move rfl rfl rfl (r_move rfl rfl rfl ?_))))
 refine r_lenS u33 rfl rfl rfl ?_
 refine r_cmpInt rfl rfl rfl rfl rfl (run_nil (at_tn ?_))
 refine at_cond rfl (fun hb1 => ?_) (fun hb1 => ?_)
 ·
  have hlt : i < nb a := (by have := of_decide_eq_true hb1; omega)
  have hb1 := su8B_le a b i
  have hax := m256 (a / 256 ^ i)
  have hbx := m256 (b / 256 ^ i)
  have hdx := m256 ((a - b) / 256 ^ i)
  refine at_skip (at_tn (at_seq (at_block (at_seq (at_region (r_move rfl rfl rfl (r_move rfl rfl rfl ?_)))))))
  refine r_indexAddr 0 (i) u33 ti3 rfl rfl rfl rfl rfl (by omega) (by omega) (NV_ne (by rw [D8_length]; omega)) (by show 0 + Int.toNat _ * 1 = _; omega) ?_
  refine r_load1 0 (i) ti3 rfl rfl rfl rfl (NV_get (D8_get (by omega))) ?_
  refine r_move rfl rfl rfl ?_
  refine r_arith (r := (((a / 256 ^ i % 256 : Nat) : Int) - ((su8B a b i : Nat) : Int))) rfl rfl rfl rfl (congrArg some (wi (by omega) (by omega) (by omega))) ?_
  refine r_assign rfl rfl rfl (run_nil (at_tn (at_seq (at_seq (at_region (r_move rfl rfl rfl (r_move rfl rfl rfl ?_)))))))
  refine r_lenS u33 rfl rfl rfl ?_
  refine r_cmpInt rfl rfl rfl rfl rfl (run_nil (at_tn ?_))
  refine at_cond rfl (fun hb2 => ?_) (fun hb2 => ?_)
  ·
   have hjb : i < nb b := (by have := of_decide_eq_true hb2; omega)
   refine at_region (r_move rfl rfl rfl (r_move rfl rfl rfl (r_move rfl rfl rfl ?_)))
   refine r_indexAddr 1 (i) u33 ti3 rfl rfl rfl rfl rfl (by omega) (by omega) (NV_ne (by rw [D8_length]; omega)) (by show 0 + Int.toNat _ * 1 = _; omega) ?_
   refine r_load1 1 (i) ti3 rfl rfl rfl rfl (NV_get (D8_get (by omega))) ?_
   refine r_arith (r := (((a / 256 ^ i % 256 : Nat) : Int) - ((su8B a b i : Nat) : Int) - ((b / 256 ^ i % 256 : Nat) : Int))) rfl rfl rfl rfl (congrArg some (wi (by omega) (by omega) (by omega))) ?_
   refine r_assign rfl rfl rfl (run_nil (at_tn (at_seq (at_region (r_assign rfl rfl rfl (run_nil (at_tn (at_seq (at_seq (at_region (r_move rfl rfl rfl (r_cmpInt rfl rfl rfl rfl rfl (run_nil (at_tn ?_))))))))))))))
   refine at_cond rfl (fun hb3 => ?_) (fun hb3 => ?_)
   ·
    obtain ⟨hd1, hd2⟩ := su8_neg (m := a) (n := b) (i := i) hle (by have := of_decide_eq_true hb3; omega)
    refine at_region (r_move rfl rfl rfl ?_)
    refine r_arith (r := (((a - b) / 256 ^ i % 256 : Nat) : Int)) rfl rfl rfl rfl (congrArg some (wi (by omega) (by omega) (by omega))) ?_
    refine r_assign rfl rfl rfl (r_assign rfl rfl rfl (run_nil (at_tn (at_region (r_move rfl rfl rfl (r_move rfl rfl rfl ?_))))))
    refine r_buildSlice [(0, _)] (fun g => [_, _, _, ⟨some g, 3, _, 1, true⟩]) rfl rfl rfl (bs33_1) rfl (fun _ => rfl) (fun g0 => ?_)
    refine q_append (s := 1) (len := i) (n2 := 1) 2 3 (fun r => [_, _, ⟨some r.g, 3, NV .i64 (row (i + 1) (dg8 (a - b))), r.n, true⟩, ⟨some g0, 3, _, 1, true⟩]) u33 el3 rfl rfl rfl rfl rfl rfl rfl rfl rfl rfl rfl rfl (by rw [NV_length, row_length]; omega) (by omega) (by show oc * 1 ≤ oN; omega) rfl (Go.Via.one_cell _ _) (by omega) (fun r => congrArg (fun c => [_, _, (⟨some r.g, 3, c, r.n, true⟩ : Blk), ⟨some g0, 3, _, 1, true⟩]) (NV_snoc _ _ _ _ (rfl))) (fun r => ?_)
    refine r_assign rfl rfl rfl (run_nil (at_bn (at_tn (at_region (r_move rfl rfl rfl ?_)))))
    refine r_arith (r := ((i + 1 : Nat) : Int)) rfl rfl rfl rfl (congrArg some (wi (by omega) (by omega) (by omega))) ?_
    refine r_assign rfl rfl rfl (run_nil (at_tn ?_))
    exact nextL ⟨(i + 1, some r.g, r.n, r.cap), hlt, r.h, by have := r.hn; show r.cap ≤ r.n; omega⟩ (by show nb a - (i + 1) < nb a - i; omega) ⟨rfl, rfl, rfl, (look_val rfl (by rw [hd2]; rfl)), rfl, trivial⟩ (weak_picks [some 0, some 1, some 2] ⟨⟨_, rfl, Blk.le_refl _⟩, ⟨_, rfl, Blk.le_refl _⟩, ⟨_, rfl, Blk.le_refl _⟩, trivial⟩ rfl rfl)
   ·
    obtain ⟨hd1, hd2⟩ := su8_pos (m := a) (n := b) (i := i) hle (by have := of_decide_eq_false hb3; omega)
    refine at_know 8 (.int .i64 ((a - b) / 256 ^ i % 256 : Nat)) rfl (congrArg (Value.int .i64) (by omega)) ?_
    refine at_skip (at_tn (at_region (r_move rfl rfl rfl (r_move rfl rfl rfl ?_))))
    refine r_buildSlice [(0, _)] (fun g => [_, _, _, ⟨some g, 3, _, 1, true⟩]) rfl rfl rfl (bs33_1) rfl (fun _ => rfl) (fun g0 => ?_)
    refine q_append (s := 1) (len := i) (n2 := 1) 2 3 (fun r => [_, _, ⟨some r.g, 3, NV .i64 (row (i + 1) (dg8 (a - b))), r.n, true⟩, ⟨some g0, 3, _, 1, true⟩]) u33 el3 rfl rfl rfl rfl rfl rfl rfl rfl rfl rfl rfl rfl (by rw [NV_length, row_length]; omega) (by omega) (by show oc * 1 ≤ oN; omega) rfl (Go.Via.one_cell _ _) (by omega) (fun r => congrArg (fun c => [_, _, (⟨some r.g, 3, c, r.n, true⟩ : Blk), ⟨some g0, 3, _, 1, true⟩]) (NV_snoc _ _ _ _ (rfl))) (fun r => ?_)
    refine r_assign rfl rfl rfl (run_nil (at_bn (at_tn (at_region (r_move rfl rfl rfl ?_)))))
    refine r_arith (r := ((i + 1 : Nat) : Int)) rfl rfl rfl rfl (congrArg some (wi (by omega) (by omega) (by omega))) ?_
    refine r_assign rfl rfl rfl (run_nil (at_tn ?_))
    exact nextL ⟨(i + 1, some r.g, r.n, r.cap), hlt, r.h, by have := r.hn; show r.cap ≤ r.n; omega⟩ (by show nb a - (i + 1) < nb a - i; omega) ⟨rfl, rfl, rfl, (look_val rfl (by rw [hd2]; rfl)), rfl, trivial⟩ (weak_picks [some 0, some 1, some 2] ⟨⟨_, rfl, Blk.le_refl _⟩, ⟨_, rfl, Blk.le_refl _⟩, ⟨_, rfl, Blk.le_refl _⟩, trivial⟩ rfl rfl)
  ·
   have hjb : nb b ≤ i := (by have := of_decide_eq_false hb2; omega)
   refine at_know 8 (.int .i64 ((a / 256 ^ i % 256 : Nat) - (su8B a b i : Nat) - (b / 256 ^ i % 256 : Nat))) rfl (congrArg (Value.int .i64) (by rw [dg8_above hjb]; omega)) ?_
   refine at_skip (at_tn (at_seq (at_region (r_assign rfl rfl rfl (run_nil (at_tn (at_seq (at_seq (at_region (r_move rfl rfl rfl (r_cmpInt rfl rfl rfl rfl rfl (run_nil (at_tn ?_)))))))))))))
   refine at_cond rfl (fun hb3 => ?_) (fun hb3 => ?_)
   ·
    obtain ⟨hd1, hd2⟩ := su8_neg (m := a) (n := b) (i := i) hle (by have := of_decide_eq_true hb3; omega)
    refine at_region (r_move rfl rfl rfl ?_)
    refine r_arith (r := (((a - b) / 256 ^ i % 256 : Nat) : Int)) rfl rfl rfl rfl (congrArg some (wi (by omega) (by omega) (by omega))) ?_
    refine r_assign rfl rfl rfl (r_assign rfl rfl rfl (run_nil (at_tn (at_region (r_move rfl rfl rfl (r_move rfl rfl rfl ?_))))))
    refine r_buildSlice [(0, _)] (fun g => [_, _, _, ⟨some g, 3, _, 1, true⟩]) rfl rfl rfl (bs33_1) rfl (fun _ => rfl) (fun g0 => ?_)
    refine q_append (s := 1) (len := i) (n2 := 1) 2 3 (fun r => [_, _, ⟨some r.g, 3, NV .i64 (row (i + 1) (dg8 (a - b))), r.n, true⟩, ⟨some g0, 3, _, 1, true⟩]) u33 el3 rfl rfl rfl rfl rfl rfl rfl rfl rfl rfl rfl rfl (by rw [NV_length, row_length]; omega) (by omega) (by show oc * 1 ≤ oN; omega) rfl (Go.Via.one_cell _ _) (by omega) (fun r => congrArg (fun c => [_, _, (⟨some r.g, 3, c, r.n, true⟩ : Blk), ⟨some g0, 3, _, 1, true⟩]) (NV_snoc _ _ _ _ (rfl))) (fun r => ?_)
    refine r_assign rfl rfl rfl (run_nil (at_bn (at_tn (at_region (r_move rfl rfl rfl ?_)))))
    refine r_arith (r := ((i + 1 : Nat) : Int)) rfl rfl rfl rfl (congrArg some (wi (by omega) (by omega) (by omega))) ?_
    refine r_assign rfl rfl rfl (run_nil (at_tn ?_))
    exact nextL ⟨(i + 1, some r.g, r.n, r.cap), hlt, r.h, by have := r.hn; show r.cap ≤ r.n; omega⟩ (by show nb a - (i + 1) < nb a - i; omega) ⟨rfl, rfl, rfl, (look_val rfl (by rw [hd2]; rfl)), rfl, trivial⟩ (weak_picks [some 0, some 1, some 2] ⟨⟨_, rfl, Blk.le_refl _⟩, ⟨_, rfl, Blk.le_refl _⟩, ⟨_, rfl, Blk.le_refl _⟩, trivial⟩ rfl rfl)
   ·
    obtain ⟨hd1, hd2⟩ := su8_pos (m := a) (n := b) (i := i) hle (by have := of_decide_eq_false hb3; omega)
    refine at_know 8 (.int .i64 ((a - b) / 256 ^ i % 256 : Nat)) rfl (congrArg (Value.int .i64) (by omega)) ?_
    refine at_skip (at_tn (at_region (r_move rfl rfl rfl (r_move rfl rfl rfl ?_))))
    refine r_buildSlice [(0, _)] (fun g => [_, _, _, ⟨some g, 3, _, 1, true⟩]) rfl rfl rfl (bs33_1) rfl (fun _ => rfl) (fun g0 => ?_)
    refine q_append (s := 1) (len := i) (n2 := 1) 2 3 (fun r => [_, _, ⟨some r.g, 3, NV .i64 (row (i + 1) (dg8 (a - b))), r.n, true⟩, ⟨some g0, 3, _, 1, true⟩]) u33 el3 rfl rfl rfl rfl rfl rfl rfl rfl rfl rfl rfl rfl (by rw [NV_length, row_length]; omega) (by omega) (by show oc * 1 ≤ oN; omega) rfl (Go.Via.one_cell _ _) (by omega) (fun r => congrArg (fun c => [_, _, (⟨some r.g, 3, c, r.n, true⟩ : Blk), ⟨some g0, 3, _, 1, true⟩]) (NV_snoc _ _ _ _ (rfl))) (fun r => ?_)
    refine r_assign rfl rfl rfl (run_nil (at_bn (at_tn (at_region (r_move rfl rfl rfl ?_)))))
    refine r_arith (r := ((i + 1 : Nat) : Int)) rfl rfl rfl rfl (congrArg some (wi (by omega) (by omega) (by omega))) ?_
    refine r_assign rfl rfl rfl (run_nil (at_tn ?_))
    exact nextL ⟨(i + 1, some r.g, r.n, r.cap), hlt, r.h, by have := r.hn; show r.cap ≤ r.n; omega⟩ (by show nb a - (i + 1) < nb a - i; omega) ⟨rfl, rfl, rfl, (look_val rfl (by rw [hd2]; rfl)), rfl, trivial⟩ (weak_picks [some 0, some 1, some 2] ⟨⟨_, rfl, Blk.le_refl _⟩, ⟨_, rfl, Blk.le_refl _⟩, ⟨_, rfl, Blk.le_refl _⟩, trivial⟩ rfl rfl)
 ·
  have hge : i = nb a := (by have := of_decide_eq_false hb1; omega)
  subst hge
  have hab : a - b < 256 ^ nb a := Nat.lt_of_le_of_lt (Nat.sub_le _ _) (lt_nb a)
  have hnab : nb (a - b) ≤ nb a := nb_mono (Nat.sub_le _ _)
  refine at_exit (at_te (at_te (at_be (at_tn (at_seq (at_region (r_move rfl rfl rfl ?_)))))))
  refine r_scall0 [_] [2] rfl rfl rfl (c_ref02_trim (row (nb a) (dg8 (a - b))) (row_lt fun j => dg8_lt _ j) (by rw [row_length]; omega) (row_length _ _) ⟨ob, oN, oc, h1⟩) ⟨⟨_, rfl, le_share⟩, trivial⟩ rfl ?_
  refine r_know 40 (slv ob 0 (nb (a - b)) oc) rfl (by rw [row_trim _ _ hab]; rfl) ?_
  refine r_assign rfl rfl rfl (run_nil (at_tn (at_ret ?_)))
  refine at_end1 rfl (res_tmp rfl) (fun w hL => ⟨⟨ob, oN, oc, by omega⟩, rfl, ?_⟩)
  exact hL.picks [some 2] ⟨⟨_, rfl, rfl, rfl, rfl, ⟨nb (a - b), row_take _ _ hab⟩, fun _ => rfl⟩, trivial⟩ rfl rfl
end Go.Proofs.YtncogghlhlnmaaaGreatDoor
set_option linter.unusedVariables false
namespace Go.Proofs.YtncogghlhlnmaaaGreatDoor
open Go Go.RowKit Go.Via
set_option maxRecDepth 20000 in
theorem c_ref02_divide (a b : Nat) (hb : 0 < b) (ha : nb a ≤ 1073740000) (hbn : nb b ≤ 1073740000) (x : SR (nb a)) (y : SR (nb b)) : SCall Tryz.prog 80 [⟨x.b, 3, NV .i64 (D8 a), x.n, false⟩, ⟨y.b, 3, NV .i64 (D8 b), y.n, false⟩] [x.v, y.v] ((SR (nb (a / b)) × SR (nb (a % b))) ⊕ PLift (a < b)) (divRes x) divNew := by
 refine ⟨by kernel_rfl, fun w hL0 => ?_⟩
 refine calls_at (args := [x.v, y.v]) Tryz.func80 rfl (Nat.le_of_ble_eq_true rfl) hL0 ?_
 show At w ⟨105, [(0, x.v), (1, y.v)], [⟨x.b, 3, NV .i64 (D8 a), x.n, false⟩, ⟨y.b, 3, NV .i64 (D8 b), y.n, false⟩]⟩ _
 refine at_seq (at_region (r_assign rfl rfl rfl (r_assign rfl rfl rfl (run_nil (at_tn (at_seq (at_region (r_move rfl rfl rfl ?_))))))))
 refine r_scall0 [_] [0] rfl rfl rfl (c_ref02_small a (by omega) x) ⟨⟨_, rfl, le_share⟩, trivial⟩ rfl ?_
 refine r_move rfl rfl rfl ?_
 refine r_extract (vs := [_, _]) rfl rfl rfl rfl ?_
 refine r_extract (vs := [_, _]) rfl rfl rfl rfl ?_
 refine r_assign rfl rfl rfl (r_assign rfl rfl rfl (run_nil (at_tn (at_seq (at_region (r_move rfl rfl rfl ?_))))))
 refine r_scall0 [_] [1] rfl rfl rfl (c_ref02_small b (by omega) y) ⟨⟨_, rfl, le_share⟩, trivial⟩ rfl ?_
 refine r_move rfl rfl rfl ?_
 refine r_extract (vs := [_, _]) rfl rfl rfl rfl ?_
 refine r_extract (vs := [_, _]) rfl rfl rfl rfl ?_
 refine r_assign rfl rfl rfl (r_assign rfl rfl rfl (run_nil (at_tn (at_seq (at_seq (at_region (r_move rfl rfl rfl (r_move rfl rfl rfl ?_))))))))
 refine r_split 24 rfl (fun hb0 => ?_) (fun hb0 => ?_)
 ·
  have h1 : nb a ≤ 7 := of_decide_eq_true hb0
  refine r_move rfl rfl rfl (r_pickT rfl rfl rfl rfl (r_move rfl rfl rfl ?_))
  refine r_split 27 rfl (fun hb1 => ?_) (fun hb1 => ?_)
  ·
   have h2 : nb b ≤ 7 := of_decide_eq_true hb1
   refine r_move rfl rfl rfl (r_cmpInt rfl rfl rfl rfl rfl (r_pickT rfl rfl rfl rfl (run_nil (at_tn ?_))))
   refine at_cond rfl (fun hb2 => ?_) (fun hb2 => ?_)
   ·
    have hA : a < 72057594037927936 := Nat.lt_of_lt_of_le (lt_nb a) (pow256_le h1)
    have hB : b < 72057594037927936 := Nat.lt_of_lt_of_le (lt_nb b) (pow256_le h2)
    have hq1 : a / b ≤ a := Nat.div_le_self _ _
    have hr1 : a % b < b := Nat.mod_lt _ hb
    refine at_know 6 (.int .i64 (a : Nat)) rfl (by rw [if_pos h1]) ?_
    refine at_know 8 (.int .i64 (b : Nat)) rfl (by rw [if_pos h2]) ?_
    refine at_seq ?_
    refine at_drawn (l' := [⟨_,_,_,_,_,_⟩, ⟨_,_,_,_,_,_⟩, ⟨_,_,_,_,_,_⟩, ⟨_,_,_,_,_,_⟩, ⟨_,_,_,_,_,_⟩, ⟨_,_,_,_,_,_⟩, ⟨_,_,_,_,_,_⟩, ⟨_,_,_,_,_,_⟩, ⟨_,_,_,_,_,_⟩, ⟨_,_,_,_,_,_⟩]) [] [0, 1, 2, 4, 5, 6, 3, 7, 8, 9] mixed (by kernel_rfl) rfl (by kernel_rfl) ?_
    refine r_move rfl rfl rfl (r_move rfl rfl rfl ?_)
    refine r_div (r := ((a / b : Nat) : Int)) rfl rfl rfl rfl (by omega) (congrArg some (quo_i _ _ rfl rfl (by omega))) ?_
    refine r_move rfl rfl rfl (r_move rfl rfl rfl ?_)
    refine r_div (r := ((a % b : Nat) : Int)) rfl rfl rfl rfl (by omega) (congrArg some (rem_n _ _ rfl rfl)) ?_
    refine r_scall [_] [] rfl rfl rfl (c_ref02_large (a / b) (by omega)) trivial rfl (.inr fun x b hb => by rw [List.mem_singleton.1 hb]) (fun xq => ?_)
    refine r_scall [_] [] rfl rfl rfl (c_ref02_large (a % b) (by omega)) trivial rfl (.inr fun x b hb => by rw [List.mem_singleton.1 hb]) (fun xr => ?_)
    refine r_assign rfl rfl rfl (r_assign rfl rfl rfl (run_nil (at_tn (at_ret (at_tr ?_)))))
    refine at_end2 rfl (res_tmp rfl) (res_tmp rfl) (fun w hL => ⟨.inl (xq, xr), ?_, hL.picks [some 2, some 3] ⟨⟨_, rfl, Blk.le_refl _⟩, ⟨_, rfl, Blk.le_refl _⟩, trivial⟩ rfl rfl⟩)
    exact rfl
   · exact absurd hb2 (by rw [if_pos h2]; simp; omega)
  ·
   refine r_no rfl rfl rfl (r_no rfl rfl rfl (r_pickF rfl rfl rfl rfl (run_nil (at_tn (at_condF rfl (at_skip (at_tn (at_seq (at_seq (at_region (r_move rfl rfl rfl (r_move rfl rfl rfl ?_))))))))))))
   refine r_scall0 [_, _] [0, 1] rfl rfl rfl (c_ref02_compare a b (by omega) x y) ⟨⟨_, rfl, le_share⟩, ⟨_, rfl, le_share⟩, trivial⟩ rfl ?_
   refine r_cmpInt rfl rfl rfl rfl rfl (run_nil (at_tn ?_))
   refine at_cond rfl (fun hb2 => ?_) (fun hb2 => ?_)
   ·
    have hlt : a < b := cmpN_lt0.1 (of_decide_eq_true hb2)
    refine at_seq (at_region (r_move rfl rfl rfl (r_assign rfl rfl rfl (r_assign rfl rfl rfl (run_nil (at_tn (at_ret (at_tr ?_))))))))
    refine at_end2 rfl (res_tmp rfl) (res_tmp rfl) (fun w hL => ⟨.inr ⟨hlt⟩, ?_, hL.picks [] trivial rfl rfl⟩)
    exact rfl
   ·
    have hge : b ≤ a := by have := of_decide_eq_false hb2; rw [cmpN_lt0] at this; omega
    refine at_skip (at_tn (at_seq (at_region (r_move rfl rfl rfl ?_))))
    refine r_lenS u33 rfl rfl rfl ?_
    refine q_makeSlice (c := nb a) (NV .i64 (row (nb a) (quT a b (nb a)))) (fun g => [_, _, ⟨some g, 3, _, _, true⟩]) u33 el3 rfl rfl rfl rfl rfl rfl (by omega) (by rw [row_congr (g := fun _ => 0) (fun j hj => quT_top a b hj), row_zero, NV_replicate]) (fun _ => rfl) (fun g0 => ?_)
    refine r_assign rfl rfl rfl (run_nil (at_tn (at_seq (at_seq (at_region (r_move rfl rfl rfl ?_))))))
    refine r_lenS u33 rfl rfl rfl ?_
    refine r_arith (r := ((nb a : Nat) : Int) - 1) rfl rfl rfl rfl (congrArg some (wi (by omega) (by omega) (by omega))) ?_
    refine r_assign rfl rfl rfl (run_nil (at_tn (at_block ?_)))
    refine enterL (nt := 105) (ι := (p : {p : Nat // p ≤ nb a}) × SR (nb (a / 256 ^ p.1 % b))) (fun ⟨⟨p, hp⟩, z⟩ => [(0, x.v), (1, y.v), (4, slv (some g0) 0 (nb a) (nb a)), (5, z.v), (10, .int .i64 ((p : Nat) - 1))]) (fun ⟨⟨p, hp⟩, z⟩ => [⟨x.b, 3, NV .i64 (D8 a), x.n, false⟩, ⟨y.b, 3, NV .i64 (D8 b), y.n, false⟩, ⟨some g0, 3, NV .i64 (row (nb a) (quT a b p)), nb a, true⟩, ⟨z.b, 3, NV .i64 (D8 (a / 256 ^ p % b)), z.n, true⟩]) (fun ⟨⟨p, hp⟩, z⟩ => p) ⟨⟨nb a, Nat.le_refl _⟩, ⟨none, 0, 0, by rw [dW8_top, nb_zero]; exact Nat.le_refl _⟩⟩ ⟨rfl, rfl, rfl, (look_val rfl (dW8_nilv a b)), rfl, trivial⟩ (weak_picks [some 0, some 1, some 2, none] ⟨⟨_, rfl, Blk.le_refl _⟩, ⟨_, rfl, Blk.le_refl _⟩, ⟨_, rfl, Blk.le_refl _⟩, ⟨rfl, dW8_nil a b, rfl⟩, trivial⟩ rfl rfl) ?_
    rintro ⟨⟨p, hp⟩, z⟩
    show At _ ⟨105, [(0, x.v), (1, y.v), (4, slv (some g0) 0 (nb a) (nb a)), (5, z.v), (10, .int .i64 ((p : Nat) - 1))], [⟨x.b, 3, NV .i64 (D8 a), x.n, false⟩, ⟨y.b, 3, NV .i64 (D8 b), y.n, false⟩, ⟨some g0, 3, NV .i64 (row (nb a) (quT a b p)), nb a, true⟩, ⟨z.b, 3, NV .i64 (D8 (a / 256 ^ p % b)), z.n, true⟩]⟩ _
    refine at_seq (at_seq (at_region (r_move rfl rfl rfl (r_cmpInt rfl rfl rfl rfl rfl (run_nil (at_tn ?_))))))
    refine at_cond rfl (fun hb4 => ?_) (fun hb4 => ?_)
    ·
     obtain ⟨q, rfl⟩ : ∃ q, p = q + 1 := ⟨p - 1, by have := of_decide_eq_true hb4; omega⟩
     refine at_know 10 (.int .i64 (q : Nat)) rfl (congrArg (Value.int .i64) (by omega)) ?_
     have hR := Nat.mod_lt (a / 256 ^ (q + 1)) hb
     have hnR : nb (a / 256 ^ (q + 1) % b) ≤ nb b := nb_mono (Nat.le_of_lt hR)
     have hdq := m256 (a / 256 ^ q)
     have hWn := dW8_nb a b q
     refine at_base 3 rfl (fun hbase => ?_)
     refine at_skip (at_tn (at_seq (at_block (at_seq (at_region (r_move rfl rfl rfl (r_move rfl rfl rfl ?_)))))))
     refine r_indexAddr 0 (q) u33 ti3 rfl rfl rfl rfl rfl (by omega) (by omega) (NV_ne (by rw [D8_length]; omega)) (by show 0 + Int.toNat _ * 1 = _; omega) ?_
     refine r_load1 0 (q) ti3 rfl rfl rfl rfl (NV_get (D8_get (by omega))) ?_
     refine r_buildSlice [(0, _)] (fun g => [_, _, _, _, ⟨some g, 3, _, 1, true⟩]) rfl rfl rfl (bs33_1) rfl (fun _ => rfl) (fun g1 => ?_)
     refine r_move rfl rfl rfl ?_
     refine r_app8 4 3 (fun b n => [_, _, _, _, ⟨b, 3, _, n, true⟩]) u33 el3 rfl rfl rfl rfl rfl hbase rfl rfl (by omega) (fun _ _ => rfl) (fun r => ?_)
     refine r_scall0 [_] [4] rfl rfl rfl (c_ref02_trim (a / 256 ^ q % 256 :: D8 (a / 256 ^ (q + 1) % b)) (dW8_lt256 a b q) (by rw [List.length_cons, D8_length]; omega) (by rw [List.length_cons, D8_length]) r) ⟨⟨_, rfl, le_share⟩, trivial⟩ rfl ?_
     refine r_know 61 (slv r.b 0 (nb (dW8 a b q)) r.cap) rfl (by rw [dW8_trim]) ?_
     refine r_assign rfl rfl rfl (run_nil (at_tn (at_block ?_)))
     refine enterL (nt := 105) (ι := (x : {x : Nat × Nat // x.1 * b + x.2 = dW8 a b q}) × SR (nb x.1.2)) (fun ⟨⟨⟨m, rr⟩, hq⟩, z2⟩ => [(0, x.v), (1, y.v), (4, slv (some g0) 0 (nb a) (nb a)), (5, z2.v), (10, .int .i64 (q : Nat))]) (fun ⟨⟨⟨m, rr⟩, hq⟩, z2⟩ => [⟨x.b, 3, NV .i64 (D8 a), x.n, false⟩, ⟨y.b, 3, NV .i64 (D8 b), y.n, false⟩, ⟨some g0, 3, NV .i64 (row (nb a) (quS a b q m)), nb a, true⟩, ⟨z2.b, 3, NV .i64 (D8 (rr)), z2.n, true⟩]) (fun ⟨⟨⟨m, rr⟩, hq⟩, z2⟩ => rr) ⟨⟨(0, dW8 a b q), by omega⟩, ⟨r.b, r.n, r.cap, Nat.le_trans hWn r.h⟩⟩ ⟨rfl, rfl, rfl, rfl, rfl, trivial⟩ (weak_picks [some 0, some 1, some 2, some 4] ⟨⟨_, rfl, Blk.le_refl _⟩, ⟨_, rfl, Blk.le_refl _⟩, ⟨_, rfl, le_same (congrArg (fun c => (⟨some g0, 3, NV .i64 c, nb a, true⟩ : Blk)) (row_congr fun j _ => quS_zero a b q j))⟩, ⟨_, rfl, rfl, rfl, rfl, ⟨nb (dW8 a b q), dW8_take a b q⟩, fun _ => rfl⟩, trivial⟩ rfl rfl) ?_
     rintro ⟨⟨⟨m, rr⟩, hq⟩, z2⟩
     show At _ ⟨105, [(0, x.v), (1, y.v), (4, slv (some g0) 0 (nb a) (nb a)), (5, z2.v), (10, .int .i64 (q : Nat))], [⟨x.b, 3, NV .i64 (D8 a), x.n, false⟩, ⟨y.b, 3, NV .i64 (D8 b), y.n, false⟩, ⟨some g0, 3, NV .i64 (row (nb a) (quS a b q m)), nb a, true⟩, ⟨z2.b, 3, NV .i64 (D8 (rr)), z2.n, true⟩]⟩ _
     replace hq : m * b + rr = dW8 a b q := hq
     have hrn := dq8_bnd hb hq
     refine at_seq (at_seq (at_region (r_move rfl rfl rfl (r_move rfl rfl rfl ?_))))
     refine r_scall0 [_, _] [3, 1] rfl rfl rfl (c_ref02_compare rr b (by omega) z2 y) ⟨⟨_, rfl, le_share⟩, ⟨_, rfl, le_share⟩, trivial⟩ rfl ?_
     refine r_cmpInt rfl rfl rfl rfl rfl (r_move rfl rfl rfl ?_)
     refine r_split 66 rfl (fun hb6 => ?_) (fun hb6 => ?_)
     ·
      have hge2 : b ≤ rr := cmpN_nonneg.1 (of_decide_eq_true hb6)
      have hm1 := dq8_lt (s := 1) hb hq (by omega)
      refine r_move rfl rfl rfl (r_move rfl rfl rfl ?_)
      refine r_indexAddr 2 (q) u33 ti3 rfl rfl rfl rfl rfl (by omega) (by omega) (NV_ne (by rw [row_length]; omega)) (by show 0 + Int.toNat _ * 1 = _; omega) ?_
      refine r_load1 2 (q) ti3 rfl rfl rfl rfl (NV_get ((row_get (by omega)).trans (by rw [quS_at]))) ?_
      refine r_cmpInt rfl rfl rfl rfl rfl (r_pickT rfl rfl rfl rfl (run_nil (at_tn ?_)))
      refine at_cond rfl (fun hb7 => ?_) (fun hb7 => ?_)
      ·
       refine at_skip (at_tn (at_block (at_seq (at_region (r_move rfl rfl rfl (r_assign rfl rfl rfl (r_assign rfl rfl rfl (run_nil (at_tn (at_seq (at_block ?_)))))))))))
       refine enterL (nt := 105) (ι := (s : {s : Nat // 0 < s ∧ s ≤ 128 ∧ s * b ≤ rr}) × SR (nb (s.1 * b))) (fun ⟨⟨s, hs0, hs1, hs2⟩, z3⟩ => [(0, x.v), (1, y.v), (4, slv (some g0) 0 (nb a) (nb a)), (5, z2.v), (10, .int .i64 (q : Nat)), (11, .int .i64 (s : Nat)), (12, z3.v)]) (fun ⟨⟨s, hs0, hs1, hs2⟩, z3⟩ => [⟨x.b, 3, NV .i64 (D8 a), x.n, false⟩, ⟨y.b, 3, NV .i64 (D8 b), y.n, false⟩, ⟨some g0, 3, NV .i64 (row (nb a) (quS a b q m)), nb a, true⟩, ⟨z2.b, 3, NV .i64 (D8 (rr)), z2.n, true⟩, ⟨z3.b, 3, NV .i64 (D8 (s * b)), z3.n, false⟩]) (fun ⟨⟨s, hs0, hs1, hs2⟩, z3⟩ => 128 - s) ⟨⟨1, by omega, by omega, by omega⟩, ⟨y.b, y.n, y.cap, by rw [Nat.one_mul]; exact y.h⟩⟩ ⟨rfl, rfl, rfl, rfl, rfl, rfl, (look_val rfl (congrArg (fun n => slv y.b 0 (nb n) y.cap) (Nat.one_mul b).symm)), trivial⟩ (weak_picks [some 0, some 1, some 2, some 3, some 1] ⟨⟨_, rfl, Blk.le_refl _⟩, ⟨_, rfl, Blk.le_refl _⟩, ⟨_, rfl, Blk.le_refl _⟩, ⟨_, rfl, Blk.le_refl _⟩, ⟨_, rfl, le_same (congrArg (fun n => (⟨y.b, 3, NV .i64 (D8 n), y.n, false⟩ : Blk)) (Nat.one_mul b))⟩, trivial⟩ rfl rfl) ?_
       rintro ⟨⟨s, hs0, hs1, hs2⟩, z3⟩
       show At _ ⟨105, [(0, x.v), (1, y.v), (4, slv (some g0) 0 (nb a) (nb a)), (5, z2.v), (10, .int .i64 (q : Nat)), (11, .int .i64 (s : Nat)), (12, z3.v)], [⟨x.b, 3, NV .i64 (D8 a), x.n, false⟩, ⟨y.b, 3, NV .i64 (D8 b), y.n, false⟩, ⟨some g0, 3, NV .i64 (row (nb a) (quS a b q m)), nb a, true⟩, ⟨z2.b, 3, NV .i64 (D8 (rr)), z2.n, true⟩, ⟨z3.b, 3, NV .i64 (D8 (s * b)), z3.n, false⟩]⟩ _
       have e2 : 2 * s * b = s * b + s * b := by rw [Nat.two_mul, Nat.add_mul]
       replace hs2 : s * b ≤ rr := hs2
       have hsn : nb (s * b) ≤ nb rr := nb_mono hs2
       have hsn2 : nb (s * b + s * b) ≤ nb b + 2 := nb_le (by have h1 := lt_nb b; have h2 : s * b ≤ 128 * b := Nat.mul_le_mul_right _ hs1; rw [Nat.pow_succ, Nat.pow_succ]; omega)
       refine at_seq (at_seq (at_region (r_move rfl rfl rfl ?_)))
       refine r_arith (r := ((2 * s : Nat) : Int)) rfl rfl rfl rfl (congrArg some (wi (by omega) (by omega) (by omega))) ?_
       refine r_cmpInt rfl rfl rfl rfl rfl (r_move rfl rfl rfl ?_)
       refine r_split 77 rfl (fun hb9 => ?_) (fun hb9 => ?_)
       ·
        have hs3 : 2 * s ≤ 128 := (by have := of_decide_eq_true hb9; omega)
        refine r_move rfl rfl rfl (r_move rfl rfl rfl ?_)
        refine r_scall [_, _] [4, 4] rfl rfl rfl (c_ref02_plus (s * b) (s * b) (by omega) (by omega) z3 z3) ⟨⟨_, rfl, le_share⟩, ⟨_, rfl, le_share⟩, trivial⟩ rfl (.inr fun x b hb => by rw [List.mem_singleton.1 hb]) (fun z4 => ?_)
        refine r_move rfl rfl rfl ?_
        refine r_scall0 [_, _] [5, 3] rfl rfl rfl (c_ref02_compare (s * b + s * b) rr (by omega) z4 z2) ⟨⟨_, rfl, le_share⟩, ⟨_, rfl, le_share⟩, trivial⟩ rfl ?_
        refine r_cmpInt rfl rfl rfl rfl rfl (r_pickT rfl rfl rfl rfl (run_nil (at_tn ?_)))
        refine at_cond rfl (fun hb10 => ?_) (fun hb10 => ?_)
        ·
         have hs4 : s * b + s * b ≤ rr := cmpN_nonpos.1 (of_decide_eq_true hb10)
         refine at_skip (at_tn (at_block (at_region (r_move rfl rfl rfl ?_))))
         refine r_arith (r := ((2 * s : Nat) : Int)) rfl rfl rfl rfl (congrArg some (wi (by omega) (by omega) (by omega))) ?_
         refine r_move rfl rfl rfl (r_move rfl rfl rfl ?_)
         refine r_scall [_, _] [4, 4] rfl rfl rfl (c_ref02_plus (s * b) (s * b) (by omega) (by omega) z3 z3) ⟨⟨_, rfl, le_share⟩, ⟨_, rfl, le_share⟩, trivial⟩ rfl (.inr fun x b hb => by rw [List.mem_singleton.1 hb]) (fun z5 => ?_)
         refine r_assign rfl rfl rfl (r_assign rfl rfl rfl (run_nil (at_bn (at_tn ?_))))
         exact nextL ⟨⟨2 * s, by omega, hs3, by rw [Nat.two_mul, Nat.add_mul]; exact hs4⟩, ⟨z5.b, z5.n, z5.cap, by show nb (2 * s * b) ≤ z5.cap; rw [e2]; exact z5.h⟩⟩ (by show 128 - 2 * s < 128 - s; omega) ⟨rfl, rfl, rfl, rfl, rfl, rfl, (look_val rfl (congrArg (fun n => slv z5.b 0 (nb n) z5.cap) e2.symm)), trivial⟩ (weak_picks [some 0, some 1, some 2, some 3, some 6] ⟨⟨_, rfl, Blk.le_refl _⟩, ⟨_, rfl, Blk.le_refl _⟩, ⟨_, rfl, Blk.le_refl _⟩, ⟨_, rfl, Blk.le_refl _⟩, ⟨_, rfl, ⟨rfl, rfl, rfl, ⟨(NV .i64 (D8 (s * b + s * b))).length, by show NV .i64 (D8 (2 * s * b)) = _; rw [e2, List.take_length]⟩, fun h => by cases h⟩⟩, trivial⟩ rfl rfl)
        ·
         refine at_exit (at_te (at_te (at_be (at_tn ?_))))
         refine at_drawn (l' := [⟨_,_,_,_,_,_⟩, ⟨_,_,_,_,_,_⟩, ⟨_,_,_,_,_,_⟩, ⟨_,_,_,_,_,_⟩, ⟨_,_,_,_,_,_⟩, ⟨_,_,_,_,_,_⟩, ⟨_,_,_,_,_,_⟩, ⟨_,_,_,_,_,_⟩, ⟨_,_,_,_,_,_⟩, ⟨_,_,_,_,_,_⟩, ⟨_,_,_,_,_,_⟩, ⟨_,_,_,_,_,_⟩, ⟨_,_,_,_,_,_⟩, ⟨_,_,_,_,_,_⟩]) [2000000] [0, 1, 2, 3, 5, 6, 7, 8, 9, 10, 4, 11, 12, 13] mixed (by kernel_rfl) rfl (by kernel_rfl) ?_
         refine r_move rfl rfl rfl (r_move rfl rfl rfl (r_move rfl rfl rfl (r_move rfl rfl rfl (r_move rfl rfl rfl (r_move rfl rfl rfl ?_)))))
         refine r_indexAddr 2 (q) u33 ti3 rfl rfl rfl rfl rfl (by omega) (by omega) (NV_ne (by rw [row_length]; omega)) (by show 0 + Int.toNat _ * 1 = _; omega) ?_
         refine r_load1 2 (q) ti3 rfl rfl rfl rfl (NV_get ((row_get (by omega)).trans (by rw [quS_at]))) ?_
         refine r_move rfl rfl rfl ?_
         refine r_arith (r := ((m + s : Nat) : Int)) rfl rfl rfl rfl (congrArg some (wi (by omega) (by omega) (by omega))) ?_
         refine r_scall [_, _] [3, 4] rfl rfl rfl (c_ref02_minus rr (s * b) (by omega) hs2 z2 z3) ⟨⟨_, rfl, le_share⟩, ⟨_, rfl, le_share⟩, trivial⟩ rfl (.inr fun x b hb => by rw [List.mem_singleton.1 hb]) (fun z6 => ?_)
         refine r_assign rfl rfl rfl ?_
         refine r_indexAddr 2 (q) u33 ti3 rfl rfl rfl rfl rfl (by omega) (by omega) (NV_ne (by rw [row_length]; omega)) (by show 0 + Int.toNat _ * 1 = _; omega) ?_
         refine r_store1 rfl 2 (q) [_, _, ⟨some g0, 3, _, _, true⟩, _, _, _, _] (NV .i64 (row (nb a) (quS a b q (m + s)))) ti3 rfl rfl rfl rfl rfl rfl rfl rfl (by rw [NV_length, row_length]; omega) (by rw [NV_set, row_set (fun j _ => quS_step a b q m (m + s) j)]) rfl ?_
         refine run_nil (at_bn (at_tn ?_))
         exact nextL ⟨⟨(m + s, rr - s * b), dq8_next hq hs2⟩, z6⟩ (by have := Nat.mul_pos hs0 hb; show rr - s * b < rr; omega) ⟨rfl, rfl, rfl, rfl, rfl, trivial⟩ (weak_picks [some 0, some 1, some 2, some 6] ⟨⟨_, rfl, Blk.le_refl _⟩, ⟨_, rfl, Blk.le_refl _⟩, ⟨_, rfl, Blk.le_refl _⟩, ⟨_, rfl, Blk.le_refl _⟩, trivial⟩ rfl rfl)
       ·
        refine r_no rfl rfl rfl (r_no rfl rfl rfl (r_no rfl rfl rfl (r_no rfl rfl rfl (r_no rfl rfl rfl (r_no rfl rfl rfl (r_pickF rfl rfl rfl rfl (run_nil (at_tn (at_condF rfl (at_exit (at_te (at_te (at_be (at_tn ?_))))))))))))))
        refine at_drawn (l' := [⟨_,_,_,_,_,_⟩, ⟨_,_,_,_,_,_⟩, ⟨_,_,_,_,_,_⟩, ⟨_,_,_,_,_,_⟩, ⟨_,_,_,_,_,_⟩, ⟨_,_,_,_,_,_⟩, ⟨_,_,_,_,_,_⟩, ⟨_,_,_,_,_,_⟩, ⟨_,_,_,_,_,_⟩, ⟨_,_,_,_,_,_⟩, ⟨_,_,_,_,_,_⟩, ⟨_,_,_,_,_,_⟩, ⟨_,_,_,_,_,_⟩, ⟨_,_,_,_,_,_⟩]) [2000000] [0, 1, 2, 3, 5, 6, 7, 8, 9, 10, 4, 11, 12, 13] mixed (by kernel_rfl) rfl (by kernel_rfl) ?_
        refine r_move rfl rfl rfl (r_move rfl rfl rfl (r_move rfl rfl rfl (r_move rfl rfl rfl (r_move rfl rfl rfl (r_move rfl rfl rfl ?_)))))
        refine r_indexAddr 2 (q) u33 ti3 rfl rfl rfl rfl rfl (by omega) (by omega) (NV_ne (by rw [row_length]; omega)) (by show 0 + Int.toNat _ * 1 = _; omega) ?_
        refine r_load1 2 (q) ti3 rfl rfl rfl rfl (NV_get ((row_get (by omega)).trans (by rw [quS_at]))) ?_
        refine r_move rfl rfl rfl ?_
        refine r_arith (r := ((m + s : Nat) : Int)) rfl rfl rfl rfl (congrArg some (wi (by omega) (by omega) (by omega))) ?_
        refine r_scall [_, _] [3, 4] rfl rfl rfl (c_ref02_minus rr (s * b) (by omega) hs2 z2 z3) ⟨⟨_, rfl, le_share⟩, ⟨_, rfl, le_share⟩, trivial⟩ rfl (.inr fun x b hb => by rw [List.mem_singleton.1 hb]) (fun z6 => ?_)
        refine r_assign rfl rfl rfl ?_
        refine r_indexAddr 2 (q) u33 ti3 rfl rfl rfl rfl rfl (by omega) (by omega) (NV_ne (by rw [row_length]; omega)) (by show 0 + Int.toNat _ * 1 = _; omega) ?_
        refine r_store1 rfl 2 (q) [_, _, ⟨some g0, 3, _, _, true⟩, _, _, _] (NV .i64 (row (nb a) (quS a b q (m + s)))) ti3 rfl rfl rfl rfl rfl rfl rfl rfl (by rw [NV_length, row_length]; omega) (by rw [NV_set, row_set (fun j _ => quS_step a b q m (m + s) j)]) rfl ?_
        refine run_nil (at_bn (at_tn ?_))
        exact nextL ⟨⟨(m + s, rr - s * b), dq8_next hq hs2⟩, z6⟩ (by have := Nat.mul_pos hs0 hb; show rr - s * b < rr; omega) ⟨rfl, rfl, rfl, rfl, rfl, trivial⟩ (weak_picks [some 0, some 1, some 2, some 5] ⟨⟨_, rfl, Blk.le_refl _⟩, ⟨_, rfl, Blk.le_refl _⟩, ⟨_, rfl, Blk.le_refl _⟩, ⟨_, rfl, Blk.le_refl _⟩, trivial⟩ rfl rfl)
      · exact absurd (of_decide_eq_false hb7) (by omega)
     ·
      have hlt2 : rr < b := by have := of_decide_eq_false hb6; rw [cmpN_nonneg] at this; omega
      obtain ⟨hm, hr⟩ := dq8 hb hq hlt2
      subst hm; subst hr
      refine r_no rfl rfl rfl (r_no rfl rfl rfl (r_no rfl rfl rfl (r_no rfl rfl rfl (r_no rfl rfl rfl (r_pickF rfl rfl rfl rfl (run_nil (at_tn (at_condF rfl (at_exit (at_te (at_te (at_be (at_bn (at_tn (at_region (r_move rfl rfl rfl ?_))))))))))))))))
      refine r_arith (r := ((q : Nat) : Int) - 1) rfl rfl rfl rfl (congrArg some (wi (by omega) (by omega) (by omega))) ?_
      refine r_assign rfl rfl rfl (run_nil (at_tn ?_))
      exact nextL ⟨⟨q, by omega⟩, z2⟩ (Nat.lt_succ_self q) ⟨rfl, rfl, rfl, rfl, rfl, trivial⟩ (weak_picks [some 0, some 1, some 2, some 3] ⟨⟨_, rfl, Blk.le_refl _⟩, ⟨_, rfl, Blk.le_refl _⟩, ⟨_, rfl, le_same (congrArg (fun c => (⟨some g0, 3, NV .i64 c, nb a, true⟩ : Blk)) (row_congr fun j _ => (quS_end a b q j).symm))⟩, ⟨_, rfl, Blk.le_refl _⟩, trivial⟩ rfl rfl)
    ·
     have hp0 : p = 0 := by have := of_decide_eq_false hb4; omega
     subst hp0
     refine at_exit (at_te (at_te (at_be (at_tn (at_seq (at_region (r_move rfl rfl rfl ?_)))))))
     refine r_scall0 [_] [2] rfl rfl rfl (c_ref02_trim (row (nb a) (quT a b 0)) (row_lt fun j => quT_lt a b 0 j) (by rw [row_length]; omega) (row_length _ _) ⟨some g0, nb a, nb a, Nat.le_refl _⟩) ⟨⟨_, rfl, le_share⟩, trivial⟩ rfl ?_
     refine r_know 103 (slv (some g0) 0 (nb (a / b)) (nb a)) rfl (by rw [quT_trim]; rfl) ?_
     refine r_move rfl rfl rfl (r_assign rfl rfl rfl (r_assign rfl rfl rfl (run_nil (at_tn (at_ret ?_)))))
     refine at_end2 rfl (res_tmp rfl) (res_tmp rfl) (fun w hL => ⟨.inl (⟨some g0, nb a, nb a, nb_mono (Nat.div_le_self _ _)⟩, ⟨z.b, z.n, z.cap, by have h := z.h; simp only [Nat.pow_zero, Nat.div_one] at h; exact h⟩), ?_, ?_⟩)
     · exact congrArg (fun n => Ending.returned (.tuple #[slv (some g0) 0 (nb (a / b)) (nb a), slv z.b 0 (nb n) z.cap])) (show a / 256 ^ 0 % b = a % b by rw [Nat.pow_zero, Nat.div_one])
     · exact hL.picks [some 2, some 3] ⟨⟨_, rfl, rfl, rfl, rfl, ⟨nb (a / b), quT_take a b⟩, fun _ => rfl⟩, ⟨_, rfl, le_same (congrArg (fun n => (⟨z.b, 3, NV .i64 (D8 n), z.n, true⟩ : Blk)) (show a % b = a / 256 ^ 0 % b by rw [Nat.pow_zero, Nat.div_one]))⟩, trivial⟩ rfl rfl
 ·
  refine r_no rfl rfl rfl (r_pickF rfl rfl rfl rfl (r_move rfl rfl rfl (r_no rfl rfl rfl (r_no rfl rfl rfl (r_pickF rfl rfl rfl rfl (run_nil (at_tn (at_condF rfl (at_skip (at_tn (at_seq (at_seq (at_region (r_move rfl rfl rfl (r_move rfl rfl rfl ?_)))))))))))))))
  refine r_scall0 [_, _] [0, 1] rfl rfl rfl (c_ref02_compare a b (by omega) x y) ⟨⟨_, rfl, le_share⟩, ⟨_, rfl, le_share⟩, trivial⟩ rfl ?_
  refine r_cmpInt rfl rfl rfl rfl rfl (run_nil (at_tn ?_))
  refine at_cond rfl (fun hb1 => ?_) (fun hb1 => ?_)
  ·
   have hlt : a < b := cmpN_lt0.1 (of_decide_eq_true hb1)
   refine at_seq (at_region (r_move rfl rfl rfl (r_assign rfl rfl rfl (r_assign rfl rfl rfl (run_nil (at_tn (at_ret (at_tr ?_))))))))
   refine at_end2 rfl (res_tmp rfl) (res_tmp rfl) (fun w hL => ⟨.inr ⟨hlt⟩, ?_, hL.picks [] trivial rfl rfl⟩)
   exact rfl
  ·
   have hge : b ≤ a := by have := of_decide_eq_false hb1; rw [cmpN_lt0] at this; omega
   refine at_skip (at_tn (at_seq (at_region (r_move rfl rfl rfl ?_))))
   refine r_lenS u33 rfl rfl rfl ?_
   refine q_makeSlice (c := nb a) (NV .i64 (row (nb a) (quT a b (nb a)))) (fun g => [_, _, ⟨some g, 3, _, _, true⟩]) u33 el3 rfl rfl rfl rfl rfl rfl (by omega) (by rw [row_congr (g := fun _ => 0) (fun j hj => quT_top a b hj), row_zero, NV_replicate]) (fun _ => rfl) (fun g0 => ?_)
   refine r_assign rfl rfl rfl (run_nil (at_tn (at_seq (at_seq (at_region (r_move rfl rfl rfl ?_))))))
   refine r_lenS u33 rfl rfl rfl ?_
   refine r_arith (r := ((nb a : Nat) : Int) - 1) rfl rfl rfl rfl (congrArg some (wi (by omega) (by omega) (by omega))) ?_
   refine r_assign rfl rfl rfl (run_nil (at_tn (at_block ?_)))
   refine enterL (nt := 105) (ι := (p : {p : Nat // p ≤ nb a}) × SR (nb (a / 256 ^ p.1 % b))) (fun ⟨⟨p, hp⟩, z⟩ => [(0, x.v), (1, y.v), (4, slv (some g0) 0 (nb a) (nb a)), (5, z.v), (10, .int .i64 ((p : Nat) - 1))]) (fun ⟨⟨p, hp⟩, z⟩ => [⟨x.b, 3, NV .i64 (D8 a), x.n, false⟩, ⟨y.b, 3, NV .i64 (D8 b), y.n, false⟩, ⟨some g0, 3, NV .i64 (row (nb a) (quT a b p)), nb a, true⟩, ⟨z.b, 3, NV .i64 (D8 (a / 256 ^ p % b)), z.n, true⟩]) (fun ⟨⟨p, hp⟩, z⟩ => p) ⟨⟨nb a, Nat.le_refl _⟩, ⟨none, 0, 0, by rw [dW8_top, nb_zero]; exact Nat.le_refl _⟩⟩ ⟨rfl, rfl, rfl, (look_val rfl (dW8_nilv a b)), rfl, trivial⟩ (weak_picks [some 0, some 1, some 2, none] ⟨⟨_, rfl, Blk.le_refl _⟩, ⟨_, rfl, Blk.le_refl _⟩, ⟨_, rfl, Blk.le_refl _⟩, ⟨rfl, dW8_nil a b, rfl⟩, trivial⟩ rfl rfl) ?_
   rintro ⟨⟨p, hp⟩, z⟩
   show At _ ⟨105, [(0, x.v), (1, y.v), (4, slv (some g0) 0 (nb a) (nb a)), (5, z.v), (10, .int .i64 ((p : Nat) - 1))], [⟨x.b, 3, NV .i64 (D8 a), x.n, false⟩, ⟨y.b, 3, NV .i64 (D8 b), y.n, false⟩, ⟨some g0, 3, NV .i64 (row (nb a) (quT a b p)), nb a, true⟩, ⟨z.b, 3, NV .i64 (D8 (a / 256 ^ p % b)), z.n, true⟩]⟩ _
   refine at_seq (at_seq (at_region (r_move rfl rfl rfl (r_cmpInt rfl rfl rfl rfl rfl (run_nil (at_tn ?_))))))
   refine at_cond rfl (fun hb3 => ?_) (fun hb3 => ?_)
   ·
    obtain ⟨q, rfl⟩ : ∃ q, p = q + 1 := ⟨p - 1, by have := of_decide_eq_true hb3; omega⟩
    refine at_know 10 (.int .i64 (q : Nat)) rfl (congrArg (Value.int .i64) (by omega)) ?_
    have hR := Nat.mod_lt (a / 256 ^ (q + 1)) hb
    have hnR : nb (a / 256 ^ (q + 1) % b) ≤ nb b := nb_mono (Nat.le_of_lt hR)
    have hdq := m256 (a / 256 ^ q)
    have hWn := dW8_nb a b q
    refine at_base 3 rfl (fun hbase => ?_)
    refine at_skip (at_tn (at_seq (at_block (at_seq (at_region (r_move rfl rfl rfl (r_move rfl rfl rfl ?_)))))))
    refine r_indexAddr 0 (q) u33 ti3 rfl rfl rfl rfl rfl (by omega) (by omega) (NV_ne (by rw [D8_length]; omega)) (by show 0 + Int.toNat _ * 1 = _; omega) ?_
    refine r_load1 0 (q) ti3 rfl rfl rfl rfl (NV_get (D8_get (by omega))) ?_
    refine r_buildSlice [(0, _)] (fun g => [_, _, _, _, ⟨some g, 3, _, 1, true⟩]) rfl rfl rfl (bs33_1) rfl (fun _ => rfl) (fun g1 => ?_)
    refine r_move rfl rfl rfl ?_
    refine r_app8 4 3 (fun b n => [_, _, _, _, ⟨b, 3, _, n, true⟩]) u33 el3 rfl rfl rfl rfl rfl hbase rfl rfl (by omega) (fun _ _ => rfl) (fun r => ?_)
    refine r_scall0 [_] [4] rfl rfl rfl (c_ref02_trim (a / 256 ^ q % 256 :: D8 (a / 256 ^ (q + 1) % b)) (dW8_lt256 a b q) (by rw [List.length_cons, D8_length]; omega) (by rw [List.length_cons, D8_length]) r) ⟨⟨_, rfl, le_share⟩, trivial⟩ rfl ?_
    refine r_know 61 (slv r.b 0 (nb (dW8 a b q)) r.cap) rfl (by rw [dW8_trim]) ?_
    refine r_assign rfl rfl rfl (run_nil (at_tn (at_block ?_)))
    refine enterL (nt := 105) (ι := (x : {x : Nat × Nat // x.1 * b + x.2 = dW8 a b q}) × SR (nb x.1.2)) (fun ⟨⟨⟨m, rr⟩, hq⟩, z2⟩ => [(0, x.v), (1, y.v), (4, slv (some g0) 0 (nb a) (nb a)), (5, z2.v), (10, .int .i64 (q : Nat))]) (fun ⟨⟨⟨m, rr⟩, hq⟩, z2⟩ => [⟨x.b, 3, NV .i64 (D8 a), x.n, false⟩, ⟨y.b, 3, NV .i64 (D8 b), y.n, false⟩, ⟨some g0, 3, NV .i64 (row (nb a) (quS a b q m)), nb a, true⟩, ⟨z2.b, 3, NV .i64 (D8 (rr)), z2.n, true⟩]) (fun ⟨⟨⟨m, rr⟩, hq⟩, z2⟩ => rr) ⟨⟨(0, dW8 a b q), by omega⟩, ⟨r.b, r.n, r.cap, Nat.le_trans hWn r.h⟩⟩ ⟨rfl, rfl, rfl, rfl, rfl, trivial⟩ (weak_picks [some 0, some 1, some 2, some 4] ⟨⟨_, rfl, Blk.le_refl _⟩, ⟨_, rfl, Blk.le_refl _⟩, ⟨_, rfl, le_same (congrArg (fun c => (⟨some g0, 3, NV .i64 c, nb a, true⟩ : Blk)) (row_congr fun j _ => quS_zero a b q j))⟩, ⟨_, rfl, rfl, rfl, rfl, ⟨nb (dW8 a b q), dW8_take a b q⟩, fun _ => rfl⟩, trivial⟩ rfl rfl) ?_
    rintro ⟨⟨⟨m, rr⟩, hq⟩, z2⟩
    show At _ ⟨105, [(0, x.v), (1, y.v), (4, slv (some g0) 0 (nb a) (nb a)), (5, z2.v), (10, .int .i64 (q : Nat))], [⟨x.b, 3, NV .i64 (D8 a), x.n, false⟩, ⟨y.b, 3, NV .i64 (D8 b), y.n, false⟩, ⟨some g0, 3, NV .i64 (row (nb a) (quS a b q m)), nb a, true⟩, ⟨z2.b, 3, NV .i64 (D8 (rr)), z2.n, true⟩]⟩ _
    replace hq : m * b + rr = dW8 a b q := hq
    have hrn := dq8_bnd hb hq
    refine at_seq (at_seq (at_region (r_move rfl rfl rfl (r_move rfl rfl rfl ?_))))
    refine r_scall0 [_, _] [3, 1] rfl rfl rfl (c_ref02_compare rr b (by omega) z2 y) ⟨⟨_, rfl, le_share⟩, ⟨_, rfl, le_share⟩, trivial⟩ rfl ?_
    refine r_cmpInt rfl rfl rfl rfl rfl (r_move rfl rfl rfl ?_)
    refine r_split 66 rfl (fun hb5 => ?_) (fun hb5 => ?_)
    ·
     have hge2 : b ≤ rr := cmpN_nonneg.1 (of_decide_eq_true hb5)
     have hm1 := dq8_lt (s := 1) hb hq (by omega)
     refine r_move rfl rfl rfl (r_move rfl rfl rfl ?_)
     refine r_indexAddr 2 (q) u33 ti3 rfl rfl rfl rfl rfl (by omega) (by omega) (NV_ne (by rw [row_length]; omega)) (by show 0 + Int.toNat _ * 1 = _; omega) ?_
     refine r_load1 2 (q) ti3 rfl rfl rfl rfl (NV_get ((row_get (by omega)).trans (by rw [quS_at]))) ?_
     refine r_cmpInt rfl rfl rfl rfl rfl (r_pickT rfl rfl rfl rfl (run_nil (at_tn ?_)))
     refine at_cond rfl (fun hb6 => ?_) (fun hb6 => ?_)
     ·
      refine at_skip (at_tn (at_block (at_seq (at_region (r_move rfl rfl rfl (r_assign rfl rfl rfl (r_assign rfl rfl rfl (run_nil (at_tn (at_seq (at_block ?_)))))))))))
      refine enterL (nt := 105) (ι := (s : {s : Nat // 0 < s ∧ s ≤ 128 ∧ s * b ≤ rr}) × SR (nb (s.1 * b))) (fun ⟨⟨s, hs0, hs1, hs2⟩, z3⟩ => [(0, x.v), (1, y.v), (4, slv (some g0) 0 (nb a) (nb a)), (5, z2.v), (10, .int .i64 (q : Nat)), (11, .int .i64 (s : Nat)), (12, z3.v)]) (fun ⟨⟨s, hs0, hs1, hs2⟩, z3⟩ => [⟨x.b, 3, NV .i64 (D8 a), x.n, false⟩, ⟨y.b, 3, NV .i64 (D8 b), y.n, false⟩, ⟨some g0, 3, NV .i64 (row (nb a) (quS a b q m)), nb a, true⟩, ⟨z2.b, 3, NV .i64 (D8 (rr)), z2.n, true⟩, ⟨z3.b, 3, NV .i64 (D8 (s * b)), z3.n, false⟩]) (fun ⟨⟨s, hs0, hs1, hs2⟩, z3⟩ => 128 - s) ⟨⟨1, by omega, by omega, by omega⟩, ⟨y.b, y.n, y.cap, by rw [Nat.one_mul]; exact y.h⟩⟩ ⟨rfl, rfl, rfl, rfl, rfl, rfl, (look_val rfl (congrArg (fun n => slv y.b 0 (nb n) y.cap) (Nat.one_mul b).symm)), trivial⟩ (weak_picks [some 0, some 1, some 2, some 3, some 1] ⟨⟨_, rfl, Blk.le_refl _⟩, ⟨_, rfl, Blk.le_refl _⟩, ⟨_, rfl, Blk.le_refl _⟩, ⟨_, rfl, Blk.le_refl _⟩, ⟨_, rfl, le_same (congrArg (fun n => (⟨y.b, 3, NV .i64 (D8 n), y.n, false⟩ : Blk)) (Nat.one_mul b))⟩, trivial⟩ rfl rfl) ?_
      rintro ⟨⟨s, hs0, hs1, hs2⟩, z3⟩
      show At _ ⟨105, [(0, x.v), (1, y.v), (4, slv (some g0) 0 (nb a) (nb a)), (5, z2.v), (10, .int .i64 (q : Nat)), (11, .int .i64 (s : Nat)), (12, z3.v)], [⟨x.b, 3, NV .i64 (D8 a), x.n, false⟩, ⟨y.b, 3, NV .i64 (D8 b), y.n, false⟩, ⟨some g0, 3, NV .i64 (row (nb a) (quS a b q m)), nb a, true⟩, ⟨z2.b, 3, NV .i64 (D8 (rr)), z2.n, true⟩, ⟨z3.b, 3, NV .i64 (D8 (s * b)), z3.n, false⟩]⟩ _
      have e2 : 2 * s * b = s * b + s * b := by rw [Nat.two_mul, Nat.add_mul]
      replace hs2 : s * b ≤ rr := hs2
      have hsn : nb (s * b) ≤ nb rr := nb_mono hs2
      have hsn2 : nb (s * b + s * b) ≤ nb b + 2 := nb_le (by have h1 := lt_nb b; have h2 : s * b ≤ 128 * b := Nat.mul_le_mul_right _ hs1; rw [Nat.pow_succ, Nat.pow_succ]; omega)
      refine at_seq (at_seq (at_region (r_move rfl rfl rfl ?_)))
      refine r_arith (r := ((2 * s : Nat) : Int)) rfl rfl rfl rfl (congrArg some (wi (by omega) (by omega) (by omega))) ?_
      refine r_cmpInt rfl rfl rfl rfl rfl (r_move rfl rfl rfl ?_)
      refine r_split 77 rfl (fun hb8 => ?_) (fun hb8 => ?_)
      ·
       have hs3 : 2 * s ≤ 128 := (by have := of_decide_eq_true hb8; omega)
       refine r_move rfl rfl rfl (r_move rfl rfl rfl ?_)
       refine r_scall [_, _] [4, 4] rfl rfl rfl (c_ref02_plus (s * b) (s * b) (by omega) (by omega) z3 z3) ⟨⟨_, rfl, le_share⟩, ⟨_, rfl, le_share⟩, trivial⟩ rfl (.inr fun x b hb => by rw [List.mem_singleton.1 hb]) (fun z4 => ?_)
       refine r_move rfl rfl rfl ?_
       refine r_scall0 [_, _] [5, 3] rfl rfl rfl (c_ref02_compare (s * b + s * b) rr (by omega) z4 z2) ⟨⟨_, rfl, le_share⟩, ⟨_, rfl, le_share⟩, trivial⟩ rfl ?_
       refine r_cmpInt rfl rfl rfl rfl rfl (r_pickT rfl rfl rfl rfl (run_nil (at_tn ?_)))
       refine at_cond rfl (fun hb9 => ?_) (fun hb9 => ?_)
       ·
        have hs4 : s * b + s * b ≤ rr := cmpN_nonpos.1 (of_decide_eq_true hb9)
        refine at_skip (at_tn (at_block (at_region (r_move rfl rfl rfl ?_))))
        refine r_arith (r := ((2 * s : Nat) : Int)) rfl rfl rfl rfl (congrArg some (wi (by omega) (by omega) (by omega))) ?_
        refine r_move rfl rfl rfl (r_move rfl rfl rfl ?_)
        refine r_scall [_, _] [4, 4] rfl rfl rfl (c_ref02_plus (s * b) (s * b) (by omega) (by omega) z3 z3) ⟨⟨_, rfl, le_share⟩, ⟨_, rfl, le_share⟩, trivial⟩ rfl (.inr fun x b hb => by rw [List.mem_singleton.1 hb]) (fun z5 => ?_)
        refine r_assign rfl rfl rfl (r_assign rfl rfl rfl (run_nil (at_bn (at_tn ?_))))
        exact nextL ⟨⟨2 * s, by omega, hs3, by rw [Nat.two_mul, Nat.add_mul]; exact hs4⟩, ⟨z5.b, z5.n, z5.cap, by show nb (2 * s * b) ≤ z5.cap; rw [e2]; exact z5.h⟩⟩ (by show 128 - 2 * s < 128 - s; omega) ⟨rfl, rfl, rfl, rfl, rfl, rfl, (look_val rfl (congrArg (fun n => slv z5.b 0 (nb n) z5.cap) e2.symm)), trivial⟩ (weak_picks [some 0, some 1, some 2, some 3, some 6] ⟨⟨_, rfl, Blk.le_refl _⟩, ⟨_, rfl, Blk.le_refl _⟩, ⟨_, rfl, Blk.le_refl _⟩, ⟨_, rfl, Blk.le_refl _⟩, ⟨_, rfl, ⟨rfl, rfl, rfl, ⟨(NV .i64 (D8 (s * b + s * b))).length, by show NV .i64 (D8 (2 * s * b)) = _; rw [e2, List.take_length]⟩, fun h => by cases h⟩⟩, trivial⟩ rfl rfl)
       ·
        refine at_exit (at_te (at_te (at_be (at_tn ?_))))
        refine at_drawn (l' := [⟨_,_,_,_,_,_⟩, ⟨_,_,_,_,_,_⟩, ⟨_,_,_,_,_,_⟩, ⟨_,_,_,_,_,_⟩, ⟨_,_,_,_,_,_⟩, ⟨_,_,_,_,_,_⟩, ⟨_,_,_,_,_,_⟩, ⟨_,_,_,_,_,_⟩, ⟨_,_,_,_,_,_⟩, ⟨_,_,_,_,_,_⟩, ⟨_,_,_,_,_,_⟩, ⟨_,_,_,_,_,_⟩, ⟨_,_,_,_,_,_⟩, ⟨_,_,_,_,_,_⟩]) [2000000] [0, 1, 2, 3, 5, 6, 7, 8, 9, 10, 4, 11, 12, 13] mixed (by kernel_rfl) rfl (by kernel_rfl) ?_
        refine r_move rfl rfl rfl (r_move rfl rfl rfl (r_move rfl rfl rfl (r_move rfl rfl rfl (r_move rfl rfl rfl (r_move rfl rfl rfl ?_)))))
        refine r_indexAddr 2 (q) u33 ti3 rfl rfl rfl rfl rfl (by omega) (by omega) (NV_ne (by rw [row_length]; omega)) (by show 0 + Int.toNat _ * 1 = _; omega) ?_
        refine r_load1 2 (q) ti3 rfl rfl rfl rfl (NV_get ((row_get (by omega)).trans (by rw [quS_at]))) ?_
        refine r_move rfl rfl rfl ?_
        refine r_arith (r := ((m + s : Nat) : Int)) rfl rfl rfl rfl (congrArg some (wi (by omega) (by omega) (by omega))) ?_
        refine r_scall [_, _] [3, 4] rfl rfl rfl (c_ref02_minus rr (s * b) (by omega) hs2 z2 z3) ⟨⟨_, rfl, le_share⟩, ⟨_, rfl, le_share⟩, trivial⟩ rfl (.inr fun x b hb => by rw [List.mem_singleton.1 hb]) (fun z6 => ?_)
        refine r_assign rfl rfl rfl ?_
        refine r_indexAddr 2 (q) u33 ti3 rfl rfl rfl rfl rfl (by omega) (by omega) (NV_ne (by rw [row_length]; omega)) (by show 0 + Int.toNat _ * 1 = _; omega) ?_
        refine r_store1 rfl 2 (q) [_, _, ⟨some g0, 3, _, _, true⟩, _, _, _, _] (NV .i64 (row (nb a) (quS a b q (m + s)))) ti3 rfl rfl rfl rfl rfl rfl rfl rfl (by rw [NV_length, row_length]; omega) (by rw [NV_set, row_set (fun j _ => quS_step a b q m (m + s) j)]) rfl ?_
        refine run_nil (at_bn (at_tn ?_))
        exact nextL ⟨⟨(m + s, rr - s * b), dq8_next hq hs2⟩, z6⟩ (by have := Nat.mul_pos hs0 hb; show rr - s * b < rr; omega) ⟨rfl, rfl, rfl, rfl, rfl, trivial⟩ (weak_picks [some 0, some 1, some 2, some 6] ⟨⟨_, rfl, Blk.le_refl _⟩, ⟨_, rfl, Blk.le_refl _⟩, ⟨_, rfl, Blk.le_refl _⟩, ⟨_, rfl, Blk.le_refl _⟩, trivial⟩ rfl rfl)
      ·
       refine r_no rfl rfl rfl (r_no rfl rfl rfl (r_no rfl rfl rfl (r_no rfl rfl rfl (r_no rfl rfl rfl (r_no rfl rfl rfl (r_pickF rfl rfl rfl rfl (run_nil (at_tn (at_condF rfl (at_exit (at_te (at_te (at_be (at_tn ?_))))))))))))))
       refine at_drawn (l' := [⟨_,_,_,_,_,_⟩, ⟨_,_,_,_,_,_⟩, ⟨_,_,_,_,_,_⟩, ⟨_,_,_,_,_,_⟩, ⟨_,_,_,_,_,_⟩, ⟨_,_,_,_,_,_⟩, ⟨_,_,_,_,_,_⟩, ⟨_,_,_,_,_,_⟩, ⟨_,_,_,_,_,_⟩, ⟨_,_,_,_,_,_⟩, ⟨_,_,_,_,_,_⟩, ⟨_,_,_,_,_,_⟩, ⟨_,_,_,_,_,_⟩, ⟨_,_,_,_,_,_⟩]) [2000000] [0, 1, 2, 3, 5, 6, 7, 8, 9, 10, 4, 11, 12, 13] mixed (by kernel_rfl) rfl (by kernel_rfl) ?_
       refine r_move rfl rfl rfl (r_move rfl rfl rfl (r_move rfl rfl rfl (r_move rfl rfl rfl (r_move rfl rfl rfl (r_move rfl rfl rfl ?_)))))
       refine r_indexAddr 2 (q) u33 ti3 rfl rfl rfl rfl rfl (by omega) (by omega) (NV_ne (by rw [row_length]; omega)) (by show 0 + Int.toNat _ * 1 = _; omega) ?_
       refine r_load1 2 (q) ti3 rfl rfl rfl rfl (NV_get ((row_get (by omega)).trans (by rw [quS_at]))) ?_
       refine r_move rfl rfl rfl ?_
       refine r_arith (r := ((m + s : Nat) : Int)) rfl rfl rfl rfl (congrArg some (wi (by omega) (by omega) (by omega))) ?_
       refine r_scall [_, _] [3, 4] rfl rfl rfl (c_ref02_minus rr (s * b) (by omega) hs2 z2 z3) ⟨⟨_, rfl, le_share⟩, ⟨_, rfl, le_share⟩, trivial⟩ rfl (.inr fun x b hb => by rw [List.mem_singleton.1 hb]) (fun z6 => ?_)
       refine r_assign rfl rfl rfl ?_
       refine r_indexAddr 2 (q) u33 ti3 rfl rfl rfl rfl rfl (by omega) (by omega) (NV_ne (by rw [row_length]; omega)) (by show 0 + Int.toNat _ * 1 = _; omega) ?_
       refine r_store1 rfl 2 (q) [_, _, ⟨some g0, 3, _, _, true⟩, _, _, _] (NV .i64 (row (nb a) (quS a b q (m + s)))) ti3 rfl rfl rfl rfl rfl rfl rfl rfl (by rw [NV_length, row_length]; omega) (by rw [NV_set, row_set (fun j _ => quS_step a b q m (m + s) j)]) rfl ?_
       refine run_nil (at_bn (at_tn ?_))
       exact nextL ⟨⟨(m + s, rr - s * b), dq8_next hq hs2⟩, z6⟩ (by have := Nat.mul_pos hs0 hb; show rr - s * b < rr; omega) ⟨rfl, rfl, rfl, rfl, rfl, trivial⟩ (weak_picks [some 0, some 1, some 2, some 5] ⟨⟨_, rfl, Blk.le_refl _⟩, ⟨_, rfl, Blk.le_refl _⟩, ⟨_, rfl, Blk.le_refl _⟩, ⟨_, rfl, Blk.le_refl _⟩, trivial⟩ rfl rfl)
     · exact absurd (of_decide_eq_false hb6) (by omega)
    ·
     have hlt2 : rr < b := by have := of_decide_eq_false hb5; rw [cmpN_nonneg] at this; omega
     obtain ⟨hm, hr⟩ := dq8 hb hq hlt2
     subst hm; subst hr
     refine r_no rfl rfl rfl (r_no rfl rfl rfl (r_no rfl rfl rfl (r_no rfl rfl rfl (r_no rfl rfl rfl (r_pickF rfl rfl rfl rfl (run_nil (at_tn (at_condF rfl (at_exit (at_te (at_te (at_be (at_bn (at_tn (at_region (r_move rfl rfl rfl ?_))))))))))))))))
     refine r_arith (r := ((q : Nat) : Int) - 1) rfl rfl rfl rfl (congrArg some (wi (by omega) (by omega) (by omega))) ?_
     refine r_assign rfl rfl rfl (run_nil (at_tn ?_))
     exact nextL ⟨⟨q, by omega⟩, z2⟩ (Nat.lt_succ_self q) ⟨rfl, rfl, rfl, rfl, rfl, trivial⟩ (weak_picks [some 0, some 1, some 2, some 3] ⟨⟨_, rfl, Blk.le_refl _⟩, ⟨_, rfl, Blk.le_refl _⟩, ⟨_, rfl, le_same (congrArg (fun c => (⟨some g0, 3, NV .i64 c, nb a, true⟩ : Blk)) (row_congr fun j _ => (quS_end a b q j).symm))⟩, ⟨_, rfl, Blk.le_refl _⟩, trivial⟩ rfl rfl)
   ·
    have hp0 : p = 0 := by have := of_decide_eq_false hb3; omega
    subst hp0
    refine at_exit (at_te (at_te (at_be (at_tn (at_seq (at_region (r_move rfl rfl rfl ?_)))))))
    refine r_scall0 [_] [2] rfl rfl rfl (c_ref02_trim (row (nb a) (quT a b 0)) (row_lt fun j => quT_lt a b 0 j) (by rw [row_length]; omega) (row_length _ _) ⟨some g0, nb a, nb a, Nat.le_refl _⟩) ⟨⟨_, rfl, le_share⟩, trivial⟩ rfl ?_
    refine r_know 103 (slv (some g0) 0 (nb (a / b)) (nb a)) rfl (by rw [quT_trim]; rfl) ?_
    refine r_move rfl rfl rfl (r_assign rfl rfl rfl (r_assign rfl rfl rfl (run_nil (at_tn (at_ret ?_)))))
    refine at_end2 rfl (res_tmp rfl) (res_tmp rfl) (fun w hL => ⟨.inl (⟨some g0, nb a, nb a, nb_mono (Nat.div_le_self _ _)⟩, ⟨z.b, z.n, z.cap, by have h := z.h; simp only [Nat.pow_zero, Nat.div_one] at h; exact h⟩), ?_, ?_⟩)
    · exact congrArg (fun n => Ending.returned (.tuple #[slv (some g0) 0 (nb (a / b)) (nb a), slv z.b 0 (nb n) z.cap])) (show a / 256 ^ 0 % b = a % b by rw [Nat.pow_zero, Nat.div_one])
    · exact hL.picks [some 2, some 3] ⟨⟨_, rfl, rfl, rfl, rfl, ⟨nb (a / b), quT_take a b⟩, fun _ => rfl⟩, ⟨_, rfl, le_same (congrArg (fun n => (⟨z.b, 3, NV .i64 (D8 n), z.n, true⟩ : Blk)) (show a % b = a / 256 ^ 0 % b by rw [Nat.pow_zero, Nat.div_one]))⟩, trivial⟩ rfl rfl
end Go.Proofs.YtncogghlhlnmaaaGreatDoor
set_option linter.unusedVariables false
namespace Go.Proofs.YtncogghlhlnmaaaGreatDoor
open Go Go.RowKit Go.Via
set_option maxRecDepth 20000 in
theorem c_ref02_common (a b : Nat) (ha : nb a ≤ 1073740000) (hb : nb b ≤ 1073740000) (x : SR (nb a)) (y : SR (nb b)) : SCallA Tryz.prog 79 [⟨x.b, 3, NV .i64 (D8 a), x.n, false⟩, ⟨y.b, 3, NV .i64 (D8 b), y.n, false⟩] [x.v, y.v] (SR (nb (Nat.gcd a b))) SR.v (fun z => [⟨z.b, 3, NV .i64 (D8 (Nat.gcd a b)), z.n, false⟩]) := by
 refine ⟨by kernel_rfl, fun w hL0 => ?_⟩
 refine calls_at (args := [x.v, y.v]) Tryz.func79 rfl (Nat.le_of_ble_eq_true rfl) hL0 ?_
 show At w ⟨19, [(0, x.v), (1, y.v)], [⟨x.b, 3, NV .i64 (D8 a), x.n, false⟩, ⟨y.b, 3, NV .i64 (D8 b), y.n, false⟩]⟩ _
 refine at_seq (at_region (r_assign rfl rfl rfl (run_nil (at_tn (at_seq (at_block ?_))))))
 refine enterL (nt := 19) (ι := (p : {p : Nat × Nat // Nat.gcd p.1 p.2 = Nat.gcd a b ∧ nb p.1 ≤ 1073740000 ∧ nb p.2 ≤ 1073740000}) × FS [x.b, y.b] (nb p.1.1) × FS [x.b, y.b] (nb p.1.2)) (fun ⟨⟨⟨m, n⟩, hg, hm, hn⟩, ⟨za, oa, hoa⟩, ⟨zb, ob, hob⟩⟩ => [(0, za.v), (1, zb.v)]) (fun ⟨⟨⟨m, n⟩, hg, hm, hn⟩, ⟨za, oa, hoa⟩, ⟨zb, ob, hob⟩⟩ => [⟨x.b, 3, NV .i64 (D8 a), x.n, false⟩, ⟨y.b, 3, NV .i64 (D8 b), y.n, false⟩, ⟨za.b, 3, NV .i64 (D8 (m)), za.n, oa⟩, ⟨zb.b, 3, NV .i64 (D8 (n)), zb.n, ob⟩]) (fun ⟨⟨⟨m, n⟩, hg, hm, hn⟩, ⟨za, oa, hoa⟩, ⟨zb, ob, hob⟩⟩ => n) ⟨⟨(a, b), rfl, ha, hb⟩, ⟨x, false, .inr (by simp)⟩, ⟨y, false, .inr (by simp)⟩⟩ ⟨rfl, rfl, trivial⟩ (weak_picks [some 0, some 1, some 0, some 1] ⟨⟨_, rfl, Blk.le_refl _⟩, ⟨_, rfl, Blk.le_refl _⟩, ⟨_, rfl, Blk.le_refl _⟩, ⟨_, rfl, Blk.le_refl _⟩, trivial⟩ rfl rfl) ?_
 rintro ⟨⟨⟨m, n⟩, hg, hm, hn⟩, ⟨za, oa, hoa⟩, ⟨zb, ob, hob⟩⟩
 show At _ ⟨19, [(0, za.v), (1, zb.v)], [⟨x.b, 3, NV .i64 (D8 a), x.n, false⟩, ⟨y.b, 3, NV .i64 (D8 b), y.n, false⟩, ⟨za.b, 3, NV .i64 (D8 (m)), za.n, oa⟩, ⟨zb.b, 3, NV .i64 (D8 (n)), zb.n, ob⟩]⟩ _
 replace hm : nb m ≤ 1073740000 := hm
 replace hn : nb n ≤ 1073740000 := hn
 replace hg : Nat.gcd m n = Nat.gcd a b := hg
 refine at_seq (at_seq (at_region (r_move rfl rfl rfl ?_)))
 refine r_lenS u33 rfl rfl rfl ?_
 refine r_cmpInt rfl rfl rfl rfl rfl (run_nil (at_tn ?_))
 refine at_cond rfl (fun hb1 => ?_) (fun hb1 => ?_)
 ·
  have hn0 : 0 < n := Nat.pos_of_ne_zero (fun e => by subst e; rw [nb_zero] at hb1; cases hb1)
  refine at_skip (at_tn (at_block (at_seq (at_region (r_move rfl rfl rfl (r_move rfl rfl rfl ?_))))))
  refine r_scall [_, _] [2, 3] rfl rfl rfl (c_ref02_divide m n hn0 hm hn za zb) ⟨⟨_, rfl, le_share⟩, ⟨_, rfl, le_share⟩, trivial⟩ rfl (.inr divNew_own) (fun z => ?_)
  rcases z with z | hlt
  ·
   refine r_move rfl rfl rfl ?_
   refine r_extract (vs := [_, _]) rfl rfl rfl rfl ?_
   refine r_extract (vs := [_, _]) rfl rfl rfl rfl ?_
   refine r_assign rfl rfl rfl (r_assign rfl rfl rfl (run_nil (at_tn (at_region (r_move rfl rfl rfl (r_move rfl rfl rfl (r_assign rfl rfl rfl (r_assign rfl rfl rfl (run_nil (at_bn (at_tn ?_)))))))))))
   exact nextL ⟨⟨(n, m % n), gcd_step8 hg, hn, Nat.le_trans (nb_mono (Nat.mod_le _ _)) hm⟩, ⟨zb, ob, hob⟩, ⟨z.2, true, .inl rfl⟩⟩ (Nat.mod_lt _ hn0) ⟨rfl, rfl, trivial⟩ (weak_picks [some 0, some 1, some 3, some 5] ⟨⟨_, rfl, Blk.le_refl _⟩, ⟨_, rfl, Blk.le_refl _⟩, ⟨_, rfl, Blk.le_refl _⟩, ⟨_, rfl, Blk.le_refl _⟩, trivial⟩ rfl (by cases ob <;> rfl))
  ·
   have hlt := hlt.down
   refine r_move rfl rfl rfl ?_
   refine r_extract (vs := [_, _]) rfl rfl rfl rfl ?_
   refine r_extract (vs := [_, _]) rfl rfl rfl rfl ?_
   refine r_assign rfl rfl rfl (r_assign rfl rfl rfl (run_nil (at_tn (at_region (r_move rfl rfl rfl (r_move rfl rfl rfl (r_assign rfl rfl rfl (r_assign rfl rfl rfl (run_nil (at_bn (at_tn ?_)))))))))))
   exact nextL ⟨⟨(n, m), (Nat.gcd_comm n m).trans hg, hn, hm⟩, ⟨zb, ob, hob⟩, ⟨za, oa, hoa⟩⟩ hlt ⟨rfl, rfl, trivial⟩ (weak_picks [some 0, some 1, some 3, some 2] ⟨⟨_, rfl, Blk.le_refl _⟩, ⟨_, rfl, Blk.le_refl _⟩, ⟨_, rfl, Blk.le_refl _⟩, ⟨_, rfl, Blk.le_refl _⟩, trivial⟩ rfl (by cases oa <;> cases ob <;> rfl))
 ·
  have hn1 : n = 0 := Classical.byContradiction fun e => by have := nb_pos e; have hz : ¬ ((0 : Int) < ((nb n : Nat) : Int)) := of_decide_eq_false hb1; omega
  subst hn1
  rw [Nat.gcd_zero_right] at hg
  replace hg : m = Nat.gcd a b := hg
  subst hg
  refine at_exit (at_te (at_te (at_be (at_tn (at_seq (at_region (r_move rfl rfl rfl (r_assign rfl rfl rfl (run_nil (at_tn (at_ret ?_)))))))))))
  refine at_end1 rfl (res_tmp rfl) (fun w hL => ⟨za, ?_, hL.picks [some 2] ⟨⟨_, rfl, le_share⟩, trivial⟩ rfl rfl, fun c hc => ?_⟩)
  · rfl
  · rw [List.mem_singleton.1 hc]
    exact fs_new hL 2 rfl rfl rfl hoa rfl
end Go.Proofs.YtncogghlhlnmaaaGreatDoor
set_option linter.unusedVariables false
namespace Go.Proofs.YtncogghlhlnmaaaGreatDoor
open Go Go.RowKit Go.Via
end Go.Proofs.YtncogghlhlnmaaaGreatDoor
