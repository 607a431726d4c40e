/-
  Part 9: lemmas, and walks through the functions that the laws of chapter 26 call. Each theorem states its own conditions.
-/
import Derived.Test.YtncogghlhlnmaaaGreatDoorA05
import Derived.Test.YtncogghlhlnmaaaGreatDoorA06
import Derived.Test.YtncogghlhlnmaaaGreatDoorA08
set_option linter.unusedVariables false
set_option linter.unusedVariables false
namespace Go.Proofs.YtncogghlhlnmaaaGreatDoor
open Go Go.RowKit Go.Via
set_option maxRecDepth 20000 in
theorem c_ref02_plus (a b : Nat) (ha : nb a ≤ 1073741000) (hb : nb b ≤ 1073741000) (x : SR (nb a)) (y : SR (nb b)) : SCall Tryz.prog 67 [⟨x.b, 3, NV .i64 (D8 a), x.n, false⟩, ⟨y.b, 3, NV .i64 (D8 b), y.n, false⟩] [x.v, y.v] (SR (nb (a + b))) SR.v (fun x => [⟨x.b, 3, NV .i64 (D8 (a + b)), x.n, true⟩]) := by
 refine ⟨by kernel_rfl, fun w hL0 => ?_⟩
 refine calls_at (args := [x.v, y.v]) Tryz.func67 rfl (Nat.le_of_ble_eq_true rfl) hL0 ?_
 show At w ⟨53, [(0, x.v), (1, y.v)], [⟨x.b, 3, NV .i64 (D8 a), x.n, false⟩, ⟨y.b, 3, NV .i64 (D8 b), y.n, false⟩]⟩ _
 refine at_seq (at_region (r_assign rfl rfl rfl (run_nil (at_tn (at_seq (at_region (r_assign rfl rfl rfl (run_nil (at_tn (at_seq (at_region (r_assign rfl rfl rfl (run_nil (at_tn (at_seq (at_seq (at_region (r_assign rfl rfl rfl (run_nil (at_tn (at_block ?_)))))))))))))))))))))
 refine enterL (nt := 53) (ι := {x : Nat × Option Nat × Nat × Nat // x.1 ≤ max (nb a) (nb b) + 1 ∧ x.1 ≤ x.2.2.2 ∧ x.2.2.2 ≤ x.2.2.1}) (fun ⟨⟨i, ob, oN, oc⟩, hi, h1, h2⟩ => [(0, x.v), (1, y.v), (5, slv ob 0 i oc), (6, .int .i64 (ad8C a b i : Nat)), (7, .int .i64 (i : Nat))]) (fun ⟨⟨i, ob, oN, oc⟩, hi, h1, h2⟩ => [⟨x.b, 3, NV .i64 (D8 a), x.n, false⟩, ⟨y.b, 3, NV .i64 (D8 b), y.n, false⟩, ⟨ob, 3, NV .i64 (row i (dg8 (a + b))), oN, true⟩]) (fun ⟨⟨i, ob, oN, oc⟩, hi, h1, h2⟩ => max (nb a) (nb b) + 1 - i) ⟨(0, none, 0, 0), Nat.zero_le _, Nat.le_refl _, Nat.le_refl _⟩ ⟨rfl, rfl, rfl, (look_val rfl (by rw [ad8C_zero]; rfl)), rfl, trivial⟩ (weak_picks [some 0, some 1, none] ⟨⟨_, rfl, Blk.le_refl _⟩, ⟨_, rfl, Blk.le_refl _⟩, ⟨rfl, rfl, rfl⟩, trivial⟩ rfl rfl) ?_
 rintro ⟨⟨i, ob, oN, oc⟩, hi, h1, h2⟩
 show At _ ⟨53, [(0, x.v), (1, y.v), (5, slv ob 0 i oc), (6, .int .i64 (ad8C a b i : Nat)), (7, .int .i64 (i : Nat))], [⟨x.b, 3, NV .i64 (D8 a), x.n, false⟩, ⟨y.b, 3, NV .i64 (D8 b), y.n, false⟩, ⟨ob, 3, NV .i64 (row i (dg8 (a + b))), oN, true⟩]⟩ _
 replace hi : i ≤ max (nb a) (nb b) + 1 := hi
 replace h1 : i ≤ oc := h1
 replace h2 : oc ≤ oN := h2
 refine at_seq (at_seq (at_region (r_move rfl rfl rfl (r_move rfl rfl rfl (r_lenS u33 rfl rfl rfl (r_cmpInt rfl rfl rfl rfl rfl (r_move rfl rfl rfl ?_)))))))
 refine r_split 12 rfl (fun hb1 => ?_) (fun hb1 => ?_)
 ·
  have hia : i < nb a := (by have := of_decide_eq_true hb1; omega)
  have hmx : i ≤ max (nb a) (nb b) := by omega
  refine r_no rfl rfl rfl (r_no rfl rfl rfl (r_no rfl rfl rfl (r_no rfl rfl rfl (r_pickT rfl rfl rfl rfl (r_move rfl rfl rfl (r_no rfl rfl rfl (r_no rfl rfl rfl (r_pickT rfl rfl rfl rfl (run_nil (at_tn (at_condT rfl (at_skip (at_tn (at_seq (at_block (at_seq (at_seq (at_region (r_move rfl rfl rfl (r_move rfl rfl rfl (r_lenS u33 rfl rfl rfl (r_cmpInt rfl rfl rfl rfl rfl (run_nil (at_tn ?_))))))))))))))))))))))))
  refine at_cond rfl (fun hb2 => ?_) (fun hb2 => ?_)
  ·
   have hja : i < nb a := (by have := of_decide_eq_true hb2; omega)
   have hcl := ad8C_le a b i
   have hax := m256 (a / 256 ^ i)
   have hbx := m256 (b / 256 ^ i)
   have hsl := ad8S_lt a b i
   refine at_region (r_move rfl rfl rfl (r_move rfl rfl rfl (r_move rfl rfl rfl ?_)))
   refine r_indexAddr 0 (i) u33 ti3 rfl rfl rfl rfl rfl (by omega) (by omega) (NV_ne (by rw [D8_length]; omega)) (by show 0 + Int.toNat _ * 1 = _; omega) ?_
   refine r_load1 0 (i) ti3 rfl rfl rfl rfl (NV_get (D8_get (by omega))) ?_
   refine r_arith (r := ((ad8C a b i + a / 256 ^ i % 256 : Nat) : Int)) rfl rfl rfl rfl (congrArg some (wi (by omega) (by omega) (by omega))) ?_
   refine r_assign rfl rfl rfl (run_nil (at_tn (at_seq (at_seq (at_region (r_move rfl rfl rfl (r_move rfl rfl rfl (r_lenS u33 rfl rfl rfl (r_cmpInt rfl rfl rfl rfl rfl (run_nil (at_tn ?_)))))))))))
   refine at_cond rfl (fun hb3 => ?_) (fun hb3 => ?_)
   ·
    have hjb : i < nb b := (by have := of_decide_eq_true hb3; omega)
    refine at_region (r_move rfl rfl rfl (r_move rfl rfl rfl (r_move rfl rfl rfl ?_)))
    refine r_indexAddr 1 (i) u33 ti3 rfl rfl rfl rfl rfl (by omega) (by omega) (NV_ne (by rw [D8_length]; omega)) (by show 0 + Int.toNat _ * 1 = _; omega) ?_
    refine r_load1 1 (i) ti3 rfl rfl rfl rfl (NV_get (D8_get (by omega))) ?_
    refine r_arith (r := ((ad8S a b i : Nat) : Int)) rfl rfl rfl rfl (congrArg some (wi (by omega) (by omega) (by rw [ad8S_eq]; omega))) ?_
    refine r_assign rfl rfl rfl (run_nil (at_tn (at_seq (at_region (r_move rfl rfl rfl (r_move rfl rfl rfl ?_))))))
    refine r_div (r := ((dg8 (a + b) i : Nat) : Int)) rfl rfl rfl rfl (by omega) (congrArg some ((rem_n _ 256 rfl rfl).trans (by rw [ad8S_low]; rfl))) ?_
    refine r_buildSlice [(0, _)] (fun g => [_, _, _, ⟨some g, 3, _, 1, true⟩]) rfl rfl rfl (bs33_1) rfl (fun _ => rfl) (fun g0 => ?_)
    refine q_append (s := 1) (len := i) (n2 := 1) 2 3 (fun r => [_, _, ⟨some r.g, 3, NV .i64 (row (i + 1) (dg8 (a + b))), r.n, true⟩, ⟨some g0, 3, _, 1, true⟩]) u33 el3 rfl rfl rfl rfl rfl rfl rfl rfl rfl rfl rfl rfl (by rw [NV_length, row_length]; omega) (by omega) (by show oc * 1 ≤ oN; omega) rfl (Go.Via.one_cell _ _) (by omega) (fun r => congrArg (fun c => [_, _, (⟨some r.g, 3, c, r.n, true⟩ : Blk), ⟨some g0, 3, _, 1, true⟩]) (NV_snoc _ _ _ _ (rfl))) (fun r => ?_)
    refine r_assign rfl rfl rfl (run_nil (at_tn (at_region (r_move rfl rfl rfl ?_))))
    refine r_div (r := ((ad8C a b (i + 1) : Nat) : Int)) rfl rfl rfl rfl (by omega) (congrArg some ((quo_i _ 256 rfl rfl (by omega)).trans (by rw [ad8S_carry]))) ?_
    refine r_assign rfl rfl rfl (run_nil (at_bn (at_tn (at_region (r_move rfl rfl rfl ?_)))))
    refine r_arith (r := ((i + 1 : Nat) : Int)) rfl rfl rfl rfl (congrArg some (wi (by omega) (by omega) (by omega))) ?_
    refine r_assign rfl rfl rfl (run_nil (at_tn ?_))
    exact nextL ⟨(i + 1, some r.g, r.n, r.cap), Nat.succ_le_succ hmx, r.h, by have := r.hn; show r.cap ≤ r.n; omega⟩ (by show max (nb a) (nb b) + 1 - (i + 1) < max (nb a) (nb b) + 1 - i; omega) ⟨rfl, rfl, rfl, rfl, rfl, trivial⟩ (weak_picks [some 0, some 1, some 2] ⟨⟨_, rfl, Blk.le_refl _⟩, ⟨_, rfl, Blk.le_refl _⟩, ⟨_, rfl, Blk.le_refl _⟩, trivial⟩ rfl rfl)
   ·
    have hjb : nb b ≤ i := (by have := of_decide_eq_false hb3; omega)
    refine at_know 6 (.int .i64 (ad8S a b i : Nat)) rfl (by rw [ad8S_eq, dg8_above hjb]; rfl) ?_
    refine at_skip (at_tn (at_seq (at_region (r_move rfl rfl rfl (r_move rfl rfl rfl ?_)))))
    refine r_div (r := ((dg8 (a + b) i : Nat) : Int)) rfl rfl rfl rfl (by omega) (congrArg some ((rem_n _ 256 rfl rfl).trans (by rw [ad8S_low]; rfl))) ?_
    refine r_buildSlice [(0, _)] (fun g => [_, _, _, ⟨some g, 3, _, 1, true⟩]) rfl rfl rfl (bs33_1) rfl (fun _ => rfl) (fun g0 => ?_)
    refine q_append (s := 1) (len := i) (n2 := 1) 2 3 (fun r => [_, _, ⟨some r.g, 3, NV .i64 (row (i + 1) (dg8 (a + b))), r.n, true⟩, ⟨some g0, 3, _, 1, true⟩]) u33 el3 rfl rfl rfl rfl rfl rfl rfl rfl rfl rfl rfl rfl (by rw [NV_length, row_length]; omega) (by omega) (by show oc * 1 ≤ oN; omega) rfl (Go.Via.one_cell _ _) (by omega) (fun r => congrArg (fun c => [_, _, (⟨some r.g, 3, c, r.n, true⟩ : Blk), ⟨some g0, 3, _, 1, true⟩]) (NV_snoc _ _ _ _ (rfl))) (fun r => ?_)
    refine r_assign rfl rfl rfl (run_nil (at_tn (at_region (r_move rfl rfl rfl ?_))))
    refine r_div (r := ((ad8C a b (i + 1) : Nat) : Int)) rfl rfl rfl rfl (by omega) (congrArg some ((quo_i _ 256 rfl rfl (by omega)).trans (by rw [ad8S_carry]))) ?_
    refine r_assign rfl rfl rfl (run_nil (at_bn (at_tn (at_region (r_move rfl rfl rfl ?_)))))
    refine r_arith (r := ((i + 1 : Nat) : Int)) rfl rfl rfl rfl (congrArg some (wi (by omega) (by omega) (by omega))) ?_
    refine r_assign rfl rfl rfl (run_nil (at_tn ?_))
    exact nextL ⟨(i + 1, some r.g, r.n, r.cap), Nat.succ_le_succ hmx, r.h, by have := r.hn; show r.cap ≤ r.n; omega⟩ (by show max (nb a) (nb b) + 1 - (i + 1) < max (nb a) (nb b) + 1 - i; omega) ⟨rfl, rfl, rfl, rfl, rfl, trivial⟩ (weak_picks [some 0, some 1, some 2] ⟨⟨_, rfl, Blk.le_refl _⟩, ⟨_, rfl, Blk.le_refl _⟩, ⟨_, rfl, Blk.le_refl _⟩, trivial⟩ rfl rfl)
  ·
   have hja : nb a ≤ i := (by have := of_decide_eq_false hb2; omega)
   have hcl := ad8C_le a b i
   have hax := m256 (a / 256 ^ i)
   have hbx := m256 (b / 256 ^ i)
   have hsl := ad8S_lt a b i
   refine at_know 6 (.int .i64 (ad8C a b i + a / 256 ^ i % 256 : Nat)) rfl (by rw [dg8_above hja]; rfl) ?_
   refine at_skip (at_tn (at_seq (at_seq (at_region (r_move rfl rfl rfl (r_move rfl rfl rfl (r_lenS u33 rfl rfl rfl (r_cmpInt rfl rfl rfl rfl rfl (run_nil (at_tn ?_))))))))))
   refine at_cond rfl (fun hb3 => ?_) (fun hb3 => ?_)
   ·
    have hjb : i < nb b := (by have := of_decide_eq_true hb3; omega)
    refine at_region (r_move rfl rfl rfl (r_move rfl rfl rfl (r_move rfl rfl rfl ?_)))
    refine r_indexAddr 1 (i) u33 ti3 rfl rfl rfl rfl rfl (by omega) (by omega) (NV_ne (by rw [D8_length]; omega)) (by show 0 + Int.toNat _ * 1 = _; omega) ?_
    refine r_load1 1 (i) ti3 rfl rfl rfl rfl (NV_get (D8_get (by omega))) ?_
    refine r_arith (r := ((ad8S a b i : Nat) : Int)) rfl rfl rfl rfl (congrArg some (wi (by omega) (by omega) (by rw [ad8S_eq]; omega))) ?_
    refine r_assign rfl rfl rfl (run_nil (at_tn (at_seq (at_region (r_move rfl rfl rfl (r_move rfl rfl rfl ?_))))))
    refine r_div (r := ((dg8 (a + b) i : Nat) : Int)) rfl rfl rfl rfl (by omega) (congrArg some ((rem_n _ 256 rfl rfl).trans (by rw [ad8S_low]; rfl))) ?_
    refine r_buildSlice [(0, _)] (fun g => [_, _, _, ⟨some g, 3, _, 1, true⟩]) rfl rfl rfl (bs33_1) rfl (fun _ => rfl) (fun g0 => ?_)
    refine q_append (s := 1) (len := i) (n2 := 1) 2 3 (fun r => [_, _, ⟨some r.g, 3, NV .i64 (row (i + 1) (dg8 (a + b))), r.n, true⟩, ⟨some g0, 3, _, 1, true⟩]) u33 el3 rfl rfl rfl rfl rfl rfl rfl rfl rfl rfl rfl rfl (by rw [NV_length, row_length]; omega) (by omega) (by show oc * 1 ≤ oN; omega) rfl (Go.Via.one_cell _ _) (by omega) (fun r => congrArg (fun c => [_, _, (⟨some r.g, 3, c, r.n, true⟩ : Blk), ⟨some g0, 3, _, 1, true⟩]) (NV_snoc _ _ _ _ (rfl))) (fun r => ?_)
    refine r_assign rfl rfl rfl (run_nil (at_tn (at_region (r_move rfl rfl rfl ?_))))
    refine r_div (r := ((ad8C a b (i + 1) : Nat) : Int)) rfl rfl rfl rfl (by omega) (congrArg some ((quo_i _ 256 rfl rfl (by omega)).trans (by rw [ad8S_carry]))) ?_
    refine r_assign rfl rfl rfl (run_nil (at_bn (at_tn (at_region (r_move rfl rfl rfl ?_)))))
    refine r_arith (r := ((i + 1 : Nat) : Int)) rfl rfl rfl rfl (congrArg some (wi (by omega) (by omega) (by omega))) ?_
    refine r_assign rfl rfl rfl (run_nil (at_tn ?_))
    exact nextL ⟨(i + 1, some r.g, r.n, r.cap), Nat.succ_le_succ hmx, r.h, by have := r.hn; show r.cap ≤ r.n; omega⟩ (by show max (nb a) (nb b) + 1 - (i + 1) < max (nb a) (nb b) + 1 - i; omega) ⟨rfl, rfl, rfl, rfl, rfl, trivial⟩ (weak_picks [some 0, some 1, some 2] ⟨⟨_, rfl, Blk.le_refl _⟩, ⟨_, rfl, Blk.le_refl _⟩, ⟨_, rfl, Blk.le_refl _⟩, trivial⟩ rfl rfl)
   ·
    have hjb : nb b ≤ i := (by have := of_decide_eq_false hb3; omega)
    refine at_know 6 (.int .i64 (ad8S a b i : Nat)) rfl (by rw [ad8S_eq, dg8_above hjb]; rfl) ?_
    refine at_skip (at_tn (at_seq (at_region (r_move rfl rfl rfl (r_move rfl rfl rfl ?_)))))
    refine r_div (r := ((dg8 (a + b) i : Nat) : Int)) rfl rfl rfl rfl (by omega) (congrArg some ((rem_n _ 256 rfl rfl).trans (by rw [ad8S_low]; rfl))) ?_
    refine r_buildSlice [(0, _)] (fun g => [_, _, _, ⟨some g, 3, _, 1, true⟩]) rfl rfl rfl (bs33_1) rfl (fun _ => rfl) (fun g0 => ?_)
    refine q_append (s := 1) (len := i) (n2 := 1) 2 3 (fun r => [_, _, ⟨some r.g, 3, NV .i64 (row (i + 1) (dg8 (a + b))), r.n, true⟩, ⟨some g0, 3, _, 1, true⟩]) u33 el3 rfl rfl rfl rfl rfl rfl rfl rfl rfl rfl rfl rfl (by rw [NV_length, row_length]; omega) (by omega) (by show oc * 1 ≤ oN; omega) rfl (Go.Via.one_cell _ _) (by omega) (fun r => congrArg (fun c => [_, _, (⟨some r.g, 3, c, r.n, true⟩ : Blk), ⟨some g0, 3, _, 1, true⟩]) (NV_snoc _ _ _ _ (rfl))) (fun r => ?_)
    refine r_assign rfl rfl rfl (run_nil (at_tn (at_region (r_move rfl rfl rfl ?_))))
    refine r_div (r := ((ad8C a b (i + 1) : Nat) : Int)) rfl rfl rfl rfl (by omega) (congrArg some ((quo_i _ 256 rfl rfl (by omega)).trans (by rw [ad8S_carry]))) ?_
    refine r_assign rfl rfl rfl (run_nil (at_bn (at_tn (at_region (r_move rfl rfl rfl ?_)))))
    refine r_arith (r := ((i + 1 : Nat) : Int)) rfl rfl rfl rfl (congrArg some (wi (by omega) (by omega) (by omega))) ?_
    refine r_assign rfl rfl rfl (run_nil (at_tn ?_))
    exact nextL ⟨(i + 1, some r.g, r.n, r.cap), Nat.succ_le_succ hmx, r.h, by have := r.hn; show r.cap ≤ r.n; omega⟩ (by show max (nb a) (nb b) + 1 - (i + 1) < max (nb a) (nb b) + 1 - i; omega) ⟨rfl, rfl, rfl, rfl, rfl, trivial⟩ (weak_picks [some 0, some 1, some 2] ⟨⟨_, rfl, Blk.le_refl _⟩, ⟨_, rfl, Blk.le_refl _⟩, ⟨_, rfl, Blk.le_refl _⟩, trivial⟩ rfl rfl)
 ·
  have hia : nb a ≤ i := (by have := of_decide_eq_false hb1; omega)
  refine r_move rfl rfl rfl (r_move rfl rfl rfl (r_lenS u33 rfl rfl rfl (r_cmpInt rfl rfl rfl rfl rfl (r_pickF rfl rfl rfl rfl (r_move rfl rfl rfl ?_)))))
  refine r_split 18 rfl (fun hb2 => ?_) (fun hb2 => ?_)
  ·
   have hib : i < nb b := (by have := of_decide_eq_true hb2; omega)
   have hmx : i ≤ max (nb a) (nb b) := by omega
   refine r_no rfl rfl rfl (r_no rfl rfl rfl (r_pickT rfl rfl rfl rfl (run_nil (at_tn (at_condT rfl (at_skip (at_tn (at_seq (at_block (at_seq (at_seq (at_region (r_move rfl rfl rfl (r_move rfl rfl rfl (r_lenS u33 rfl rfl rfl (r_cmpInt rfl rfl rfl rfl rfl (run_nil (at_tn ?_))))))))))))))))))
   refine at_cond rfl (fun hb3 => ?_) (fun hb3 => ?_)
   ·
    have hja : i < nb a := (by have := of_decide_eq_true hb3; omega)
    have hcl := ad8C_le a b i
    have hax := m256 (a / 256 ^ i)
    have hbx := m256 (b / 256 ^ i)
    have hsl := ad8S_lt a b i
    refine at_region (r_move rfl rfl rfl (r_move rfl rfl rfl (r_move rfl rfl rfl ?_)))
    refine r_indexAddr 0 (i) u33 ti3 rfl rfl rfl rfl rfl (by omega) (by omega) (NV_ne (by rw [D8_length]; omega)) (by show 0 + Int.toNat _ * 1 = _; omega) ?_
    refine r_load1 0 (i) ti3 rfl rfl rfl rfl (NV_get (D8_get (by omega))) ?_
    refine r_arith (r := ((ad8C a b i + a / 256 ^ i % 256 : Nat) : Int)) rfl rfl rfl rfl (congrArg some (wi (by omega) (by omega) (by omega))) ?_
    refine r_assign rfl rfl rfl (run_nil (at_tn (at_seq (at_seq (at_region (r_move rfl rfl rfl (r_move rfl rfl rfl (r_lenS u33 rfl rfl rfl (r_cmpInt rfl rfl rfl rfl rfl (run_nil (at_tn ?_)))))))))))
    refine at_cond rfl (fun hb4 => ?_) (fun hb4 => ?_)
    ·
     have hjb : i < nb b := (by have := of_decide_eq_true hb4; omega)
     refine at_region (r_move rfl rfl rfl (r_move rfl rfl rfl (r_move rfl rfl rfl ?_)))
     refine r_indexAddr 1 (i) u33 ti3 rfl rfl rfl rfl rfl (by omega) (by omega) (NV_ne (by rw [D8_length]; omega)) (by show 0 + Int.toNat _ * 1 = _; omega) ?_
     refine r_load1 1 (i) ti3 rfl rfl rfl rfl (NV_get (D8_get (by omega))) ?_
     refine r_arith (r := ((ad8S a b i : Nat) : Int)) rfl rfl rfl rfl (congrArg some (wi (by omega) (by omega) (by rw [ad8S_eq]; omega))) ?_
     refine r_assign rfl rfl rfl (run_nil (at_tn (at_seq (at_region (r_move rfl rfl rfl (r_move rfl rfl rfl ?_))))))
     refine r_div (r := ((dg8 (a + b) i : Nat) : Int)) rfl rfl rfl rfl (by omega) (congrArg some ((rem_n _ 256 rfl rfl).trans (by rw [ad8S_low]; rfl))) ?_
     refine r_buildSlice [(0, _)] (fun g => [_, _, _, ⟨some g, 3, _, 1, true⟩]) rfl rfl rfl (bs33_1) rfl (fun _ => rfl) (fun g0 => ?_)
     refine q_append (s := 1) (len := i) (n2 := 1) 2 3 (fun r => [_, _, ⟨some r.g, 3, NV .i64 (row (i + 1) (dg8 (a + b))), r.n, true⟩, ⟨some g0, 3, _, 1, true⟩]) u33 el3 rfl rfl rfl rfl rfl rfl rfl rfl rfl rfl rfl rfl (by rw [NV_length, row_length]; omega) (by omega) (by show oc * 1 ≤ oN; omega) rfl (Go.Via.one_cell _ _) (by omega) (fun r => congrArg (fun c => [_, _, (⟨some r.g, 3, c, r.n, true⟩ : Blk), ⟨some g0, 3, _, 1, true⟩]) (NV_snoc _ _ _ _ (rfl))) (fun r => ?_)
     refine r_assign rfl rfl rfl (run_nil (at_tn (at_region (r_move rfl rfl rfl ?_))))
     refine r_div (r := ((ad8C a b (i + 1) : Nat) : Int)) rfl rfl rfl rfl (by omega) (congrArg some ((quo_i _ 256 rfl rfl (by omega)).trans (by rw [ad8S_carry]))) ?_
     refine r_assign rfl rfl rfl (run_nil (at_bn (at_tn (at_region (r_move rfl rfl rfl ?_)))))
     refine r_arith (r := ((i + 1 : Nat) : Int)) rfl rfl rfl rfl (congrArg some (wi (by omega) (by omega) (by omega))) ?_
     refine r_assign rfl rfl rfl (run_nil (at_tn ?_))
     exact nextL ⟨(i + 1, some r.g, r.n, r.cap), Nat.succ_le_succ hmx, r.h, by have := r.hn; show r.cap ≤ r.n; omega⟩ (by show max (nb a) (nb b) + 1 - (i + 1) < max (nb a) (nb b) + 1 - i; omega) ⟨rfl, rfl, rfl, rfl, rfl, trivial⟩ (weak_picks [some 0, some 1, some 2] ⟨⟨_, rfl, Blk.le_refl _⟩, ⟨_, rfl, Blk.le_refl _⟩, ⟨_, rfl, Blk.le_refl _⟩, trivial⟩ rfl rfl)
    ·
     have hjb : nb b ≤ i := (by have := of_decide_eq_false hb4; omega)
     refine at_know 6 (.int .i64 (ad8S a b i : Nat)) rfl (by rw [ad8S_eq, dg8_above hjb]; rfl) ?_
     refine at_skip (at_tn (at_seq (at_region (r_move rfl rfl rfl (r_move rfl rfl rfl ?_)))))
     refine r_div (r := ((dg8 (a + b) i : Nat) : Int)) rfl rfl rfl rfl (by omega) (congrArg some ((rem_n _ 256 rfl rfl).trans (by rw [ad8S_low]; rfl))) ?_
     refine r_buildSlice [(0, _)] (fun g => [_, _, _, ⟨some g, 3, _, 1, true⟩]) rfl rfl rfl (bs33_1) rfl (fun _ => rfl) (fun g0 => ?_)
     refine q_append (s := 1) (len := i) (n2 := 1) 2 3 (fun r => [_, _, ⟨some r.g, 3, NV .i64 (row (i + 1) (dg8 (a + b))), r.n, true⟩, ⟨some g0, 3, _, 1, true⟩]) u33 el3 rfl rfl rfl rfl rfl rfl rfl rfl rfl rfl rfl rfl (by rw [NV_length, row_length]; omega) (by omega) (by show oc * 1 ≤ oN; omega) rfl (Go.Via.one_cell _ _) (by omega) (fun r => congrArg (fun c => [_, _, (⟨some r.g, 3, c, r.n, true⟩ : Blk), ⟨some g0, 3, _, 1, true⟩]) (NV_snoc _ _ _ _ (rfl))) (fun r => ?_)
     refine r_assign rfl rfl rfl (run_nil (at_tn (at_region (r_move rfl rfl rfl ?_))))
     refine r_div (r := ((ad8C a b (i + 1) : Nat) : Int)) rfl rfl rfl rfl (by omega) (congrArg some ((quo_i _ 256 rfl rfl (by omega)).trans (by rw [ad8S_carry]))) ?_
     refine r_assign rfl rfl rfl (run_nil (at_bn (at_tn (at_region (r_move rfl rfl rfl ?_)))))
     refine r_arith (r := ((i + 1 : Nat) : Int)) rfl rfl rfl rfl (congrArg some (wi (by omega) (by omega) (by omega))) ?_
     refine r_assign rfl rfl rfl (run_nil (at_tn ?_))
     exact nextL ⟨(i + 1, some r.g, r.n, r.cap), Nat.succ_le_succ hmx, r.h, by have := r.hn; show r.cap ≤ r.n; omega⟩ (by show max (nb a) (nb b) + 1 - (i + 1) < max (nb a) (nb b) + 1 - i; omega) ⟨rfl, rfl, rfl, rfl, rfl, trivial⟩ (weak_picks [some 0, some 1, some 2] ⟨⟨_, rfl, Blk.le_refl _⟩, ⟨_, rfl, Blk.le_refl _⟩, ⟨_, rfl, Blk.le_refl _⟩, trivial⟩ rfl rfl)
   ·
    have hja : nb a ≤ i := (by have := of_decide_eq_false hb3; omega)
    have hcl := ad8C_le a b i
    have hax := m256 (a / 256 ^ i)
    have hbx := m256 (b / 256 ^ i)
    have hsl := ad8S_lt a b i
    refine at_know 6 (.int .i64 (ad8C a b i + a / 256 ^ i % 256 : Nat)) rfl (by rw [dg8_above hja]; rfl) ?_
    refine at_skip (at_tn (at_seq (at_seq (at_region (r_move rfl rfl rfl (r_move rfl rfl rfl (r_lenS u33 rfl rfl rfl (r_cmpInt rfl rfl rfl rfl rfl (run_nil (at_tn ?_))))))))))
    refine at_cond rfl (fun hb4 => ?_) (fun hb4 => ?_)
    ·
     have hjb : i < nb b := (by have := of_decide_eq_true hb4; omega)
     refine at_region (r_move rfl rfl rfl (r_move rfl rfl rfl (r_move rfl rfl rfl ?_)))
     refine r_indexAddr 1 (i) u33 ti3 rfl rfl rfl rfl rfl (by omega) (by omega) (NV_ne (by rw [D8_length]; omega)) (by show 0 + Int.toNat _ * 1 = _; omega) ?_
     refine r_load1 1 (i) ti3 rfl rfl rfl rfl (NV_get (D8_get (by omega))) ?_
     refine r_arith (r := ((ad8S a b i : Nat) : Int)) rfl rfl rfl rfl (congrArg some (wi (by omega) (by omega) (by rw [ad8S_eq]; omega))) ?_
     refine r_assign rfl rfl rfl (run_nil (at_tn (at_seq (at_region (r_move rfl rfl rfl (r_move rfl rfl rfl ?_))))))
     refine r_div (r := ((dg8 (a + b) i : Nat) : Int)) rfl rfl rfl rfl (by omega) (congrArg some ((rem_n _ 256 rfl rfl).trans (by rw [ad8S_low]; rfl))) ?_
     refine r_buildSlice [(0, _)] (fun g => [_, _, _, ⟨some g, 3, _, 1, true⟩]) rfl rfl rfl (bs33_1) rfl (fun _ => rfl) (fun g0 => ?_)
     refine q_append (s := 1) (len := i) (n2 := 1) 2 3 (fun r => [_, _, ⟨some r.g, 3, NV .i64 (row (i + 1) (dg8 (a + b))), r.n, true⟩, ⟨some g0, 3, _, 1, true⟩]) u33 el3 rfl rfl rfl rfl rfl rfl rfl rfl rfl rfl rfl rfl (by rw [NV_length, row_length]; omega) (by omega) (by show oc * 1 ≤ oN; omega) rfl (Go.Via.one_cell _ _) (by omega) (fun r => congrArg (fun c => [_, _, (⟨some r.g, 3, c, r.n, true⟩ : Blk), ⟨some g0, 3, _, 1, true⟩]) (NV_snoc _ _ _ _ (rfl))) (fun r => ?_)
     refine r_assign rfl rfl rfl (run_nil (at_tn (at_region (r_move rfl rfl rfl ?_))))
     refine r_div (r := ((ad8C a b (i + 1) : Nat) : Int)) rfl rfl rfl rfl (by omega) (congrArg some ((quo_i _ 256 rfl rfl (by omega)).trans (by rw [ad8S_carry]))) ?_
     refine r_assign rfl rfl rfl (run_nil (at_bn (at_tn (at_region (r_move rfl rfl rfl ?_)))))
     refine r_arith (r := ((i + 1 : Nat) : Int)) rfl rfl rfl rfl (congrArg some (wi (by omega) (by omega) (by omega))) ?_
     refine r_assign rfl rfl rfl (run_nil (at_tn ?_))
     exact nextL ⟨(i + 1, some r.g, r.n, r.cap), Nat.succ_le_succ hmx, r.h, by have := r.hn; show r.cap ≤ r.n; omega⟩ (by show max (nb a) (nb b) + 1 - (i + 1) < max (nb a) (nb b) + 1 - i; omega) ⟨rfl, rfl, rfl, rfl, rfl, trivial⟩ (weak_picks [some 0, some 1, some 2] ⟨⟨_, rfl, Blk.le_refl _⟩, ⟨_, rfl, Blk.le_refl _⟩, ⟨_, rfl, Blk.le_refl _⟩, trivial⟩ rfl rfl)
    ·
     have hjb : nb b ≤ i := (by have := of_decide_eq_false hb4; omega)
     refine at_know 6 (.int .i64 (ad8S a b i : Nat)) rfl (by rw [ad8S_eq, dg8_above hjb]; rfl) ?_
     refine at_skip (at_tn (at_seq (at_region (r_move rfl rfl rfl (r_move rfl rfl rfl ?_)))))
     refine r_div (r := ((dg8 (a + b) i : Nat) : Int)) rfl rfl rfl rfl (by omega) (congrArg some ((rem_n _ 256 rfl rfl).trans (by rw [ad8S_low]; rfl))) ?_
     refine r_buildSlice [(0, _)] (fun g => [_, _, _, ⟨some g, 3, _, 1, true⟩]) rfl rfl rfl (bs33_1) rfl (fun _ => rfl) (fun g0 => ?_)
     refine q_append (s := 1) (len := i) (n2 := 1) 2 3 (fun r => [_, _, ⟨some r.g, 3, NV .i64 (row (i + 1) (dg8 (a + b))), r.n, true⟩, ⟨some g0, 3, _, 1, true⟩]) u33 el3 rfl rfl rfl rfl rfl rfl rfl rfl rfl rfl rfl rfl (by rw [NV_length, row_length]; omega) (by omega) (by show oc * 1 ≤ oN; omega) rfl (Go.Via.one_cell _ _) (by omega) (fun r => congrArg (fun c => [_, _, (⟨some r.g, 3, c, r.n, true⟩ : Blk), ⟨some g0, 3, _, 1, true⟩]) (NV_snoc _ _ _ _ (rfl))) (fun r => ?_)
     refine r_assign rfl rfl rfl (run_nil (at_tn (at_region (r_move rfl rfl rfl ?_))))
     refine r_div (r := ((ad8C a b (i + 1) : Nat) : Int)) rfl rfl rfl rfl (by omega) (congrArg some ((quo_i _ 256 rfl rfl (by omega)).trans (by rw [ad8S_carry]))) ?_
     refine r_assign rfl rfl rfl (run_nil (at_bn (at_tn (at_region (r_move rfl rfl rfl ?_)))))
     refine r_arith (r := ((i + 1 : Nat) : Int)) rfl rfl rfl rfl (congrArg some (wi (by omega) (by omega) (by omega))) ?_
     refine r_assign rfl rfl rfl (run_nil (at_tn ?_))
     exact nextL ⟨(i + 1, some r.g, r.n, r.cap), Nat.succ_le_succ hmx, r.h, by have := r.hn; show r.cap ≤ r.n; omega⟩ (by show max (nb a) (nb b) + 1 - (i + 1) < max (nb a) (nb b) + 1 - i; omega) ⟨rfl, rfl, rfl, rfl, rfl, trivial⟩ (weak_picks [some 0, some 1, some 2] ⟨⟨_, rfl, Blk.le_refl _⟩, ⟨_, rfl, Blk.le_refl _⟩, ⟨_, rfl, Blk.le_refl _⟩, trivial⟩ rfl rfl)
  ·
   have hib : nb b ≤ i := (by have := of_decide_eq_false hb2; omega)
   refine r_move rfl rfl rfl (r_cmpInt rfl rfl rfl rfl rfl (r_pickF rfl rfl rfl rfl (run_nil (at_tn ?_))))
   refine at_cond rfl (fun hb3 => ?_) (fun hb3 => ?_)
   ·
    have hmx := plus_more a b i (by have := of_decide_eq_true hb3; omega) hia hib
    refine at_skip (at_tn (at_seq (at_block (at_seq (at_seq (at_region (r_move rfl rfl rfl (r_move rfl rfl rfl (r_lenS u33 rfl rfl rfl (r_cmpInt rfl rfl rfl rfl rfl (run_nil (at_tn ?_))))))))))))
    refine at_cond rfl (fun hb4 => ?_) (fun hb4 => ?_)
    ·
     have hja : i < nb a := (by have := of_decide_eq_true hb4; omega)
     have hcl := ad8C_le a b i
     have hax := m256 (a / 256 ^ i)
     have hbx := m256 (b / 256 ^ i)
     have hsl := ad8S_lt a b i
     refine at_region (r_move rfl rfl rfl (r_move rfl rfl rfl (r_move rfl rfl rfl ?_)))
     refine r_indexAddr 0 (i) u33 ti3 rfl rfl rfl rfl rfl (by omega) (by omega) (NV_ne (by rw [D8_length]; omega)) (by show 0 + Int.toNat _ * 1 = _; omega) ?_
     refine r_load1 0 (i) ti3 rfl rfl rfl rfl (NV_get (D8_get (by omega))) ?_
     refine r_arith (r := ((ad8C a b i + a / 256 ^ i % 256 : Nat) : Int)) rfl rfl rfl rfl (congrArg some (wi (by omega) (by omega) (by omega))) ?_
     refine r_assign rfl rfl rfl (run_nil (at_tn (at_seq (at_seq (at_region (r_move rfl rfl rfl (r_move rfl rfl rfl (r_lenS u33 rfl rfl rfl (r_cmpInt rfl rfl rfl rfl rfl (run_nil (at_tn ?_)))))))))))
     refine at_cond rfl (fun hb5 => ?_) (fun hb5 => ?_)
     ·
      have hjb : i < nb b := (by have := of_decide_eq_true hb5; omega)
      refine at_region (r_move rfl rfl rfl (r_move rfl rfl rfl (r_move rfl rfl rfl ?_)))
      refine r_indexAddr 1 (i) u33 ti3 rfl rfl rfl rfl rfl (by omega) (by omega) (NV_ne (by rw [D8_length]; omega)) (by show 0 + Int.toNat _ * 1 = _; omega) ?_
      refine r_load1 1 (i) ti3 rfl rfl rfl rfl (NV_get (D8_get (by omega))) ?_
      refine r_arith (r := ((ad8S a b i : Nat) : Int)) rfl rfl rfl rfl (congrArg some (wi (by omega) (by omega) (by rw [ad8S_eq]; omega))) ?_
      refine r_assign rfl rfl rfl (run_nil (at_tn (at_seq (at_region (r_move rfl rfl rfl (r_move rfl rfl rfl ?_))))))
      refine r_div (r := ((dg8 (a + b) i : Nat) : Int)) rfl rfl rfl rfl (by omega) (congrArg some ((rem_n _ 256 rfl rfl).trans (by rw [ad8S_low]; rfl))) ?_
      refine r_buildSlice [(0, _)] (fun g => [_, _, _, ⟨some g, 3, _, 1, true⟩]) rfl rfl rfl (bs33_1) rfl (fun _ => rfl) (fun g0 => ?_)
      refine q_append (s := 1) (len := i) (n2 := 1) 2 3 (fun r => [_, _, ⟨some r.g, 3, NV .i64 (row (i + 1) (dg8 (a + b))), r.n, true⟩, ⟨some g0, 3, _, 1, true⟩]) u33 el3 rfl rfl rfl rfl rfl rfl rfl rfl rfl rfl rfl rfl (by rw [NV_length, row_length]; omega) (by omega) (by show oc * 1 ≤ oN; omega) rfl (Go.Via.one_cell _ _) (by omega) (fun r => congrArg (fun c => [_, _, (⟨some r.g, 3, c, r.n, true⟩ : Blk), ⟨some g0, 3, _, 1, true⟩]) (NV_snoc _ _ _ _ (rfl))) (fun r => ?_)
      refine r_assign rfl rfl rfl (run_nil (at_tn (at_region (r_move rfl rfl rfl ?_))))
      refine r_div (r := ((ad8C a b (i + 1) : Nat) : Int)) rfl rfl rfl rfl (by omega) (congrArg some ((quo_i _ 256 rfl rfl (by omega)).trans (by rw [ad8S_carry]))) ?_
      refine r_assign rfl rfl rfl (run_nil (at_bn (at_tn (at_region (r_move rfl rfl rfl ?_)))))
      refine r_arith (r := ((i + 1 : Nat) : Int)) rfl rfl rfl rfl (congrArg some (wi (by omega) (by omega) (by omega))) ?_
      refine r_assign rfl rfl rfl (run_nil (at_tn ?_))
      exact nextL ⟨(i + 1, some r.g, r.n, r.cap), Nat.succ_le_succ hmx, r.h, by have := r.hn; show r.cap ≤ r.n; omega⟩ (by show max (nb a) (nb b) + 1 - (i + 1) < max (nb a) (nb b) + 1 - i; omega) ⟨rfl, rfl, rfl, rfl, rfl, trivial⟩ (weak_picks [some 0, some 1, some 2] ⟨⟨_, rfl, Blk.le_refl _⟩, ⟨_, rfl, Blk.le_refl _⟩, ⟨_, rfl, Blk.le_refl _⟩, trivial⟩ rfl rfl)
     ·
      have hjb : nb b ≤ i := (by have := of_decide_eq_false hb5; omega)
      refine at_know 6 (.int .i64 (ad8S a b i : Nat)) rfl (by rw [ad8S_eq, dg8_above hjb]; rfl) ?_
      refine at_skip (at_tn (at_seq (at_region (r_move rfl rfl rfl (r_move rfl rfl rfl ?_)))))
      refine r_div (r := ((dg8 (a + b) i : Nat) : Int)) rfl rfl rfl rfl (by omega) (congrArg some ((rem_n _ 256 rfl rfl).trans (by rw [ad8S_low]; rfl))) ?_
      refine r_buildSlice [(0, _)] (fun g => [_, _, _, ⟨some g, 3, _, 1, true⟩]) rfl rfl rfl (bs33_1) rfl (fun _ => rfl) (fun g0 => ?_)
      refine q_append (s := 1) (len := i) (n2 := 1) 2 3 (fun r => [_, _, ⟨some r.g, 3, NV .i64 (row (i + 1) (dg8 (a + b))), r.n, true⟩, ⟨some g0, 3, _, 1, true⟩]) u33 el3 rfl rfl rfl rfl rfl rfl rfl rfl rfl rfl rfl rfl (by rw [NV_length, row_length]; omega) (by omega) (by show oc * 1 ≤ oN; omega) rfl (Go.Via.one_cell _ _) (by omega) (fun r => congrArg (fun c => [_, _, (⟨some r.g, 3, c, r.n, true⟩ : Blk), ⟨some g0, 3, _, 1, true⟩]) (NV_snoc _ _ _ _ (rfl))) (fun r => ?_)
      refine r_assign rfl rfl rfl (run_nil (at_tn (at_region (r_move rfl rfl rfl ?_))))
      refine r_div (r := ((ad8C a b (i + 1) : Nat) : Int)) rfl rfl rfl rfl (by omega) (congrArg some ((quo_i _ 256 rfl rfl (by omega)).trans (by rw [ad8S_carry]))) ?_
      refine r_assign rfl rfl rfl (run_nil (at_bn (at_tn (at_region (r_move rfl rfl rfl ?_)))))
      refine r_arith (r := ((i + 1 : Nat) : Int)) rfl rfl rfl rfl (congrArg some (wi (by omega) (by omega) (by omega))) ?_
      refine r_assign rfl rfl rfl (run_nil (at_tn ?_))
      exact nextL ⟨(i + 1, some r.g, r.n, r.cap), Nat.succ_le_succ hmx, r.h, by have := r.hn; show r.cap ≤ r.n; omega⟩ (by show max (nb a) (nb b) + 1 - (i + 1) < max (nb a) (nb b) + 1 - i; omega) ⟨rfl, rfl, rfl, rfl, rfl, trivial⟩ (weak_picks [some 0, some 1, some 2] ⟨⟨_, rfl, Blk.le_refl _⟩, ⟨_, rfl, Blk.le_refl _⟩, ⟨_, rfl, Blk.le_refl _⟩, trivial⟩ rfl rfl)
    ·
     have hja : nb a ≤ i := (by have := of_decide_eq_false hb4; omega)
     have hcl := ad8C_le a b i
     have hax := m256 (a / 256 ^ i)
     have hbx := m256 (b / 256 ^ i)
     have hsl := ad8S_lt a b i
     refine at_know 6 (.int .i64 (ad8C a b i + a / 256 ^ i % 256 : Nat)) rfl (by rw [dg8_above hja]; rfl) ?_
     refine at_skip (at_tn (at_seq (at_seq (at_region (r_move rfl rfl rfl (r_move rfl rfl rfl (r_lenS u33 rfl rfl rfl (r_cmpInt rfl rfl rfl rfl rfl (run_nil (at_tn ?_))))))))))
     refine at_cond rfl (fun hb5 => ?_) (fun hb5 => ?_)
     ·
      have hjb : i < nb b := (by have := of_decide_eq_true hb5; omega)
      refine at_region (r_move rfl rfl rfl (r_move rfl rfl rfl (r_move rfl rfl rfl ?_)))
      refine r_indexAddr 1 (i) u33 ti3 rfl rfl rfl rfl rfl (by omega) (by omega) (NV_ne (by rw [D8_length]; omega)) (by show 0 + Int.toNat _ * 1 = _; omega) ?_
      refine r_load1 1 (i) ti3 rfl rfl rfl rfl (NV_get (D8_get (by omega))) ?_
      refine r_arith (r := ((ad8S a b i : Nat) : Int)) rfl rfl rfl rfl (congrArg some (wi (by omega) (by omega) (by rw [ad8S_eq]; omega))) ?_
      refine r_assign rfl rfl rfl (run_nil (at_tn (at_seq (at_region (r_move rfl rfl rfl (r_move rfl rfl rfl ?_))))))
      refine r_div (r := ((dg8 (a + b) i : Nat) : Int)) rfl rfl rfl rfl (by omega) (congrArg some ((rem_n _ 256 rfl rfl).trans (by rw [ad8S_low]; rfl))) ?_
      refine r_buildSlice [(0, _)] (fun g => [_, _, _, ⟨some g, 3, _, 1, true⟩]) rfl rfl rfl (bs33_1) rfl (fun _ => rfl) (fun g0 => ?_)
      refine q_append (s := 1) (len := i) (n2 := 1) 2 3 (fun r => [_, _, ⟨some r.g, 3, NV .i64 (row (i + 1) (dg8 (a + b))), r.n, true⟩, ⟨some g0, 3, _, 1, true⟩]) u33 el3 rfl rfl rfl rfl rfl rfl rfl rfl rfl rfl rfl rfl (by rw [NV_length, row_length]; omega) (by omega) (by show oc * 1 ≤ oN; omega) rfl (Go.Via.one_cell _ _) (by omega) (fun r => congrArg (fun c => [_, _, (⟨some r.g, 3, c, r.n, true⟩ : Blk), ⟨some g0, 3, _, 1, true⟩]) (NV_snoc _ _ _ _ (rfl))) (fun r => ?_)
      refine r_assign rfl rfl rfl (run_nil (at_tn (at_region (r_move rfl rfl rfl ?_))))
      refine r_div (r := ((ad8C a b (i + 1) : Nat) : Int)) rfl rfl rfl rfl (by omega) (congrArg some ((quo_i _ 256 rfl rfl (by omega)).trans (by rw [ad8S_carry]))) ?_
      refine r_assign rfl rfl rfl (run_nil (at_bn (at_tn (at_region (r_move rfl rfl rfl ?_)))))
      refine r_arith (r := ((i + 1 : Nat) : Int)) rfl rfl rfl rfl (congrArg some (wi (by omega) (by omega) (by omega))) ?_
      refine r_assign rfl rfl rfl (run_nil (at_tn ?_))
      exact nextL ⟨(i + 1, some r.g, r.n, r.cap), Nat.succ_le_succ hmx, r.h, by have := r.hn; show r.cap ≤ r.n; omega⟩ (by show max (nb a) (nb b) + 1 - (i + 1) < max (nb a) (nb b) + 1 - i; omega) ⟨rfl, rfl, rfl, rfl, rfl, trivial⟩ (weak_picks [some 0, some 1, some 2] ⟨⟨_, rfl, Blk.le_refl _⟩, ⟨_, rfl, Blk.le_refl _⟩, ⟨_, rfl, Blk.le_refl _⟩, trivial⟩ rfl rfl)
     ·
      have hjb : nb b ≤ i := (by have := of_decide_eq_false hb5; omega)
      refine at_know 6 (.int .i64 (ad8S a b i : Nat)) rfl (by rw [ad8S_eq, dg8_above hjb]; rfl) ?_
      refine at_skip (at_tn (at_seq (at_region (r_move rfl rfl rfl (r_move rfl rfl rfl ?_)))))
      refine r_div (r := ((dg8 (a + b) i : Nat) : Int)) rfl rfl rfl rfl (by omega) (congrArg some ((rem_n _ 256 rfl rfl).trans (by rw [ad8S_low]; rfl))) ?_
      refine r_buildSlice [(0, _)] (fun g => [_, _, _, ⟨some g, 3, _, 1, true⟩]) rfl rfl rfl (bs33_1) rfl (fun _ => rfl) (fun g0 => ?_)
      refine q_append (s := 1) (len := i) (n2 := 1) 2 3 (fun r => [_, _, ⟨some r.g, 3, NV .i64 (row (i + 1) (dg8 (a + b))), r.n, true⟩, ⟨some g0, 3, _, 1, true⟩]) u33 el3 rfl rfl rfl rfl rfl rfl rfl rfl rfl rfl rfl rfl (by rw [NV_length, row_length]; omega) (by omega) (by show oc * 1 ≤ oN; omega) rfl (Go.Via.one_cell _ _) (by omega) (fun r => congrArg (fun c => [_, _, (⟨some r.g, 3, c, r.n, true⟩ : Blk), ⟨some g0, 3, _, 1, true⟩]) (NV_snoc _ _ _ _ (rfl))) (fun r => ?_)
      refine r_assign rfl rfl rfl (run_nil (at_tn (at_region (r_move rfl rfl rfl ?_))))
      refine r_div (r := ((ad8C a b (i + 1) : Nat) : Int)) rfl rfl rfl rfl (by omega) (congrArg some ((quo_i _ 256 rfl rfl (by omega)).trans (by rw [ad8S_carry]))) ?_
      refine r_assign rfl rfl rfl (run_nil (at_bn (at_tn (at_region (r_move rfl rfl rfl ?_)))))
      refine r_arith (r := ((i + 1 : Nat) : Int)) rfl rfl rfl rfl (congrArg some (wi (by omega) (by omega) (by omega))) ?_
      refine r_assign rfl rfl rfl (run_nil (at_tn ?_))
      exact nextL ⟨(i + 1, some r.g, r.n, r.cap), Nat.succ_le_succ hmx, r.h, by have := r.hn; show r.cap ≤ r.n; omega⟩ (by show max (nb a) (nb b) + 1 - (i + 1) < max (nb a) (nb b) + 1 - i; omega) ⟨rfl, rfl, rfl, rfl, rfl, trivial⟩ (weak_picks [some 0, some 1, some 2] ⟨⟨_, rfl, Blk.le_refl _⟩, ⟨_, rfl, Blk.le_refl _⟩, ⟨_, rfl, Blk.le_refl _⟩, trivial⟩ rfl rfl)
   ·
    have hab := plus_val a b i hia hib (by have := of_decide_eq_false hb3; omega)
    have hnab : nb (a + b) ≤ i := nb_le hab
    refine at_exit (at_te (at_te (at_be (at_tn (at_seq (at_region (r_move rfl rfl rfl ?_)))))))
    refine r_scall0 [_] [2] rfl rfl rfl (c_ref02_trim (row i (dg8 (a + b))) (row_lt fun j => dg8_lt _ j) (by rw [row_length]; omega) (row_length _ _) ⟨ob, oN, oc, h1⟩) ⟨⟨_, rfl, le_share⟩, trivial⟩ rfl ?_
    refine r_know 52 (slv ob 0 (nb (a + b)) oc) rfl (by rw [row_trim _ _ hab]; rfl) ?_
    refine r_assign rfl rfl rfl (run_nil (at_tn (at_ret ?_)))
    refine at_end1 rfl (res_tmp rfl) (fun w hL => ⟨⟨ob, oN, oc, by omega⟩, rfl, ?_⟩)
    exact hL.picks [some 2] ⟨⟨_, rfl, rfl, rfl, rfl, ⟨nb (a + b), row_take _ _ hab⟩, fun _ => rfl⟩, trivial⟩ rfl rfl
end Go.Proofs.YtncogghlhlnmaaaGreatDoor
set_option linter.unusedVariables false
namespace Go.Proofs.YtncogghlhlnmaaaGreatDoor
open Go Go.RowKit Go.Via
set_option maxRecDepth 20000 in
theorem c_ref02_minus (a b : Nat) (ha : nb a ≤ 1073741000) (hle : b ≤ a) (x : SR (nb a)) (y : SR (nb b)) : SCall Tryz.prog 69 [⟨x.b, 3, NV .i64 (D8 a), x.n, false⟩, ⟨y.b, 3, NV .i64 (D8 b), y.n, false⟩] [x.v, y.v] (SR (nb (a - b))) SR.v (fun x => [⟨x.b, 3, NV .i64 (D8 (a - b)), x.n, true⟩]) := by
 refine ⟨by kernel_rfl, fun w hL0 => ?_⟩
 have hb : nb b ≤ 1073741000 := Nat.le_trans (nb_mono hle) ha
 refine calls_at (args := [x.v, y.v]) Tryz.func69 rfl (Nat.le_of_ble_eq_true rfl) hL0 ?_
 show At w ⟨41, [(0, x.v), (1, y.v)], [⟨x.b, 3, NV .i64 (D8 a), x.n, false⟩, ⟨y.b, 3, NV .i64 (D8 b), y.n, false⟩]⟩ _
 refine at_seq (at_region (r_assign rfl rfl rfl (run_nil (at_tn (at_seq (at_region (r_assign rfl rfl rfl (run_nil (at_tn (at_seq (at_region (r_assign rfl rfl rfl (run_nil (at_tn (at_seq (at_seq (at_region (r_assign rfl rfl rfl (run_nil (at_tn (at_block ?_)))))))))))))))))))))
 refine enterL (nt := 41) (ι := {x : Nat × Option Nat × Nat × Nat // x.1 ≤ nb a ∧ x.1 ≤ x.2.2.2 ∧ x.2.2.2 ≤ x.2.2.1}) (fun ⟨⟨i, ob, oN, oc⟩, hi, h1, h2⟩ => [(0, x.v), (1, y.v), (5, slv ob 0 i oc), (6, .int .i64 (su8B a b i : Nat)), (7, .int .i64 (i : Nat))]) (fun ⟨⟨i, ob, oN, oc⟩, hi, h1, h2⟩ => [⟨x.b, 3, NV .i64 (D8 a), x.n, false⟩, ⟨y.b, 3, NV .i64 (D8 b), y.n, false⟩, ⟨ob, 3, NV .i64 (row i (dg8 (a - b))), oN, true⟩]) (fun ⟨⟨i, ob, oN, oc⟩, hi, h1, h2⟩ => nb a - i) ⟨(0, none, 0, 0), Nat.zero_le _, Nat.le_refl _, Nat.le_refl _⟩ ⟨rfl, rfl, rfl, (look_val rfl (by rw [su8B_zero]; rfl)), rfl, trivial⟩ (weak_picks [some 0, some 1, none] ⟨⟨_, rfl, Blk.le_refl _⟩, ⟨_, rfl, Blk.le_refl _⟩, ⟨rfl, rfl, rfl⟩, trivial⟩ rfl rfl) ?_
 rintro ⟨⟨i, ob, oN, oc⟩, hi, h1, h2⟩
 show At _ ⟨41, [(0, x.v), (1, y.v), (5, slv ob 0 i oc), (6, .int .i64 (su8B a b i : Nat)), (7, .int .i64 (i : Nat))], [⟨x.b, 3, NV .i64 (D8 a), x.n, false⟩, ⟨y.b, 3, NV .i64 (D8 b), y.n, false⟩, ⟨ob, 3, NV .i64 (row i (dg8 (a - b))), oN, true⟩]⟩ _
 replace hi : i ≤ nb a := hi
 replace h1 : i ≤ oc := h1
 replace h2 : oc ≤ oN := h2
 refine at_seq (at_seq (at_region (r_move rfl rfl rfl (r_move rfl rfl rfl (r_lenS u33 rfl rfl rfl (r_cmpInt rfl rfl rfl rfl rfl (run_nil (at_tn ?_))))))))
 refine at_cond rfl (fun hb1 => ?_) (fun hb1 => ?_)
 ·
  have hlt : i < nb a := (by have := of_decide_eq_true hb1; omega)
  have hb1 := su8B_le a b i
  have hax := m256 (a / 256 ^ i)
  have hbx := m256 (b / 256 ^ i)
  have hdx := m256 ((a - b) / 256 ^ i)
  refine at_skip (at_tn (at_seq (at_block (at_seq (at_region (r_move rfl rfl rfl (r_move rfl rfl rfl ?_)))))))
  refine r_indexAddr 0 (i) u33 ti3 rfl rfl rfl rfl rfl (by omega) (by omega) (NV_ne (by rw [D8_length]; omega)) (by show 0 + Int.toNat _ * 1 = _; omega) ?_
  refine r_load1 0 (i) ti3 rfl rfl rfl rfl (NV_get (D8_get (by omega))) ?_
  refine r_move rfl rfl rfl ?_
  refine r_arith (r := (((a / 256 ^ i % 256 : Nat) : Int) - ((su8B a b i : Nat) : Int))) rfl rfl rfl rfl (congrArg some (wi (by omega) (by omega) (by omega))) ?_
  refine r_assign rfl rfl rfl (run_nil (at_tn (at_seq (at_seq (at_region (r_move rfl rfl rfl (r_move rfl rfl rfl (r_lenS u33 rfl rfl rfl (r_cmpInt rfl rfl rfl rfl rfl (run_nil (at_tn ?_)))))))))))
  refine at_cond rfl (fun hb2 => ?_) (fun hb2 => ?_)
  ·
   have hjb : i < nb b := (by have := of_decide_eq_true hb2; omega)
   refine at_region (r_move rfl rfl rfl (r_move rfl rfl rfl (r_move rfl rfl rfl ?_)))
   refine r_indexAddr 1 (i) u33 ti3 rfl rfl rfl rfl rfl (by omega) (by omega) (NV_ne (by rw [D8_length]; omega)) (by show 0 + Int.toNat _ * 1 = _; omega) ?_
   refine r_load1 1 (i) ti3 rfl rfl rfl rfl (NV_get (D8_get (by omega))) ?_
   refine r_arith (r := (((a / 256 ^ i % 256 : Nat) : Int) - ((su8B a b i : Nat) : Int) - ((b / 256 ^ i % 256 : Nat) : Int))) rfl rfl rfl rfl (congrArg some (wi (by omega) (by omega) (by omega))) ?_
   refine r_assign rfl rfl rfl (run_nil (at_tn (at_seq (at_region (r_assign rfl rfl rfl (run_nil (at_tn (at_seq (at_seq (at_region (r_move rfl rfl rfl (r_cmpInt rfl rfl rfl rfl rfl (run_nil (at_tn ?_))))))))))))))
   refine at_cond rfl (fun hb3 => ?_) (fun hb3 => ?_)
   ·
    obtain ⟨hd1, hd2⟩ := su8_neg (m := a) (n := b) (i := i) hle (by have := of_decide_eq_true hb3; omega)
    refine at_region (r_move rfl rfl rfl ?_)
    refine r_arith (r := (((a - b) / 256 ^ i % 256 : Nat) : Int)) rfl rfl rfl rfl (congrArg some (wi (by omega) (by omega) (by omega))) ?_
    refine r_assign rfl rfl rfl (r_assign rfl rfl rfl (run_nil (at_tn (at_region (r_move rfl rfl rfl (r_move rfl rfl rfl ?_))))))
    refine r_buildSlice [(0, _)] (fun g => [_, _, _, ⟨some g, 3, _, 1, true⟩]) rfl rfl rfl (bs33_1) rfl (fun _ => rfl) (fun g0 => ?_)
    refine q_append (s := 1) (len := i) (n2 := 1) 2 3 (fun r => [_, _, ⟨some r.g, 3, NV .i64 (row (i + 1) (dg8 (a - b))), r.n, true⟩, ⟨some g0, 3, _, 1, true⟩]) u33 el3 rfl rfl rfl rfl rfl rfl rfl rfl rfl rfl rfl rfl (by rw [NV_length, row_length]; omega) (by omega) (by show oc * 1 ≤ oN; omega) rfl (Go.Via.one_cell _ _) (by omega) (fun r => congrArg (fun c => [_, _, (⟨some r.g, 3, c, r.n, true⟩ : Blk), ⟨some g0, 3, _, 1, true⟩]) (NV_snoc _ _ _ _ (rfl))) (fun r => ?_)
    refine r_assign rfl rfl rfl (run_nil (at_bn (at_tn (at_region (r_move rfl rfl rfl ?_)))))
    refine r_arith (r := ((i + 1 : Nat) : Int)) rfl rfl rfl rfl (congrArg some (wi (by omega) (by omega) (by omega))) ?_
    refine r_assign rfl rfl rfl (run_nil (at_tn ?_))
    exact nextL ⟨(i + 1, some r.g, r.n, r.cap), hlt, r.h, by have := r.hn; show r.cap ≤ r.n; omega⟩ (by show nb a - (i + 1) < nb a - i; omega) ⟨rfl, rfl, rfl, (look_val rfl (by rw [hd2]; rfl)), rfl, trivial⟩ (weak_picks [some 0, some 1, some 2] ⟨⟨_, rfl, Blk.le_refl _⟩, ⟨_, rfl, Blk.le_refl _⟩, ⟨_, rfl, Blk.le_refl _⟩, trivial⟩ rfl rfl)
   ·
    obtain ⟨hd1, hd2⟩ := su8_pos (m := a) (n := b) (i := i) hle (by have := of_decide_eq_false hb3; omega)
    refine at_know 8 (.int .i64 ((a - b) / 256 ^ i % 256 : Nat)) rfl (congrArg (Value.int .i64) (by omega)) ?_
    refine at_skip (at_tn (at_region (r_move rfl rfl rfl (r_move rfl rfl rfl ?_))))
    refine r_buildSlice [(0, _)] (fun g => [_, _, _, ⟨some g, 3, _, 1, true⟩]) rfl rfl rfl (bs33_1) rfl (fun _ => rfl) (fun g0 => ?_)
    refine q_append (s := 1) (len := i) (n2 := 1) 2 3 (fun r => [_, _, ⟨some r.g, 3, NV .i64 (row (i + 1) (dg8 (a - b))), r.n, true⟩, ⟨some g0, 3, _, 1, true⟩]) u33 el3 rfl rfl rfl rfl rfl rfl rfl rfl rfl rfl rfl rfl (by rw [NV_length, row_length]; omega) (by omega) (by show oc * 1 ≤ oN; omega) rfl (Go.Via.one_cell _ _) (by omega) (fun r => congrArg (fun c => [_, _, (⟨some r.g, 3, c, r.n, true⟩ : Blk), ⟨some g0, 3, _, 1, true⟩]) (NV_snoc _ _ _ _ (rfl))) (fun r => ?_)
    refine r_assign rfl rfl rfl (run_nil (at_bn (at_tn (at_region (r_move rfl rfl rfl ?_)))))
    refine r_arith (r := ((i + 1 : Nat) : Int)) rfl rfl rfl rfl (congrArg some (wi (by omega) (by omega) (by omega))) ?_
    refine r_assign rfl rfl rfl (run_nil (at_tn ?_))
    exact nextL ⟨(i + 1, some r.g, r.n, r.cap), hlt, r.h, by have := r.hn; show r.cap ≤ r.n; omega⟩ (by show nb a - (i + 1) < nb a - i; omega) ⟨rfl, rfl, rfl, (look_val rfl (by rw [hd2]; rfl)), rfl, trivial⟩ (weak_picks [some 0, some 1, some 2] ⟨⟨_, rfl, Blk.le_refl _⟩, ⟨_, rfl, Blk.le_refl _⟩, ⟨_, rfl, Blk.le_refl _⟩, trivial⟩ rfl rfl)
  ·
   have hjb : nb b ≤ i := (by have := of_decide_eq_false hb2; omega)
   refine at_know 8 (.int .i64 ((a / 256 ^ i % 256 : Nat) - (su8B a b i : Nat) - (b / 256 ^ i % 256 : Nat))) rfl (congrArg (Value.int .i64) (by rw [dg8_above hjb]; omega)) ?_
   refine at_skip (at_tn (at_seq (at_region (r_assign rfl rfl rfl (run_nil (at_tn (at_seq (at_seq (at_region (r_move rfl rfl rfl (r_cmpInt rfl rfl rfl rfl rfl (run_nil (at_tn ?_)))))))))))))
   refine at_cond rfl (fun hb3 => ?_) (fun hb3 => ?_)
   ·
    obtain ⟨hd1, hd2⟩ := su8_neg (m := a) (n := b) (i := i) hle (by have := of_decide_eq_true hb3; omega)
    refine at_region (r_move rfl rfl rfl ?_)
    refine r_arith (r := (((a - b) / 256 ^ i % 256 : Nat) : Int)) rfl rfl rfl rfl (congrArg some (wi (by omega) (by omega) (by omega))) ?_
    refine r_assign rfl rfl rfl (r_assign rfl rfl rfl (run_nil (at_tn (at_region (r_move rfl rfl rfl (r_move rfl rfl rfl ?_))))))
    refine r_buildSlice [(0, _)] (fun g => [_, _, _, ⟨some g, 3, _, 1, true⟩]) rfl rfl rfl (bs33_1) rfl (fun _ => rfl) (fun g0 => ?_)
    refine q_append (s := 1) (len := i) (n2 := 1) 2 3 (fun r => [_, _, ⟨some r.g, 3, NV .i64 (row (i + 1) (dg8 (a - b))), r.n, true⟩, ⟨some g0, 3, _, 1, true⟩]) u33 el3 rfl rfl rfl rfl rfl rfl rfl rfl rfl rfl rfl rfl (by rw [NV_length, row_length]; omega) (by omega) (by show oc * 1 ≤ oN; omega) rfl (Go.Via.one_cell _ _) (by omega) (fun r => congrArg (fun c => [_, _, (⟨some r.g, 3, c, r.n, true⟩ : Blk), ⟨some g0, 3, _, 1, true⟩]) (NV_snoc _ _ _ _ (rfl))) (fun r => ?_)
    refine r_assign rfl rfl rfl (run_nil (at_bn (at_tn (at_region (r_move rfl rfl rfl ?_)))))
    refine r_arith (r := ((i + 1 : Nat) : Int)) rfl rfl rfl rfl (congrArg some (wi (by omega) (by omega) (by omega))) ?_
    refine r_assign rfl rfl rfl (run_nil (at_tn ?_))
    exact nextL ⟨(i + 1, some r.g, r.n, r.cap), hlt, r.h, by have := r.hn; show r.cap ≤ r.n; omega⟩ (by show nb a - (i + 1) < nb a - i; omega) ⟨rfl, rfl, rfl, (look_val rfl (by rw [hd2]; rfl)), rfl, trivial⟩ (weak_picks [some 0, some 1, some 2] ⟨⟨_, rfl, Blk.le_refl _⟩, ⟨_, rfl, Blk.le_refl _⟩, ⟨_, rfl, Blk.le_refl _⟩, trivial⟩ rfl rfl)
   ·
    obtain ⟨hd1, hd2⟩ := su8_pos (m := a) (n := b) (i := i) hle (by have := of_decide_eq_false hb3; omega)
    refine at_know 8 (.int .i64 ((a - b) / 256 ^ i % 256 : Nat)) rfl (congrArg (Value.int .i64) (by omega)) ?_
    refine at_skip (at_tn (at_region (r_move rfl rfl rfl (r_move rfl rfl rfl ?_))))
    refine r_buildSlice [(0, _)] (fun g => [_, _, _, ⟨some g, 3, _, 1, true⟩]) rfl rfl rfl (bs33_1) rfl (fun _ => rfl) (fun g0 => ?_)
    refine q_append (s := 1) (len := i) (n2 := 1) 2 3 (fun r => [_, _, ⟨some r.g, 3, NV .i64 (row (i + 1) (dg8 (a - b))), r.n, true⟩, ⟨some g0, 3, _, 1, true⟩]) u33 el3 rfl rfl rfl rfl rfl rfl rfl rfl rfl rfl rfl rfl (by rw [NV_length, row_length]; omega) (by omega) (by show oc * 1 ≤ oN; omega) rfl (Go.Via.one_cell _ _) (by omega) (fun r => congrArg (fun c => [_, _, (⟨some r.g, 3, c, r.n, true⟩ : Blk), ⟨some g0, 3, _, 1, true⟩]) (NV_snoc _ _ _ _ (rfl))) (fun r => ?_)
    refine r_assign rfl rfl rfl (run_nil (at_bn (at_tn (at_region (r_move rfl rfl rfl ?_)))))
    refine r_arith (r := ((i + 1 : Nat) : Int)) rfl rfl rfl rfl (congrArg some (wi (by omega) (by omega) (by omega))) ?_
    refine r_assign rfl rfl rfl (run_nil (at_tn ?_))
    exact nextL ⟨(i + 1, some r.g, r.n, r.cap), hlt, r.h, by have := r.hn; show r.cap ≤ r.n; omega⟩ (by show nb a - (i + 1) < nb a - i; omega) ⟨rfl, rfl, rfl, (look_val rfl (by rw [hd2]; rfl)), rfl, trivial⟩ (weak_picks [some 0, some 1, some 2] ⟨⟨_, rfl, Blk.le_refl _⟩, ⟨_, rfl, Blk.le_refl _⟩, ⟨_, rfl, Blk.le_refl _⟩, trivial⟩ rfl rfl)
 ·
  have hge : i = nb a := (by have := of_decide_eq_false hb1; omega)
  subst hge
  have hab : a - b < 256 ^ nb a := Nat.lt_of_le_of_lt (Nat.sub_le _ _) (lt_nb a)
  have hnab : nb (a - b) ≤ nb a := nb_mono (Nat.sub_le _ _)
  refine at_exit (at_te (at_te (at_be (at_tn (at_seq (at_region (r_move rfl rfl rfl ?_)))))))
  refine r_scall0 [_] [2] rfl rfl rfl (c_ref02_trim (row (nb a) (dg8 (a - b))) (row_lt fun j => dg8_lt _ j) (by rw [row_length]; omega) (row_length _ _) ⟨ob, oN, oc, h1⟩) ⟨⟨_, rfl, le_share⟩, trivial⟩ rfl ?_
  refine r_know 40 (slv ob 0 (nb (a - b)) oc) rfl (by rw [row_trim _ _ hab]; rfl) ?_
  refine r_assign rfl rfl rfl (run_nil (at_tn (at_ret ?_)))
  refine at_end1 rfl (res_tmp rfl) (fun w hL => ⟨⟨ob, oN, oc, by omega⟩, rfl, ?_⟩)
  exact hL.picks [some 2] ⟨⟨_, rfl, rfl, rfl, rfl, ⟨nb (a - b), row_take _ _ hab⟩, fun _ => rfl⟩, trivial⟩ rfl rfl
end Go.Proofs.YtncogghlhlnmaaaGreatDoor
set_option linter.unusedVariables false
namespace Go.Proofs.YtncogghlhlnmaaaGreatDoor
open Go Go.RowKit Go.Via
set_option maxRecDepth 20000 in
theorem c_ref02_divide (a b : Nat) (hb : 0 < b) (ha : nb a ≤ 1073740000) (hbn : nb b ≤ 1073740000) (x : SR (nb a)) (y : SR (nb b)) : SCall Tryz.prog 80 [⟨x.b, 3, NV .i64 (D8 a), x.n, false⟩, ⟨y.b, 3, NV .i64 (D8 b), y.n, false⟩] [x.v, y.v] ((SR (nb (a / b)) × SR (nb (a % b))) ⊕ PLift (a < b)) (divRes x) divNew := by
 refine ⟨by kernel_rfl, fun w hL0 => ?_⟩
 refine calls_at (args := [x.v, y.v]) Tryz.func80 rfl (Nat.le_of_ble_eq_true rfl) hL0 ?_
 show At w ⟨105, [(0, x.v), (1, y.v)], [⟨x.b, 3, NV .i64 (D8 a), x.n, false⟩, ⟨y.b, 3, NV .i64 (D8 b), y.n, false⟩]⟩ _
 refine at_seq (at_region (r_assign rfl rfl rfl (r_assign rfl rfl rfl (run_nil (at_tn (at_seq (at_region (r_move rfl rfl rfl ?_))))))))
 refine r_scall0 [_] [0] rfl rfl rfl (c_ref02_small a (by omega) x) ⟨⟨_, rfl, le_share⟩, trivial⟩ rfl ?_
 refine r_move rfl rfl rfl ?_
 refine r_extract (vs := [_, _]) rfl rfl rfl rfl ?_
 refine r_extract (vs := [_, _]) rfl rfl rfl rfl ?_
 refine r_assign rfl rfl rfl (r_assign rfl rfl rfl (run_nil (at_tn (at_seq (at_region (r_move rfl rfl rfl ?_))))))
 refine r_scall0 [_] [1] rfl rfl rfl (c_ref02_small b (by omega) y) ⟨⟨_, rfl, le_share⟩, trivial⟩ rfl ?_
 refine r_move rfl rfl rfl ?_
 refine r_extract (vs := [_, _]) rfl rfl rfl rfl ?_
 refine r_extract (vs := [_, _]) rfl rfl rfl rfl ?_
 refine r_assign rfl rfl rfl (r_assign rfl rfl rfl (run_nil (at_tn (at_seq (at_seq (at_region (r_move rfl rfl rfl (r_move rfl rfl rfl ?_))))))))
 refine r_split 24 rfl (fun hb0 => ?_) (fun hb0 => ?_)
 ·
  have h1 : nb a ≤ 7 := of_decide_eq_true hb0
  refine r_move rfl rfl rfl (r_pickT rfl rfl rfl rfl (r_move rfl rfl rfl ?_))
  refine r_split 27 rfl (fun hb1 => ?_) (fun hb1 => ?_)
  ·
   have h2 : nb b ≤ 7 := of_decide_eq_true hb1
   refine r_move rfl rfl rfl (r_cmpInt rfl rfl rfl rfl rfl (r_pickT rfl rfl rfl rfl (run_nil (at_tn ?_))))
   refine at_cond rfl (fun hb2 => ?_) (fun hb2 => ?_)
   ·
    have hA : a < 72057594037927936 := Nat.lt_of_lt_of_le (lt_nb a) (pow256_le h1)
    have hB : b < 72057594037927936 := Nat.lt_of_lt_of_le (lt_nb b) (pow256_le h2)
    have hq1 : a / b ≤ a := Nat.div_le_self _ _
    have hr1 : a % b < b := Nat.mod_lt _ hb
    refine at_know 6 (.int .i64 (a : Nat)) rfl (by rw [if_pos h1]) ?_
    refine at_know 8 (.int .i64 (b : Nat)) rfl (by rw [if_pos h2]) ?_
    refine at_seq ?_
    refine at_drawn (l' := [⟨_,_,_,_,_,_⟩, ⟨_,_,_,_,_,_⟩, ⟨_,_,_,_,_,_⟩, ⟨_,_,_,_,_,_⟩, ⟨_,_,_,_,_,_⟩, ⟨_,_,_,_,_,_⟩, ⟨_,_,_,_,_,_⟩, ⟨_,_,_,_,_,_⟩, ⟨_,_,_,_,_,_⟩, ⟨_,_,_,_,_,_⟩]) [] [0, 1, 2, 4, 5, 6, 3, 7, 8, 9] mixed (by kernel_rfl) rfl (by kernel_rfl) ?_
    refine r_move rfl rfl rfl (r_move rfl rfl rfl ?_)
    refine r_div (r := ((a / b : Nat) : Int)) rfl rfl rfl rfl (by omega) (congrArg some (quo_i _ _ rfl rfl (by omega))) ?_
    refine r_move rfl rfl rfl (r_move rfl rfl rfl ?_)
    refine r_div (r := ((a % b : Nat) : Int)) rfl rfl rfl rfl (by omega) (congrArg some (rem_n _ _ rfl rfl)) ?_
    refine r_scall [_] [] rfl rfl rfl (c_ref02_large (a / b) (by omega)) trivial rfl (.inr fun x b hb => by rw [List.mem_singleton.1 hb]) (fun xq => ?_)
    refine r_scall [_] [] rfl rfl rfl (c_ref02_large (a % b) (by omega)) trivial rfl (.inr fun x b hb => by rw [List.mem_singleton.1 hb]) (fun xr => ?_)
    refine r_assign rfl rfl rfl (r_assign rfl rfl rfl (run_nil (at_tn (at_ret (at_tr ?_)))))
    refine at_end2 rfl (res_tmp rfl) (res_tmp rfl) (fun w hL => ⟨.inl (xq, xr), ?_, hL.picks [some 2, some 3] ⟨⟨_, rfl, Blk.le_refl _⟩, ⟨_, rfl, Blk.le_refl _⟩, trivial⟩ rfl rfl⟩)
    exact rfl
   · exact absurd hb2 (by rw [if_pos h2]; simp; omega)
  ·
   refine r_no rfl rfl rfl (r_no rfl rfl rfl (r_pickF rfl rfl rfl rfl (run_nil (at_tn (at_condF rfl (at_skip (at_tn (at_seq (at_seq (at_region (r_move rfl rfl rfl (r_move rfl rfl rfl ?_))))))))))))
   refine r_scall0 [_, _] [0, 1] rfl rfl rfl (c_ref02_compare a b (by omega) x y) ⟨⟨_, rfl, le_share⟩, ⟨_, rfl, le_share⟩, trivial⟩ rfl ?_
   refine r_cmpInt rfl rfl rfl rfl rfl (run_nil (at_tn ?_))
   refine at_cond rfl (fun hb2 => ?_) (fun hb2 => ?_)
   ·
    have hlt : a < b := cmpN_lt0.1 (of_decide_eq_true hb2)
    refine at_seq (at_region (r_move rfl rfl rfl (r_assign rfl rfl rfl (r_assign rfl rfl rfl (run_nil (at_tn (at_ret (at_tr ?_))))))))
    refine at_end2 rfl (res_tmp rfl) (res_tmp rfl) (fun w hL => ⟨.inr ⟨hlt⟩, ?_, hL.picks [] trivial rfl rfl⟩)
    exact rfl
   ·
    have hge : b ≤ a := by have := of_decide_eq_false hb2; rw [cmpN_lt0] at this; omega
    refine at_skip (at_tn (at_seq (at_region (r_move rfl rfl rfl (r_lenS u33 rfl rfl rfl ?_)))))
    refine q_makeSlice (c := nb a) (NV .i64 (row (nb a) (quT a b (nb a)))) (fun g => [_, _, ⟨some g, 3, _, _, true⟩]) u33 el3 rfl rfl rfl rfl rfl rfl (by omega) (by rw [row_congr (g := fun _ => 0) (fun j hj => quT_top a b hj), row_zero, NV_replicate]) (fun _ => rfl) (fun g0 => ?_)
    refine r_assign rfl rfl rfl (run_nil (at_tn (at_seq (at_seq (at_region (r_move rfl rfl rfl (r_lenS u33 rfl rfl rfl ?_)))))))
    refine r_arith (r := ((nb a : Nat) : Int) - 1) rfl rfl rfl rfl (congrArg some (wi (by omega) (by omega) (by omega))) ?_
    refine r_assign rfl rfl rfl (run_nil (at_tn (at_block ?_)))
    refine enterL (nt := 105) (ι := (p : {p : Nat // p ≤ nb a}) × SR (nb (a / 256 ^ p.1 % b))) (fun ⟨⟨p, hp⟩, z⟩ => [(0, x.v), (1, y.v), (4, slv (some g0) 0 (nb a) (nb a)), (5, z.v), (10, .int .i64 ((p : Nat) - 1))]) (fun ⟨⟨p, hp⟩, z⟩ => [⟨x.b, 3, NV .i64 (D8 a), x.n, false⟩, ⟨y.b, 3, NV .i64 (D8 b), y.n, false⟩, ⟨some g0, 3, NV .i64 (row (nb a) (quT a b p)), nb a, true⟩, ⟨z.b, 3, NV .i64 (D8 (a / 256 ^ p % b)), z.n, true⟩]) (fun ⟨⟨p, hp⟩, z⟩ => p) ⟨⟨nb a, Nat.le_refl _⟩, ⟨none, 0, 0, by rw [dW8_top, nb_zero]; exact Nat.le_refl _⟩⟩ ⟨rfl, rfl, rfl, (look_val rfl (dW8_nilv a b)), rfl, trivial⟩ (weak_picks [some 0, some 1, some 2, none] ⟨⟨_, rfl, Blk.le_refl _⟩, ⟨_, rfl, Blk.le_refl _⟩, ⟨_, rfl, Blk.le_refl _⟩, ⟨rfl, dW8_nil a b, rfl⟩, trivial⟩ rfl rfl) ?_
    rintro ⟨⟨p, hp⟩, z⟩
    show At _ ⟨105, [(0, x.v), (1, y.v), (4, slv (some g0) 0 (nb a) (nb a)), (5, z.v), (10, .int .i64 ((p : Nat) - 1))], [⟨x.b, 3, NV .i64 (D8 a), x.n, false⟩, ⟨y.b, 3, NV .i64 (D8 b), y.n, false⟩, ⟨some g0, 3, NV .i64 (row (nb a) (quT a b p)), nb a, true⟩, ⟨z.b, 3, NV .i64 (D8 (a / 256 ^ p % b)), z.n, true⟩]⟩ _
    refine at_seq (at_seq (at_region (r_move rfl rfl rfl (r_cmpInt rfl rfl rfl rfl rfl (run_nil (at_tn ?_))))))
    refine at_cond rfl (fun hb4 => ?_) (fun hb4 => ?_)
    ·
     obtain ⟨q, rfl⟩ : ∃ q, p = q + 1 := ⟨p - 1, by have := of_decide_eq_true hb4; omega⟩
     refine at_know 10 (.int .i64 (q : Nat)) rfl (congrArg (Value.int .i64) (by omega)) ?_
     have hR := Nat.mod_lt (a / 256 ^ (q + 1)) hb
     have hnR : nb (a / 256 ^ (q + 1) % b) ≤ nb b := nb_mono (Nat.le_of_lt hR)
     have hdq := m256 (a / 256 ^ q)
     have hWn := dW8_nb a b q
     refine at_base 3 rfl (fun hbase => ?_)
     refine at_skip (at_tn (at_seq (at_block (at_seq (at_region (r_move rfl rfl rfl (r_move rfl rfl rfl ?_)))))))
     refine r_indexAddr 0 (q) u33 ti3 rfl rfl rfl rfl rfl (by omega) (by omega) (NV_ne (by rw [D8_length]; omega)) (by show 0 + Int.toNat _ * 1 = _; omega) ?_
     refine r_load1 0 (q) ti3 rfl rfl rfl rfl (NV_get (D8_get (by omega))) ?_
     refine r_buildSlice [(0, _)] (fun g => [_, _, _, _, ⟨some g, 3, _, 1, true⟩]) rfl rfl rfl (bs33_1) rfl (fun _ => rfl) (fun g1 => ?_)
     refine r_move rfl rfl rfl ?_
     refine r_app8 4 3 (fun b n => [_, _, _, _, ⟨b, 3, _, n, true⟩]) u33 el3 rfl rfl rfl rfl rfl hbase rfl rfl (by omega) (fun _ _ => rfl) (fun r => ?_)
     refine r_scall0 [_] [4] rfl rfl rfl (c_ref02_trim (a / 256 ^ q % 256 :: D8 (a / 256 ^ (q + 1) % b)) (dW8_lt256 a b q) (by rw [List.length_cons, D8_length]; omega) (by rw [List.length_cons, D8_length]) r) ⟨⟨_, rfl, le_share⟩, trivial⟩ rfl ?_
     refine r_know 61 (slv r.b 0 (nb (dW8 a b q)) r.cap) rfl (by rw [dW8_trim]) ?_
     refine r_assign rfl rfl rfl (run_nil (at_tn (at_block ?_)))
     refine enterL (nt := 105) (ι := (x : {x : Nat × Nat // x.1 * b + x.2 = dW8 a b q}) × SR (nb x.1.2)) (fun ⟨⟨⟨m, rr⟩, hq⟩, z2⟩ => [(0, x.v), (1, y.v), (4, slv (some g0) 0 (nb a) (nb a)), (5, z2.v), (10, .int .i64 (q : Nat))]) (fun ⟨⟨⟨m, rr⟩, hq⟩, z2⟩ => [⟨x.b, 3, NV .i64 (D8 a), x.n, false⟩, ⟨y.b, 3, NV .i64 (D8 b), y.n, false⟩, ⟨some g0, 3, NV .i64 (row (nb a) (quS a b q m)), nb a, true⟩, ⟨z2.b, 3, NV .i64 (D8 (rr)), z2.n, true⟩]) (fun ⟨⟨⟨m, rr⟩, hq⟩, z2⟩ => rr) ⟨⟨(0, dW8 a b q), by omega⟩, ⟨r.b, r.n, r.cap, Nat.le_trans hWn r.h⟩⟩ ⟨rfl, rfl, rfl, rfl, rfl, trivial⟩ (weak_picks [some 0, some 1, some 2, some 4] ⟨⟨_, rfl, Blk.le_refl _⟩, ⟨_, rfl, Blk.le_refl _⟩, ⟨_, rfl, le_same (congrArg (fun c => (⟨some g0, 3, NV .i64 c, nb a, true⟩ : Blk)) (row_congr fun j _ => quS_zero a b q j))⟩, ⟨_, rfl, rfl, rfl, rfl, ⟨nb (dW8 a b q), dW8_take a b q⟩, fun _ => rfl⟩, trivial⟩ rfl rfl) ?_
     rintro ⟨⟨⟨m, rr⟩, hq⟩, z2⟩
     show At _ ⟨105, [(0, x.v), (1, y.v), (4, slv (some g0) 0 (nb a) (nb a)), (5, z2.v), (10, .int .i64 (q : Nat))], [⟨x.b, 3, NV .i64 (D8 a), x.n, false⟩, ⟨y.b, 3, NV .i64 (D8 b), y.n, false⟩, ⟨some g0, 3, NV .i64 (row (nb a) (quS a b q m)), nb a, true⟩, ⟨z2.b, 3, NV .i64 (D8 (rr)), z2.n, true⟩]⟩ _
     replace hq : m * b + rr = dW8 a b q := hq
     have hrn := dq8_bnd hb hq
     refine at_seq (at_seq (at_region (r_move rfl rfl rfl (r_move rfl rfl rfl ?_))))
     refine r_scall0 [_, _] [3, 1] rfl rfl rfl (c_ref02_compare rr b (by omega) z2 y) ⟨⟨_, rfl, le_share⟩, ⟨_, rfl, le_share⟩, trivial⟩ rfl ?_
     refine r_cmpInt rfl rfl rfl rfl rfl (r_move rfl rfl rfl ?_)
     refine r_split 66 rfl (fun hb6 => ?_) (fun hb6 => ?_)
     ·
      have hge2 : b ≤ rr := cmpN_nonneg.1 (of_decide_eq_true hb6)
      have hm1 := dq8_lt (s := 1) hb hq (by omega)
      refine r_move rfl rfl rfl (r_move rfl rfl rfl ?_)
      refine r_indexAddr 2 (q) u33 ti3 rfl rfl rfl rfl rfl (by omega) (by omega) (NV_ne (by rw [row_length]; omega)) (by show 0 + Int.toNat _ * 1 = _; omega) ?_
      refine r_load1 2 (q) ti3 rfl rfl rfl rfl (NV_get ((row_get (by omega)).trans (by rw [quS_at]))) ?_
      refine r_cmpInt rfl rfl rfl rfl rfl (r_pickT rfl rfl rfl rfl (run_nil (at_tn ?_)))
      refine at_cond rfl (fun hb7 => ?_) (fun hb7 => ?_)
      ·
       refine at_skip (at_tn (at_block (at_seq (at_region (r_move rfl rfl rfl (r_assign rfl rfl rfl (r_assign rfl rfl rfl (run_nil (at_tn (at_seq (at_block ?_)))))))))))
       refine enterL (nt := 105) (ι := (s : {s : Nat // 0 < s ∧ s ≤ 128 ∧ s * b ≤ rr}) × SR (nb (s.1 * b))) (fun ⟨⟨s, hs0, hs1, hs2⟩, z3⟩ => [(0, x.v), (1, y.v), (4, slv (some g0) 0 (nb a) (nb a)), (5, z2.v), (10, .int .i64 (q : Nat)), (11, .int .i64 (s : Nat)), (12, z3.v)]) (fun ⟨⟨s, hs0, hs1, hs2⟩, z3⟩ => [⟨x.b, 3, NV .i64 (D8 a), x.n, false⟩, ⟨y.b, 3, NV .i64 (D8 b), y.n, false⟩, ⟨some g0, 3, NV .i64 (row (nb a) (quS a b q m)), nb a, true⟩, ⟨z2.b, 3, NV .i64 (D8 (rr)), z2.n, true⟩, ⟨z3.b, 3, NV .i64 (D8 (s * b)), z3.n, false⟩]) (fun ⟨⟨s, hs0, hs1, hs2⟩, z3⟩ => 128 - s) ⟨⟨1, by omega, by omega, by omega⟩, ⟨y.b, y.n, y.cap, by rw [Nat.one_mul]; exact y.h⟩⟩ ⟨rfl, rfl, rfl, rfl, rfl, rfl, (look_val rfl (congrArg (fun n => slv y.b 0 (nb n) y.cap) (Nat.one_mul b).symm)), trivial⟩ (weak_picks [some 0, some 1, some 2, some 3, some 1] ⟨⟨_, rfl, Blk.le_refl _⟩, ⟨_, rfl, Blk.le_refl _⟩, ⟨_, rfl, Blk.le_refl _⟩, ⟨_, rfl, Blk.le_refl _⟩, ⟨_, rfl, le_same (congrArg (fun n => (⟨y.b, 3, NV .i64 (D8 n), y.n, false⟩ : Blk)) (Nat.one_mul b))⟩, trivial⟩ rfl rfl) ?_
       rintro ⟨⟨s, hs0, hs1, hs2⟩, z3⟩
       show At _ ⟨105, [(0, x.v), (1, y.v), (4, slv (some g0) 0 (nb a) (nb a)), (5, z2.v), (10, .int .i64 (q : Nat)), (11, .int .i64 (s : Nat)), (12, z3.v)], [⟨x.b, 3, NV .i64 (D8 a), x.n, false⟩, ⟨y.b, 3, NV .i64 (D8 b), y.n, false⟩, ⟨some g0, 3, NV .i64 (row (nb a) (quS a b q m)), nb a, true⟩, ⟨z2.b, 3, NV .i64 (D8 (rr)), z2.n, true⟩, ⟨z3.b, 3, NV .i64 (D8 (s * b)), z3.n, false⟩]⟩ _
       have e2 : 2 * s * b = s * b + s * b := by rw [Nat.two_mul, Nat.add_mul]
       replace hs2 : s * b ≤ rr := hs2
       have hsn : nb (s * b) ≤ nb rr := nb_mono hs2
       have hsn2 : nb (s * b + s * b) ≤ nb b + 2 := nb_le (by have h1 := lt_nb b; have h2 : s * b ≤ 128 * b := Nat.mul_le_mul_right _ hs1; rw [Nat.pow_succ, Nat.pow_succ]; omega)
       refine at_seq (at_seq (at_region (r_move rfl rfl rfl ?_)))
       refine r_arith (r := ((2 * s : Nat) : Int)) rfl rfl rfl rfl (congrArg some (wi (by omega) (by omega) (by omega))) ?_
       refine r_cmpInt rfl rfl rfl rfl rfl (r_move rfl rfl rfl ?_)
       refine r_split 77 rfl (fun hb9 => ?_) (fun hb9 => ?_)
       ·
        have hs3 : 2 * s ≤ 128 := (by have := of_decide_eq_true hb9; omega)
        refine r_move rfl rfl rfl (r_move rfl rfl rfl ?_)
        refine r_scall [_, _] [4, 4] rfl rfl rfl (c_ref02_plus (s * b) (s * b) (by omega) (by omega) z3 z3) ⟨⟨_, rfl, le_share⟩, ⟨_, rfl, le_share⟩, trivial⟩ rfl (.inr fun x b hb => by rw [List.mem_singleton.1 hb]) (fun z4 => ?_)
        refine r_move rfl rfl rfl ?_
        refine r_scall0 [_, _] [5, 3] rfl rfl rfl (c_ref02_compare (s * b + s * b) rr (by omega) z4 z2) ⟨⟨_, rfl, le_share⟩, ⟨_, rfl, le_share⟩, trivial⟩ rfl ?_
        refine r_cmpInt rfl rfl rfl rfl rfl (r_pickT rfl rfl rfl rfl (run_nil (at_tn ?_)))
        refine at_cond rfl (fun hb10 => ?_) (fun hb10 => ?_)
        ·
         have hs4 : s * b + s * b ≤ rr := cmpN_nonpos.1 (of_decide_eq_true hb10)
         refine at_skip (at_tn (at_block (at_region (r_move rfl rfl rfl ?_))))
         refine r_arith (r := ((2 * s : Nat) : Int)) rfl rfl rfl rfl (congrArg some (wi (by omega) (by omega) (by omega))) ?_
         refine r_move rfl rfl rfl (r_move rfl rfl rfl ?_)
         refine r_scall [_, _] [4, 4] rfl rfl rfl (c_ref02_plus (s * b) (s * b) (by omega) (by omega) z3 z3) ⟨⟨_, rfl, le_share⟩, ⟨_, rfl, le_share⟩, trivial⟩ rfl (.inr fun x b hb => by rw [List.mem_singleton.1 hb]) (fun z5 => ?_)
         refine r_assign rfl rfl rfl (r_assign rfl rfl rfl (run_nil (at_bn (at_tn ?_))))
         exact nextL ⟨⟨2 * s, by omega, hs3, by rw [Nat.two_mul, Nat.add_mul]; exact hs4⟩, ⟨z5.b, z5.n, z5.cap, by show nb (2 * s * b) ≤ z5.cap; rw [e2]; exact z5.h⟩⟩ (by show 128 - 2 * s < 128 - s; omega) ⟨rfl, rfl, rfl, rfl, rfl, rfl, (look_val rfl (congrArg (fun n => slv z5.b 0 (nb n) z5.cap) e2.symm)), trivial⟩ (weak_picks [some 0, some 1, some 2, some 3, some 6] ⟨⟨_, rfl, Blk.le_refl _⟩, ⟨_, rfl, Blk.le_refl _⟩, ⟨_, rfl, Blk.le_refl _⟩, ⟨_, rfl, Blk.le_refl _⟩, ⟨_, rfl, ⟨rfl, rfl, rfl, ⟨(NV .i64 (D8 (s * b + s * b))).length, by show NV .i64 (D8 (2 * s * b)) = _; rw [e2, List.take_length]⟩, fun h => by cases h⟩⟩, trivial⟩ rfl rfl)
        ·
         refine at_exit (at_te (at_te (at_be (at_tn ?_))))
         refine at_drawn (l' := [⟨_,_,_,_,_,_⟩, ⟨_,_,_,_,_,_⟩, ⟨_,_,_,_,_,_⟩, ⟨_,_,_,_,_,_⟩, ⟨_,_,_,_,_,_⟩, ⟨_,_,_,_,_,_⟩, ⟨_,_,_,_,_,_⟩, ⟨_,_,_,_,_,_⟩, ⟨_,_,_,_,_,_⟩, ⟨_,_,_,_,_,_⟩, ⟨_,_,_,_,_,_⟩, ⟨_,_,_,_,_,_⟩, ⟨_,_,_,_,_,_⟩, ⟨_,_,_,_,_,_⟩]) [2000000] [0, 1, 2, 3, 5, 6, 7, 8, 9, 10, 4, 11, 12, 13] mixed (by kernel_rfl) rfl (by kernel_rfl) ?_
         refine r_move rfl rfl rfl (r_move rfl rfl rfl (r_move rfl rfl rfl (r_move rfl rfl rfl (r_move rfl rfl rfl (r_move rfl rfl rfl ?_)))))
         refine r_indexAddr 2 (q) u33 ti3 rfl rfl rfl rfl rfl (by omega) (by omega) (NV_ne (by rw [row_length]; omega)) (by show 0 + Int.toNat _ * 1 = _; omega) ?_
         refine r_load1 2 (q) ti3 rfl rfl rfl rfl (NV_get ((row_get (by omega)).trans (by rw [quS_at]))) ?_
         refine r_move rfl rfl rfl ?_
         refine r_arith (r := ((m + s : Nat) : Int)) rfl rfl rfl rfl (congrArg some (wi (by omega) (by omega) (by omega))) ?_
         refine r_scall [_, _] [3, 4] rfl rfl rfl (c_ref02_minus rr (s * b) (by omega) hs2 z2 z3) ⟨⟨_, rfl, le_share⟩, ⟨_, rfl, le_share⟩, trivial⟩ rfl (.inr fun x b hb => by rw [List.mem_singleton.1 hb]) (fun z6 => ?_)
         refine r_assign rfl rfl rfl ?_
         refine r_indexAddr 2 (q) u33 ti3 rfl rfl rfl rfl rfl (by omega) (by omega) (NV_ne (by rw [row_length]; omega)) (by show 0 + Int.toNat _ * 1 = _; omega) ?_
         refine r_store1 rfl 2 (q) [_, _, ⟨some g0, 3, _, _, true⟩, _, _, _, _] (NV .i64 (row (nb a) (quS a b q (m + s)))) ti3 rfl rfl rfl rfl rfl rfl rfl rfl (by rw [NV_length, row_length]; omega) (by rw [NV_set, row_set (fun j _ => quS_step a b q m (m + s) j)]) rfl ?_
         refine run_nil (at_bn (at_tn ?_))
         exact nextL ⟨⟨(m + s, rr - s * b), dq8_next hq hs2⟩, z6⟩ (by have := Nat.mul_pos hs0 hb; show rr - s * b < rr; omega) ⟨rfl, rfl, rfl, rfl, rfl, trivial⟩ (weak_picks [some 0, some 1, some 2, some 6] ⟨⟨_, rfl, Blk.le_refl _⟩, ⟨_, rfl, Blk.le_refl _⟩, ⟨_, rfl, Blk.le_refl _⟩, ⟨_, rfl, Blk.le_refl _⟩, trivial⟩ rfl rfl)
       ·
        refine r_no rfl rfl rfl (r_no rfl rfl rfl (r_no rfl rfl rfl (r_no rfl rfl rfl (r_no rfl rfl rfl (r_no rfl rfl rfl (r_pickF rfl rfl rfl rfl (run_nil (at_tn (at_condF rfl (at_exit (at_te (at_te (at_be (at_tn ?_))))))))))))))
        refine at_drawn (l' := [⟨_,_,_,_,_,_⟩, ⟨_,_,_,_,_,_⟩, ⟨_,_,_,_,_,_⟩, ⟨_,_,_,_,_,_⟩, ⟨_,_,_,_,_,_⟩, ⟨_,_,_,_,_,_⟩, ⟨_,_,_,_,_,_⟩, ⟨_,_,_,_,_,_⟩, ⟨_,_,_,_,_,_⟩, ⟨_,_,_,_,_,_⟩, ⟨_,_,_,_,_,_⟩, ⟨_,_,_,_,_,_⟩, ⟨_,_,_,_,_,_⟩, ⟨_,_,_,_,_,_⟩]) [2000000] [0, 1, 2, 3, 5, 6, 7, 8, 9, 10, 4, 11, 12, 13] mixed (by kernel_rfl) rfl (by kernel_rfl) ?_
        refine r_move rfl rfl rfl (r_move rfl rfl rfl (r_move rfl rfl rfl (r_move rfl rfl rfl (r_move rfl rfl rfl (r_move rfl rfl rfl ?_)))))
        refine r_indexAddr 2 (q) u33 ti3 rfl rfl rfl rfl rfl (by omega) (by omega) (NV_ne (by rw [row_length]; omega)) (by show 0 + Int.toNat _ * 1 = _; omega) ?_
        refine r_load1 2 (q) ti3 rfl rfl rfl rfl (NV_get ((row_get (by omega)).trans (by rw [quS_at]))) ?_
        refine r_move rfl rfl rfl ?_
        refine r_arith (r := ((m + s : Nat) : Int)) rfl rfl rfl rfl (congrArg some (wi (by omega) (by omega) (by omega))) ?_
        refine r_scall [_, _] [3, 4] rfl rfl rfl (c_ref02_minus rr (s * b) (by omega) hs2 z2 z3) ⟨⟨_, rfl, le_share⟩, ⟨_, rfl, le_share⟩, trivial⟩ rfl (.inr fun x b hb => by rw [List.mem_singleton.1 hb]) (fun z6 => ?_)
        refine r_assign rfl rfl rfl ?_
        refine r_indexAddr 2 (q) u33 ti3 rfl rfl rfl rfl rfl (by omega) (by omega) (NV_ne (by rw [row_length]; omega)) (by show 0 + Int.toNat _ * 1 = _; omega) ?_
        refine r_store1 rfl 2 (q) [_, _, ⟨some g0, 3, _, _, true⟩, _, _, _] (NV .i64 (row (nb a) (quS a b q (m + s)))) ti3 rfl rfl rfl rfl rfl rfl rfl rfl (by rw [NV_length, row_length]; omega) (by rw [NV_set, row_set (fun j _ => quS_step a b q m (m + s) j)]) rfl ?_
        refine run_nil (at_bn (at_tn ?_))
        exact nextL ⟨⟨(m + s, rr - s * b), dq8_next hq hs2⟩, z6⟩ (by have := Nat.mul_pos hs0 hb; show rr - s * b < rr; omega) ⟨rfl, rfl, rfl, rfl, rfl, trivial⟩ (weak_picks [some 0, some 1, some 2, some 5] ⟨⟨_, rfl, Blk.le_refl _⟩, ⟨_, rfl, Blk.le_refl _⟩, ⟨_, rfl, Blk.le_refl _⟩, ⟨_, rfl, Blk.le_refl _⟩, trivial⟩ rfl rfl)
      · exact absurd (of_decide_eq_false hb7) (by omega)
     ·
      have hlt2 : rr < b := by have := of_decide_eq_false hb6; rw [cmpN_nonneg] at this; omega
      obtain ⟨hm, hr⟩ := dq8 hb hq hlt2
      subst hm; subst hr
      refine r_no rfl rfl rfl (r_no rfl rfl rfl (r_no rfl rfl rfl (r_no rfl rfl rfl (r_no rfl rfl rfl (r_pickF rfl rfl rfl rfl (run_nil (at_tn (at_condF rfl (at_exit (at_te (at_te (at_be (at_bn (at_tn (at_region (r_move rfl rfl rfl ?_))))))))))))))))
      refine r_arith (r := ((q : Nat) : Int) - 1) rfl rfl rfl rfl (congrArg some (wi (by omega) (by omega) (by omega))) ?_
      refine r_assign rfl rfl rfl (run_nil (at_tn ?_))
      exact nextL ⟨⟨q, by omega⟩, z2⟩ (Nat.lt_succ_self q) ⟨rfl, rfl, rfl, rfl, rfl, trivial⟩ (weak_picks [some 0, some 1, some 2, some 3] ⟨⟨_, rfl, Blk.le_refl _⟩, ⟨_, rfl, Blk.le_refl _⟩, ⟨_, rfl, le_same (congrArg (fun c => (⟨some g0, 3, NV .i64 c, nb a, true⟩ : Blk)) (row_congr fun j _ => (quS_end a b q j).symm))⟩, ⟨_, rfl, Blk.le_refl _⟩, trivial⟩ rfl rfl)
    ·
     have hp0 : p = 0 := by have := of_decide_eq_false hb4; omega
     subst hp0
     refine at_exit (at_te (at_te (at_be (at_tn (at_seq (at_region (r_move rfl rfl rfl ?_)))))))
     refine r_scall0 [_] [2] rfl rfl rfl (c_ref02_trim (row (nb a) (quT a b 0)) (row_lt fun j => quT_lt a b 0 j) (by rw [row_length]; omega) (row_length _ _) ⟨some g0, nb a, nb a, Nat.le_refl _⟩) ⟨⟨_, rfl, le_share⟩, trivial⟩ rfl ?_
     refine r_know 103 (slv (some g0) 0 (nb (a / b)) (nb a)) rfl (by rw [quT_trim]; rfl) ?_
     refine r_move rfl rfl rfl (r_assign rfl rfl rfl (r_assign rfl rfl rfl (run_nil (at_tn (at_ret ?_)))))
     refine at_end2 rfl (res_tmp rfl) (res_tmp rfl) (fun w hL => ⟨.inl (⟨some g0, nb a, nb a, nb_mono (Nat.div_le_self _ _)⟩, ⟨z.b, z.n, z.cap, by have h := z.h; simp only [Nat.pow_zero, Nat.div_one] at h; exact h⟩), ?_, ?_⟩)
     · exact congrArg (fun n => Ending.returned (.tuple #[slv (some g0) 0 (nb (a / b)) (nb a), slv z.b 0 (nb n) z.cap])) (show a / 256 ^ 0 % b = a % b by rw [Nat.pow_zero, Nat.div_one])
     · exact hL.picks [some 2, some 3] ⟨⟨_, rfl, rfl, rfl, rfl, ⟨nb (a / b), quT_take a b⟩, fun _ => rfl⟩, ⟨_, rfl, le_same (congrArg (fun n => (⟨z.b, 3, NV .i64 (D8 n), z.n, true⟩ : Blk)) (show a % b = a / 256 ^ 0 % b by rw [Nat.pow_zero, Nat.div_one]))⟩, trivial⟩ rfl rfl
 ·
  refine r_no rfl rfl rfl (r_pickF rfl rfl rfl rfl (r_move rfl rfl rfl (r_no rfl rfl rfl (r_no rfl rfl rfl (r_pickF rfl rfl rfl rfl (run_nil (at_tn (at_condF rfl (at_skip (at_tn (at_seq (at_seq (at_region (r_move rfl rfl rfl (r_move rfl rfl rfl ?_)))))))))))))))
  refine r_scall0 [_, _] [0, 1] rfl rfl rfl (c_ref02_compare a b (by omega) x y) ⟨⟨_, rfl, le_share⟩, ⟨_, rfl, le_share⟩, trivial⟩ rfl ?_
  refine r_cmpInt rfl rfl rfl rfl rfl (run_nil (at_tn ?_))
  refine at_cond rfl (fun hb1 => ?_) (fun hb1 => ?_)
  ·
   have hlt : a < b := cmpN_lt0.1 (of_decide_eq_true hb1)
   refine at_seq (at_region (r_move rfl rfl rfl (r_assign rfl rfl rfl (r_assign rfl rfl rfl (run_nil (at_tn (at_ret (at_tr ?_))))))))
   refine at_end2 rfl (res_tmp rfl) (res_tmp rfl) (fun w hL => ⟨.inr ⟨hlt⟩, ?_, hL.picks [] trivial rfl rfl⟩)
   exact rfl
  ·
   have hge : b ≤ a := by have := of_decide_eq_false hb1; rw [cmpN_lt0] at this; omega
   refine at_skip (at_tn (at_seq (at_region (r_move rfl rfl rfl (r_lenS u33 rfl rfl rfl ?_)))))
   refine q_makeSlice (c := nb a) (NV .i64 (row (nb a) (quT a b (nb a)))) (fun g => [_, _, ⟨some g, 3, _, _, true⟩]) u33 el3 rfl rfl rfl rfl rfl rfl (by omega) (by rw [row_congr (g := fun _ => 0) (fun j hj => quT_top a b hj), row_zero, NV_replicate]) (fun _ => rfl) (fun g0 => ?_)
   refine r_assign rfl rfl rfl (run_nil (at_tn (at_seq (at_seq (at_region (r_move rfl rfl rfl (r_lenS u33 rfl rfl rfl ?_)))))))
   refine r_arith (r := ((nb a : Nat) : Int) - 1) rfl rfl rfl rfl (congrArg some (wi (by omega) (by omega) (by omega))) ?_
   refine r_assign rfl rfl rfl (run_nil (at_tn (at_block ?_)))
   refine enterL (nt := 105) (ι := (p : {p : Nat // p ≤ nb a}) × SR (nb (a / 256 ^ p.1 % b))) (fun ⟨⟨p, hp⟩, z⟩ => [(0, x.v), (1, y.v), (4, slv (some g0) 0 (nb a) (nb a)), (5, z.v), (10, .int .i64 ((p : Nat) - 1))]) (fun ⟨⟨p, hp⟩, z⟩ => [⟨x.b, 3, NV .i64 (D8 a), x.n, false⟩, ⟨y.b, 3, NV .i64 (D8 b), y.n, false⟩, ⟨some g0, 3, NV .i64 (row (nb a) (quT a b p)), nb a, true⟩, ⟨z.b, 3, NV .i64 (D8 (a / 256 ^ p % b)), z.n, true⟩]) (fun ⟨⟨p, hp⟩, z⟩ => p) ⟨⟨nb a, Nat.le_refl _⟩, ⟨none, 0, 0, by rw [dW8_top, nb_zero]; exact Nat.le_refl _⟩⟩ ⟨rfl, rfl, rfl, (look_val rfl (dW8_nilv a b)), rfl, trivial⟩ (weak_picks [some 0, some 1, some 2, none] ⟨⟨_, rfl, Blk.le_refl _⟩, ⟨_, rfl, Blk.le_refl _⟩, ⟨_, rfl, Blk.le_refl _⟩, ⟨rfl, dW8_nil a b, rfl⟩, trivial⟩ rfl rfl) ?_
   rintro ⟨⟨p, hp⟩, z⟩
   show At _ ⟨105, [(0, x.v), (1, y.v), (4, slv (some g0) 0 (nb a) (nb a)), (5, z.v), (10, .int .i64 ((p : Nat) - 1))], [⟨x.b, 3, NV .i64 (D8 a), x.n, false⟩, ⟨y.b, 3, NV .i64 (D8 b), y.n, false⟩, ⟨some g0, 3, NV .i64 (row (nb a) (quT a b p)), nb a, true⟩, ⟨z.b, 3, NV .i64 (D8 (a / 256 ^ p % b)), z.n, true⟩]⟩ _
   refine at_seq (at_seq (at_region (r_move rfl rfl rfl (r_cmpInt rfl rfl rfl rfl rfl (run_nil (at_tn ?_))))))
   refine at_cond rfl (fun hb3 => ?_) (fun hb3 => ?_)
   ·
    obtain ⟨q, rfl⟩ : ∃ q, p = q + 1 := ⟨p - 1, by have := of_decide_eq_true hb3; omega⟩
    refine at_know 10 (.int .i64 (q : Nat)) rfl (congrArg (Value.int .i64) (by omega)) ?_
    have hR := Nat.mod_lt (a / 256 ^ (q + 1)) hb
    have hnR : nb (a / 256 ^ (q + 1) % b) ≤ nb b := nb_mono (Nat.le_of_lt hR)
    have hdq := m256 (a / 256 ^ q)
    have hWn := dW8_nb a b q
    refine at_base 3 rfl (fun hbase => ?_)
    refine at_skip (at_tn (at_seq (at_block (at_seq (at_region (r_move rfl rfl rfl (r_move rfl rfl rfl ?_)))))))
    refine r_indexAddr 0 (q) u33 ti3 rfl rfl rfl rfl rfl (by omega) (by omega) (NV_ne (by rw [D8_length]; omega)) (by show 0 + Int.toNat _ * 1 = _; omega) ?_
    refine r_load1 0 (q) ti3 rfl rfl rfl rfl (NV_get (D8_get (by omega))) ?_
    refine r_buildSlice [(0, _)] (fun g => [_, _, _, _, ⟨some g, 3, _, 1, true⟩]) rfl rfl rfl (bs33_1) rfl (fun _ => rfl) (fun g1 => ?_)
    refine r_move rfl rfl rfl ?_
    refine r_app8 4 3 (fun b n => [_, _, _, _, ⟨b, 3, _, n, true⟩]) u33 el3 rfl rfl rfl rfl rfl hbase rfl rfl (by omega) (fun _ _ => rfl) (fun r => ?_)
    refine r_scall0 [_] [4] rfl rfl rfl (c_ref02_trim (a / 256 ^ q % 256 :: D8 (a / 256 ^ (q + 1) % b)) (dW8_lt256 a b q) (by rw [List.length_cons, D8_length]; omega) (by rw [List.length_cons, D8_length]) r) ⟨⟨_, rfl, le_share⟩, trivial⟩ rfl ?_
    refine r_know 61 (slv r.b 0 (nb (dW8 a b q)) r.cap) rfl (by rw [dW8_trim]) ?_
    refine r_assign rfl rfl rfl (run_nil (at_tn (at_block ?_)))
    refine enterL (nt := 105) (ι := (x : {x : Nat × Nat // x.1 * b + x.2 = dW8 a b q}) × SR (nb x.1.2)) (fun ⟨⟨⟨m, rr⟩, hq⟩, z2⟩ => [(0, x.v), (1, y.v), (4, slv (some g0) 0 (nb a) (nb a)), (5, z2.v), (10, .int .i64 (q : Nat))]) (fun ⟨⟨⟨m, rr⟩, hq⟩, z2⟩ => [⟨x.b, 3, NV .i64 (D8 a), x.n, false⟩, ⟨y.b, 3, NV .i64 (D8 b), y.n, false⟩, ⟨some g0, 3, NV .i64 (row (nb a) (quS a b q m)), nb a, true⟩, ⟨z2.b, 3, NV .i64 (D8 (rr)), z2.n, true⟩]) (fun ⟨⟨⟨m, rr⟩, hq⟩, z2⟩ => rr) ⟨⟨(0, dW8 a b q), by omega⟩, ⟨r.b, r.n, r.cap, Nat.le_trans hWn r.h⟩⟩ ⟨rfl, rfl, rfl, rfl, rfl, trivial⟩ (weak_picks [some 0, some 1, some 2, some 4] ⟨⟨_, rfl, Blk.le_refl _⟩, ⟨_, rfl, Blk.le_refl _⟩, ⟨_, rfl, le_same (congrArg (fun c => (⟨some g0, 3, NV .i64 c, nb a, true⟩ : Blk)) (row_congr fun j _ => quS_zero a b q j))⟩, ⟨_, rfl, rfl, rfl, rfl, ⟨nb (dW8 a b q), dW8_take a b q⟩, fun _ => rfl⟩, trivial⟩ rfl rfl) ?_
    rintro ⟨⟨⟨m, rr⟩, hq⟩, z2⟩
    show At _ ⟨105, [(0, x.v), (1, y.v), (4, slv (some g0) 0 (nb a) (nb a)), (5, z2.v), (10, .int .i64 (q : Nat))], [⟨x.b, 3, NV .i64 (D8 a), x.n, false⟩, ⟨y.b, 3, NV .i64 (D8 b), y.n, false⟩, ⟨some g0, 3, NV .i64 (row (nb a) (quS a b q m)), nb a, true⟩, ⟨z2.b, 3, NV .i64 (D8 (rr)), z2.n, true⟩]⟩ _
    replace hq : m * b + rr = dW8 a b q := hq
    have hrn := dq8_bnd hb hq
    refine at_seq (at_seq (at_region (r_move rfl rfl rfl (r_move rfl rfl rfl ?_))))
    refine r_scall0 [_, _] [3, 1] rfl rfl rfl (c_ref02_compare rr b (by omega) z2 y) ⟨⟨_, rfl, le_share⟩, ⟨_, rfl, le_share⟩, trivial⟩ rfl ?_
    refine r_cmpInt rfl rfl rfl rfl rfl (r_move rfl rfl rfl ?_)
    refine r_split 66 rfl (fun hb5 => ?_) (fun hb5 => ?_)
    ·
     have hge2 : b ≤ rr := cmpN_nonneg.1 (of_decide_eq_true hb5)
     have hm1 := dq8_lt (s := 1) hb hq (by omega)
     refine r_move rfl rfl rfl (r_move rfl rfl rfl ?_)
     refine r_indexAddr 2 (q) u33 ti3 rfl rfl rfl rfl rfl (by omega) (by omega) (NV_ne (by rw [row_length]; omega)) (by show 0 + Int.toNat _ * 1 = _; omega) ?_
     refine r_load1 2 (q) ti3 rfl rfl rfl rfl (NV_get ((row_get (by omega)).trans (by rw [quS_at]))) ?_
     refine r_cmpInt rfl rfl rfl rfl rfl (r_pickT rfl rfl rfl rfl (run_nil (at_tn ?_)))
     refine at_cond rfl (fun hb6 => ?_) (fun hb6 => ?_)
     ·
      refine at_skip (at_tn (at_block (at_seq (at_region (r_move rfl rfl rfl (r_assign rfl rfl rfl (r_assign rfl rfl rfl (run_nil (at_tn (at_seq (at_block ?_)))))))))))
      refine enterL (nt := 105) (ι := (s : {s : Nat // 0 < s ∧ s ≤ 128 ∧ s * b ≤ rr}) × SR (nb (s.1 * b))) (fun ⟨⟨s, hs0, hs1, hs2⟩, z3⟩ => [(0, x.v), (1, y.v), (4, slv (some g0) 0 (nb a) (nb a)), (5, z2.v), (10, .int .i64 (q : Nat)), (11, .int .i64 (s : Nat)), (12, z3.v)]) (fun ⟨⟨s, hs0, hs1, hs2⟩, z3⟩ => [⟨x.b, 3, NV .i64 (D8 a), x.n, false⟩, ⟨y.b, 3, NV .i64 (D8 b), y.n, false⟩, ⟨some g0, 3, NV .i64 (row (nb a) (quS a b q m)), nb a, true⟩, ⟨z2.b, 3, NV .i64 (D8 (rr)), z2.n, true⟩, ⟨z3.b, 3, NV .i64 (D8 (s * b)), z3.n, false⟩]) (fun ⟨⟨s, hs0, hs1, hs2⟩, z3⟩ => 128 - s) ⟨⟨1, by omega, by omega, by omega⟩, ⟨y.b, y.n, y.cap, by rw [Nat.one_mul]; exact y.h⟩⟩ ⟨rfl, rfl, rfl, rfl, rfl, rfl, (look_val rfl (congrArg (fun n => slv y.b 0 (nb n) y.cap) (Nat.one_mul b).symm)), trivial⟩ (weak_picks [some 0, some 1, some 2, some 3, some 1] ⟨⟨_, rfl, Blk.le_refl _⟩, ⟨_, rfl, Blk.le_refl _⟩, ⟨_, rfl, Blk.le_refl _⟩, ⟨_, rfl, Blk.le_refl _⟩, ⟨_, rfl, le_same (congrArg (fun n => (⟨y.b, 3, NV .i64 (D8 n), y.n, false⟩ : Blk)) (Nat.one_mul b))⟩, trivial⟩ rfl rfl) ?_
      rintro ⟨⟨s, hs0, hs1, hs2⟩, z3⟩
      show At _ ⟨105, [(0, x.v), (1, y.v), (4, slv (some g0) 0 (nb a) (nb a)), (5, z2.v), (10, .int .i64 (q : Nat)), (11, .int .i64 (s : Nat)), (12, z3.v)], [⟨x.b, 3, NV .i64 (D8 a), x.n, false⟩, ⟨y.b, 3, NV .i64 (D8 b), y.n, false⟩, ⟨some g0, 3, NV .i64 (row (nb a) (quS a b q m)), nb a, true⟩, ⟨z2.b, 3, NV .i64 (D8 (rr)), z2.n, true⟩, ⟨z3.b, 3, NV .i64 (D8 (s * b)), z3.n, false⟩]⟩ _
      have e2 : 2 * s * b = s * b + s * b := by rw [Nat.two_mul, Nat.add_mul]
      replace hs2 : s * b ≤ rr := hs2
      have hsn : nb (s * b) ≤ nb rr := nb_mono hs2
      have hsn2 : nb (s * b + s * b) ≤ nb b + 2 := nb_le (by have h1 := lt_nb b; have h2 : s * b ≤ 128 * b := Nat.mul_le_mul_right _ hs1; rw [Nat.pow_succ, Nat.pow_succ]; omega)
      refine at_seq (at_seq (at_region (r_move rfl rfl rfl ?_)))
      refine r_arith (r := ((2 * s : Nat) : Int)) rfl rfl rfl rfl (congrArg some (wi (by omega) (by omega) (by omega))) ?_
      refine r_cmpInt rfl rfl rfl rfl rfl (r_move rfl rfl rfl ?_)
      refine r_split 77 rfl (fun hb8 => ?_) (fun hb8 => ?_)
      ·
       have hs3 : 2 * s ≤ 128 := (by have := of_decide_eq_true hb8; omega)
       refine r_move rfl rfl rfl (r_move rfl rfl rfl ?_)
       refine r_scall [_, _] [4, 4] rfl rfl rfl (c_ref02_plus (s * b) (s * b) (by omega) (by omega) z3 z3) ⟨⟨_, rfl, le_share⟩, ⟨_, rfl, le_share⟩, trivial⟩ rfl (.inr fun x b hb => by rw [List.mem_singleton.1 hb]) (fun z4 => ?_)
       refine r_move rfl rfl rfl ?_
       refine r_scall0 [_, _] [5, 3] rfl rfl rfl (c_ref02_compare (s * b + s * b) rr (by omega) z4 z2) ⟨⟨_, rfl, le_share⟩, ⟨_, rfl, le_share⟩, trivial⟩ rfl ?_
       refine r_cmpInt rfl rfl rfl rfl rfl (r_pickT rfl rfl rfl rfl (run_nil (at_tn ?_)))
       refine at_cond rfl (fun hb9 => ?_) (fun hb9 => ?_)
       ·
        have hs4 : s * b + s * b ≤ rr := cmpN_nonpos.1 (of_decide_eq_true hb9)
        refine at_skip (at_tn (at_block (at_region (r_move rfl rfl rfl ?_))))
        refine r_arith (r := ((2 * s : Nat) : Int)) rfl rfl rfl rfl (congrArg some (wi (by omega) (by omega) (by omega))) ?_
        refine r_move rfl rfl rfl (r_move rfl rfl rfl ?_)
        refine r_scall [_, _] [4, 4] rfl rfl rfl (c_ref02_plus (s * b) (s * b) (by omega) (by omega) z3 z3) ⟨⟨_, rfl, le_share⟩, ⟨_, rfl, le_share⟩, trivial⟩ rfl (.inr fun x b hb => by rw [List.mem_singleton.1 hb]) (fun z5 => ?_)
        refine r_assign rfl rfl rfl (r_assign rfl rfl rfl (run_nil (at_bn (at_tn ?_))))
        exact nextL ⟨⟨2 * s, by omega, hs3, by rw [Nat.two_mul, Nat.add_mul]; exact hs4⟩, ⟨z5.b, z5.n, z5.cap, by show nb (2 * s * b) ≤ z5.cap; rw [e2]; exact z5.h⟩⟩ (by show 128 - 2 * s < 128 - s; omega) ⟨rfl, rfl, rfl, rfl, rfl, rfl, (look_val rfl (congrArg (fun n => slv z5.b 0 (nb n) z5.cap) e2.symm)), trivial⟩ (weak_picks [some 0, some 1, some 2, some 3, some 6] ⟨⟨_, rfl, Blk.le_refl _⟩, ⟨_, rfl, Blk.le_refl _⟩, ⟨_, rfl, Blk.le_refl _⟩, ⟨_, rfl, Blk.le_refl _⟩, ⟨_, rfl, ⟨rfl, rfl, rfl, ⟨(NV .i64 (D8 (s * b + s * b))).length, by show NV .i64 (D8 (2 * s * b)) = _; rw [e2, List.take_length]⟩, fun h => by cases h⟩⟩, trivial⟩ rfl rfl)
       ·
        refine at_exit (at_te (at_te (at_be (at_tn ?_))))
        refine at_drawn (l' := [⟨_,_,_,_,_,_⟩, ⟨_,_,_,_,_,_⟩, ⟨_,_,_,_,_,_⟩, ⟨_,_,_,_,_,_⟩, ⟨_,_,_,_,_,_⟩, ⟨_,_,_,_,_,_⟩, ⟨_,_,_,_,_,_⟩, ⟨_,_,_,_,_,_⟩, ⟨_,_,_,_,_,_⟩, ⟨_,_,_,_,_,_⟩, ⟨_,_,_,_,_,_⟩, ⟨_,_,_,_,_,_⟩, ⟨_,_,_,_,_,_⟩, ⟨_,_,_,_,_,_⟩]) [2000000] [0, 1, 2, 3, 5, 6, 7, 8, 9, 10, 4, 11, 12, 13] mixed (by kernel_rfl) rfl (by kernel_rfl) ?_
        refine r_move rfl rfl rfl (r_move rfl rfl rfl (r_move rfl rfl rfl (r_move rfl rfl rfl (r_move rfl rfl rfl (r_move rfl rfl rfl ?_)))))
        refine r_indexAddr 2 (q) u33 ti3 rfl rfl rfl rfl rfl (by omega) (by omega) (NV_ne (by rw [row_length]; omega)) (by show 0 + Int.toNat _ * 1 = _; omega) ?_
        refine r_load1 2 (q) ti3 rfl rfl rfl rfl (NV_get ((row_get (by omega)).trans (by rw [quS_at]))) ?_
        refine r_move rfl rfl rfl ?_
        refine r_arith (r := ((m + s : Nat) : Int)) rfl rfl rfl rfl (congrArg some (wi (by omega) (by omega) (by omega))) ?_
        refine r_scall [_, _] [3, 4] rfl rfl rfl (c_ref02_minus rr (s * b) (by omega) hs2 z2 z3) ⟨⟨_, rfl, le_share⟩, ⟨_, rfl, le_share⟩, trivial⟩ rfl (.inr fun x b hb => by rw [List.mem_singleton.1 hb]) (fun z6 => ?_)
        refine r_assign rfl rfl rfl ?_
        refine r_indexAddr 2 (q) u33 ti3 rfl rfl rfl rfl rfl (by omega) (by omega) (NV_ne (by rw [row_length]; omega)) (by show 0 + Int.toNat _ * 1 = _; omega) ?_
        refine r_store1 rfl 2 (q) [_, _, ⟨some g0, 3, _, _, true⟩, _, _, _, _] (NV .i64 (row (nb a) (quS a b q (m + s)))) ti3 rfl rfl rfl rfl rfl rfl rfl rfl (by rw [NV_length, row_length]; omega) (by rw [NV_set, row_set (fun j _ => quS_step a b q m (m + s) j)]) rfl ?_
        refine run_nil (at_bn (at_tn ?_))
        exact nextL ⟨⟨(m + s, rr - s * b), dq8_next hq hs2⟩, z6⟩ (by have := Nat.mul_pos hs0 hb; show rr - s * b < rr; omega) ⟨rfl, rfl, rfl, rfl, rfl, trivial⟩ (weak_picks [some 0, some 1, some 2, some 6] ⟨⟨_, rfl, Blk.le_refl _⟩, ⟨_, rfl, Blk.le_refl _⟩, ⟨_, rfl, Blk.le_refl _⟩, ⟨_, rfl, Blk.le_refl _⟩, trivial⟩ rfl rfl)
      ·
       refine r_no rfl rfl rfl (r_no rfl rfl rfl (r_no rfl rfl rfl (r_no rfl rfl rfl (r_no rfl rfl rfl (r_no rfl rfl rfl (r_pickF rfl rfl rfl rfl (run_nil (at_tn (at_condF rfl (at_exit (at_te (at_te (at_be (at_tn ?_))))))))))))))
       refine at_drawn (l' := [⟨_,_,_,_,_,_⟩, ⟨_,_,_,_,_,_⟩, ⟨_,_,_,_,_,_⟩, ⟨_,_,_,_,_,_⟩, ⟨_,_,_,_,_,_⟩, ⟨_,_,_,_,_,_⟩, ⟨_,_,_,_,_,_⟩, ⟨_,_,_,_,_,_⟩, ⟨_,_,_,_,_,_⟩, ⟨_,_,_,_,_,_⟩, ⟨_,_,_,_,_,_⟩, ⟨_,_,_,_,_,_⟩, ⟨_,_,_,_,_,_⟩, ⟨_,_,_,_,_,_⟩]) [2000000] [0, 1, 2, 3, 5, 6, 7, 8, 9, 10, 4, 11, 12, 13] mixed (by kernel_rfl) rfl (by kernel_rfl) ?_
       refine r_move rfl rfl rfl (r_move rfl rfl rfl (r_move rfl rfl rfl (r_move rfl rfl rfl (r_move rfl rfl rfl (r_move rfl rfl rfl ?_)))))
       refine r_indexAddr 2 (q) u33 ti3 rfl rfl rfl rfl rfl (by omega) (by omega) (NV_ne (by rw [row_length]; omega)) (by show 0 + Int.toNat _ * 1 = _; omega) ?_
       refine r_load1 2 (q) ti3 rfl rfl rfl rfl (NV_get ((row_get (by omega)).trans (by rw [quS_at]))) ?_
       refine r_move rfl rfl rfl ?_
       refine r_arith (r := ((m + s : Nat) : Int)) rfl rfl rfl rfl (congrArg some (wi (by omega) (by omega) (by omega))) ?_
       refine r_scall [_, _] [3, 4] rfl rfl rfl (c_ref02_minus rr (s * b) (by omega) hs2 z2 z3) ⟨⟨_, rfl, le_share⟩, ⟨_, rfl, le_share⟩, trivial⟩ rfl (.inr fun x b hb => by rw [List.mem_singleton.1 hb]) (fun z6 => ?_)
       refine r_assign rfl rfl rfl ?_
       refine r_indexAddr 2 (q) u33 ti3 rfl rfl rfl rfl rfl (by omega) (by omega) (NV_ne (by rw [row_length]; omega)) (by show 0 + Int.toNat _ * 1 = _; omega) ?_
       refine r_store1 rfl 2 (q) [_, _, ⟨some g0, 3, _, _, true⟩, _, _, _] (NV .i64 (row (nb a) (quS a b q (m + s)))) ti3 rfl rfl rfl rfl rfl rfl rfl rfl (by rw [NV_length, row_length]; omega) (by rw [NV_set, row_set (fun j _ => quS_step a b q m (m + s) j)]) rfl ?_
       refine run_nil (at_bn (at_tn ?_))
       exact nextL ⟨⟨(m + s, rr - s * b), dq8_next hq hs2⟩, z6⟩ (by have := Nat.mul_pos hs0 hb; show rr - s * b < rr; omega) ⟨rfl, rfl, rfl, rfl, rfl, trivial⟩ (weak_picks [some 0, some 1, some 2, some 5] ⟨⟨_, rfl, Blk.le_refl _⟩, ⟨_, rfl, Blk.le_refl _⟩, ⟨_, rfl, Blk.le_refl _⟩, ⟨_, rfl, Blk.le_refl _⟩, trivial⟩ rfl rfl)
     · exact absurd (of_decide_eq_false hb6) (by omega)
    ·
     have hlt2 : rr < b := by have := of_decide_eq_false hb5; rw [cmpN_nonneg] at this; omega
     obtain ⟨hm, hr⟩ := dq8 hb hq hlt2
     subst hm; subst hr
     refine r_no rfl rfl rfl (r_no rfl rfl rfl (r_no rfl rfl rfl (r_no rfl rfl rfl (r_no rfl rfl rfl (r_pickF rfl rfl rfl rfl (run_nil (at_tn (at_condF rfl (at_exit (at_te (at_te (at_be (at_bn (at_tn (at_region (r_move rfl rfl rfl ?_))))))))))))))))
     refine r_arith (r := ((q : Nat) : Int) - 1) rfl rfl rfl rfl (congrArg some (wi (by omega) (by omega) (by omega))) ?_
     refine r_assign rfl rfl rfl (run_nil (at_tn ?_))
     exact nextL ⟨⟨q, by omega⟩, z2⟩ (Nat.lt_succ_self q) ⟨rfl, rfl, rfl, rfl, rfl, trivial⟩ (weak_picks [some 0, some 1, some 2, some 3] ⟨⟨_, rfl, Blk.le_refl _⟩, ⟨_, rfl, Blk.le_refl _⟩, ⟨_, rfl, le_same (congrArg (fun c => (⟨some g0, 3, NV .i64 c, nb a, true⟩ : Blk)) (row_congr fun j _ => (quS_end a b q j).symm))⟩, ⟨_, rfl, Blk.le_refl _⟩, trivial⟩ rfl rfl)
   ·
    have hp0 : p = 0 := by have := of_decide_eq_false hb3; omega
    subst hp0
    refine at_exit (at_te (at_te (at_be (at_tn (at_seq (at_region (r_move rfl rfl rfl ?_)))))))
    refine r_scall0 [_] [2] rfl rfl rfl (c_ref02_trim (row (nb a) (quT a b 0)) (row_lt fun j => quT_lt a b 0 j) (by rw [row_length]; omega) (row_length _ _) ⟨some g0, nb a, nb a, Nat.le_refl _⟩) ⟨⟨_, rfl, le_share⟩, trivial⟩ rfl ?_
    refine r_know 103 (slv (some g0) 0 (nb (a / b)) (nb a)) rfl (by rw [quT_trim]; rfl) ?_
    refine r_move rfl rfl rfl (r_assign rfl rfl rfl (r_assign rfl rfl rfl (run_nil (at_tn (at_ret ?_)))))
    refine at_end2 rfl (res_tmp rfl) (res_tmp rfl) (fun w hL => ⟨.inl (⟨some g0, nb a, nb a, nb_mono (Nat.div_le_self _ _)⟩, ⟨z.b, z.n, z.cap, by have h := z.h; simp only [Nat.pow_zero, Nat.div_one] at h; exact h⟩), ?_, ?_⟩)
    · exact congrArg (fun n => Ending.returned (.tuple #[slv (some g0) 0 (nb (a / b)) (nb a), slv z.b 0 (nb n) z.cap])) (show a / 256 ^ 0 % b = a % b by rw [Nat.pow_zero, Nat.div_one])
    · exact hL.picks [some 2, some 3] ⟨⟨_, rfl, rfl, rfl, rfl, ⟨nb (a / b), quT_take a b⟩, fun _ => rfl⟩, ⟨_, rfl, le_same (congrArg (fun n => (⟨z.b, 3, NV .i64 (D8 n), z.n, true⟩ : Blk)) (show a % b = a / 256 ^ 0 % b by rw [Nat.pow_zero, Nat.div_one]))⟩, trivial⟩ rfl rfl
end Go.Proofs.YtncogghlhlnmaaaGreatDoor
set_option linter.unusedVariables false
namespace Go.Proofs.YtncogghlhlnmaaaGreatDoor
open Go Go.RowKit Go.Via
set_option maxRecDepth 20000 in
theorem c_ref02_common (a b : Nat) (ha : nb a ≤ 1073740000) (hb : nb b ≤ 1073740000) (x : SR (nb a)) (y : SR (nb b)) : SCallA Tryz.prog 79 [⟨x.b, 3, NV .i64 (D8 a), x.n, false⟩, ⟨y.b, 3, NV .i64 (D8 b), y.n, false⟩] [x.v, y.v] (SR (nb (Nat.gcd a b))) SR.v (fun z => [⟨z.b, 3, NV .i64 (D8 (Nat.gcd a b)), z.n, false⟩]) := by
 refine ⟨by kernel_rfl, fun w hL0 => ?_⟩
 refine calls_at (args := [x.v, y.v]) Tryz.func79 rfl (Nat.le_of_ble_eq_true rfl) hL0 ?_
 show At w ⟨19, [(0, x.v), (1, y.v)], [⟨x.b, 3, NV .i64 (D8 a), x.n, false⟩, ⟨y.b, 3, NV .i64 (D8 b), y.n, false⟩]⟩ _
 refine at_seq (at_region (r_assign rfl rfl rfl (run_nil (at_tn (at_seq (at_block ?_))))))
 refine enterL (nt := 19) (ι := (p : {p : Nat × Nat // Nat.gcd p.1 p.2 = Nat.gcd a b ∧ nb p.1 ≤ 1073740000 ∧ nb p.2 ≤ 1073740000}) × FS [x.b, y.b] (nb p.1.1) × FS [x.b, y.b] (nb p.1.2)) (fun ⟨⟨⟨m, n⟩, hg, hm, hn⟩, ⟨za, oa, hoa⟩, ⟨zb, ob, hob⟩⟩ => [(0, za.v), (1, zb.v)]) (fun ⟨⟨⟨m, n⟩, hg, hm, hn⟩, ⟨za, oa, hoa⟩, ⟨zb, ob, hob⟩⟩ => [⟨x.b, 3, NV .i64 (D8 a), x.n, false⟩, ⟨y.b, 3, NV .i64 (D8 b), y.n, false⟩, ⟨za.b, 3, NV .i64 (D8 (m)), za.n, oa⟩, ⟨zb.b, 3, NV .i64 (D8 (n)), zb.n, ob⟩]) (fun ⟨⟨⟨m, n⟩, hg, hm, hn⟩, ⟨za, oa, hoa⟩, ⟨zb, ob, hob⟩⟩ => n) ⟨⟨(a, b), rfl, ha, hb⟩, ⟨x, false, .inr (by simp)⟩, ⟨y, false, .inr (by simp)⟩⟩ ⟨rfl, rfl, trivial⟩ (weak_picks [some 0, some 1, some 0, some 1] ⟨⟨_, rfl, Blk.le_refl _⟩, ⟨_, rfl, Blk.le_refl _⟩, ⟨_, rfl, Blk.le_refl _⟩, ⟨_, rfl, Blk.le_refl _⟩, trivial⟩ rfl rfl) ?_
 rintro ⟨⟨⟨m, n⟩, hg, hm, hn⟩, ⟨za, oa, hoa⟩, ⟨zb, ob, hob⟩⟩
 show At _ ⟨19, [(0, za.v), (1, zb.v)], [⟨x.b, 3, NV .i64 (D8 a), x.n, false⟩, ⟨y.b, 3, NV .i64 (D8 b), y.n, false⟩, ⟨za.b, 3, NV .i64 (D8 (m)), za.n, oa⟩, ⟨zb.b, 3, NV .i64 (D8 (n)), zb.n, ob⟩]⟩ _
 replace hm : nb m ≤ 1073740000 := hm
 replace hn : nb n ≤ 1073740000 := hn
 replace hg : Nat.gcd m n = Nat.gcd a b := hg
 refine at_seq (at_seq (at_region (r_move rfl rfl rfl (r_lenS u33 rfl rfl rfl (r_cmpInt rfl rfl rfl rfl rfl (run_nil (at_tn ?_)))))))
 refine at_cond rfl (fun hb1 => ?_) (fun hb1 => ?_)
 ·
  have hn0 : 0 < n := Nat.pos_of_ne_zero (fun e => by subst e; rw [nb_zero] at hb1; cases hb1)
  refine at_skip (at_tn (at_block (at_seq (at_region (r_move rfl rfl rfl (r_move rfl rfl rfl ?_))))))
  refine r_scall [_, _] [2, 3] rfl rfl rfl (c_ref02_divide m n hn0 hm hn za zb) ⟨⟨_, rfl, le_share⟩, ⟨_, rfl, le_share⟩, trivial⟩ rfl (.inr divNew_own) (fun z => ?_)
  rcases z with z | hlt
  ·
   refine r_move rfl rfl rfl ?_
   refine r_extract (vs := [_, _]) rfl rfl rfl rfl ?_
   refine r_extract (vs := [_, _]) rfl rfl rfl rfl ?_
   refine r_assign rfl rfl rfl (r_assign rfl rfl rfl (run_nil (at_tn (at_region (r_move rfl rfl rfl (r_move rfl rfl rfl (r_assign rfl rfl rfl (r_assign rfl rfl rfl (run_nil (at_bn (at_tn ?_)))))))))))
   exact nextL ⟨⟨(n, m % n), gcd_step8 hg, hn, Nat.le_trans (nb_mono (Nat.mod_le _ _)) hm⟩, ⟨zb, ob, hob⟩, ⟨z.2, true, .inl rfl⟩⟩ (Nat.mod_lt _ hn0) ⟨rfl, rfl, trivial⟩ (weak_picks [some 0, some 1, some 3, some 5] ⟨⟨_, rfl, Blk.le_refl _⟩, ⟨_, rfl, Blk.le_refl _⟩, ⟨_, rfl, Blk.le_refl _⟩, ⟨_, rfl, Blk.le_refl _⟩, trivial⟩ rfl (by cases ob <;> rfl))
  ·
   have hlt := hlt.down
   refine r_move rfl rfl rfl ?_
   refine r_extract (vs := [_, _]) rfl rfl rfl rfl ?_
   refine r_extract (vs := [_, _]) rfl rfl rfl rfl ?_
   refine r_assign rfl rfl rfl (r_assign rfl rfl rfl (run_nil (at_tn (at_region (r_move rfl rfl rfl (r_move rfl rfl rfl (r_assign rfl rfl rfl (r_assign rfl rfl rfl (run_nil (at_bn (at_tn ?_)))))))))))
   exact nextL ⟨⟨(n, m), (Nat.gcd_comm n m).trans hg, hn, hm⟩, ⟨zb, ob, hob⟩, ⟨za, oa, hoa⟩⟩ hlt ⟨rfl, rfl, trivial⟩ (weak_picks [some 0, some 1, some 3, some 2] ⟨⟨_, rfl, Blk.le_refl _⟩, ⟨_, rfl, Blk.le_refl _⟩, ⟨_, rfl, Blk.le_refl _⟩, ⟨_, rfl, Blk.le_refl _⟩, trivial⟩ rfl (by cases oa <;> cases ob <;> rfl))
 ·
  have hn1 : n = 0 := Classical.byContradiction fun e => by have := nb_pos e; have hz : ¬ ((0 : Int) < ((nb n : Nat) : Int)) := of_decide_eq_false hb1; omega
  subst hn1
  rw [Nat.gcd_zero_right] at hg
  replace hg : m = Nat.gcd a b := hg
  subst hg
  refine at_exit (at_te (at_te (at_be (at_tn (at_seq (at_region (r_move rfl rfl rfl (r_assign rfl rfl rfl (run_nil (at_tn (at_ret ?_)))))))))))
  refine at_end1 rfl (res_tmp rfl) (fun w hL => ⟨za, ?_, hL.picks [some 2] ⟨⟨_, rfl, le_share⟩, trivial⟩ rfl rfl, fun c hc => ?_⟩)
  · rfl
  · rw [List.mem_singleton.1 hc]
    exact fs_new hL 2 rfl rfl rfl hoa rfl
end Go.Proofs.YtncogghlhlnmaaaGreatDoor
set_option linter.unusedVariables false
namespace Go.Proofs.YtncogghlhlnmaaaGreatDoor
open Go Go.RowKit Go.Via
set_option maxRecDepth 20000 in
theorem c_ref02_times (a b : Nat) (ha : nb a ≤ 500000000) (hb : nb b ≤ 500000000) (x : SR (nb a)) (y : SR (nb b)) : SCall Tryz.prog 66 [⟨x.b, 3, NV .i64 (D8 a), x.n, false⟩, ⟨y.b, 3, NV .i64 (D8 b), y.n, false⟩] [x.v, y.v] (SR (nb (a * b))) SR.v (fun x => [⟨x.b, 3, NV .i64 (D8 (a * b)), x.n, true⟩]) := by
 refine ⟨by kernel_rfl, fun w hL0 => ?_⟩
 refine calls_at (args := [x.v, y.v]) Tryz.func66 rfl (Nat.le_of_ble_eq_true rfl) hL0 ?_
 show At w ⟨67, [(0, x.v), (1, y.v)], [⟨x.b, 3, NV .i64 (D8 a), x.n, false⟩, ⟨y.b, 3, NV .i64 (D8 b), y.n, false⟩]⟩ _
 refine at_seq (at_region (r_assign rfl rfl rfl (run_nil (at_tn (at_seq (at_region (r_move rfl rfl rfl (r_lenS u33 rfl rfl rfl (r_move rfl rfl rfl (r_lenS u33 rfl rfl rfl ?_))))))))))
 refine r_arith (r := ((nb a + nb b : Nat) : Int)) rfl rfl rfl rfl (congrArg some (wi (by omega) (by omega) (by omega))) ?_
 refine r_arith (r := (((nb a + nb b + 1) : Nat) : Int)) rfl rfl rfl rfl (congrArg some (wi (by omega) (by omega) (by omega))) ?_
 refine q_makeSlice (c := (nb a + nb b + 1)) (NV .i64 (row (nb a + nb b + 1) (mu8R a b 0))) (fun g => [_, _, ⟨some g, 3, _, _, true⟩]) u33 el3 rfl rfl rfl rfl rfl rfl (by omega) (by rw [row_congr (g := fun _ => 0) (fun j _ => mu8R_zero a b j), row_zero, NV_replicate]) (fun _ => rfl) (fun g0 => ?_)
 refine r_assign rfl rfl rfl (run_nil (at_tn (at_seq (at_seq (at_region (r_assign rfl rfl rfl (run_nil (at_tn (at_block ?_)))))))))
 refine enterL (nt := 67) (ι := {i : Nat // i ≤ nb a}) (fun ⟨i, hi⟩ => [(0, x.v), (1, y.v), (5, slv (some g0) 0 (nb a + nb b + 1) (nb a + nb b + 1)), (6, .int .i64 (i : Nat))]) (fun ⟨i, hi⟩ => [⟨x.b, 3, NV .i64 (D8 a), x.n, false⟩, ⟨y.b, 3, NV .i64 (D8 b), y.n, false⟩, ⟨some g0, 3, NV .i64 (row (nb a + nb b + 1) (mu8R a b i)), (nb a + nb b + 1), true⟩]) (fun ⟨i, hi⟩ => nb a - i) ⟨0, Nat.zero_le _⟩ ⟨rfl, rfl, rfl, rfl, trivial⟩ (Weak.refl _) ?_
 rintro ⟨i, hi⟩
 show At _ ⟨67, [(0, x.v), (1, y.v), (5, slv (some g0) 0 (nb a + nb b + 1) (nb a + nb b + 1)), (6, .int .i64 (i : Nat))], [⟨x.b, 3, NV .i64 (D8 a), x.n, false⟩, ⟨y.b, 3, NV .i64 (D8 b), y.n, false⟩, ⟨some g0, 3, NV .i64 (row (nb a + nb b + 1) (mu8R a b i)), (nb a + nb b + 1), true⟩]⟩ _
 refine at_seq (at_seq (at_region (r_move rfl rfl rfl (r_move rfl rfl rfl (r_lenS u33 rfl rfl rfl (r_cmpInt rfl rfl rfl rfl rfl (run_nil (at_tn ?_))))))))
 refine at_cond rfl (fun hb1 => ?_) (fun hb1 => ?_)
 ·
  have hlt : i < nb a := (by have := of_decide_eq_true hb1; omega)
  refine at_skip (at_tn (at_seq (at_block (at_seq (at_region (r_assign rfl rfl rfl (run_nil (at_tn (at_seq (at_region (r_assign rfl rfl rfl (run_nil (at_tn (at_block ?_))))))))))))))
  refine enterL (nt := 67) (ι := {k : Nat // k ≤ nb b + 1}) (fun ⟨k, hk⟩ => [(0, x.v), (1, y.v), (5, slv (some g0) 0 (nb a + nb b + 1) (nb a + nb b + 1)), (6, .int .i64 (i : Nat)), (7, .int .i64 (mu8C a b i k : Nat)), (8, .int .i64 (k : Nat))]) (fun ⟨k, hk⟩ => [⟨x.b, 3, NV .i64 (D8 a), x.n, false⟩, ⟨y.b, 3, NV .i64 (D8 b), y.n, false⟩, ⟨some g0, 3, NV .i64 (row (nb a + nb b + 1) (mu8T a b i k)), (nb a + nb b + 1), true⟩]) (fun ⟨k, hk⟩ => nb b + 1 - k) ⟨0, Nat.zero_le _⟩ ⟨rfl, rfl, rfl, rfl, (look_val rfl (by rw [mu8C_zero]; rfl)), rfl, trivial⟩ (weak_eq (congrArg (fun c => [⟨x.b, 3, NV .i64 (D8 a), x.n, false⟩, ⟨y.b, 3, NV .i64 (D8 b), y.n, false⟩, (⟨some g0, 3, NV .i64 c, (nb a + nb b + 1), true⟩ : Blk)]) (row_congr fun j _ => (mu8T_zero a b i j).symm))) ?_
  rintro ⟨k, hk⟩
  show At _ ⟨67, [(0, x.v), (1, y.v), (5, slv (some g0) 0 (nb a + nb b + 1) (nb a + nb b + 1)), (6, .int .i64 (i : Nat)), (7, .int .i64 (mu8C a b i k : Nat)), (8, .int .i64 (k : Nat))], [⟨x.b, 3, NV .i64 (D8 a), x.n, false⟩, ⟨y.b, 3, NV .i64 (D8 b), y.n, false⟩, ⟨some g0, 3, NV .i64 (row (nb a + nb b + 1) (mu8T a b i k)), (nb a + nb b + 1), true⟩]⟩ _
  refine at_seq (at_seq (at_region (r_move rfl rfl rfl (r_move rfl rfl rfl (r_lenS u33 rfl rfl rfl (r_cmpInt rfl rfl rfl rfl rfl (r_move rfl rfl rfl ?_)))))))
  refine r_split 27 rfl (fun hb3 => ?_) (fun hb3 => ?_)
  ·
   have hkb : k < nb b := (by have := of_decide_eq_true hb3; omega)
   have hkm : k ≤ nb b := by omega
   have hcl := mu8C_lt a b i k
   have hvx := m256 (mu8V a b i / 256 ^ (i + k))
   have hdm := dmul8 (a / 256 ^ i) (b / 256 ^ k)
   have hax := m256 (a / 256 ^ i)
   have hbx := m256 (b / 256 ^ k)
   refine r_no rfl rfl rfl (r_no rfl rfl rfl (r_pickT rfl rfl rfl rfl (run_nil (at_tn (at_condT rfl (at_skip (at_tn (at_seq (at_block (at_seq (at_region (r_move rfl rfl rfl (r_move rfl rfl rfl (r_move rfl rfl rfl ?_))))))))))))))
   refine r_arith (r := ((i + k : Nat) : Int)) rfl rfl rfl rfl (congrArg some (wi (by omega) (by omega) (by omega))) ?_
   refine r_indexAddr 2 (i + k) u33 ti3 rfl rfl rfl rfl rfl (by omega) (by omega) (NV_ne (by rw [row_length]; omega)) (by show 0 + Int.toNat _ * 1 = _; omega) ?_
   refine r_load1 2 (i + k) ti3 rfl rfl rfl rfl (NV_get ((row_get (by omega)).trans (by rw [mu8T_at]))) ?_
   refine r_move rfl rfl rfl ?_
   refine r_arith (r := ((mu8V a b i / 256 ^ (i + k) % 256 + mu8C a b i k : Nat) : Int)) rfl rfl rfl rfl (congrArg some (wi (by omega) (by omega) (by omega))) ?_
   refine r_assign rfl rfl rfl (run_nil (at_tn (at_seq (at_seq (at_region (r_move rfl rfl rfl (r_move rfl rfl rfl (r_lenS u33 rfl rfl rfl (r_cmpInt rfl rfl rfl rfl rfl (run_nil (at_tn ?_)))))))))))
   refine at_cond rfl (fun hb4 => ?_) (fun hb4 => ?_)
   ·
    have hkj : k < nb b := (by have := of_decide_eq_true hb4; omega)
    have hcl := mu8C_lt a b i k
    have hvx := m256 (mu8V a b i / 256 ^ (i + k))
    have hdm := dmul8 (a / 256 ^ i) (b / 256 ^ k)
    have hax := m256 (a / 256 ^ i)
    have hbx := m256 (b / 256 ^ k)
    refine at_drawn (l' := [⟨_,_,_,_,_,_⟩, ⟨_,_,_,_,_,_⟩, ⟨_,_,_,_,_,_⟩, ⟨_,_,_,_,_,_⟩, ⟨_,_,_,_,_,_⟩, ⟨_,_,_,_,_,_⟩, ⟨_,_,_,_,_,_⟩, ⟨_,_,_,_,_,_⟩, ⟨_,_,_,_,_,_⟩, ⟨_,_,_,_,_,_⟩, ⟨_,_,_,_,_,_⟩, ⟨_,_,_,_,_,_⟩]) [] [0, 1, 2, 3, 4, 5, 6, 7, 8, 9, 10, 11] mixed (by kernel_rfl) rfl (by kernel_rfl) ?_
    refine r_move rfl rfl rfl (r_move rfl rfl rfl (r_move rfl rfl rfl ?_))
    refine r_indexAddr 0 (i) u33 ti3 rfl rfl rfl rfl rfl (by omega) (by omega) (NV_ne (by rw [D8_length]; omega)) (by show 0 + Int.toNat _ * 1 = _; omega) ?_
    refine r_load1 0 (i) ti3 rfl rfl rfl rfl (NV_get (D8_get (by omega))) ?_
    refine r_move rfl rfl rfl (r_move rfl rfl rfl ?_)
    refine r_indexAddr 1 (k) u33 ti3 rfl rfl rfl rfl rfl (by omega) (by omega) (NV_ne (by rw [D8_length]; omega)) (by show 0 + Int.toNat _ * 1 = _; omega) ?_
    refine r_load1 1 (k) ti3 rfl rfl rfl rfl (NV_get (D8_get (by omega))) ?_
    refine r_arith (r := ((a / 256 ^ i % 256 * (b / 256 ^ k % 256) : Nat) : Int)) rfl rfl rfl rfl (congrArg some (wi (by rw [← Int.natCast_mul]; omega) (by rw [← Int.natCast_mul]; omega) (Int.natCast_mul _ _).symm)) ?_
    refine r_arith (r := ((mu8S a b i k : Nat) : Int)) rfl rfl rfl rfl (congrArg some (wi (by omega) (by omega) (by unfold mu8S; omega))) ?_
    refine r_assign rfl rfl rfl (run_nil (at_tn (at_region (r_move rfl rfl rfl (r_move rfl rfl rfl (r_move rfl rfl rfl ?_))))))
    refine r_arith (r := ((i + k : Nat) : Int)) rfl rfl rfl rfl (congrArg some (wi (by omega) (by omega) (by omega))) ?_
    refine r_move rfl rfl rfl ?_
    refine r_div (r := ((mu8S a b i k % 256 : Nat) : Int)) rfl rfl rfl rfl (by omega) (congrArg some (rem_n _ 256 rfl rfl)) ?_
    refine r_move rfl rfl rfl ?_
    refine r_div (r := ((mu8C a b i (k + 1) : Nat) : Int)) rfl rfl rfl rfl (by omega) (congrArg some ((quo_i _ 256 rfl rfl (by have := mu8S_lt8 a b i k; omega)).trans (by rw [mu8S_carry]))) ?_
    refine r_indexAddr 2 (i + k) u33 ti3 rfl rfl rfl rfl rfl (by omega) (by omega) (NV_ne (by rw [row_length]; omega)) (by show 0 + Int.toNat _ * 1 = _; omega) ?_
    refine r_store1 rfl 2 (i + k) [_, _, ⟨some g0, 3, _, _, true⟩] (NV .i64 (row (nb a + nb b + 1) (mu8T a b i (k + 1)))) ti3 rfl rfl rfl rfl rfl rfl rfl rfl (by rw [NV_length, row_length]; omega) (by rw [NV_set, row_set (fun j _ => mu8T_step a b i k j)]) rfl ?_
    refine r_assign rfl rfl rfl (run_nil (at_bn (at_tn (at_region (r_move rfl rfl rfl ?_)))))
    refine r_arith (r := ((k + 1 : Nat) : Int)) rfl rfl rfl rfl (congrArg some (wi (by omega) (by omega) (by omega))) ?_
    refine r_assign rfl rfl rfl (run_nil (at_tn ?_))
    exact nextL ⟨k + 1, Nat.succ_le_succ hkm⟩ (by show nb b + 1 - (k + 1) < nb b + 1 - k; omega) ⟨rfl, rfl, rfl, rfl, rfl, rfl, trivial⟩ (Weak.refl _)
   ·
    have hkj : nb b ≤ k := (by have := of_decide_eq_false hb4; omega)
    have hcl := mu8C_lt a b i k
    have hvx := m256 (mu8V a b i / 256 ^ (i + k))
    have hdm := dmul8 (a / 256 ^ i) (b / 256 ^ k)
    have hax := m256 (a / 256 ^ i)
    have hbx := m256 (b / 256 ^ k)
    refine at_know 9 (.int .i64 (mu8S a b i k : Nat)) rfl (congrArg (Value.int .i64) (by unfold mu8S; rw [dg8_above hkj]; omega)) ?_
    have hS : mu8S a b i k < 131072 := by rw [mu8S_high a b i hkj]; omega
    refine at_skip (at_tn (at_region (r_move rfl rfl rfl (r_move rfl rfl rfl (r_move rfl rfl rfl ?_)))))
    refine r_arith (r := ((i + k : Nat) : Int)) rfl rfl rfl rfl (congrArg some (wi (by omega) (by omega) (by omega))) ?_
    refine r_move rfl rfl rfl ?_
    refine r_div (r := ((mu8S a b i k % 256 : Nat) : Int)) rfl rfl rfl rfl (by omega) (congrArg some (rem_n _ 256 rfl rfl)) ?_
    refine r_move rfl rfl rfl ?_
    refine r_div (r := ((mu8C a b i (k + 1) : Nat) : Int)) rfl rfl rfl rfl (by omega) (congrArg some ((quo_i _ 256 rfl rfl (by have := mu8S_lt8 a b i k; omega)).trans (by rw [mu8S_carry]))) ?_
    refine r_indexAddr 2 (i + k) u33 ti3 rfl rfl rfl rfl rfl (by omega) (by omega) (NV_ne (by rw [row_length]; omega)) (by show 0 + Int.toNat _ * 1 = _; omega) ?_
    refine r_store1 rfl 2 (i + k) [_, _, ⟨some g0, 3, _, _, true⟩] (NV .i64 (row (nb a + nb b + 1) (mu8T a b i (k + 1)))) ti3 rfl rfl rfl rfl rfl rfl rfl rfl (by rw [NV_length, row_length]; omega) (by rw [NV_set, row_set (fun j _ => mu8T_step a b i k j)]) rfl ?_
    refine r_assign rfl rfl rfl (run_nil (at_bn (at_tn (at_region (r_move rfl rfl rfl ?_)))))
    refine r_arith (r := ((k + 1 : Nat) : Int)) rfl rfl rfl rfl (congrArg some (wi (by omega) (by omega) (by omega))) ?_
    refine r_assign rfl rfl rfl (run_nil (at_tn ?_))
    exact nextL ⟨k + 1, Nat.succ_le_succ hkm⟩ (by show nb b + 1 - (k + 1) < nb b + 1 - k; omega) ⟨rfl, rfl, rfl, rfl, rfl, rfl, trivial⟩ (Weak.refl _)
  ·
   have hkb : nb b ≤ k := (by have := of_decide_eq_false hb3; omega)
   refine r_move rfl rfl rfl (r_cmpInt rfl rfl rfl rfl rfl (r_pickF rfl rfl rfl rfl (run_nil (at_tn ?_))))
   refine at_cond rfl (fun hb4 => ?_) (fun hb4 => ?_)
   ·
    have hkm := mu8_more a b i k (by have := of_decide_eq_true hb4; omega)
    have hcl := mu8C_lt a b i k
    have hvx := m256 (mu8V a b i / 256 ^ (i + k))
    have hdm := dmul8 (a / 256 ^ i) (b / 256 ^ k)
    have hax := m256 (a / 256 ^ i)
    have hbx := m256 (b / 256 ^ k)
    refine at_skip (at_tn (at_seq (at_block (at_seq (at_region (r_move rfl rfl rfl (r_move rfl rfl rfl (r_move rfl rfl rfl ?_))))))))
    refine r_arith (r := ((i + k : Nat) : Int)) rfl rfl rfl rfl (congrArg some (wi (by omega) (by omega) (by omega))) ?_
    refine r_indexAddr 2 (i + k) u33 ti3 rfl rfl rfl rfl rfl (by omega) (by omega) (NV_ne (by rw [row_length]; omega)) (by show 0 + Int.toNat _ * 1 = _; omega) ?_
    refine r_load1 2 (i + k) ti3 rfl rfl rfl rfl (NV_get ((row_get (by omega)).trans (by rw [mu8T_at]))) ?_
    refine r_move rfl rfl rfl ?_
    refine r_arith (r := ((mu8V a b i / 256 ^ (i + k) % 256 + mu8C a b i k : Nat) : Int)) rfl rfl rfl rfl (congrArg some (wi (by omega) (by omega) (by omega))) ?_
    refine r_assign rfl rfl rfl (run_nil (at_tn (at_seq (at_seq (at_region (r_move rfl rfl rfl (r_move rfl rfl rfl (r_lenS u33 rfl rfl rfl (r_cmpInt rfl rfl rfl rfl rfl (run_nil (at_tn ?_)))))))))))
    refine at_cond rfl (fun hb5 => ?_) (fun hb5 => ?_)
    ·
     have hkj : k < nb b := (by have := of_decide_eq_true hb5; omega)
     have hcl := mu8C_lt a b i k
     have hvx := m256 (mu8V a b i / 256 ^ (i + k))
     have hdm := dmul8 (a / 256 ^ i) (b / 256 ^ k)
     have hax := m256 (a / 256 ^ i)
     have hbx := m256 (b / 256 ^ k)
     refine at_drawn (l' := [⟨_,_,_,_,_,_⟩, ⟨_,_,_,_,_,_⟩, ⟨_,_,_,_,_,_⟩, ⟨_,_,_,_,_,_⟩, ⟨_,_,_,_,_,_⟩, ⟨_,_,_,_,_,_⟩, ⟨_,_,_,_,_,_⟩, ⟨_,_,_,_,_,_⟩, ⟨_,_,_,_,_,_⟩, ⟨_,_,_,_,_,_⟩, ⟨_,_,_,_,_,_⟩, ⟨_,_,_,_,_,_⟩]) [] [0, 1, 2, 3, 4, 5, 6, 7, 8, 9, 10, 11] mixed (by kernel_rfl) rfl (by kernel_rfl) ?_
     refine r_move rfl rfl rfl (r_move rfl rfl rfl (r_move rfl rfl rfl ?_))
     refine r_indexAddr 0 (i) u33 ti3 rfl rfl rfl rfl rfl (by omega) (by omega) (NV_ne (by rw [D8_length]; omega)) (by show 0 + Int.toNat _ * 1 = _; omega) ?_
     refine r_load1 0 (i) ti3 rfl rfl rfl rfl (NV_get (D8_get (by omega))) ?_
     refine r_move rfl rfl rfl (r_move rfl rfl rfl ?_)
     refine r_indexAddr 1 (k) u33 ti3 rfl rfl rfl rfl rfl (by omega) (by omega) (NV_ne (by rw [D8_length]; omega)) (by show 0 + Int.toNat _ * 1 = _; omega) ?_
     refine r_load1 1 (k) ti3 rfl rfl rfl rfl (NV_get (D8_get (by omega))) ?_
     refine r_arith (r := ((a / 256 ^ i % 256 * (b / 256 ^ k % 256) : Nat) : Int)) rfl rfl rfl rfl (congrArg some (wi (by rw [← Int.natCast_mul]; omega) (by rw [← Int.natCast_mul]; omega) (Int.natCast_mul _ _).symm)) ?_
     refine r_arith (r := ((mu8S a b i k : Nat) : Int)) rfl rfl rfl rfl (congrArg some (wi (by omega) (by omega) (by unfold mu8S; omega))) ?_
     refine r_assign rfl rfl rfl (run_nil (at_tn (at_region (r_move rfl rfl rfl (r_move rfl rfl rfl (r_move rfl rfl rfl ?_))))))
     refine r_arith (r := ((i + k : Nat) : Int)) rfl rfl rfl rfl (congrArg some (wi (by omega) (by omega) (by omega))) ?_
     refine r_move rfl rfl rfl ?_
     refine r_div (r := ((mu8S a b i k % 256 : Nat) : Int)) rfl rfl rfl rfl (by omega) (congrArg some (rem_n _ 256 rfl rfl)) ?_
     refine r_move rfl rfl rfl ?_
     refine r_div (r := ((mu8C a b i (k + 1) : Nat) : Int)) rfl rfl rfl rfl (by omega) (congrArg some ((quo_i _ 256 rfl rfl (by have := mu8S_lt8 a b i k; omega)).trans (by rw [mu8S_carry]))) ?_
     refine r_indexAddr 2 (i + k) u33 ti3 rfl rfl rfl rfl rfl (by omega) (by omega) (NV_ne (by rw [row_length]; omega)) (by show 0 + Int.toNat _ * 1 = _; omega) ?_
     refine r_store1 rfl 2 (i + k) [_, _, ⟨some g0, 3, _, _, true⟩] (NV .i64 (row (nb a + nb b + 1) (mu8T a b i (k + 1)))) ti3 rfl rfl rfl rfl rfl rfl rfl rfl (by rw [NV_length, row_length]; omega) (by rw [NV_set, row_set (fun j _ => mu8T_step a b i k j)]) rfl ?_
     refine r_assign rfl rfl rfl (run_nil (at_bn (at_tn (at_region (r_move rfl rfl rfl ?_)))))
     refine r_arith (r := ((k + 1 : Nat) : Int)) rfl rfl rfl rfl (congrArg some (wi (by omega) (by omega) (by omega))) ?_
     refine r_assign rfl rfl rfl (run_nil (at_tn ?_))
     exact nextL ⟨k + 1, Nat.succ_le_succ hkm⟩ (by show nb b + 1 - (k + 1) < nb b + 1 - k; omega) ⟨rfl, rfl, rfl, rfl, rfl, rfl, trivial⟩ (Weak.refl _)
    ·
     have hkj : nb b ≤ k := (by have := of_decide_eq_false hb5; omega)
     have hcl := mu8C_lt a b i k
     have hvx := m256 (mu8V a b i / 256 ^ (i + k))
     have hdm := dmul8 (a / 256 ^ i) (b / 256 ^ k)
     have hax := m256 (a / 256 ^ i)
     have hbx := m256 (b / 256 ^ k)
     refine at_know 9 (.int .i64 (mu8S a b i k : Nat)) rfl (congrArg (Value.int .i64) (by unfold mu8S; rw [dg8_above hkj]; omega)) ?_
     have hS : mu8S a b i k < 131072 := by rw [mu8S_high a b i hkj]; omega
     refine at_skip (at_tn (at_region (r_move rfl rfl rfl (r_move rfl rfl rfl (r_move rfl rfl rfl ?_)))))
     refine r_arith (r := ((i + k : Nat) : Int)) rfl rfl rfl rfl (congrArg some (wi (by omega) (by omega) (by omega))) ?_
     refine r_move rfl rfl rfl ?_
     refine r_div (r := ((mu8S a b i k % 256 : Nat) : Int)) rfl rfl rfl rfl (by omega) (congrArg some (rem_n _ 256 rfl rfl)) ?_
     refine r_move rfl rfl rfl ?_
     refine r_div (r := ((mu8C a b i (k + 1) : Nat) : Int)) rfl rfl rfl rfl (by omega) (congrArg some ((quo_i _ 256 rfl rfl (by have := mu8S_lt8 a b i k; omega)).trans (by rw [mu8S_carry]))) ?_
     refine r_indexAddr 2 (i + k) u33 ti3 rfl rfl rfl rfl rfl (by omega) (by omega) (NV_ne (by rw [row_length]; omega)) (by show 0 + Int.toNat _ * 1 = _; omega) ?_
     refine r_store1 rfl 2 (i + k) [_, _, ⟨some g0, 3, _, _, true⟩] (NV .i64 (row (nb a + nb b + 1) (mu8T a b i (k + 1)))) ti3 rfl rfl rfl rfl rfl rfl rfl rfl (by rw [NV_length, row_length]; omega) (by rw [NV_set, row_set (fun j _ => mu8T_step a b i k j)]) rfl ?_
     refine r_assign rfl rfl rfl (run_nil (at_bn (at_tn (at_region (r_move rfl rfl rfl ?_)))))
     refine r_arith (r := ((k + 1 : Nat) : Int)) rfl rfl rfl rfl (congrArg some (wi (by omega) (by omega) (by omega))) ?_
     refine r_assign rfl rfl rfl (run_nil (at_tn ?_))
     exact nextL ⟨k + 1, Nat.succ_le_succ hkm⟩ (by show nb b + 1 - (k + 1) < nb b + 1 - k; omega) ⟨rfl, rfl, rfl, rfl, rfl, rfl, trivial⟩ (Weak.refl _)
   ·
    have hc0 : mu8C a b i k = 0 := by have := of_decide_eq_false hb4; omega
    refine at_exit (at_te (at_te (at_be (at_bn (at_tn (at_region (r_move rfl rfl rfl ?_)))))))
    refine r_arith (r := ((i + 1 : Nat) : Int)) rfl rfl rfl rfl (congrArg some (wi (by omega) (by omega) (by omega))) ?_
    refine r_assign rfl rfl rfl (run_nil (at_tn ?_))
    exact nextL ⟨i + 1, hlt⟩ (by simp only []; omega) ⟨rfl, rfl, rfl, rfl, trivial⟩ (weak_eq (congrArg (fun c => [⟨x.b, 3, NV .i64 (D8 a), x.n, false⟩, ⟨y.b, 3, NV .i64 (D8 b), y.n, false⟩, (⟨some g0, 3, NV .i64 c, (nb a + nb b + 1), true⟩ : Blk)]) (row_congr fun j _ => mu8T_done a b i k j hkb hc0)))
 ·
  have hge : i = nb a := (by have := of_decide_eq_false hb1; omega)
  subst hge
  refine at_exit (at_te (at_te (at_be (at_tn (at_seq (at_region (r_move rfl rfl rfl ?_)))))))
  refine r_scall0 [_] [2] rfl rfl rfl (c_ref02_trim (row (nb a + nb b + 1) (mu8R a b (nb a))) (row_lt fun j => mu8R_lt _ _ _ j) (by rw [row_length]; omega) (row_length _ _) ⟨some g0, _, _, Nat.le_refl _⟩) ⟨⟨_, rfl, le_share⟩, trivial⟩ rfl ?_
  refine r_know 66 (slv (some g0) 0 (nb (a * b)) (nb a + nb b + 1)) rfl (by rw [mu8_trim]; rfl) ?_
  refine r_assign rfl rfl rfl (run_nil (at_tn (at_ret ?_)))
  refine at_end1 rfl (res_tmp rfl) (fun w hL => ⟨⟨some g0, (nb a + nb b + 1), (nb a + nb b + 1), Nat.le_trans (nb_mul a b) (by omega)⟩, rfl, ?_⟩)
  exact hL.picks [some 2] ⟨⟨_, rfl, rfl, rfl, rfl, ⟨nb (a * b), mu8_take a b⟩, fun _ => rfl⟩, trivial⟩ rfl rfl
end Go.Proofs.YtncogghlhlnmaaaGreatDoor
set_option linter.unusedVariables false
namespace Go.Proofs.YtncogghlhlnmaaaGreatDoor
open Go Go.RowKit Go.Via
set_option maxRecDepth 20000 in
theorem c_ref02_of (q : Rat) (hq : szQ q ≤ 500000000) : SCall Tryz.prog 65 [] [Q q] (SR (nb q.num.natAbs) × SR (nb q.den)) (fun z => .agg #[.bool (decide (q.num < 0)), z.1.v, z.2.v]) (fun z => [⟨z.1.b, 3, NV .i64 (D8 q.num.natAbs), z.1.n, true⟩, ⟨z.2.b, 3, NV .i64 (D8 q.den), z.2.n, true⟩]) := by
 refine ⟨by kernel_rfl, fun w hL0 => ?_⟩
 refine calls_at (args := [Q q]) Tryz.func65 rfl (Nat.le_of_ble_eq_true rfl) hL0 ?_
 show At w ⟨19, [(0, Q q)], []⟩ _
 refine at_seq (at_region ?_)
 refine r_box [_, _, _, _] 4 (fun g => [⟨some g, 63, _, 4, true⟩]) rfl rfl rfl rfl rfl (fun _ => rfl) (fun g0 => ?_)
 refine r_alloc [_, _, _] 3 (fun g => [_, ⟨some g, 106, _, 3, true⟩]) rfl rfl z106 rfl rfl (fun _ => rfl) (fun g1 => ?_)
 refine run_nil (at_tn (at_seq (at_region (r_fieldAddr 0 0 2 rfl rfl rfl rfl rfl ti63 rfl rfl (r_load 0 2 [_, _] rfl rfl rfl rfl ti61 rfl rfl rfl rfl ?_)))))
 refine r_know 5 (I (dz q)) rfl (dz_eq q) ?_
 refine r_scall [_] [] rfl rfl rfl (c_ref02_digits (dz q) (by have := dz_sz q; omega)) trivial rfl (.inr fun x b hb => by rw [List.mem_singleton.1 hb]) (fun xd => ?_)
 refine r_assign rfl rfl rfl (run_nil (at_tn (at_seq (at_seq (at_region (r_move rfl rfl rfl (r_lenS u33 rfl rfl rfl (r_cmpInt rfl rfl rfl rfl rfl (run_nil (at_tn ?_))))))))))
 refine at_cond rfl (fun hb0 => ?_) (fun hb0 => ?_)
 ·
  have hd1 : q.den = 1 := dz_T (by simpa using hb0)
  have hd2 : nb q.den = 1 := by rw [hd1, nb_one]
  refine at_region ?_
  refine r_buildSlice [(0, _)] (fun g => [_, _, _, ⟨some g, 3, _, 1, true⟩]) rfl rfl rfl (bs33_1) rfl (fun _ => rfl) (fun g2 => ?_)
  refine r_assign rfl rfl rfl (run_nil (at_tn (at_seq ?_)))
  refine at_drawn (l' := [⟨_,_,_,_,_,_⟩, ⟨_,_,_,_,_,_⟩, ⟨_,_,_,_,_,_⟩, ⟨_,_,_,_,_,_⟩, ⟨_,_,_,_,_,_⟩, ⟨_,_,_,_,_,_⟩, ⟨_,_,_,_,_,_⟩, ⟨_,_,_,_,_,_⟩, ⟨_,_,_,_,_,_⟩]) [] [0, 1, 2, 3, 4, 6, 5, 7, 8] mixed (by kernel_rfl) rfl (by kernel_rfl) ?_
  refine r_fieldAddr 0 0 0 rfl rfl rfl rfl rfl ti63 rfl rfl (r_fieldAddr 0 0 0 rfl rfl rfl rfl rfl ti61 rfl rfl (r_load 0 0 [_] rfl rfl rfl rfl ti4 rfl rfl rfl rfl (r_fieldAddr 0 0 0 rfl rfl rfl rfl rfl ti63 rfl rfl (r_load 0 0 [_, _] rfl rfl rfl rfl ti61 rfl rfl rfl rfl (r_move rfl rfl rfl ?_)))))
  refine r_scall [_] [] rfl rfl rfl (c_ref02_digits q.num (by have := szI_num hq; omega)) trivial rfl (.inr fun x b hb => by rw [List.mem_singleton.1 hb]) (fun xn => ?_)
  refine r_build [(0, _), (1, _), (2, _)] rfl rfl rfl (bd106_3) ?_
  refine r_store rfl 1 0 [_, ⟨some g1, 106, _, 3, true⟩, _, _, _] [_, _, _] rfl rfl rfl rfl ti106 rfl rfl rfl rfl rfl ?_
  refine run_nil (at_tn (at_ret ?_))
  refine at_end1 rfl (res_cell 1 rfl rfl ti106 (vs := [_, _, _]) rfl rfl (Nat.le_of_ble_eq_true rfl) rfl) (fun w hL => ⟨(xn, ⟨some g2, 1, 1, by rw [hd2]; exact Nat.le_refl _⟩), ?_, hL.picks [some 4, some 3] ⟨⟨_, rfl, Blk.le_refl _⟩, ⟨_, rfl, le_same (congrArg (fun l => (⟨some g2, 3, NV .i64 l, 1, true⟩ : Blk)) (show D8 q.den = [1] by rw [hd1, D8_one]))⟩, trivial⟩ rfl rfl⟩)
  exact congrArg (fun n => Ending.returned (.agg #[.bool (decide (q.num < 0)), xn.v, slv (some g2) 0 n 1])) hd2.symm
 ·
  have hd1 : (dz q).natAbs = q.den := dz_F (by simpa using hb0)
  refine at_skip (at_tn (at_seq ?_))
  refine at_drawn (l' := [⟨_,_,_,_,_,_⟩, ⟨_,_,_,_,_,_⟩, ⟨_,_,_,_,_,_⟩, ⟨_,_,_,_,_,_⟩, ⟨_,_,_,_,_,_⟩, ⟨_,_,_,_,_,_⟩, ⟨_,_,_,_,_,_⟩, ⟨_,_,_,_,_,_⟩, ⟨_,_,_,_,_,_⟩]) [] [0, 1, 2, 3, 4, 6, 5, 7, 8] mixed (by kernel_rfl) rfl (by kernel_rfl) ?_
  refine r_fieldAddr 0 0 0 rfl rfl rfl rfl rfl ti63 rfl rfl (r_fieldAddr 0 0 0 rfl rfl rfl rfl rfl ti61 rfl rfl (r_load 0 0 [_] rfl rfl rfl rfl ti4 rfl rfl rfl rfl (r_fieldAddr 0 0 0 rfl rfl rfl rfl rfl ti63 rfl rfl (r_load 0 0 [_, _] rfl rfl rfl rfl ti61 rfl rfl rfl rfl (r_move rfl rfl rfl ?_)))))
  refine r_scall [_] [] rfl rfl rfl (c_ref02_digits q.num (by have := szI_num hq; omega)) trivial rfl (.inr fun x b hb => by rw [List.mem_singleton.1 hb]) (fun xn => ?_)
  refine r_build [(0, _), (1, _), (2, _)] rfl rfl rfl (bd106_3) ?_
  refine r_store rfl 1 0 [_, ⟨some g1, 106, _, 3, true⟩, _, _] [_, _, _] rfl rfl rfl rfl ti106 rfl rfl rfl rfl rfl ?_
  refine run_nil (at_tn (at_ret ?_))
  refine at_end1 rfl (res_cell 1 rfl rfl ti106 (vs := [_, _, _]) rfl rfl (Nat.le_of_ble_eq_true rfl) rfl) (fun w hL => ⟨(xn, ⟨xd.b, xd.n, xd.cap, by rw [← hd1]; exact xd.h⟩), ?_, hL.picks [some 3, some 2] ⟨⟨_, rfl, Blk.le_refl _⟩, ⟨_, rfl, le_same (congrArg (fun n => (⟨xd.b, 3, NV .i64 (D8 n), xd.n, true⟩ : Blk)) hd1.symm)⟩, trivial⟩ rfl rfl⟩)
  exact congrArg (fun n => Ending.returned (.agg #[.bool (decide (q.num < 0)), xn.v, slv xd.b 0 (nb n) xd.cap])) hd1
set_option maxRecDepth 20000 in
theorem c_ref02_canonical (n d : Nat) (neg : Bool) (hd : 0 < d) (hn : nb n ≤ 1073740000) (hdn : nb d ≤ 1073740000) (x : SR (nb n)) (y : SR (nb d)) : SCall Tryz.prog 60 [⟨x.b, 3, NV .i64 (D8 n), x.n, false⟩, ⟨y.b, 3, NV .i64 (D8 d), y.n, false⟩] [.agg #[.bool neg, x.v, y.v]] Unit (fun _ => Q (Rat.divInt (sg neg n) (d : Int))) (fun _ => []) := by
 refine ⟨by kernel_rfl, fun w hL0 => ?_⟩
 have hg0 : 0 < Nat.gcd n d := Nat.gcd_pos_of_pos_right n hd
 have hgn : nb (Nat.gcd n d) ≤ 1073740000 := Nat.le_trans (nb_mono (Nat.gcd_le_right n hd)) hdn
 refine calls_at (args := [.agg #[.bool neg, x.v, y.v]]) Tryz.func60 rfl (Nat.le_of_ble_eq_true rfl) hL0 ?_
 show At w ⟨43, [(0, .agg #[.bool neg, x.v, y.v])], [⟨x.b, 3, NV .i64 (D8 n), x.n, false⟩, ⟨y.b, 3, NV .i64 (D8 d), y.n, false⟩]⟩ _
 refine at_seq (at_region ?_)
 refine r_box [_, _, _] 3 (fun g => [_, _, ⟨some g, 106, _, 3, true⟩]) rfl rfl rfl rfl rfl (fun _ => rfl) (fun g0 => ?_)
 refine r_alloc [_, _, _, _] 4 (fun g => [_, _, _, ⟨some g, 63, _, 4, true⟩]) rfl rfl z63 rfl rfl (fun _ => rfl) (fun g1 => ?_)
 refine run_nil (at_tn (at_seq (at_region (r_fieldAddr 2 0 1 rfl rfl rfl rfl rfl ti106 rfl rfl (r_load 2 1 [_] rfl rfl rfl rfl ti33 rfl rfl rfl rfl (r_fieldAddr 2 0 2 rfl rfl rfl rfl rfl ti106 rfl rfl (r_load 2 2 [_] rfl rfl rfl rfl ti33 rfl rfl rfl rfl ?_)))))))
 refine r_scallA [_, _] [0, 1] rfl rfl rfl (c_ref02_common n d hn hdn x y) ⟨⟨_, rfl, le_share⟩, ⟨_, rfl, le_share⟩, trivial⟩ rfl rfl (fun zg => ?_)
 refine r_assign rfl rfl rfl (run_nil (at_tn (at_seq (at_region (r_fieldAddr 2 0 1 rfl rfl rfl rfl rfl ti106 rfl rfl (r_load 2 1 [_] rfl rfl rfl rfl ti33 rfl rfl rfl rfl (r_move rfl rfl rfl ?_)))))))
 refine r_scallA [_, _] [0, 4] rfl rfl rfl (div_two (fun g hg => ⟨_, List.mem_cons_self, hg⟩) rfl (c_ref02_divide n (Nat.gcd n d) hg0 hn hgn x zg)) ⟨⟨_, rfl, le_share⟩, ⟨_, rfl, le_share⟩, trivial⟩ rfl rfl (fun zn => ?_)
 refine r_move rfl rfl rfl ?_
 refine r_extract (vs := [_, _]) rfl rfl rfl rfl ?_
 refine r_extract (vs := [_, _]) rfl rfl rfl rfl ?_
 refine r_assign rfl rfl rfl (r_assign rfl rfl rfl (run_nil (at_tn (at_seq (at_region (r_fieldAddr 2 0 2 rfl rfl rfl rfl rfl ti106 rfl rfl (r_load 2 2 [_] rfl rfl rfl rfl ti33 rfl rfl rfl rfl (r_move rfl rfl rfl ?_))))))))
 refine r_scallA [_, _] [1, 4] rfl rfl rfl (div_two (fun g hg => ⟨_, List.mem_cons_self, hg⟩) rfl (c_ref02_divide d (Nat.gcd n d) hg0 hdn hgn y zg)) ⟨⟨_, rfl, le_share⟩, ⟨_, rfl, le_share⟩, trivial⟩ rfl rfl (fun zd => ?_)
 refine r_move rfl rfl rfl ?_
 refine r_extract (vs := [_, _]) rfl rfl rfl rfl ?_
 refine r_extract (vs := [_, _]) rfl rfl rfl rfl ?_
 refine r_assign rfl rfl rfl (r_assign rfl rfl rfl (run_nil (at_tn (at_seq (at_seq (at_region (r_move rfl rfl rfl (r_lenS u33 rfl rfl rfl (r_cmpInt rfl rfl rfl rfl rfl (r_move rfl rfl rfl ?_))))))))))
 refine r_split 30 rfl (fun hb0 => ?_) (fun hb0 => ?_)
 ·
  have hl1 : nb (d / Nat.gcd n d) = 1 := by have := eq_of_beq hb0; omega
  refine r_move rfl rfl rfl ?_
  refine r_indexAddr 7 (0) u33 ti3 rfl rfl rfl rfl rfl (by omega) (by omega) (NV_ne (by rw [D8_length]; omega)) (by show 0 + Int.toNat _ * 1 = _; omega) ?_
  refine r_load1 7 (0) ti3 rfl rfl rfl rfl (NV_get (D8_get (by omega))) ?_
  refine r_cmpInt rfl rfl rfl rfl rfl (r_pickT rfl rfl rfl rfl (run_nil (at_tn ?_)))
  refine at_cond rfl (fun hb1 => ?_) (fun hb1 => ?_)
  ·
   have hd1 : d / Nat.gcd n d = 1 := by have := eq_of_beq hb1; rw [dig_one hl1] at this; omega
   refine at_weak _ (weak_picks (L' := [_, _, _, _, _, _, _, _, _, ⟨none, 3, NV .i64 (D8 0), 0, false⟩]) [some 0, some 1, some 2, some 3, some 4, some 5, some 6, some 7, some 8, none] ⟨⟨_, rfl, Blk.le_refl _⟩, ⟨_, rfl, Blk.le_refl _⟩, ⟨_, rfl, Blk.le_refl _⟩, ⟨_, rfl, Blk.le_refl _⟩, ⟨_, rfl, Blk.le_refl _⟩, ⟨_, rfl, Blk.le_refl _⟩, ⟨_, rfl, Blk.le_refl _⟩, ⟨_, rfl, Blk.le_refl _⟩, ⟨_, rfl, Blk.le_refl _⟩, ⟨rfl, NV_D8_0, rfl⟩, trivial⟩ rfl rfl) ?_
   refine at_region (r_assign rfl rfl rfl (run_nil (at_tn (at_seq (at_region (r_move rfl rfl rfl (r_fieldAddr 2 0 0 rfl rfl rfl rfl rfl ti106 rfl rfl (r_load 2 0 [_] rfl rfl rfl rfl ti4 rfl rfl rfl rfl ?_))))))))
   refine r_scall0 [_, _] [5] rfl rfl rfl (c_ref02_whole (n / Nat.gcd n d) neg (by have := nb_div n (Nat.gcd n d); omega) zn.1) ⟨⟨_, rfl, le_share⟩, trivial⟩ rfl ?_
   refine r_move rfl rfl rfl ?_
   refine r_know 40 (slv none 0 (nb 0) 0) rfl (by rw [nb_zero]; rfl) ?_
   refine r_scall0 [_, _] [9] rfl rfl rfl (c_ref02_whole 0 false (by rw [nb_zero]; omega) ⟨none, 0, 0, by rw [nb_zero]; exact Nat.le_refl _⟩) ⟨⟨_, rfl, Blk.le_refl _⟩, trivial⟩ rfl ?_
   refine r_build [(0, _), (1, _)] rfl rfl rfl (bd63_2) ?_
   refine r_store rfl 3 0 [_, _, _, ⟨some g1, 63, _, 4, true⟩, _, _, _, _, _, _] [_, _, _, _] rfl rfl rfl rfl ti63 rfl rfl rfl rfl rfl ?_
   refine run_nil (at_tn (at_ret ?_))
   refine at_end1 rfl (res_cell 3 rfl rfl ti63 (vs := [_, _, _, _]) rfl rfl (Nat.le_of_ble_eq_true rfl) rfl) (fun w hL => ⟨(), ?_, hL.picks [] trivial rfl rfl⟩)
   exact congrArg Ending.returned (Eq.trans (by rw [show (if false = true then -((0 : Nat) : Int) else ((0 : Nat) : Int)) = 0 from rfl, show (0 : Int).natAbs = 0 from rfl, mag_zero]; rfl) (canon8_1 neg hd hd1))
  ·
   have hd1 : d / Nat.gcd n d ≠ 1 := by have := ne_of_beq_false hb1; rw [dig_one hl1] at this; omega
   refine at_skip (at_tn (at_seq (at_region (r_move rfl rfl rfl (r_fieldAddr 2 0 0 rfl rfl rfl rfl rfl ti106 rfl rfl (r_load 2 0 [_] rfl rfl rfl rfl ti4 rfl rfl rfl rfl ?_))))))
   refine r_scall0 [_, _] [5] rfl rfl rfl (c_ref02_whole (n / Nat.gcd n d) neg (by have := nb_div n (Nat.gcd n d); omega) zn.1) ⟨⟨_, rfl, le_share⟩, trivial⟩ rfl ?_
   refine r_move rfl rfl rfl ?_
   refine r_scall0 [_, _] [7] rfl rfl rfl (c_ref02_whole (d / Nat.gcd n d) false (by have := nb_div d (Nat.gcd n d); omega) zd.1) ⟨⟨_, rfl, le_share⟩, trivial⟩ rfl ?_
   refine r_build [(0, _), (1, _)] rfl rfl rfl (bd63_2) ?_
   refine r_store rfl 3 0 [_, _, _, ⟨some g1, 63, _, 4, true⟩, _, _, _, _, _] [_, _, _, _] rfl rfl rfl rfl ti63 rfl rfl rfl rfl rfl ?_
   refine run_nil (at_tn (at_ret ?_))
   refine at_end1 rfl (res_cell 3 rfl rfl ti63 (vs := [_, _, _, _]) rfl rfl (Nat.le_of_ble_eq_true rfl) rfl) (fun w hL => ⟨(), ?_, hL.picks [] trivial rfl rfl⟩)
   exact congrArg Ending.returned (canon8_2 neg hd hd1)
 ·
  have hd1 : d / Nat.gcd n d ≠ 1 := not_one_of_nb (by simpa using hb0)
  refine r_no rfl rfl rfl (r_no rfl rfl rfl (r_no rfl rfl rfl (r_no rfl rfl rfl (r_pickF rfl rfl rfl rfl (run_nil (at_tn (at_condF rfl (at_skip (at_tn (at_seq (at_region (r_move rfl rfl rfl (r_fieldAddr 2 0 0 rfl rfl rfl rfl rfl ti106 rfl rfl (r_load 2 0 [_] rfl rfl rfl rfl ti4 rfl rfl rfl rfl ?_))))))))))))))
  refine r_scall0 [_, _] [5] rfl rfl rfl (c_ref02_whole (n / Nat.gcd n d) neg (by have := nb_div n (Nat.gcd n d); omega) zn.1) ⟨⟨_, rfl, le_share⟩, trivial⟩ rfl ?_
  refine r_move rfl rfl rfl ?_
  refine r_scall0 [_, _] [7] rfl rfl rfl (c_ref02_whole (d / Nat.gcd n d) false (by have := nb_div d (Nat.gcd n d); omega) zd.1) ⟨⟨_, rfl, le_share⟩, trivial⟩ rfl ?_
  refine r_build [(0, _), (1, _)] rfl rfl rfl (bd63_2) ?_
  refine r_store rfl 3 0 [_, _, _, ⟨some g1, 63, _, 4, true⟩, _, _, _, _, _] [_, _, _, _] rfl rfl rfl rfl ti63 rfl rfl rfl rfl rfl ?_
  refine run_nil (at_tn (at_ret ?_))
  refine at_end1 rfl (res_cell 3 rfl rfl ti63 (vs := [_, _, _, _]) rfl rfl (Nat.le_of_ble_eq_true rfl) rfl) (fun w hL => ⟨(), ?_, hL.picks [] trivial rfl rfl⟩)
  exact congrArg Ending.returned (canon8_2 neg hd hd1)
end Go.Proofs.YtncogghlhlnmaaaGreatDoor
