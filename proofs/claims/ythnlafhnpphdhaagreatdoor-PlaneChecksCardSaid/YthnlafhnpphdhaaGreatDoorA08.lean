/-
  Part 8: lemmas, and walks through the functions that the laws of chapter 07 call. Each theorem states its own conditions.
-/
import Derived.Deep.Upon
import Derived.Test.YthnlafhnpphdhaaGreatDoorA02
import Derived.Test.YthnlafhnpphdhaaGreatDoorA07
set_option linter.unusedVariables false
set_option linter.unusedVariables false
namespace Go.Proofs.YthnlafhnpphdhaaGreatDoor
open Go Go.RowKit Go.Via
set_option maxRecDepth 20000 in
theorem c_ref02_minus (a b : Nat) (ha : nb a ≤ 1073741000) (hle : b ≤ a) (x : SR (nb a)) (y : SR (nb b)) : SCall Tryz.prog 100 [⟨x.b, 3, NV .i64 (D8 a), x.n, false⟩, ⟨y.b, 3, NV .i64 (D8 b), y.n, false⟩] [x.v, y.v] (SR (nb (a - b))) SR.v (fun x => [⟨x.b, 3, NV .i64 (D8 (a - b)), x.n, true⟩]) := by
  refine ⟨by kernel_rfl, fun w hL0 => ?_⟩
  have hb : nb b ≤ 1073741000 := Nat.le_trans (nb_mono hle) ha
  refine calls_at (args := [x.v, y.v]) Tryz.func100 rfl (Nat.le_of_ble_eq_true rfl) hL0 ?_
  show At w ⟨41, [(0, x.v), (1, y.v)], [⟨x.b, 3, NV .i64 (D8 a), x.n, false⟩, ⟨y.b, 3, NV .i64 (D8 b), y.n, false⟩]⟩ _
  refine at_seq ?_
  refine at_region ?_
  refine r_assign rfl rfl rfl ?_
  refine run_nil ?_
  refine at_tn ?_
  refine at_seq ?_
  refine at_region ?_
  refine r_assign rfl rfl rfl ?_
  refine run_nil ?_
  refine at_tn ?_
  refine at_seq ?_
  refine at_region ?_
  refine r_assign rfl rfl rfl ?_
  refine run_nil ?_
  refine at_tn ?_
  refine at_seq ?_
  refine at_seq ?_
  refine at_region ?_
  refine r_assign rfl rfl rfl ?_
  refine run_nil ?_
  refine at_tn ?_
  refine at_block ?_
  refine enterL (nt := 41) (ι := {x : Nat × Option Nat × Nat × Nat // x.1 ≤ nb a ∧ x.1 ≤ x.2.2.2 ∧ x.2.2.2 ≤ x.2.2.1}) (fun ⟨⟨i, ob, oN, oc⟩, hi, h1, h2⟩ => [(0, x.v), (1, y.v), (5, slv ob 0 i oc), (6, .int .i64 (su8B a b i : Nat)), (7, .int .i64 (i : Nat))]) (fun ⟨⟨i, ob, oN, oc⟩, hi, h1, h2⟩ => [⟨x.b, 3, NV .i64 (D8 a), x.n, false⟩, ⟨y.b, 3, NV .i64 (D8 b), y.n, false⟩, ⟨ob, 3, NV .i64 (row i (dg8 (a - b))), oN, true⟩]) (fun ⟨⟨i, ob, oN, oc⟩, hi, h1, h2⟩ => nb a - i) ⟨(0, none, 0, 0), Nat.zero_le _, Nat.le_refl _, Nat.le_refl _⟩ ⟨rfl, rfl, rfl, (look_val rfl (by rw [su8B_zero]; rfl)), rfl, trivial⟩ (weak_picks [some 0, some 1, none] ⟨⟨_, rfl, Blk.le_refl _⟩, ⟨_, rfl, Blk.le_refl _⟩, ⟨rfl, rfl, rfl⟩, trivial⟩ rfl rfl) ?_
  rintro ⟨⟨i, ob, oN, oc⟩, hi, h1, h2⟩
  show At _ ⟨41, [(0, x.v), (1, y.v), (5, slv ob 0 i oc), (6, .int .i64 (su8B a b i : Nat)), (7, .int .i64 (i : Nat))], [⟨x.b, 3, NV .i64 (D8 a), x.n, false⟩, ⟨y.b, 3, NV .i64 (D8 b), y.n, false⟩, ⟨ob, 3, NV .i64 (row i (dg8 (a - b))), oN, true⟩]⟩ _
  replace hi : i ≤ nb a := hi
  replace h1 : i ≤ oc := h1
  replace h2 : oc ≤ oN := h2
  refine at_seq ?_
  refine at_seq ?_
  refine at_region ?_
  refine r_move rfl rfl rfl ?_
  refine r_move rfl rfl rfl ?_
  refine r_lenS u85 rfl rfl rfl ?_
  refine r_cmpInt rfl rfl rfl rfl rfl ?_
  refine run_nil ?_
  refine at_tn ?_
  refine at_cond rfl (fun hb1 => ?_) (fun hb1 => ?_)
  ·
    have hlt : i < nb a := (by have := of_decide_eq_true hb1; omega)
    have hb1 := su8B_le a b i
    have hax := m256 (a / 256 ^ i)
    have hbx := m256 (b / 256 ^ i)
    have hdx := m256 ((a - b) / 256 ^ i)
    refine at_skip ?_
    refine at_tn ?_
    refine at_seq ?_
    refine at_block ?_
    refine at_seq ?_
    refine at_region ?_
    refine r_move rfl rfl rfl ?_
    refine r_move rfl rfl rfl ?_
    refine r_indexAddr 0 (i) u85 ti3 rfl rfl rfl rfl rfl (by omega) (by omega) (NV_ne (by rw [D8_length]; omega)) (by show 0 + Int.toNat _ * 1 = _; omega) ?_
    refine r_load1 0 (i) ti3 rfl rfl rfl rfl (NV_get (D8_get (by omega))) ?_
    refine r_move rfl rfl rfl ?_
    refine r_arith (r := (((a / 256 ^ i % 256 : Nat) : Int) - ((su8B a b i : Nat) : Int))) rfl rfl rfl rfl (congrArg some (wi (by omega) (by omega) (by omega))) ?_
    refine r_assign rfl rfl rfl ?_
    refine run_nil ?_
    refine at_tn ?_
    refine at_seq ?_
    refine at_seq ?_
    refine at_region ?_
    refine r_move rfl rfl rfl ?_
    refine r_move rfl rfl rfl ?_
    refine r_lenS u85 rfl rfl rfl ?_
    refine r_cmpInt rfl rfl rfl rfl rfl ?_
    refine run_nil ?_
    refine at_tn ?_
    refine at_cond rfl (fun hb2 => ?_) (fun hb2 => ?_)
    ·
      have hjb : i < nb b := (by have := of_decide_eq_true hb2; omega)
      refine at_region ?_
      refine r_move rfl rfl rfl ?_
      refine r_move rfl rfl rfl ?_
      refine r_move rfl rfl rfl ?_
      refine r_indexAddr 1 (i) u85 ti3 rfl rfl rfl rfl rfl (by omega) (by omega) (NV_ne (by rw [D8_length]; omega)) (by show 0 + Int.toNat _ * 1 = _; omega) ?_
      refine r_load1 1 (i) ti3 rfl rfl rfl rfl (NV_get (D8_get (by omega))) ?_
      refine r_arith (r := (((a / 256 ^ i % 256 : Nat) : Int) - ((su8B a b i : Nat) : Int) - ((b / 256 ^ i % 256 : Nat) : Int))) rfl rfl rfl rfl (congrArg some (wi (by omega) (by omega) (by omega))) ?_
      refine r_assign rfl rfl rfl ?_
      refine run_nil ?_
      refine at_tn ?_
      refine at_seq ?_
      refine at_region ?_
      refine r_assign rfl rfl rfl ?_
      refine run_nil ?_
      refine at_tn ?_
      refine at_seq ?_
      refine at_seq ?_
      refine at_region ?_
      refine r_move rfl rfl rfl ?_
      refine r_cmpInt rfl rfl rfl rfl rfl ?_
      refine run_nil ?_
      refine at_tn ?_
      refine at_cond rfl (fun hb3 => ?_) (fun hb3 => ?_)
      ·
        obtain ⟨hd1, hd2⟩ := su8_neg (m := a) (n := b) (i := i) hle (by have := of_decide_eq_true hb3; omega)
        refine at_region ?_
        refine r_move rfl rfl rfl ?_
        refine r_arith (r := (((a - b) / 256 ^ i % 256 : Nat) : Int)) rfl rfl rfl rfl (congrArg some (wi (by omega) (by omega) (by omega))) ?_
        refine r_assign rfl rfl rfl ?_
        refine r_assign rfl rfl rfl ?_
        refine run_nil ?_
        refine at_tn ?_
        refine at_region ?_
        refine r_move rfl rfl rfl ?_
        refine r_move rfl rfl rfl ?_
        refine r_buildSlice [(0, _)] (fun g => [_, _, _, ⟨some g, 3, _, 1, true⟩]) rfl rfl rfl (bs85_1) rfl (fun _ => rfl) (fun g0 => ?_)
        refine q_append (s := 1) (len := i) (n2 := 1) 2 3 (fun r => [_, _, ⟨some r.g, 3, NV .i64 (row (i + 1) (dg8 (a - b))), r.n, true⟩, ⟨some g0, 3, _, 1, true⟩]) u85 el3 rfl rfl rfl rfl rfl rfl rfl rfl rfl rfl rfl rfl (by rw [NV_length, row_length]; omega) (by omega) (by show oc * 1 ≤ oN; omega) rfl (one_cell _ _) (by omega) (fun r => congrArg (fun c => [_, _, (⟨some r.g, 3, c, r.n, true⟩ : Blk), ⟨some g0, 3, _, 1, true⟩]) (NV_snoc _ _ _ _ (rfl))) (fun r => ?_)
        refine r_assign rfl rfl rfl ?_
        refine run_nil ?_
        refine at_bn ?_
        refine at_tn ?_
        refine at_region ?_
        refine r_move rfl rfl rfl ?_
        refine r_arith (r := ((i + 1 : Nat) : Int)) rfl rfl rfl rfl (congrArg some (wi (by omega) (by omega) (by omega))) ?_
        refine r_assign rfl rfl rfl ?_
        refine run_nil ?_
        refine at_tn ?_
        exact nextL ⟨(i + 1, some r.g, r.n, r.cap), hlt, r.h, by have := r.hn; show r.cap ≤ r.n; omega⟩ (by show nb a - (i + 1) < nb a - i; omega) ⟨rfl, rfl, rfl, (look_val rfl (by rw [hd2]; rfl)), rfl, trivial⟩ (weak_picks [some 0, some 1, some 2] ⟨⟨_, rfl, Blk.le_refl _⟩, ⟨_, rfl, Blk.le_refl _⟩, ⟨_, rfl, Blk.le_refl _⟩, trivial⟩ rfl rfl)
      ·
        obtain ⟨hd1, hd2⟩ := su8_pos (m := a) (n := b) (i := i) hle (by have := of_decide_eq_false hb3; omega)
        refine at_know 8 (.int .i64 ((a - b) / 256 ^ i % 256 : Nat)) rfl (congrArg (Value.int .i64) (by omega)) ?_
        refine at_skip ?_
        refine at_tn ?_
        refine at_region ?_
        refine r_move rfl rfl rfl ?_
        refine r_move rfl rfl rfl ?_
        refine r_buildSlice [(0, _)] (fun g => [_, _, _, ⟨some g, 3, _, 1, true⟩]) rfl rfl rfl (bs85_1) rfl (fun _ => rfl) (fun g0 => ?_)
        refine q_append (s := 1) (len := i) (n2 := 1) 2 3 (fun r => [_, _, ⟨some r.g, 3, NV .i64 (row (i + 1) (dg8 (a - b))), r.n, true⟩, ⟨some g0, 3, _, 1, true⟩]) u85 el3 rfl rfl rfl rfl rfl rfl rfl rfl rfl rfl rfl rfl (by rw [NV_length, row_length]; omega) (by omega) (by show oc * 1 ≤ oN; omega) rfl (one_cell _ _) (by omega) (fun r => congrArg (fun c => [_, _, (⟨some r.g, 3, c, r.n, true⟩ : Blk), ⟨some g0, 3, _, 1, true⟩]) (NV_snoc _ _ _ _ (rfl))) (fun r => ?_)
        refine r_assign rfl rfl rfl ?_
        refine run_nil ?_
        refine at_bn ?_
        refine at_tn ?_
        refine at_region ?_
        refine r_move rfl rfl rfl ?_
        refine r_arith (r := ((i + 1 : Nat) : Int)) rfl rfl rfl rfl (congrArg some (wi (by omega) (by omega) (by omega))) ?_
        refine r_assign rfl rfl rfl ?_
        refine run_nil ?_
        refine at_tn ?_
        exact nextL ⟨(i + 1, some r.g, r.n, r.cap), hlt, r.h, by have := r.hn; show r.cap ≤ r.n; omega⟩ (by show nb a - (i + 1) < nb a - i; omega) ⟨rfl, rfl, rfl, (look_val rfl (by rw [hd2]; rfl)), rfl, trivial⟩ (weak_picks [some 0, some 1, some 2] ⟨⟨_, rfl, Blk.le_refl _⟩, ⟨_, rfl, Blk.le_refl _⟩, ⟨_, rfl, Blk.le_refl _⟩, trivial⟩ rfl rfl)
    ·
      have hjb : nb b ≤ i := (by have := of_decide_eq_false hb2; omega)
      refine at_know 8 (.int .i64 ((a / 256 ^ i % 256 : Nat) - (su8B a b i : Nat) - (b / 256 ^ i % 256 : Nat))) rfl (congrArg (Value.int .i64) (by rw [dg8_above hjb]; omega)) ?_
      refine at_skip ?_
      refine at_tn ?_
      refine at_seq ?_
      refine at_region ?_
      refine r_assign rfl rfl rfl ?_
      refine run_nil ?_
      refine at_tn ?_
      refine at_seq ?_
      refine at_seq ?_
      refine at_region ?_
      refine r_move rfl rfl rfl ?_
      refine r_cmpInt rfl rfl rfl rfl rfl ?_
      refine run_nil ?_
      refine at_tn ?_
      refine at_cond rfl (fun hb3 => ?_) (fun hb3 => ?_)
      ·
        obtain ⟨hd1, hd2⟩ := su8_neg (m := a) (n := b) (i := i) hle (by have := of_decide_eq_true hb3; omega)
        refine at_region ?_
        refine r_move rfl rfl rfl ?_
        refine r_arith (r := (((a - b) / 256 ^ i % 256 : Nat) : Int)) rfl rfl rfl rfl (congrArg some (wi (by omega) (by omega) (by omega))) ?_
        refine r_assign rfl rfl rfl ?_
        refine r_assign rfl rfl rfl ?_
        refine run_nil ?_
        refine at_tn ?_
        refine at_region ?_
        refine r_move rfl rfl rfl ?_
        refine r_move rfl rfl rfl ?_
        refine r_buildSlice [(0, _)] (fun g => [_, _, _, ⟨some g, 3, _, 1, true⟩]) rfl rfl rfl (bs85_1) rfl (fun _ => rfl) (fun g0 => ?_)
        refine q_append (s := 1) (len := i) (n2 := 1) 2 3 (fun r => [_, _, ⟨some r.g, 3, NV .i64 (row (i + 1) (dg8 (a - b))), r.n, true⟩, ⟨some g0, 3, _, 1, true⟩]) u85 el3 rfl rfl rfl rfl rfl rfl rfl rfl rfl rfl rfl rfl (by rw [NV_length, row_length]; omega) (by omega) (by show oc * 1 ≤ oN; omega) rfl (one_cell _ _) (by omega) (fun r => congrArg (fun c => [_, _, (⟨some r.g, 3, c, r.n, true⟩ : Blk), ⟨some g0, 3, _, 1, true⟩]) (NV_snoc _ _ _ _ (rfl))) (fun r => ?_)
        refine r_assign rfl rfl rfl ?_
        refine run_nil ?_
        refine at_bn ?_
        refine at_tn ?_
        refine at_region ?_
        refine r_move rfl rfl rfl ?_
        refine r_arith (r := ((i + 1 : Nat) : Int)) rfl rfl rfl rfl (congrArg some (wi (by omega) (by omega) (by omega))) ?_
        refine r_assign rfl rfl rfl ?_
        refine run_nil ?_
        refine at_tn ?_
        exact nextL ⟨(i + 1, some r.g, r.n, r.cap), hlt, r.h, by have := r.hn; show r.cap ≤ r.n; omega⟩ (by show nb a - (i + 1) < nb a - i; omega) ⟨rfl, rfl, rfl, (look_val rfl (by rw [hd2]; rfl)), rfl, trivial⟩ (weak_picks [some 0, some 1, some 2] ⟨⟨_, rfl, Blk.le_refl _⟩, ⟨_, rfl, Blk.le_refl _⟩, ⟨_, rfl, Blk.le_refl _⟩, trivial⟩ rfl rfl)
      ·
        obtain ⟨hd1, hd2⟩ := su8_pos (m := a) (n := b) (i := i) hle (by have := of_decide_eq_false hb3; omega)
        refine at_know 8 (.int .i64 ((a - b) / 256 ^ i % 256 : Nat)) rfl (congrArg (Value.int .i64) (by omega)) ?_
        refine at_skip ?_
        refine at_tn ?_
        refine at_region ?_
        refine r_move rfl rfl rfl ?_
        refine r_move rfl rfl rfl ?_
        refine r_buildSlice [(0, _)] (fun g => [_, _, _, ⟨some g, 3, _, 1, true⟩]) rfl rfl rfl (bs85_1) rfl (fun _ => rfl) (fun g0 => ?_)
        refine q_append (s := 1) (len := i) (n2 := 1) 2 3 (fun r => [_, _, ⟨some r.g, 3, NV .i64 (row (i + 1) (dg8 (a - b))), r.n, true⟩, ⟨some g0, 3, _, 1, true⟩]) u85 el3 rfl rfl rfl rfl rfl rfl rfl rfl rfl rfl rfl rfl (by rw [NV_length, row_length]; omega) (by omega) (by show oc * 1 ≤ oN; omega) rfl (one_cell _ _) (by omega) (fun r => congrArg (fun c => [_, _, (⟨some r.g, 3, c, r.n, true⟩ : Blk), ⟨some g0, 3, _, 1, true⟩]) (NV_snoc _ _ _ _ (rfl))) (fun r => ?_)
        refine r_assign rfl rfl rfl ?_
        refine run_nil ?_
        refine at_bn ?_
        refine at_tn ?_
        refine at_region ?_
        refine r_move rfl rfl rfl ?_
        refine r_arith (r := ((i + 1 : Nat) : Int)) rfl rfl rfl rfl (congrArg some (wi (by omega) (by omega) (by omega))) ?_
        refine r_assign rfl rfl rfl ?_
        refine run_nil ?_
        refine at_tn ?_
        exact nextL ⟨(i + 1, some r.g, r.n, r.cap), hlt, r.h, by have := r.hn; show r.cap ≤ r.n; omega⟩ (by show nb a - (i + 1) < nb a - i; omega) ⟨rfl, rfl, rfl, (look_val rfl (by rw [hd2]; rfl)), rfl, trivial⟩ (weak_picks [some 0, some 1, some 2] ⟨⟨_, rfl, Blk.le_refl _⟩, ⟨_, rfl, Blk.le_refl _⟩, ⟨_, rfl, Blk.le_refl _⟩, trivial⟩ rfl rfl)
  ·
    have hge : i = nb a := (by have := of_decide_eq_false hb1; omega)
    subst hge
    have hab : a - b < 256 ^ nb a := Nat.lt_of_le_of_lt (Nat.sub_le _ _) (lt_nb a)
    have hnab : nb (a - b) ≤ nb a := nb_mono (Nat.sub_le _ _)
    refine at_exit ?_
    refine at_te ?_
    refine at_te ?_
    refine at_be ?_
    refine at_tn ?_
    refine at_seq ?_
    refine at_region ?_
    refine r_move rfl rfl rfl ?_
    refine r_scall0 [_] [2] rfl rfl rfl (c_ref02_trim (row (nb a) (dg8 (a - b))) (row_lt fun j => dg8_lt _ j) (by rw [row_length]; omega) (row_length _ _) ⟨ob, oN, oc, h1⟩) ⟨⟨_, rfl, le_share⟩, trivial⟩ rfl ?_
    refine r_know 40 (slv ob 0 (nb (a - b)) oc) rfl (by rw [row_trim _ _ hab]; rfl) ?_
    refine r_assign rfl rfl rfl ?_
    refine run_nil ?_
    refine at_tn ?_
    refine at_ret ?_
    refine at_end1 rfl (res_tmp rfl) (fun w hL => ⟨⟨ob, oN, oc, by omega⟩, rfl, ?_⟩)
    exact hL.picks [some 2] ⟨⟨_, rfl, rfl, rfl, rfl, ⟨nb (a - b), row_take _ _ hab⟩, fun _ => rfl⟩, trivial⟩ rfl rfl

end Go.Proofs.YthnlafhnpphdhaaGreatDoor
set_option linter.unusedVariables false
namespace Go.Via
open Go
def mu8V (m n i : Nat) : Nat := m % 256 ^ i * n
def mu8C (m n i k : Nat) : Nat := (mu8V m n i / 256 ^ i % 256 ^ k + m / 256 ^ i % 256 * (n % 256 ^ k)) / 256 ^ k
def mu8S (m n i k : Nat) : Nat := mu8C m n i k + mu8V m n i / 256 ^ (i + k) % 256 + m / 256 ^ i % 256 * (n / 256 ^ k % 256)
def mu8T (m n i k j : Nat) : Nat := if j < i + k then mu8V m n (i + 1) / 256 ^ j % 256 else mu8V m n i / 256 ^ j % 256
def mu8R (m n i j : Nat) : Nat := mu8V m n i / 256 ^ j % 256
theorem mu8V_succ (m n i : Nat) : mu8V m n (i + 1) = mu8V m n i + 256 ^ i * (m / 256 ^ i % 256 * n) := by
  unfold mu8V; rw [Nat.pow_succ, Nat.mod_mul, Nat.add_mul, Nat.mul_assoc]
theorem mu8C_zero (m n i : Nat) : mu8C m n i 0 = 0 := by simp [mu8C, Nat.mod_one]
theorem mu8C_lt (m n i k : Nat) : mu8C m n i k < 256 := by
  unfold mu8C
  rw [Nat.div_lt_iff_lt_mul (p256_pos k)]
  have h1 := Nat.mod_lt (mu8V m n i / 256 ^ i) (p256_pos k)
  have h2 := Nat.mod_lt n (p256_pos k)
  have h3 : m / 256 ^ i % 256 + 1 ≤ 256 := Nat.mod_lt _ (by decide)
  have h4 : (m / 256 ^ i % 256) * (n % 256 ^ k) ≤ (m / 256 ^ i % 256) * (256 ^ k) := Nat.mul_le_mul_left _ (by omega)
  have h5 : (m / 256 ^ i % 256 + 1) * 256 ^ k ≤ 256 * 256 ^ k := Nat.mul_le_mul_right _ h3
  rw [Nat.add_mul] at h5
  omega
theorem div_pow_add8 (V i k : Nat) : V / 256 ^ (i + k) = V / 256 ^ i / 256 ^ k := by rw [Nat.pow_add, Nat.div_div_eq_div_mul]
theorem mu8S_carry (m n i k : Nat) : mu8S m n i k / 256 = mu8C m n i (k + 1) := by
  show _ / 256 = _
  unfold mu8S mu8C
  rw [div_pow_add8, Nat.pow_succ, Nat.mod_mul, Nat.mod_mul, ← Nat.div_div_eq_div_mul]
  congr 1
  generalize m / 256 ^ i % 256 = dd
  generalize mu8V m n i / 256 ^ i = A
  have e : A % 256 ^ k + 256 ^ k * (A / 256 ^ k % 256) + dd * (n % 256 ^ k + 256 ^ k * (n / 256 ^ k % 256)) = (A % 256 ^ k + dd * (n % 256 ^ k)) + 256 ^ k * (A / 256 ^ k % 256 + dd * (n / 256 ^ k % 256)) := by grind
  rw [e, Nat.add_mul_div_left _ _ (p256_pos k)]
  omega
theorem mu8S_low (m n i k : Nat) : mu8S m n i k % 256 = mu8V m n (i + 1) / 256 ^ (i + k) % 256 := by
  show _ % 256 = _
  unfold mu8S mu8C
  rw [div_pow_add8, div_pow_add8, mu8V_succ, Nat.add_mul_div_left _ _ (p256_pos i)]
  generalize m / 256 ^ i % 256 = dd
  generalize mu8V m n i / 256 ^ i = A
  have e : A + dd * n = (A % 256 ^ k + dd * (n % 256 ^ k)) + 256 ^ k * (A / 256 ^ k + dd * (n / 256 ^ k)) := by
    have h1 := Nat.mod_add_div A (256 ^ k)
    have h2 := Nat.mod_add_div n (256 ^ k)
    conv => lhs; rw [← h1, ← h2]
    grind
  conv => rhs; rw [e]
  rw [Nat.add_mul_div_left _ _ (p256_pos k)]
  generalize (A % 256 ^ k + dd * (n % 256 ^ k)) / 256 ^ k = c
  generalize A / 256 ^ k = p
  generalize n / 256 ^ k = q
  have e2 : ∀ x y z w : Nat, (x + y % 256 + z * (w % 256)) % 256 = (x + (y + z * w)) % 256 := by
    intro x y z w
    have h1 := Nat.mod_add_div y 256
    have h2 := Nat.mod_add_div w 256
    have : x + (y + z * w) = (x + y % 256 + z * (w % 256)) + 256 * (y / 256 + z * (w / 256)) := by
      conv => lhs; rw [← h1, ← h2]
      grind
    rw [this, Nat.add_mul_mod_self_left]
  exact e2 c p dd q
theorem mu8T_at (m n i k : Nat) : mu8T m n i k (i + k) = mu8V m n i / 256 ^ (i + k) % 256 := by unfold mu8T; rw [if_neg (by omega)]
theorem mu8T_step (m n i k j : Nat) : mu8T m n i (k + 1) j = if j = i + k then mu8S m n i k % 256 else mu8T m n i k j := by
  rw [mu8S_low]
  unfold mu8T
  by_cases e : j = i + k
  · subst e; rw [if_pos (by omega), if_pos rfl]
  · rw [if_neg e]
    by_cases c : j < i + k
    · rw [if_pos c, if_pos (by omega)]
    · rw [if_neg c, if_neg (by omega)]
theorem mu8T_zero (m n i j : Nat) : mu8T m n i 0 j = mu8R m n i j := by
  unfold mu8T mu8R
  split
  · rename_i h
    rw [mu8V_succ]
    have e0 : 256 ^ i = 256 ^ j * (256 * 256 ^ (i - j - 1)) := by
      rw [← Nat.mul_assoc, ← Nat.pow_succ, ← Nat.pow_add, show j + 1 + (i - j - 1) = i by omega]
    have e : 256 ^ i * (m / 256 ^ i % 256 * n) = 256 ^ j * (256 * (256 ^ (i - j - 1) * (m / 256 ^ i % 256 * n))) := by
      generalize m / 256 ^ i % 256 * n = r
      rw [e0, Nat.mul_assoc, Nat.mul_assoc]
    rw [e, Nat.add_mul_div_left _ _ (p256_pos j), Nat.add_mul_mod_self_left]
  · rfl
theorem mu8V_lt (m n i : Nat) : mu8V m n i < 256 ^ (i + nb n) := by
  unfold mu8V
  rw [Nat.pow_add]
  have h1 := Nat.mod_lt m (p256_pos i)
  have h2 := lt_nb n
  calc m % 256 ^ i * n ≤ 256 ^ i * n := Nat.mul_le_mul_right _ (by omega)
    _ < 256 ^ i * 256 ^ nb n := (Nat.mul_lt_mul_left (p256_pos i)).2 h2
theorem mu8R_zero (m n j : Nat) : mu8R m n 0 j = 0 := by simp [mu8R, mu8V, Nat.mod_one]
theorem mu8R_end (m n : Nat) : val 256 (row (nb m + nb n + 1) (mu8R m n (nb m))) = m * n := by
  have e : mu8V m n (nb m) = m * n := by unfold mu8V; rw [Nat.mod_eq_of_lt (lt_nb m)]
  have h := mu8V_lt m n (nb m)
  rw [row_congr (g := fun j => m * n / 256 ^ j % 256) (fun j hj => by unfold mu8R; rw [e]), val_row 256 (by decide), Nat.mod_eq_of_lt]
  rw [e] at h
  exact Nat.lt_of_lt_of_le h (Nat.pow_le_pow_right (by decide) (by omega))
theorem mu8R_lt (m n i j : Nat) : mu8R m n i j < 256 := m256 _
theorem mu8S_cast (m n i k : Nat) : ((mu8C m n i k : Nat) : Int) + ((mu8V m n i / 256 ^ (i + k) % 256 + m / 256 ^ i % 256 * (n / 256 ^ k % 256) : Nat) : Int) = ((mu8S m n i k : Nat) : Int) := by
  unfold mu8S; rw [← Int.natCast_add, Nat.add_assoc]

theorem dmul8 (p q : Nat) : p % 256 * (q % 256) ≤ 65025 := by
  have h1 : p % 256 ≤ 255 := by omega
  have h2 : q % 256 ≤ 255 := by omega
  exact Nat.mul_le_mul h1 h2
theorem mu8S_high (m n i : Nat) {k : Nat} (hk : nb n ≤ k) : mu8S m n i k = mu8C m n i k := by
  unfold mu8S
  have h1 : 256 ^ (i + nb n) ≤ 256 ^ (i + k) := pow256_le (by omega)
  rw [dg8_above hk, Nat.div_eq_of_lt (Nat.lt_of_lt_of_le (mu8V_lt m n i) h1)]; simp
theorem mu8C_top (m n i : Nat) {k : Nat} (hk : nb n ≤ k) : mu8C m n i (k + 1) = 0 := by
  rw [← mu8S_carry, mu8S_high m n i hk]
  have := mu8C_lt m n i k
  omega
theorem mu8_more (m n i k : Nat) (h : 0 < mu8C m n i k) : k ≤ nb n := by
  rcases Nat.lt_or_ge (nb n) k with c | c
  · obtain ⟨q, rfl⟩ : ∃ q, k = q + 1 := ⟨k - 1, by omega⟩
    rw [mu8C_top m n i (by omega)] at h; omega
  · exact c
theorem mu8T_done (m n i k j : Nat) (hk : nb n ≤ k) (hc : mu8C m n i k = 0) : mu8T m n i k j = mu8R m n (i + 1) j := by
  unfold mu8T mu8R
  by_cases c : j < i + k
  · rw [if_pos c]
  · rw [if_neg c]
    have h1 : 256 ^ (i + nb n) ≤ 256 ^ j := pow256_le (by omega)
    rw [Nat.div_eq_of_lt (Nat.lt_of_lt_of_le (mu8V_lt m n i) h1)]
    by_cases e : j = i + k
    · subst e
      rw [← mu8S_low, mu8S_high m n i hk, hc]
    · have h2 : 256 ^ (i + 1 + nb n) ≤ 256 ^ j := pow256_le (by omega)
      rw [Nat.div_eq_of_lt (Nat.lt_of_lt_of_le (mu8V_lt m n (i + 1)) h2)]
theorem mu8_rowval (m n : Nat) : val 256 (row (nb m + nb n + 1) (mu8R m n (nb m))) = m * n := mu8R_end m n
theorem mu8_trim (m n : Nat) : digs 256 (val 256 (row (nb m + nb n + 1) (mu8R m n (nb m)))) = D8 (m * n) := by rw [mu8_rowval]; rfl
theorem mu8_take (m n : Nat) : NV .i64 (D8 (m * n)) = (NV .i64 (row (nb m + nb n + 1) (mu8R m n (nb m)))).take (nb (m * n)) := by
  have := trim_take (B := 256) (by omega) (row_lt (n := nb m + nb n + 1) (fun j => mu8R_lt m n (nb m) j))
  rw [mu8_trim] at this
  rw [NV_take]; congr 1; exact this.symm
end Go.Via
namespace Go.Via
open Go
theorem mu8S_lt8 (m n i k : Nat) : mu8S m n i k < 131072 := by
  have h1 := mu8C_lt m n i k
  have h2 := m256 (mu8V m n i / 256 ^ (i + k))
  have h3 := dmul8 (m / 256 ^ i) (n / 256 ^ k)
  unfold mu8S; omega
end Go.Via
set_option linter.unusedVariables false
set_option linter.unusedSimpArgs false
namespace Go.Via
open Go Go.RowKit
section
variable {P : Program} {bl : List Nat} {ops : Array Oper} {K : St → Prop} {rest : List Oper} {nt : Nat} {t : List (Nat × Value)} {L : List Blk} {d : Nat} {ty : TypeId} {pos : String} {af : Array Edge} {g : Option (Nat × Bool)} {x y : Operand}
/-- append nothing to a row -/
theorem r_append0 {T e : Nat} {inf : TypeInfo} {bb : Option Nat} {len cap c2 : Nat} {b2 : Option Nat} (hT : P.underlying T = some (.slice e)) (hi : P.info? e = some inf) (hd : Nat.blt d nt = true)
    (hg : wantedS ops ⟨some d, .call { callee := .builtin .append, args := #[x, y], argTypes := #[T, T] }, ty, pos, af, g⟩ t = some true)
    (hx : ev t x = some (slv bb 0 len cap)) (hcap : len ≤ cap) (hy : ev t y = some (slv b2 0 0 c2)) (h : Run P bl ops rest ⟨nt, (d, slv bb 0 len cap) :: t, L⟩ K) :
    Run P bl ops (⟨some d, .call { callee := .builtin .append, args := #[x, y], argTypes := #[T, T] }, ty, pos, af, g⟩ :: rest) ⟨nt, t, L⟩ K :=
  run_q hd hg rfl (fun B a w hr => by
    have hx' := hr.ev hx
    have hy' := hr.ev hy
    have hs : Src P inf.size T (slv b2 0 0 c2) 0 [] w := by
      cases b2 with
      | none => exact Src.ofNil (P := P) w hT c2
      | some g2 => exact Src.ofSlice (P := P) w hT ⟨g2, 0, none⟩ 0 c2 [] (by simp) (fun j u hj => by simp at hj) (fun u hu => by cases hu)
    have r1 := run_append_nothing (P := P) w T T ty e inf hT hi (bb.map fun g => ⟨g, 0, none⟩) len cap hcap (slv b2 0 0 c2) hs
    have r2 : (execOp a.eval ⟨some d, .call { callee := .builtin .append, args := #[x, y], argTypes := #[T, T] }, ty, pos, af, g⟩).run P w = ((Builtin.append_ #[T, T] ty #[slv bb 0 len cap, slv b2 0 0 c2]).run P w).andThen fun v w => .ok (.value v) w := by
      simp [execOp, resolve, invoke, builtin, hx', hy']
    rw [r2]
    unfold slv at r1 ⊢
    rw [r1]; rfl) h
end
end Go.Via
set_option linter.unusedVariables false
namespace Go.Via
open Go
/-! ### the reference's division -/
def dW8 (a b p : Nat) : Nat := a / 256 ^ (p + 1) % b * 256 + a / 256 ^ p % 256
theorem dW8_eq (a b p : Nat) (hb : 0 < b) : a / 256 ^ p = b * (a / 256 ^ (p + 1) / b * 256) + dW8 a b p := by
  have h1 := step256 a p
  have h2 := Nat.div_add_mod (a / 256 ^ (p + 1)) b
  unfold dW8
  conv => lhs; rw [h1, ← h2]
  rw [Nat.add_mul, Nat.mul_assoc, Nat.add_assoc]
theorem dW8_lt (a b p : Nat) (hb : 0 < b) : dW8 a b p < 256 * b := by
  unfold dW8
  have h1 : a / 256 ^ (p + 1) % b + 1 ≤ b := Nat.mod_lt _ hb
  have h2 := m256 (a / 256 ^ p)
  omega
theorem dW8_quo (a b p : Nat) (hb : 0 < b) : dW8 a b p / b = a / b / 256 ^ p % 256 := by
  have h1 := dW8_eq a b p hb
  have h2 : dW8 a b p / b < 256 := by rw [Nat.div_lt_iff_lt_mul hb]; exact dW8_lt a b p hb
  have e : a / b / 256 ^ p = a / 256 ^ p / b := by rw [Nat.div_div_eq_div_mul, Nat.div_div_eq_div_mul, Nat.mul_comm]
  rw [e, h1, Nat.mul_add_div hb, Nat.mul_comm _ 256, Nat.mul_add_mod, Nat.mod_eq_of_lt h2]
theorem dW8_rem (a b p : Nat) (hb : 0 < b) : dW8 a b p % b = a / 256 ^ p % b := by
  have h1 := dW8_eq a b p hb
  conv => rhs; rw [h1]
  rw [Nat.mul_add_mod]
/-- the digits of the remainder with one more ahead -/
theorem dW8_row (R d : Nat) (hd : d < 256) : val 256 (d :: D8 R) = R * 256 + d := by
  show d + 256 * val 256 (D8 R) = _
  unfold D8; rw [val_digs (by omega)]; omega
theorem dq8 {a b p q r : Nat} (hb : 0 < b) (h : q * b + r = dW8 a b p) (hr : r < b) : q = a / b / 256 ^ p % 256 ∧ r = a / 256 ^ p % b := by
  rw [← dW8_quo a b p hb, ← dW8_rem a b p hb, ← h, Nat.mul_comm q b]
  exact ⟨by rw [Nat.mul_add_div hb, Nat.div_eq_of_lt hr]; omega, by rw [Nat.mul_add_mod, Nat.mod_eq_of_lt hr]⟩
/-- a further step fits -/
theorem dq8_lt {a b p q r s : Nat} (hb : 0 < b) (h : q * b + r = dW8 a b p) (hs : s * b ≤ r) : q + s < 256 := by
  have h1 := dW8_lt a b p hb
  have h2 : (q + s) * b < 256 * b := by rw [Nat.add_mul]; omega
  exact Nat.lt_of_mul_lt_mul_right h2
theorem dq8_next {a b p q r s : Nat} (h : q * b + r = dW8 a b p) (hs : s * b ≤ r) : (q + s) * b + (r - s * b) = dW8 a b p := by rw [Nat.add_mul]; omega
def quT (a b p k : Nat) : Nat := if k < p then 0 else a / b / 256 ^ k % 256
end Go.Via
set_option linter.unusedVariables false
set_option linter.unusedSimpArgs false
namespace Go.Via
open Go Go.RowKit
/-! ### a region that draws its order, the last operations of which (those of T) do not change places: they are walked in each order -/
def TreeT (P : Program) (bl : List Nat) (ops : Array Oper) (K : St → Prop) : Nat → List Nat → St → Prop
  | 0, Ts, s => Ts = [] ∧ K s
  | n + 1, Ts, s => ForR (fun i => ∃ o, ops[i]? = some o ∧ Run P bl ops [o] s (fun s' => TreeT P bl ops K n (Ts.filter (· != i)) s')) (Ts.filter fun i => !Ts.any fun j => waitsF ops ops.size i j)
theorem ForR.mono {Q Q' : Nat → Prop} (h : ∀ i, Q i → Q' i) : ∀ {l : List Nat}, ForR Q l → ForR Q' l
  | [], _ => trivial
  | _ :: _, hh => ⟨h _ hh.1, ForR.mono h hh.2⟩
theorem TreeT.kc {P : Program} {bl : List Nat} {ops : Array Oper} {K : St → Prop} (hK : KC K) : ∀ (n : Nat) (Ts : List Nat), KC (TreeT P bl ops K n Ts)
  | 0, Ts => fun s1 s2 he h => ⟨h.1, hK s1 s2 he h.2⟩
  | n + 1, Ts => fun s1 s2 he h => ForR.mono (fun i ⟨o, h1, h2⟩ => ⟨o, h1, Run.kc (TreeT.kc hK n _) [o] s1 s2 he h2⟩) h
theorem TreeT.mono {P : Program} {bl : List Nat} {ops : Array Oper} {K K' : St → Prop} (hK : ∀ s, K s → K' s) : ∀ (n : Nat) (Ts : List Nat) (s : St), TreeT P bl ops K n Ts s → TreeT P bl ops K' n Ts s
  | 0, Ts, s, h => ⟨h.1, hK s h.2⟩
  | n + 1, Ts, s, h => ForR.mono (fun i ⟨o, h1, h2⟩ => ⟨o, h1, h2.mono (fun s' => TreeT.mono hK n _ s')⟩) h
theorem Run.append {P : Program} {bl : List Nat} {ops : Array Oper} {K : St → Prop} : ∀ {l l2 : List Oper} {s : St}, Run P bl ops l s (fun s' => Run P bl ops l2 s' K) → Run P bl ops (l ++ l2) s K
  | [], _, _, h => h
  | _ :: l, l2, _, h => Step.mono (fun _ h1 => Run.append (l := l) h1) h

structure Ord1 (ops : Array Oper) (l : List Nat) : Prop where
  lt : ∀ i ∈ l, i < ops.size
  nw : l.Pairwise (fun p i => noWait ops p i = true)
  self : ∀ i ∈ l, noWait ops i i = true
  ed : ∀ i ∈ l, edgesIn ops i = true
  nodup : l.Nodup
theorem Ord1.sub {ops : Array Oper} {l l' : List Nat} (h : Ord1 ops l) (hs : l'.Sublist l) : Ord1 ops l' :=
  ⟨fun i hi => h.lt i (hs.subset hi), h.nw.sublist hs, fun i hi => h.self i (hs.subset hi), fun i hi => h.ed i (hs.subset hi), h.nodup.sublist hs⟩

theorem wpAny_of_tree {P : Program} {bl : List Nat} {ops : Array Oper} {Q : Exit → Act → World → Prop} {K : St → Prop} {B : World} (hK : KC K) (hpost : ∀ s' a' w', K s' → Rel B s' a' w' → Q .normal a' w') :
    ∀ (n : Nat) (l Ts : List Nat) (listed : Array Bool) (s : St) (a : Act) (w : World), (l ++ Ts).length = n → Ord1 ops (l ++ Ts) → l.Pairwise (fun p i => pairOk bl ops p i = true) → (∀ p ∈ l, ∀ i ∈ Ts, pairOk bl ops p i = true) → listed.size = ops.size →
      (∀ j, j < ops.size → (listed.getD j true = false ↔ j ∈ l ++ Ts)) → Closed ops listed → Run P bl ops (l.map fun i => ops.getD i default) s (TreeT P bl ops K Ts.length Ts) → Rel B s a w →
      wpAny P .any ops Q n listed a w := by
  intro n
  induction n with
  | zero =>
    intro l Ts listed s a w hn ho hok hokT hsz hl hc hr h
    have h0 : l ++ Ts = [] := List.eq_nil_of_length_eq_zero hn
    obtain ⟨rfl, rfl⟩ := List.append_eq_nil_iff.1 h0
    refine ⟨?_, hpost _ _ _ hr.2 h⟩
    rcases hh : Region.ready .any ops listed with _ | ⟨i, r⟩
    · rfl
    · exfalso
      obtain ⟨h1, o, ho', _⟩ := mem_ready.1 (show i ∈ Region.ready .any ops listed by rw [hh]; simp)
      have := (hl i (Array.getElem?_eq_some_iff.1 ho').1).1 h1
      simp at this
  | succ n ih =>
    intro l Ts listed s a w hn ho hok hokT hsz hl hc hr h
    refine ⟨fun h0 => ?_, fun i hi => ?_⟩
    · exfalso
      obtain ⟨i0, rest, he⟩ : ∃ i0 rest, l ++ Ts = i0 :: rest := by
        cases hlt : l ++ Ts with
        | nil => rw [hlt] at hn; cases hn
        | cons x y => exact ⟨x, y, rfl⟩
      rw [he] at ho hl
      have hi0 := ho.lt i0 (by simp)
      have : i0 ∈ Region.ready .any ops listed := by
        refine mem_ready.2 ⟨(hl i0 hi0).2 (by simp), ops[i0], Array.getElem?_eq_getElem hi0, fun e hee hb => ?_⟩
        rcases hx : listed.getD e.on false with _ | _
        · exfalso
          have hself := ho.self i0 (by simp)
          have hnw : ∀ j, j ∈ rest → noWait ops i0 j = true := fun j hj => (List.pairwise_cons.1 ho.nw).1 j hj
          have key : ∀ j, noWait ops i0 j = true → e.on ≠ j := fun j hj e' => by
            unfold noWait at hj
            rw [Array.getElem?_eq_getElem hi0] at hj
            have := (Array.all_eq_true'.1 hj) e hee
            simp [hb, e'] at this
          rcases Nat.lt_or_ge e.on ops.size with hlt | hge
          · have hun : listed.getD e.on true = false := by
              have : e.on < listed.size := by rw [hsz]; exact hlt
              simp [this] at hx ⊢; exact hx
            have := (hl e.on hlt).1 hun
            rcases List.mem_cons.1 this with h1 | h1
            · exact key i0 hself h1
            · exact key e.on (hnw _ h1) rfl
          · have hj := ho.ed i0 (by simp)
            unfold edgesIn at hj
            rw [Array.getElem?_eq_getElem hi0] at hj
            have := (Array.all_eq_true'.1 hj) e hee
            simp [hb] at this
            omega
        · rfl
      rw [h0] at this; cases this
    · obtain ⟨hun, oi, hoi, hall⟩ := mem_ready.1 hi
      have hilt := (Array.getElem?_eq_some_iff.1 hoi).1
      have hil : i ∈ l ++ Ts := (hl i hilt).1 hun
      have hoid : ops.getD i default = oi := by simp [hoi]
      have hnowait : ∀ p, p ∈ l ++ Ts → waitsF ops ops.size i p = false := fun p hp => by
        rcases hw : waitsF ops ops.size i p with _ | _
        · rfl
        · exfalso
          have h1 := waitsF_listed hc hw (fun o ho' e he hb => by rw [hoi] at ho'; cases ho'; exact hall e he hb)
          have h2 := (hl p (ho.lt p hp)).2 hp
          rw [getD_tf h2] at h1; cases h1
      have pass : ∀ p, p ∈ l ++ Ts → pairOk bl ops p i = true → ∃ op, ops[p]? = some op ∧ isMov op = true ∧ isFr bl oi = true ∧ isCall op = false ∧ op.apart ops oi = true := by
        intro p hp hpo
        unfold pairOk at hpo
        rw [hnowait p hp, Bool.false_or, hoi] at hpo
        cases hop : ops[p]? with
        | none => rw [hop] at hpo; cases hpo
        | some op =>
          rw [hop] at hpo
          simp only [Bool.and_eq_true, Bool.not_eq_true'] at hpo
          exact ⟨op, rfl, hpo.1.1.1, hpo.1.1.2, hpo.1.2, hpo.2⟩
      -- the front
      have front : ∀ (pre post : List Nat) (K' : St → Prop), KC K' → (∀ p ∈ pre, p ∈ l ++ Ts ∧ pairOk bl ops p i = true) → Run P bl ops ((pre ++ i :: post).map fun i => ops.getD i default) s K' →
          Step P bl ops oi s (fun s' => Run P bl ops ((pre ++ post).map fun i => ops.getD i default) s' K') := by
        intro pre post K' hK' hpre hr1
        rw [List.map_append, List.map_cons, hoid] at hr1
        rw [List.map_append]
        cases hpz : pre with
        | nil => rw [hpz] at hr1; exact hr1
        | cons p0 pre0 =>
          obtain ⟨hp1, hp2⟩ := hpre p0 (by rw [hpz]; simp)
          obtain ⟨op0, _, _, hmi, _, _⟩ := pass p0 hp1 hp2
          rw [← hpz]
          refine Run.front hK' hmi ?_ hr1
          intro q hq
          obtain ⟨p, hp, rfl⟩ := List.mem_map.1 hq
          obtain ⟨hp1, hp2⟩ := hpre p hp
          obtain ⟨op, hop, h1, h2, h3, h4⟩ := pass p hp1 hp2
          have : ops.getD p default = op := by simp [hop]
          rw [this]; exact ⟨h1, h3, h4⟩
      obtain ⟨l', Ts', hsub, hlen, hmem, hsl, hst, hstep⟩ : ∃ l' Ts' : List Nat, (l' ++ Ts').Sublist (l ++ Ts) ∧ (l' ++ Ts').length = n ∧ (∀ j, j ∈ l' ++ Ts' ↔ j ∈ l ++ Ts ∧ j ≠ i) ∧ l'.Sublist l ∧ (∀ j ∈ Ts', j ∈ Ts) ∧
          Step P bl ops oi s (fun s' => Run P bl ops (l'.map fun i => ops.getD i default) s' (TreeT P bl ops K Ts'.length Ts')) := by
        have hnd := ho.nodup
        by_cases hi1 : i ∈ l
        · obtain ⟨pre, post, rfl⟩ := List.append_of_mem hi1
          refine ⟨pre ++ post, Ts, ?_, ?_, fun j => ?_, List.Sublist.append (List.Sublist.refl _) (List.sublist_cons_self _ _), fun j hj => hj, ?_⟩
          · exact List.Sublist.append (List.Sublist.append (List.Sublist.refl _) (List.sublist_cons_self _ _)) (List.Sublist.refl _)
          · simp at hn ⊢; omega
          · have h1 : i ∉ pre ++ post ++ Ts := by
              intro hm
              rw [show pre ++ i :: post ++ Ts = pre ++ i :: (post ++ Ts) by simp] at hnd
              have h2 := List.nodup_append.1 hnd
              rw [List.append_assoc] at hm
              rcases List.mem_append.1 hm with h3 | h3
              · exact h2.2.2 i h3 i (by simp) rfl
              · exact (List.nodup_cons.1 h2.2.1).1 h3
            constructor
            · intro hj
              refine ⟨?_, fun e => h1 (e ▸ hj)⟩
              simp at hj ⊢; rcases hj with h | h | h <;> simp [h]
            · rintro ⟨hj, hne⟩
              simp at hj ⊢; rcases hj with h | h | h | h
              · simp [h]
              · exact absurd h hne
              · simp [h]
              · simp [h]
          · exact front pre post _ (TreeT.kc hK _ _) (fun p hp => ⟨by simp [hp], (List.pairwise_append.1 hok).2.2 p hp i (by simp)⟩) hr
        · have hi2 : i ∈ Ts := by
            rcases List.mem_append.1 hil with h1 | h1
            · exact absurd h1 hi1
            · exact h1
          have hndT : Ts.Nodup := (List.nodup_append.1 hnd).2.1
          obtain ⟨pre, post, rfl⟩ := List.append_of_mem hi2
          have hnot : i ∉ pre ∧ i ∉ post := by
            have h2 := List.nodup_append.1 hndT
            exact ⟨fun h3 => h2.2.2 i h3 i (by simp) rfl, (List.nodup_cons.1 h2.2.1).1⟩
          have hfil : (pre ++ i :: post).filter (· != i) = pre ++ post := by
            rw [List.filter_append, List.filter_cons]
            simp only [bne_self_eq_false, Bool.false_eq_true, if_false]
            rw [List.filter_eq_self.2 (fun j hj => by have : j ≠ i := fun e => hnot.1 (e ▸ hj); simpa using this), List.filter_eq_self.2 (fun j hj => by have : j ≠ i := fun e => hnot.2 (e ▸ hj); simpa using this)]
          refine ⟨l, pre ++ post, ?_, ?_, fun j => ?_, List.Sublist.refl _, fun j hj => ?_, ?_⟩
          · exact List.Sublist.append (List.Sublist.refl _) (List.Sublist.append (List.Sublist.refl _) (List.sublist_cons_self _ _))
          · simp at hn ⊢; omega
          · constructor
            · intro hj
              refine ⟨?_, fun e => ?_⟩
              · simp at hj ⊢; rcases hj with h | h | h <;> simp [h]
              · subst e; simp at hj; rcases hj with h | h | h
                · exact hi1 h
                · exact hnot.1 h
                · exact hnot.2 h
            · rintro ⟨hj, hne⟩
              simp at hj ⊢; rcases hj with h | h | h | h
              · simp [h]
              · simp [h]
              · exact absurd h hne
              · simp [h]
          · simp at hj ⊢; rcases hj with h | h <;> simp [h]
          · have hr2 : Run P bl ops ((l ++ [i]).map fun i => ops.getD i default) s (TreeT P bl ops K (pre ++ post).length (pre ++ post)) := by
              rw [List.map_append]
              refine Run.append (hr.mono fun s' hs' => ?_)
              have hlen : (pre ++ i :: post).length = (pre ++ post).length + 1 := by simp; omega
              rw [hlen] at hs'
              have hs2 : ForR _ _ := hs'
              have hmi : i ∈ (pre ++ i :: post).filter (fun i' => !(pre ++ i :: post).any fun j => waitsF ops ops.size i' j) := by
                refine List.mem_filter.2 ⟨by simp, ?_⟩
                rw [Bool.not_eq_true', Bool.eq_false_iff]
                intro h1
                obtain ⟨j, hj, hw⟩ := List.any_eq_true.1 h1
                rw [hnowait j (by simp at hj ⊢; rcases hj with h | h | h <;> simp [h])] at hw; cases hw
              obtain ⟨o, ho1, ho2⟩ := hs2.mem i hmi
              rw [hoi] at ho1; cases ho1
              rw [hfil] at ho2
              rw [List.map_singleton, hoid]
              exact ho2
            have := front l [] _ (TreeT.kc hK _ _) (fun p hp => ⟨by simp [hp], hokT p hp i (by simp)⟩) hr2
            simpa using this
      unfold wpOp
      rw [hoi]
      dsimp only
      have hS := Step.sound (K' := wpAny P .any ops Q n (listed.setIfInBounds i true)) (Q := Q) hstep h (fun s' a' w' hk hrel => by
        refine ih l' Ts' (listed.setIfInBounds i true) s' a' w' hlen (ho.sub hsub) (hok.sublist hsl) (fun p hp j hj => hokT p (hsl.subset hp) j (hst j hj)) (by simpa using hsz) ?_ ?_ hk hrel
        · intro j hj
          rw [hmem j]
          by_cases hij : i = j
          · subst hij
            have : i < listed.size := by rw [hsz]; exact hilt
            simp [this]
          · rw [getD_set_ne true hij, hl j hj]
            simp [Ne.symm hij]
        · intro j hj o hoj e he hb
          by_cases hij : i = j
          · subst hij
            rw [hoi] at hoj; cases hoj
            exact getD_set_true (hall e he hb)
          · rw [getD_set_ne false hij] at hj
            exact getD_set_true (hc j hj o hoj e he hb))
      split
      · rename_i hw; rw [if_pos hw] at hS; exact .inl hS
      · rename_i hw; rw [if_neg hw] at hS; exact hS

/-- The static look: perm, then the operations of T. -/
def drawnTOk (bl : List Nat) (ops : Array Oper) (perm T : List Nat) : Bool :=
  decide ((perm ++ T).length = ops.size) && (perm ++ T).all (fun i => decide (i < ops.size)) && (List.range ops.size).all (fun i => (perm ++ T).contains i) &&
  pairsB (pairOk bl ops) perm && perm.all (fun p => T.all fun i => pairOk bl ops p i) && pairsB (noWait ops) (perm ++ T) && (perm ++ T).all (fun i => noWait ops i i) && (perm ++ T).all (fun i => edgesIn ops i) && pairsB (fun i j => i != j) (perm ++ T)

theorem wp_drawnT {P : Program} {bl : List Nat} {id : Nat} {ops : Array Oper} {Q : Exit → Act → World → Prop} {s : St} {B w : World} {a : Act} (perm T : List Nat) {l : List Oper} {K : St → Prop}
    (hm : P.follows .mixedOrders = true) (hc : drawnTOk bl ops perm T = true) (hl : perm.map (fun i => ops.getD i default) = l) (hr : Run P bl ops l s (TreeT P bl ops K T.length T))
    (hpost : ∀ s' a' w', K s' → Rel B s' a' w' → Q .normal a' w') (h : Rel B s a w) : (Code.region id ops true).wp P Q a w := by
  simp only [drawnTOk, Bool.and_eq_true, decide_eq_true_eq] at hc
  obtain ⟨⟨⟨⟨⟨⟨⟨⟨hlen, hlt⟩, hall⟩, hpo⟩, hpt⟩, hnw⟩, hself⟩, hed⟩, hnd⟩ := hc
  have hOrd : Ord1 ops (perm ++ T) := ⟨fun i hi => of_decide_eq_true (List.all_eq_true.1 hlt i hi), pairsB_spec hnw, fun i hi => List.all_eq_true.1 hself i hi, fun i hi => List.all_eq_true.1 hed i hi, (pairsB_spec hnd).imp (fun h => by simpa using h)⟩
  subst hl
  have hK : KC (fun s' => ∃ s0, Eqv s0 s' ∧ K s0) := fun s1 s2 he ⟨s0, h0, h1⟩ => ⟨s0, h0.trans he, h1⟩
  refine wp_region_any hm ?_
  refine wpAny_of_tree hK (fun s' a' w' ⟨s0, he, hk⟩ hrel => hpost s0 a' w' hk (he.symm.rel hrel)) ops.size perm T _ s a _ hlen hOrd (pairsB_spec hpo) (fun p hp i hi => List.all_eq_true.1 (List.all_eq_true.1 hpt p hp) i hi) (by simp) ?_ ?_
    (hr.mono (fun s' hs' => TreeT.mono (fun s1 h1 => ⟨s1, Eqv.refl _, h1⟩) _ _ s' hs')) h.drew
  · intro j hj
    have : j ∈ perm ++ T := by
      have := List.all_eq_true.1 hall j (List.mem_range.2 hj)
      exact List.contains_iff_mem.1 this
    simp only [this, iff_true]
    simp [hj]
  · intro j hj
    exfalso
    rcases Nat.lt_or_ge j ops.size with h1 | h1
    · simp [h1] at hj
    · simp [h1] at hj

theorem at_drawnT {P : Program} {B : World} {Q : Exit → Act → World → Prop} {s : St} {id : Nat} {l l' : List Oper} (bl perm T : List Nat) (hm : P.follows .mixedOrders = true) (hc : drawnTOk bl l.toArray perm T = true) (hl : perm.map (fun i => l.toArray.getD i default) = l')
    (h : Run P bl l.toArray l' s (TreeT P bl l.toArray (fun s' => At B s' (Q .normal)) T.length T)) : At B s ((Code.region id l.toArray true).wp P Q) := fun a w hr =>
  wp_drawnT (K := fun s' => At B s' (Q .normal)) perm T hm hc hl h (fun s' a' w' h1 h2 => h1 a' w' h2) hr
theorem tt_node {P : Program} {bl : List Nat} {ops : Array Oper} {K : St → Prop} {n : Nat} {Ts : List Nat} {s : St} (l : List Nat) (hl : (Ts.filter fun i => !Ts.any fun j => waitsF ops ops.size i j) = l)
    (h : ForR (fun i => ∃ o, ops[i]? = some o ∧ Run P bl ops [o] s (fun s' => TreeT P bl ops K n (Ts.filter (· != i)) s')) l) : TreeT P bl ops K (n + 1) Ts s := by
  subst hl; exact h
end Go.Via
namespace Go.Via
theorem tt_nil {P : Program} {bl : List Nat} {ops : Array Oper} {K : St → Prop} {Ts : List Nat} {s : St} (h : Ts = []) (hk : K s) : TreeT P bl ops K 0 Ts s := ⟨h, hk⟩
end Go.Via
set_option linter.unusedVariables false
set_option linter.unusedSimpArgs false
namespace Go.Via
open Go Go.RowKit
/-- A CALL THAT READS BLOCKS and hands back blocks: each is new, or one of those that it got. -/
def SCallA (P : Program) (f : Nat) (L : List Blk) (args : List Value) (X : Type) (res : X → Value) (new : X → List Blk) : Prop :=
  plainF P f = true ∧ ∀ w, LRel w L w → Calls P f args.toArray w fun e w' => ∃ x, e = .returned (res x) ∧ LRel w (new x) w' ∧ ∀ b ∈ new x, ∀ g, b.base = some g → w.heap.size ≤ g ∨ ∃ b0 ∈ L, b0.base = some g
theorem own_new {B w : World} {L : List Blk} (h : LRel B L w) (k : Nat) {b : Blk} (hk : L[k]? = some b) (ho : b.own = true) : ∀ g, b.base = some g → B.heap.size ≤ g := fun g hg => ((h.blk k b hk).1 g hg).2 ho
def Blk.un (b : Blk) : Blk := { b with own := false }
theorem LRel.un {B w : World} {L : List Blk} (h : LRel B L w) : LRel B (L.map Blk.un) w := h.mono fun k b' hk => by
  rw [List.getElem?_map, Option.map_eq_some_iff] at hk
  obtain ⟨b, h1, rfl⟩ := hk
  exact ⟨b, h1, ⟨rfl, rfl, rfl, ⟨b.cs.length, by simp [Blk.un]⟩, fun h => by cases h⟩⟩
theorem SCall.weakA {P : Program} {f : Nat} {L : List Blk} {args : List Value} {X : Type} {res : X → Value} {new : X → List Blk} (h : SCall P f L args X res new) (ho : ∀ x, ∀ b ∈ new x, b.own = true) :
    SCallA P f L args X res (fun x => (new x).map Blk.un) := by
  refine ⟨h.1, fun w hL => (h.2 w hL).mono ?_⟩
  rintro e w' ⟨x, rfl, hx⟩
  refine ⟨x, rfl, hx.un, fun b hb g hg => .inl ?_⟩
  obtain ⟨b1, hb1, rfl⟩ := List.mem_map.1 hb
  obtain ⟨k, hk⟩ := List.mem_iff_getElem?.1 hb1
  exact own_new hx k hk (ho x b1 hb1) g hg
theorem SCallA.mono {P : Program} {f : Nat} {L : List Blk} {args : List Value} {X Y : Type} {res : X → Value} {new : X → List Blk} {res' : Y → Value} {new' : Y → List Blk} (h : SCallA P f L args X res new) (m : ∀ x, ∃ y, res x = res' y ∧ new x = new' y) :
    SCallA P f L args Y res' new' := by
  refine ⟨h.1, fun w hL => (h.2 w hL).mono ?_⟩
  rintro e w' ⟨x, rfl, hx, hf⟩
  obtain ⟨y, h1, h2⟩ := m x
  exact ⟨y, by rw [h1], by rw [← h2]; exact hx, by rw [← h2]; exact hf⟩
theorem LRel.joinA {B w w' : World} {L L0 new : List Blk} (h : LRel B L w) (h' : LRel w new w') (hc : ∀ b0 ∈ L0, ∀ g, b0.base = some g → ∃ (k : Nat) (b : Blk), L[k]? = some b ∧ b.base = some g ∧ b.own = false)
    (hf : ∀ b ∈ new, ∀ g, b.base = some g → w.heap.size ≤ g ∨ ∃ b0 ∈ L0, b0.base = some g) : LRel B (L ++ new) w' := by
  have hs := h.same h'.below
  refine ⟨hs.below, fun k b hk => ?_, fun i j g bi bj hij hi hj ho hg hgj => ?_⟩
  · rw [List.getElem?_append] at hk
    split at hk
    · exact hs.blk k b hk
    · obtain ⟨a1, a2⟩ := h'.blk _ b hk
      exact ⟨fun g hg => ⟨(a1 g hg).1, fun ho => Nat.le_trans h.below.size ((a1 g hg).2 ho)⟩, a2⟩
  · rw [List.getElem?_append] at hi hj
    split at hi <;> split at hj
    · exact hs.apart i j g bi bj hij hi hj ho hg hgj
    · have h1 := h.lt hi hg
      rcases hf bj (List.mem_of_getElem? hj) g hgj with h2 | ⟨b0, h2, h3⟩
      · omega
      · obtain ⟨k, b, h4, h5, h6⟩ := hc b0 h2 g h3
        by_cases e : i = k
        · subst e
          rw [hi] at h4; cases h4
          rw [ho] at h6; cases h6
        · exact h.apart i k g bi b e hi h4 ho hg h5
    · have h1 := h.lt hj hgj
      have h2 := ((h'.blk _ bi hi).1 g hg).2 ho
      omega
    · exact h'.apart _ _ g bi bj (by omega) hi hj ho hg hgj
def notOwn (L : List Blk) (k : Nat) : Bool := match L[k]? with
  | some b => !b.own
  | none => false
theorem picks_base {L : List Blk} : ∀ {ks : List Nat} {L0 : List Blk}, Picks L (ks.map some) L0 → ks.all (notOwn L) = true → ∀ b0 ∈ L0, ∀ g, b0.base = some g → ∃ (k : Nat) (b : Blk), L[k]? = some b ∧ b.base = some g ∧ b.own = false
  | [], [], _, _, b0, h, _, _ => by cases h
  | [], _ :: _, hp, _, _, _, _, _ => hp.elim
  | _ :: _, [], hp, _, _, _, _, _ => hp.elim
  | k :: ks, c :: L0, hp, ho, b0, h, g, hg => by
    rw [List.all_cons, Bool.and_eq_true] at ho
    rcases List.mem_cons.1 h with rfl | h
    · obtain ⟨b, h1, h2⟩ := hp.1
      have h3 := ho.1
      unfold notOwn at h3
      rw [h1] at h3
      exact ⟨k, b, h1, by rw [← h2.1]; exact hg, by simpa using h3⟩
    · exact picks_base hp.2 ho.2 b0 h g hg
section
variable {P : Program} {bl : List Nat} {ops : Array Oper} {K : St → Prop} {rest : List Oper} {nt : Nat} {t : List (Nat × Value)} {L : List Blk} {d : Nat} {ty : TypeId} {pos : String} {af : Array Edge} {g : Option (Nat × Bool)} {x y : Operand}
/-- a call that may hand back what it got -/
theorem r_scallA {f : Nat} {args : List Operand} {ts : Array TypeId} (vs : List Value) {L0 : List Blk} {X : Type} {res : X → Value} {new : X → List Blk} (ks : List Nat) (hd : Nat.blt d nt = true) (hg : wantedS ops ⟨some d, .call { callee := .value (.func f), args := args.toArray, argTypes := ts }, ty, pos, af, g⟩ t = some true)
    (hv : args.map (ev t) = vs.map some) (hc : SCallA P f L0 vs X res new) (hp : Picks L (ks.map some) L0) (ho : (L0.all fun b => !b.own) = true) (hn : ks.all (notOwn L) = true)
    (h : ∀ x, Run P bl ops rest ⟨nt, (d, res x) :: t, L ++ new x⟩ K) (hA : blA bl = false := by rfl) :
    Run P bl ops (⟨some d, .call { callee := .value (.func f), args := args.toArray, argTypes := ts }, ty, pos, af, g⟩ :: rest) ⟨nt, t, L⟩ K :=
  run_call hd hg rfl (X := X) (res := res) (new := new) (c_gen (s := ⟨nt, t, L⟩) rfl hv hc.1 fun B w hL => (hc.2 w (hL.asArgs ks hp (fun b hb => by simpa using List.all_eq_true.1 ho b hb))).mono (by
    rintro e w' ⟨x, rfl, hx, hf⟩
    exact ⟨x, rfl, hL.joinA hx (picks_base hp hn) hf⟩)) (fun h1 => by rw [hA] at h1; cases h1) fun x => h x
end
end Go.Via
set_option linter.unusedVariables false
set_option linter.unusedSimpArgs false
namespace Go.Via
open Go Go.RowKit
theorem cmpN_nonneg {m n : Nat} : 0 ≤ cmpN m n ↔ n ≤ m := by
  unfold cmpN
  by_cases h1 : m < n
  · rw [if_pos h1]; omega
  · rw [if_neg h1]
    by_cases h2 : n < m
    · rw [if_pos h2]; omega
    · rw [if_neg h2]; omega
theorem cmpN_nonpos {m n : Nat} : cmpN m n ≤ 0 ↔ m ≤ n := by
  unfold cmpN
  by_cases h1 : m < n
  · rw [if_pos h1]; omega
  · rw [if_neg h1]
    by_cases h2 : n < m
    · rw [if_pos h2]; omega
    · rw [if_neg h2]; omega
theorem cmpN_lt0 {m n : Nat} : cmpN m n < 0 ↔ m < n := by
  unfold cmpN
  by_cases h1 : m < n
  · rw [if_pos h1]; omega
  · rw [if_neg h1]
    by_cases h2 : n < m
    · rw [if_pos h2]; omega
    · rw [if_neg h2]; omega
/-- what 'divide' hands back: new rows, or its first argument -/
def divRes {a b : Nat} (x : SR (nb a)) : (SR (nb (a / b)) × SR (nb (a % b))) ⊕ PLift (a < b) → Value
  | .inl z => .tuple #[z.1.v, z.2.v]
  | .inr _ => .tuple #[.slice none 0 0, x.v]
def divNew {a b : Nat} : (SR (nb (a / b)) × SR (nb (a % b))) ⊕ PLift (a < b) → List Blk
  | .inl z => [⟨z.1.b, 3, NV .i64 (D8 (a / b)), z.1.n, true⟩, ⟨z.2.b, 3, NV .i64 (D8 (a % b)), z.2.n, true⟩]
  | .inr _ => []
/-- a block with cells lies somewhere -/
theorem at_base {B : World} {X : Act → World → Prop} {nt : Nat} {t : List (Nat × Value)} {L : List Blk} {b : Blk} (k : Nat) (hk : L[k]? = some b) (h : (b.base = none → b.cs = []) → At B ⟨nt, t, L⟩ X) : At B ⟨nt, t, L⟩ X :=
  fun a w hr => h (fun hb => ((hr.mem.blk k b hk).2 hb).1) a w hr
/-- the digits of a number behind a row of one -/
theorem r_app8 {P : Program} {bl : List Nat} {ops : Array Oper} {K : St → Prop} {rest : List Oper} {nt : Nat} {t : List (Nat × Value)} {L : List Blk} {d : Nat} {ty : TypeId} {pos : String} {af : Array Edge} {g : Option (Nat × Bool)} {x y : Operand}
    {T e : Nat} {z : Value} {gx : Nat} {d0 R : Nat} {ob : Option Nat} {oN oc : Nat} {o2 : Bool} (k k2 : Nat) (mk : Option Nat → Nat → List Blk) (hT : P.underlying T = some (.slice e)) (hi : elB P e 1 z) (hd : Nat.blt d nt = true)
    (hg : wantedS ops ⟨some d, .call { callee := .builtin .append, args := #[x, y], argTypes := #[T, T] }, ty, pos, af, g⟩ t = some true)
    (hk : L[k]? = some ⟨some gx, e, [.int .i64 (d0 : Nat)], 1, true⟩) (hx : ev t x = some (slv (some gx) 0 1 1)) (hk2 : L[k2]? = some ⟨ob, 3, NV .i64 (D8 R), oN, o2⟩) (hb : ob = none → NV .i64 (D8 R) = []) (hy : ev t y = some (slv ob 0 (nb R) oc))
    (hzs : z.cells.size = 1) (hmax : nb R ≤ 1073741824) (hL : ∀ b n, L.set k ⟨b, e, NV .i64 (d0 :: D8 R), n, true⟩ = mk b n)
    (h : ∀ r : SR (nb R + 1), Run P bl ops rest ⟨nt, (d, r.v) :: t, mk r.b r.n⟩ K) :
    Run P bl ops (⟨some d, .call { callee := .builtin .append, args := #[x, y], argTypes := #[T, T] }, ty, pos, af, g⟩ :: rest) ⟨nt, t, L⟩ K := by
  by_cases h0 : nb R = 0
  · have hD : D8 R = [] := List.eq_nil_of_length_eq_zero (by rw [D8_length]; exact h0)
    have := h ⟨some gx, 1, 1, by omega⟩
    rw [← hL] at this
    unfold SR.v at this
    simp only [h0, hD] at this
    have e1 : L.set k ⟨some gx, e, NV .i64 [d0], 1, true⟩ = L := by
      obtain ⟨hlt, he⟩ := List.getElem?_eq_some_iff.1 hk
      exact (congrArg (L.set k) he.symm).trans (List.set_getElem_self hlt)
    rw [e1] at this
    obtain ⟨inf, i1, i2, i3, i5⟩ := elB_spec hi
    rw [h0] at hy
    exact r_append0 hT i1 hd hg hx (Nat.le_refl 1) hy this
  · obtain ⟨g2, rfl⟩ : ∃ g2, ob = some g2 := by
      cases ob with
      | none =>
        have := congrArg List.length (hb rfl)
        rw [NV_length, D8_length] at this
        exact absurd this h0
      | some g2 => exact ⟨g2, rfl⟩
    refine q_append (s := 1) (len := 1) (n2 := nb R) k k2 (fun r => mk (some r.g) r.n) hT hi hd hg hk rfl rfl hx hk2 rfl hy rfl hzs (by simpa using (by omega : 0 < nb R)) rfl (Nat.le_refl _) (Nat.le_refl _) (by rw [NV_length, D8_length]; omega) (NV_one _ _) (by omega) (fun r => ?_) (fun r => ?_)
    · rw [← hL]; rfl
    · have h1 := h ⟨some r.g, r.n, r.cap, by have := r.h; omega⟩
      unfold SR.v at h1
      have e : slv (some r.g) 0 (1 + nb R) r.cap = slv (some r.g) 0 (nb R + 1) r.cap := congrArg (fun n => slv (some r.g) 0 n r.cap) (Nat.add_comm 1 (nb R))
      rw [e]; exact h1
theorem dW8_val (a b q : Nat) : val 256 (a / 256 ^ q % 256 :: D8 (a / 256 ^ (q + 1) % b)) = dW8 a b q := dW8_row _ _ (m256 _)
theorem dW8_lt256 (a b q : Nat) : ∀ d ∈ a / 256 ^ q % 256 :: D8 (a / 256 ^ (q + 1) % b), d < 256 := fun d hd => by
  rcases List.mem_cons.1 hd with rfl | hd
  · exact m256 _
  · exact D8_lt _ d hd
theorem dW8_trim (a b q : Nat) : (digs 256 (val 256 (a / 256 ^ q % 256 :: D8 (a / 256 ^ (q + 1) % b)))).length = nb (dW8 a b q) := by rw [dW8_val]; rfl
theorem dW8_nb (a b q : Nat) : nb (dW8 a b q) ≤ nb (a / 256 ^ (q + 1) % b) + 1 := by
  rw [← dW8_trim]
  exact Nat.le_trans (digs_length_le (by decide) (val_lt (by decide) (dW8_lt256 a b q))) (by simp [D8_length])
theorem dW8_take (a b q : Nat) : NV .i64 (D8 (dW8 a b q)) = (NV .i64 (a / 256 ^ q % 256 :: D8 (a / 256 ^ (q + 1) % b))).take (nb (dW8 a b q)) := by
  have := trim_take (B := 256) (by omega) (dW8_lt256 a b q)
  rw [dW8_val] at this
  rw [NV_take]; congr 1; exact this.symm
theorem dW8_top (a b : Nat) : a / 256 ^ nb a % b = 0 := by rw [Nat.div_eq_of_lt (lt_nb a), Nat.zero_mod]
theorem dW8_nil (a b : Nat) : NV .i64 (D8 (a / 256 ^ nb a % b)) = [] := by
  rw [dW8_top]
  have : D8 0 = [] := List.eq_nil_of_length_eq_zero (by rw [D8_length, nb_zero])
  rw [this]; rfl
theorem dW8_nilv (a b : Nat) : Value.slice none 0 0 = slv none 0 (nb (a / 256 ^ nb a % b)) 0 := by rw [dW8_top, nb_zero]; rfl
def quS (a b q m k : Nat) : Nat := if k = q then m else quT a b (q + 1) k
theorem quS_at (a b q m : Nat) : quS a b q m q = m := by simp [quS]
theorem quS_zero (a b q k : Nat) : quS a b q 0 k = quT a b (q + 1) k := by
  unfold quS
  split
  · rename_i h; subst h; simp [quT]
  · rfl
theorem quS_step (a b q m m' k : Nat) : quS a b q m' k = if k = q then m' else quS a b q m k := by
  unfold quS; split <;> rfl
theorem quS_end (a b q k : Nat) : quS a b q (a / b / 256 ^ q % 256) k = quT a b q k := by
  unfold quS quT
  by_cases h : k = q
  · subst h; simp
  · rw [if_neg h]
    by_cases c : k < q
    · rw [if_pos c, if_pos (by omega)]
    · rw [if_neg c, if_neg (by omega)]
theorem quT_top (a b : Nat) {k : Nat} (h : k < nb a) : quT a b (nb a) k = 0 := by unfold quT; rw [if_pos h]
theorem quT_lt (a b p k : Nat) : quT a b p k < 256 := by unfold quT; split <;> omega
theorem quT_row (a b : Nat) : val 256 (row (nb a) (quT a b 0)) = a / b := by
  have h : a / b < 256 ^ nb a := Nat.lt_of_le_of_lt (Nat.div_le_self _ _) (lt_nb a)
  rw [row_congr (g := fun j => a / b / 256 ^ j % 256) (fun j hj => by unfold quT; rw [if_neg (by omega)]), val_row 256 (by decide), Nat.mod_eq_of_lt h]
theorem quT_trim (a b : Nat) : digs 256 (val 256 (row (nb a) (quT a b 0))) = D8 (a / b) := by rw [quT_row]; rfl
theorem quT_take (a b : Nat) : NV .i64 (D8 (a / b)) = (NV .i64 (row (nb a) (quT a b 0))).take (nb (a / b)) := by
  have := trim_take (B := 256) (by omega) (row_lt (n := nb a) (fun j => quT_lt a b 0 j))
  rw [quT_trim] at this
  rw [NV_take]; congr 1; exact this.symm
theorem nb_below {r b : Nat} (h : r < 256 * b) : nb r ≤ nb b + 1 := nb_le (by
  have := lt_nb b
  rw [Nat.pow_succ]; omega)
theorem dq8_bnd {a b p m r : Nat} (hb : 0 < b) (h : m * b + r = dW8 a b p) : nb r ≤ nb b + 1 := nb_below (by have := dW8_lt a b p hb; have := Nat.zero_le (m * b); omega)
end Go.Via
namespace Go.Via
theorem NV_D8_0 : NV .i64 (D8 0) = [] := by
  have : D8 0 = [] := List.eq_nil_of_length_eq_zero (by rw [D8_length, nb_zero])
  rw [this]; rfl
end Go.Via
set_option linter.unusedVariables false
namespace Go.Proofs.YthnlafhnpphdhaaGreatDoor
open Go Go.RowKit Go.Via
set_option maxRecDepth 20000 in
theorem c_ref02_divide (a b : Nat) (hb : 0 < b) (ha : nb a ≤ 1073740000) (hbn : nb b ≤ 1073740000) (x : SR (nb a)) (y : SR (nb b)) : SCall Tryz.prog 109 [⟨x.b, 3, NV .i64 (D8 a), x.n, false⟩, ⟨y.b, 3, NV .i64 (D8 b), y.n, false⟩] [x.v, y.v] ((SR (nb (a / b)) × SR (nb (a % b))) ⊕ PLift (a < b)) (divRes x) divNew := by
  refine ⟨by kernel_rfl, fun w hL0 => ?_⟩
  refine calls_at (args := [x.v, y.v]) Tryz.func109 rfl (Nat.le_of_ble_eq_true rfl) hL0 ?_
  show At w ⟨105, [(0, x.v), (1, y.v)], [⟨x.b, 3, NV .i64 (D8 a), x.n, false⟩, ⟨y.b, 3, NV .i64 (D8 b), y.n, false⟩]⟩ _
  refine at_seq ?_
  refine at_region ?_
  refine r_assign rfl rfl rfl ?_
  refine r_assign rfl rfl rfl ?_
  refine run_nil ?_
  refine at_tn ?_
  refine at_seq ?_
  refine at_region ?_
  refine r_move rfl rfl rfl ?_
  refine r_scall0 [_] [0] rfl rfl rfl (c_ref02_small a (by omega) x) ⟨⟨_, rfl, le_share⟩, trivial⟩ rfl ?_
  refine r_move rfl rfl rfl ?_
  refine r_extract (vs := [_, _]) rfl rfl rfl rfl ?_
  refine r_extract (vs := [_, _]) rfl rfl rfl rfl ?_
  refine r_assign rfl rfl rfl ?_
  refine r_assign rfl rfl rfl ?_
  refine run_nil ?_
  refine at_tn ?_
  refine at_seq ?_
  refine at_region ?_
  refine r_move rfl rfl rfl ?_
  refine r_scall0 [_] [1] rfl rfl rfl (c_ref02_small b (by omega) y) ⟨⟨_, rfl, le_share⟩, trivial⟩ rfl ?_
  refine r_move rfl rfl rfl ?_
  refine r_extract (vs := [_, _]) rfl rfl rfl rfl ?_
  refine r_extract (vs := [_, _]) rfl rfl rfl rfl ?_
  refine r_assign rfl rfl rfl ?_
  refine r_assign rfl rfl rfl ?_
  refine run_nil ?_
  refine at_tn ?_
  refine at_seq ?_
  refine at_seq ?_
  refine at_region ?_
  refine r_move rfl rfl rfl ?_
  refine r_move rfl rfl rfl ?_
  refine r_split 24 rfl (fun hb0 => ?_) (fun hb0 => ?_)
  ·
    have h1 : nb a ≤ 7 := of_decide_eq_true hb0
    refine r_move rfl rfl rfl ?_
    refine r_pickT rfl rfl rfl rfl ?_
    refine r_move rfl rfl rfl ?_
    refine r_split 27 rfl (fun hb1 => ?_) (fun hb1 => ?_)
    ·
      have h2 : nb b ≤ 7 := of_decide_eq_true hb1
      refine r_move rfl rfl rfl ?_
      refine r_cmpInt rfl rfl rfl rfl rfl ?_
      refine r_pickT rfl rfl rfl rfl ?_
      refine run_nil ?_
      refine at_tn ?_
      refine at_cond rfl (fun hb2 => ?_) (fun hb2 => ?_)
      ·
        have hA : a < 72057594037927936 := Nat.lt_of_lt_of_le (lt_nb a) (pow256_le h1)
        have hB : b < 72057594037927936 := Nat.lt_of_lt_of_le (lt_nb b) (pow256_le h2)
        have hq1 : a / b ≤ a := Nat.div_le_self _ _
        have hr1 : a % b < b := Nat.mod_lt _ hb
        refine at_know 6 (.int .i64 (a : Nat)) rfl (by rw [if_pos h1]) ?_
        refine at_know 8 (.int .i64 (b : Nat)) rfl (by rw [if_pos h2]) ?_
        refine at_seq ?_
        refine at_drawn (l' := [⟨_,_,_,_,_,_⟩, ⟨_,_,_,_,_,_⟩, ⟨_,_,_,_,_,_⟩, ⟨_,_,_,_,_,_⟩, ⟨_,_,_,_,_,_⟩, ⟨_,_,_,_,_,_⟩, ⟨_,_,_,_,_,_⟩, ⟨_,_,_,_,_,_⟩, ⟨_,_,_,_,_,_⟩, ⟨_,_,_,_,_,_⟩]) [] [0, 1, 2, 4, 5, 6, 3, 7, 8, 9] mixed (by kernel_rfl) rfl (by kernel_rfl) ?_
        refine r_move rfl rfl rfl ?_
        refine r_move rfl rfl rfl ?_
        refine r_div (r := ((a / b : Nat) : Int)) rfl rfl rfl rfl (by omega) (congrArg some (quo_i _ _ rfl rfl (by omega))) ?_
        refine r_move rfl rfl rfl ?_
        refine r_move rfl rfl rfl ?_
        refine r_div (r := ((a % b : Nat) : Int)) rfl rfl rfl rfl (by omega) (congrArg some (rem_n _ _ rfl rfl)) ?_
        refine r_scall [_] [] rfl rfl rfl (c_ref02_large (a / b) (by omega)) trivial rfl (.inr fun x b hb => by rw [List.mem_singleton.1 hb]) (fun xq => ?_)
        refine r_scall [_] [] rfl rfl rfl (c_ref02_large (a % b) (by omega)) trivial rfl (.inr fun x b hb => by rw [List.mem_singleton.1 hb]) (fun xr => ?_)
        refine r_assign rfl rfl rfl ?_
        refine r_assign rfl rfl rfl ?_
        refine run_nil ?_
        refine at_tn ?_
        refine at_ret ?_
        refine at_tr ?_
        refine at_end2 rfl (res_tmp rfl) (res_tmp rfl) (fun w hL => ⟨.inl (xq, xr), ?_, hL.picks [some 2, some 3] ⟨⟨_, rfl, Blk.le_refl _⟩, ⟨_, rfl, Blk.le_refl _⟩, trivial⟩ rfl rfl⟩)
        exact rfl
      · exact absurd hb2 (by rw [if_pos h2]; simp; omega)
    ·
      refine r_no rfl rfl rfl ?_
      refine r_no rfl rfl rfl ?_
      refine r_pickF rfl rfl rfl rfl ?_
      refine run_nil ?_
      refine at_tn ?_
      refine at_condF rfl ?_
      refine at_skip ?_
      refine at_tn ?_
      refine at_seq ?_
      refine at_seq ?_
      refine at_region ?_
      refine r_move rfl rfl rfl ?_
      refine r_move rfl rfl rfl ?_
      refine r_scall0 [_, _] [0, 1] rfl rfl rfl (c_ref02_compare a b (by omega) x y) ⟨⟨_, rfl, le_share⟩, ⟨_, rfl, le_share⟩, trivial⟩ rfl ?_
      refine r_cmpInt rfl rfl rfl rfl rfl ?_
      refine run_nil ?_
      refine at_tn ?_
      refine at_cond rfl (fun hb2 => ?_) (fun hb2 => ?_)
      ·
        have hlt : a < b := cmpN_lt0.1 (of_decide_eq_true hb2)
        refine at_seq ?_
        refine at_region ?_
        refine r_move rfl rfl rfl ?_
        refine r_assign rfl rfl rfl ?_
        refine r_assign rfl rfl rfl ?_
        refine run_nil ?_
        refine at_tn ?_
        refine at_ret ?_
        refine at_tr ?_
        refine at_end2 rfl (res_tmp rfl) (res_tmp rfl) (fun w hL => ⟨.inr ⟨hlt⟩, ?_, hL.picks [] trivial rfl rfl⟩)
        exact rfl
      ·
        have hge : b ≤ a := by have := of_decide_eq_false hb2; rw [cmpN_lt0] at this; omega
        refine at_skip ?_
        refine at_tn ?_
        refine at_seq ?_
        refine at_region ?_
        refine r_move rfl rfl rfl ?_
        refine r_lenS u85 rfl rfl rfl ?_
        refine q_makeSlice (c := nb a) (NV .i64 (row (nb a) (quT a b (nb a)))) (fun g => [_, _, ⟨some g, 3, _, _, true⟩]) u85 el3 rfl rfl rfl rfl rfl rfl (by omega) (by rw [row_congr (g := fun _ => 0) (fun j hj => quT_top a b hj), row_zero, NV_replicate]) (fun _ => rfl) (fun g0 => ?_)
        refine r_assign rfl rfl rfl ?_
        refine run_nil ?_
        refine at_tn ?_
        refine at_seq ?_
        refine at_seq ?_
        refine at_region ?_
        refine r_move rfl rfl rfl ?_
        refine r_lenS u85 rfl rfl rfl ?_
        refine r_arith (r := ((nb a : Nat) : Int) - 1) rfl rfl rfl rfl (congrArg some (wi (by omega) (by omega) (by omega))) ?_
        refine r_assign rfl rfl rfl ?_
        refine run_nil ?_
        refine at_tn ?_
        refine at_block ?_
        refine enterL (nt := 105) (ι := (p : {p : Nat // p ≤ nb a}) × SR (nb (a / 256 ^ p.1 % b))) (fun ⟨⟨p, hp⟩, z⟩ => [(0, x.v), (1, y.v), (4, slv (some g0) 0 (nb a) (nb a)), (5, z.v), (10, .int .i64 ((p : Nat) - 1))]) (fun ⟨⟨p, hp⟩, z⟩ => [⟨x.b, 3, NV .i64 (D8 a), x.n, false⟩, ⟨y.b, 3, NV .i64 (D8 b), y.n, false⟩, ⟨some g0, 3, NV .i64 (row (nb a) (quT a b p)), nb a, true⟩, ⟨z.b, 3, NV .i64 (D8 (a / 256 ^ p % b)), z.n, true⟩]) (fun ⟨⟨p, hp⟩, z⟩ => p) ⟨⟨nb a, Nat.le_refl _⟩, ⟨none, 0, 0, by rw [dW8_top, nb_zero]; exact Nat.le_refl _⟩⟩ ⟨rfl, rfl, rfl, (look_val rfl (dW8_nilv a b)), rfl, trivial⟩ (weak_picks [some 0, some 1, some 2, none] ⟨⟨_, rfl, Blk.le_refl _⟩, ⟨_, rfl, Blk.le_refl _⟩, ⟨_, rfl, Blk.le_refl _⟩, ⟨rfl, dW8_nil a b, rfl⟩, trivial⟩ rfl rfl) ?_
        rintro ⟨⟨p, hp⟩, z⟩
        show At _ ⟨105, [(0, x.v), (1, y.v), (4, slv (some g0) 0 (nb a) (nb a)), (5, z.v), (10, .int .i64 ((p : Nat) - 1))], [⟨x.b, 3, NV .i64 (D8 a), x.n, false⟩, ⟨y.b, 3, NV .i64 (D8 b), y.n, false⟩, ⟨some g0, 3, NV .i64 (row (nb a) (quT a b p)), nb a, true⟩, ⟨z.b, 3, NV .i64 (D8 (a / 256 ^ p % b)), z.n, true⟩]⟩ _
        refine at_seq ?_
        refine at_seq ?_
        refine at_region ?_
        refine r_move rfl rfl rfl ?_
        refine r_cmpInt rfl rfl rfl rfl rfl ?_
        refine run_nil ?_
        refine at_tn ?_
        refine at_cond rfl (fun hb4 => ?_) (fun hb4 => ?_)
        ·
          obtain ⟨q, rfl⟩ : ∃ q, p = q + 1 := ⟨p - 1, by have := of_decide_eq_true hb4; omega⟩
          refine at_know 10 (.int .i64 (q : Nat)) rfl (congrArg (Value.int .i64) (by omega)) ?_
          have hR := Nat.mod_lt (a / 256 ^ (q + 1)) hb
          have hnR : nb (a / 256 ^ (q + 1) % b) ≤ nb b := nb_mono (Nat.le_of_lt hR)
          have hdq := m256 (a / 256 ^ q)
          have hWn := dW8_nb a b q
          refine at_base 3 rfl (fun hbase => ?_)
          refine at_skip ?_
          refine at_tn ?_
          refine at_seq ?_
          refine at_block ?_
          refine at_seq ?_
          refine at_region ?_
          refine r_move rfl rfl rfl ?_
          refine r_move rfl rfl rfl ?_
          refine r_indexAddr 0 (q) u85 ti3 rfl rfl rfl rfl rfl (by omega) (by omega) (NV_ne (by rw [D8_length]; omega)) (by show 0 + Int.toNat _ * 1 = _; omega) ?_
          refine r_load1 0 (q) ti3 rfl rfl rfl rfl (NV_get (D8_get (by omega))) ?_
          refine r_buildSlice [(0, _)] (fun g => [_, _, _, _, ⟨some g, 3, _, 1, true⟩]) rfl rfl rfl (bs85_1) rfl (fun _ => rfl) (fun g1 => ?_)
          refine r_move rfl rfl rfl ?_
          refine r_app8 4 3 (fun b n => [_, _, _, _, ⟨b, 3, _, n, true⟩]) u85 el3 rfl rfl rfl rfl rfl hbase rfl rfl (by omega) (fun _ _ => rfl) (fun r => ?_)
          refine r_scall0 [_] [4] rfl rfl rfl (c_ref02_trim (a / 256 ^ q % 256 :: D8 (a / 256 ^ (q + 1) % b)) (dW8_lt256 a b q) (by rw [List.length_cons, D8_length]; omega) (by rw [List.length_cons, D8_length]) r) ⟨⟨_, rfl, le_share⟩, trivial⟩ rfl ?_
          refine r_know 61 (slv r.b 0 (nb (dW8 a b q)) r.cap) rfl (by rw [dW8_trim]) ?_
          refine r_assign rfl rfl rfl ?_
          refine run_nil ?_
          refine at_tn ?_
          refine at_block ?_
          refine enterL (nt := 105) (ι := (x : {x : Nat × Nat // x.1 * b + x.2 = dW8 a b q}) × SR (nb x.1.2)) (fun ⟨⟨⟨m, rr⟩, hq⟩, z2⟩ => [(0, x.v), (1, y.v), (4, slv (some g0) 0 (nb a) (nb a)), (5, z2.v), (10, .int .i64 (q : Nat))]) (fun ⟨⟨⟨m, rr⟩, hq⟩, z2⟩ => [⟨x.b, 3, NV .i64 (D8 a), x.n, false⟩, ⟨y.b, 3, NV .i64 (D8 b), y.n, false⟩, ⟨some g0, 3, NV .i64 (row (nb a) (quS a b q m)), nb a, true⟩, ⟨z2.b, 3, NV .i64 (D8 (rr)), z2.n, true⟩]) (fun ⟨⟨⟨m, rr⟩, hq⟩, z2⟩ => rr) ⟨⟨(0, dW8 a b q), by omega⟩, ⟨r.b, r.n, r.cap, Nat.le_trans hWn r.h⟩⟩ ⟨rfl, rfl, rfl, rfl, rfl, trivial⟩ (weak_picks [some 0, some 1, some 2, some 4] ⟨⟨_, rfl, Blk.le_refl _⟩, ⟨_, rfl, Blk.le_refl _⟩, ⟨_, rfl, le_same (congrArg (fun c => (⟨some g0, 3, NV .i64 c, nb a, true⟩ : Blk)) (row_congr fun j _ => quS_zero a b q j))⟩, ⟨_, rfl, rfl, rfl, rfl, ⟨nb (dW8 a b q), dW8_take a b q⟩, fun _ => rfl⟩, trivial⟩ rfl rfl) ?_
          rintro ⟨⟨⟨m, rr⟩, hq⟩, z2⟩
          show At _ ⟨105, [(0, x.v), (1, y.v), (4, slv (some g0) 0 (nb a) (nb a)), (5, z2.v), (10, .int .i64 (q : Nat))], [⟨x.b, 3, NV .i64 (D8 a), x.n, false⟩, ⟨y.b, 3, NV .i64 (D8 b), y.n, false⟩, ⟨some g0, 3, NV .i64 (row (nb a) (quS a b q m)), nb a, true⟩, ⟨z2.b, 3, NV .i64 (D8 (rr)), z2.n, true⟩]⟩ _
          replace hq : m * b + rr = dW8 a b q := hq
          have hrn := dq8_bnd hb hq
          refine at_seq ?_
          refine at_seq ?_
          refine at_region ?_
          refine r_move rfl rfl rfl ?_
          refine r_move rfl rfl rfl ?_
          refine r_scall0 [_, _] [3, 1] rfl rfl rfl (c_ref02_compare rr b (by omega) z2 y) ⟨⟨_, rfl, le_share⟩, ⟨_, rfl, le_share⟩, trivial⟩ rfl ?_
          refine r_cmpInt rfl rfl rfl rfl rfl ?_
          refine r_move rfl rfl rfl ?_
          refine r_split 66 rfl (fun hb6 => ?_) (fun hb6 => ?_)
          ·
            have hge2 : b ≤ rr := cmpN_nonneg.1 (of_decide_eq_true hb6)
            have hm1 := dq8_lt (s := 1) hb hq (by omega)
            refine r_move rfl rfl rfl ?_
            refine r_move rfl rfl rfl ?_
            refine r_indexAddr 2 (q) u85 ti3 rfl rfl rfl rfl rfl (by omega) (by omega) (NV_ne (by rw [row_length]; omega)) (by show 0 + Int.toNat _ * 1 = _; omega) ?_
            refine r_load1 2 (q) ti3 rfl rfl rfl rfl (NV_get ((row_get (by omega)).trans (by rw [quS_at]))) ?_
            refine r_cmpInt rfl rfl rfl rfl rfl ?_
            refine r_pickT rfl rfl rfl rfl ?_
            refine run_nil ?_
            refine at_tn ?_
            refine at_cond rfl (fun hb7 => ?_) (fun hb7 => ?_)
            ·
              refine at_skip ?_
              refine at_tn ?_
              refine at_block ?_
              refine at_seq ?_
              refine at_region ?_
              refine r_move rfl rfl rfl ?_
              refine r_assign rfl rfl rfl ?_
              refine r_assign rfl rfl rfl ?_
              refine run_nil ?_
              refine at_tn ?_
              refine at_seq ?_
              refine at_block ?_
              refine enterL (nt := 105) (ι := (s : {s : Nat // 0 < s ∧ s ≤ 128 ∧ s * b ≤ rr}) × SR (nb (s.1 * b))) (fun ⟨⟨s, hs0, hs1, hs2⟩, z3⟩ => [(0, x.v), (1, y.v), (4, slv (some g0) 0 (nb a) (nb a)), (5, z2.v), (10, .int .i64 (q : Nat)), (11, .int .i64 (s : Nat)), (12, z3.v)]) (fun ⟨⟨s, hs0, hs1, hs2⟩, z3⟩ => [⟨x.b, 3, NV .i64 (D8 a), x.n, false⟩, ⟨y.b, 3, NV .i64 (D8 b), y.n, false⟩, ⟨some g0, 3, NV .i64 (row (nb a) (quS a b q m)), nb a, true⟩, ⟨z2.b, 3, NV .i64 (D8 (rr)), z2.n, true⟩, ⟨z3.b, 3, NV .i64 (D8 (s * b)), z3.n, false⟩]) (fun ⟨⟨s, hs0, hs1, hs2⟩, z3⟩ => 128 - s) ⟨⟨1, by omega, by omega, by omega⟩, ⟨y.b, y.n, y.cap, by rw [Nat.one_mul]; exact y.h⟩⟩ ⟨rfl, rfl, rfl, rfl, rfl, rfl, (look_val rfl (congrArg (fun n => slv y.b 0 (nb n) y.cap) (Nat.one_mul b).symm)), trivial⟩ (weak_picks [some 0, some 1, some 2, some 3, some 1] ⟨⟨_, rfl, Blk.le_refl _⟩, ⟨_, rfl, Blk.le_refl _⟩, ⟨_, rfl, Blk.le_refl _⟩, ⟨_, rfl, Blk.le_refl _⟩, ⟨_, rfl, le_same (congrArg (fun n => (⟨y.b, 3, NV .i64 (D8 n), y.n, false⟩ : Blk)) (Nat.one_mul b))⟩, trivial⟩ rfl rfl) ?_
              rintro ⟨⟨s, hs0, hs1, hs2⟩, z3⟩
              show At _ ⟨105, [(0, x.v), (1, y.v), (4, slv (some g0) 0 (nb a) (nb a)), (5, z2.v), (10, .int .i64 (q : Nat)), (11, .int .i64 (s : Nat)), (12, z3.v)], [⟨x.b, 3, NV .i64 (D8 a), x.n, false⟩, ⟨y.b, 3, NV .i64 (D8 b), y.n, false⟩, ⟨some g0, 3, NV .i64 (row (nb a) (quS a b q m)), nb a, true⟩, ⟨z2.b, 3, NV .i64 (D8 (rr)), z2.n, true⟩, ⟨z3.b, 3, NV .i64 (D8 (s * b)), z3.n, false⟩]⟩ _
              have e2 : 2 * s * b = s * b + s * b := by rw [Nat.two_mul, Nat.add_mul]
              replace hs2 : s * b ≤ rr := hs2
              have hsn : nb (s * b) ≤ nb rr := nb_mono hs2
              have hsn2 : nb (s * b + s * b) ≤ nb b + 2 := nb_le (by have h1 := lt_nb b; have h2 : s * b ≤ 128 * b := Nat.mul_le_mul_right _ hs1; rw [Nat.pow_succ, Nat.pow_succ]; omega)
              refine at_seq ?_
              refine at_seq ?_
              refine at_region ?_
              refine r_move rfl rfl rfl ?_
              refine r_arith (r := ((2 * s : Nat) : Int)) rfl rfl rfl rfl (congrArg some (wi (by omega) (by omega) (by omega))) ?_
              refine r_cmpInt rfl rfl rfl rfl rfl ?_
              refine r_move rfl rfl rfl ?_
              refine r_split 77 rfl (fun hb9 => ?_) (fun hb9 => ?_)
              ·
                have hs3 : 2 * s ≤ 128 := (by have := of_decide_eq_true hb9; omega)
                refine r_move rfl rfl rfl ?_
                refine r_move rfl rfl rfl ?_
                refine r_scall [_, _] [4, 4] rfl rfl rfl (c_ref02_plus (s * b) (s * b) (by omega) (by omega) z3 z3) ⟨⟨_, rfl, le_share⟩, ⟨_, rfl, le_share⟩, trivial⟩ rfl (.inr fun x b hb => by rw [List.mem_singleton.1 hb]) (fun z4 => ?_)
                refine r_move rfl rfl rfl ?_
                refine r_scall0 [_, _] [5, 3] rfl rfl rfl (c_ref02_compare (s * b + s * b) rr (by omega) z4 z2) ⟨⟨_, rfl, le_share⟩, ⟨_, rfl, le_share⟩, trivial⟩ rfl ?_
                refine r_cmpInt rfl rfl rfl rfl rfl ?_
                refine r_pickT rfl rfl rfl rfl ?_
                refine run_nil ?_
                refine at_tn ?_
                refine at_cond rfl (fun hb10 => ?_) (fun hb10 => ?_)
                ·
                  have hs4 : s * b + s * b ≤ rr := cmpN_nonpos.1 (of_decide_eq_true hb10)
                  refine at_skip ?_
                  refine at_tn ?_
                  refine at_block ?_
                  refine at_region ?_
                  refine r_move rfl rfl rfl ?_
                  refine r_arith (r := ((2 * s : Nat) : Int)) rfl rfl rfl rfl (congrArg some (wi (by omega) (by omega) (by omega))) ?_
                  refine r_move rfl rfl rfl ?_
                  refine r_move rfl rfl rfl ?_
                  refine r_scall [_, _] [4, 4] rfl rfl rfl (c_ref02_plus (s * b) (s * b) (by omega) (by omega) z3 z3) ⟨⟨_, rfl, le_share⟩, ⟨_, rfl, le_share⟩, trivial⟩ rfl (.inr fun x b hb => by rw [List.mem_singleton.1 hb]) (fun z5 => ?_)
                  refine r_assign rfl rfl rfl ?_
                  refine r_assign rfl rfl rfl ?_
                  refine run_nil ?_
                  refine at_bn ?_
                  refine at_tn ?_
                  exact nextL ⟨⟨2 * s, by omega, hs3, by rw [Nat.two_mul, Nat.add_mul]; exact hs4⟩, ⟨z5.b, z5.n, z5.cap, by show nb (2 * s * b) ≤ z5.cap; rw [e2]; exact z5.h⟩⟩ (by show 128 - 2 * s < 128 - s; omega) ⟨rfl, rfl, rfl, rfl, rfl, rfl, (look_val rfl (congrArg (fun n => slv z5.b 0 (nb n) z5.cap) e2.symm)), trivial⟩ (weak_picks [some 0, some 1, some 2, some 3, some 6] ⟨⟨_, rfl, Blk.le_refl _⟩, ⟨_, rfl, Blk.le_refl _⟩, ⟨_, rfl, Blk.le_refl _⟩, ⟨_, rfl, Blk.le_refl _⟩, ⟨_, rfl, ⟨rfl, rfl, rfl, ⟨(NV .i64 (D8 (s * b + s * b))).length, by show NV .i64 (D8 (2 * s * b)) = _; rw [e2, List.take_length]⟩, fun h => by cases h⟩⟩, trivial⟩ rfl rfl)
                ·
                  refine at_exit ?_
                  refine at_te ?_
                  refine at_te ?_
                  refine at_be ?_
                  refine at_tn ?_
                  refine at_drawn (l' := [⟨_,_,_,_,_,_⟩, ⟨_,_,_,_,_,_⟩, ⟨_,_,_,_,_,_⟩, ⟨_,_,_,_,_,_⟩, ⟨_,_,_,_,_,_⟩, ⟨_,_,_,_,_,_⟩, ⟨_,_,_,_,_,_⟩, ⟨_,_,_,_,_,_⟩, ⟨_,_,_,_,_,_⟩, ⟨_,_,_,_,_,_⟩, ⟨_,_,_,_,_,_⟩, ⟨_,_,_,_,_,_⟩, ⟨_,_,_,_,_,_⟩, ⟨_,_,_,_,_,_⟩]) [2000000] [0, 1, 2, 3, 5, 6, 7, 8, 9, 10, 4, 11, 12, 13] mixed (by kernel_rfl) rfl (by kernel_rfl) ?_
                  refine r_move rfl rfl rfl ?_
                  refine r_move rfl rfl rfl ?_
                  refine r_move rfl rfl rfl ?_
                  refine r_move rfl rfl rfl ?_
                  refine r_move rfl rfl rfl ?_
                  refine r_move rfl rfl rfl ?_
                  refine r_indexAddr 2 (q) u85 ti3 rfl rfl rfl rfl rfl (by omega) (by omega) (NV_ne (by rw [row_length]; omega)) (by show 0 + Int.toNat _ * 1 = _; omega) ?_
                  refine r_load1 2 (q) ti3 rfl rfl rfl rfl (NV_get ((row_get (by omega)).trans (by rw [quS_at]))) ?_
                  refine r_move rfl rfl rfl ?_
                  refine r_arith (r := ((m + s : Nat) : Int)) rfl rfl rfl rfl (congrArg some (wi (by omega) (by omega) (by omega))) ?_
                  refine r_scall [_, _] [3, 4] rfl rfl rfl (c_ref02_minus rr (s * b) (by omega) hs2 z2 z3) ⟨⟨_, rfl, le_share⟩, ⟨_, rfl, le_share⟩, trivial⟩ rfl (.inr fun x b hb => by rw [List.mem_singleton.1 hb]) (fun z6 => ?_)
                  refine r_assign rfl rfl rfl ?_
                  refine r_indexAddr 2 (q) u85 ti3 rfl rfl rfl rfl rfl (by omega) (by omega) (NV_ne (by rw [row_length]; omega)) (by show 0 + Int.toNat _ * 1 = _; omega) ?_
                  refine r_store1 rfl 2 (q) [_, _, ⟨some g0, 3, _, _, true⟩, _, _, _, _] (NV .i64 (row (nb a) (quS a b q (m + s)))) ti3 rfl rfl rfl rfl rfl rfl rfl rfl (by rw [NV_length, row_length]; omega) (by rw [NV_set, row_set (fun j _ => quS_step a b q m (m + s) j)]) rfl ?_
                  refine run_nil ?_
                  refine at_bn ?_
                  refine at_tn ?_
                  exact nextL ⟨⟨(m + s, rr - s * b), dq8_next hq hs2⟩, z6⟩ (by have := Nat.mul_pos hs0 hb; show rr - s * b < rr; omega) ⟨rfl, rfl, rfl, rfl, rfl, trivial⟩ (weak_picks [some 0, some 1, some 2, some 6] ⟨⟨_, rfl, Blk.le_refl _⟩, ⟨_, rfl, Blk.le_refl _⟩, ⟨_, rfl, Blk.le_refl _⟩, ⟨_, rfl, Blk.le_refl _⟩, trivial⟩ rfl rfl)
              ·
                refine r_no rfl rfl rfl ?_
                refine r_no rfl rfl rfl ?_
                refine r_no rfl rfl rfl ?_
                refine r_no rfl rfl rfl ?_
                refine r_no rfl rfl rfl ?_
                refine r_no rfl rfl rfl ?_
                refine r_pickF rfl rfl rfl rfl ?_
                refine run_nil ?_
                refine at_tn ?_
                refine at_condF rfl ?_
                refine at_exit ?_
                refine at_te ?_
                refine at_te ?_
                refine at_be ?_
                refine at_tn ?_
                refine at_drawn (l' := [⟨_,_,_,_,_,_⟩, ⟨_,_,_,_,_,_⟩, ⟨_,_,_,_,_,_⟩, ⟨_,_,_,_,_,_⟩, ⟨_,_,_,_,_,_⟩, ⟨_,_,_,_,_,_⟩, ⟨_,_,_,_,_,_⟩, ⟨_,_,_,_,_,_⟩, ⟨_,_,_,_,_,_⟩, ⟨_,_,_,_,_,_⟩, ⟨_,_,_,_,_,_⟩, ⟨_,_,_,_,_,_⟩, ⟨_,_,_,_,_,_⟩, ⟨_,_,_,_,_,_⟩]) [2000000] [0, 1, 2, 3, 5, 6, 7, 8, 9, 10, 4, 11, 12, 13] mixed (by kernel_rfl) rfl (by kernel_rfl) ?_
                refine r_move rfl rfl rfl ?_
                refine r_move rfl rfl rfl ?_
                refine r_move rfl rfl rfl ?_
                refine r_move rfl rfl rfl ?_
                refine r_move rfl rfl rfl ?_
                refine r_move rfl rfl rfl ?_
                refine r_indexAddr 2 (q) u85 ti3 rfl rfl rfl rfl rfl (by omega) (by omega) (NV_ne (by rw [row_length]; omega)) (by show 0 + Int.toNat _ * 1 = _; omega) ?_
                refine r_load1 2 (q) ti3 rfl rfl rfl rfl (NV_get ((row_get (by omega)).trans (by rw [quS_at]))) ?_
                refine r_move rfl rfl rfl ?_
                refine r_arith (r := ((m + s : Nat) : Int)) rfl rfl rfl rfl (congrArg some (wi (by omega) (by omega) (by omega))) ?_
                refine r_scall [_, _] [3, 4] rfl rfl rfl (c_ref02_minus rr (s * b) (by omega) hs2 z2 z3) ⟨⟨_, rfl, le_share⟩, ⟨_, rfl, le_share⟩, trivial⟩ rfl (.inr fun x b hb => by rw [List.mem_singleton.1 hb]) (fun z6 => ?_)
                refine r_assign rfl rfl rfl ?_
                refine r_indexAddr 2 (q) u85 ti3 rfl rfl rfl rfl rfl (by omega) (by omega) (NV_ne (by rw [row_length]; omega)) (by show 0 + Int.toNat _ * 1 = _; omega) ?_
                refine r_store1 rfl 2 (q) [_, _, ⟨some g0, 3, _, _, true⟩, _, _, _] (NV .i64 (row (nb a) (quS a b q (m + s)))) ti3 rfl rfl rfl rfl rfl rfl rfl rfl (by rw [NV_length, row_length]; omega) (by rw [NV_set, row_set (fun j _ => quS_step a b q m (m + s) j)]) rfl ?_
                refine run_nil ?_
                refine at_bn ?_
                refine at_tn ?_
                exact nextL ⟨⟨(m + s, rr - s * b), dq8_next hq hs2⟩, z6⟩ (by have := Nat.mul_pos hs0 hb; show rr - s * b < rr; omega) ⟨rfl, rfl, rfl, rfl, rfl, trivial⟩ (weak_picks [some 0, some 1, some 2, some 5] ⟨⟨_, rfl, Blk.le_refl _⟩, ⟨_, rfl, Blk.le_refl _⟩, ⟨_, rfl, Blk.le_refl _⟩, ⟨_, rfl, Blk.le_refl _⟩, trivial⟩ rfl rfl)
            · exact absurd (of_decide_eq_false hb7) (by omega)
          ·
            have hlt2 : rr < b := by have := of_decide_eq_false hb6; rw [cmpN_nonneg] at this; omega
            obtain ⟨hm, hr⟩ := dq8 hb hq hlt2
            subst hm; subst hr
            refine r_no rfl rfl rfl ?_
            refine r_no rfl rfl rfl ?_
            refine r_no rfl rfl rfl ?_
            refine r_no rfl rfl rfl ?_
            refine r_no rfl rfl rfl ?_
            refine r_pickF rfl rfl rfl rfl ?_
            refine run_nil ?_
            refine at_tn ?_
            refine at_condF rfl ?_
            refine at_exit ?_
            refine at_te ?_
            refine at_te ?_
            refine at_be ?_
            refine at_bn ?_
            refine at_tn ?_
            refine at_region ?_
            refine r_move rfl rfl rfl ?_
            refine r_arith (r := ((q : Nat) : Int) - 1) rfl rfl rfl rfl (congrArg some (wi (by omega) (by omega) (by omega))) ?_
            refine r_assign rfl rfl rfl ?_
            refine run_nil ?_
            refine at_tn ?_
            exact nextL ⟨⟨q, by omega⟩, z2⟩ (Nat.lt_succ_self q) ⟨rfl, rfl, rfl, rfl, rfl, trivial⟩ (weak_picks [some 0, some 1, some 2, some 3] ⟨⟨_, rfl, Blk.le_refl _⟩, ⟨_, rfl, Blk.le_refl _⟩, ⟨_, rfl, le_same (congrArg (fun c => (⟨some g0, 3, NV .i64 c, nb a, true⟩ : Blk)) (row_congr fun j _ => (quS_end a b q j).symm))⟩, ⟨_, rfl, Blk.le_refl _⟩, trivial⟩ rfl rfl)
        ·
          have hp0 : p = 0 := by have := of_decide_eq_false hb4; omega
          subst hp0
          refine at_exit ?_
          refine at_te ?_
          refine at_te ?_
          refine at_be ?_
          refine at_tn ?_
          refine at_seq ?_
          refine at_region ?_
          refine r_move rfl rfl rfl ?_
          refine r_scall0 [_] [2] rfl rfl rfl (c_ref02_trim (row (nb a) (quT a b 0)) (row_lt fun j => quT_lt a b 0 j) (by rw [row_length]; omega) (row_length _ _) ⟨some g0, nb a, nb a, Nat.le_refl _⟩) ⟨⟨_, rfl, le_share⟩, trivial⟩ rfl ?_
          refine r_know 103 (slv (some g0) 0 (nb (a / b)) (nb a)) rfl (by rw [quT_trim]; rfl) ?_
          refine r_move rfl rfl rfl ?_
          refine r_assign rfl rfl rfl ?_
          refine r_assign rfl rfl rfl ?_
          refine run_nil ?_
          refine at_tn ?_
          refine at_ret ?_
          refine at_end2 rfl (res_tmp rfl) (res_tmp rfl) (fun w hL => ⟨.inl (⟨some g0, nb a, nb a, nb_mono (Nat.div_le_self _ _)⟩, ⟨z.b, z.n, z.cap, by have h := z.h; simp only [Nat.pow_zero, Nat.div_one] at h; exact h⟩), ?_, ?_⟩)
          · exact congrArg (fun n => Ending.returned (.tuple #[slv (some g0) 0 (nb (a / b)) (nb a), slv z.b 0 (nb n) z.cap])) (show a / 256 ^ 0 % b = a % b by rw [Nat.pow_zero, Nat.div_one])
          · exact hL.picks [some 2, some 3] ⟨⟨_, rfl, rfl, rfl, rfl, ⟨nb (a / b), quT_take a b⟩, fun _ => rfl⟩, ⟨_, rfl, le_same (congrArg (fun n => (⟨z.b, 3, NV .i64 (D8 n), z.n, true⟩ : Blk)) (show a % b = a / 256 ^ 0 % b by rw [Nat.pow_zero, Nat.div_one]))⟩, trivial⟩ rfl rfl
  ·
    refine r_no rfl rfl rfl ?_
    refine r_pickF rfl rfl rfl rfl ?_
    refine r_move rfl rfl rfl ?_
    refine r_no rfl rfl rfl ?_
    refine r_no rfl rfl rfl ?_
    refine r_pickF rfl rfl rfl rfl ?_
    refine run_nil ?_
    refine at_tn ?_
    refine at_condF rfl ?_
    refine at_skip ?_
    refine at_tn ?_
    refine at_seq ?_
    refine at_seq ?_
    refine at_region ?_
    refine r_move rfl rfl rfl ?_
    refine r_move rfl rfl rfl ?_
    refine r_scall0 [_, _] [0, 1] rfl rfl rfl (c_ref02_compare a b (by omega) x y) ⟨⟨_, rfl, le_share⟩, ⟨_, rfl, le_share⟩, trivial⟩ rfl ?_
    refine r_cmpInt rfl rfl rfl rfl rfl ?_
    refine run_nil ?_
    refine at_tn ?_
    refine at_cond rfl (fun hb1 => ?_) (fun hb1 => ?_)
    ·
      have hlt : a < b := cmpN_lt0.1 (of_decide_eq_true hb1)
      refine at_seq ?_
      refine at_region ?_
      refine r_move rfl rfl rfl ?_
      refine r_assign rfl rfl rfl ?_
      refine r_assign rfl rfl rfl ?_
      refine run_nil ?_
      refine at_tn ?_
      refine at_ret ?_
      refine at_tr ?_
      refine at_end2 rfl (res_tmp rfl) (res_tmp rfl) (fun w hL => ⟨.inr ⟨hlt⟩, ?_, hL.picks [] trivial rfl rfl⟩)
      exact rfl
    ·
      have hge : b ≤ a := by have := of_decide_eq_false hb1; rw [cmpN_lt0] at this; omega
      refine at_skip ?_
      refine at_tn ?_
      refine at_seq ?_
      refine at_region ?_
      refine r_move rfl rfl rfl ?_
      refine r_lenS u85 rfl rfl rfl ?_
      refine q_makeSlice (c := nb a) (NV .i64 (row (nb a) (quT a b (nb a)))) (fun g => [_, _, ⟨some g, 3, _, _, true⟩]) u85 el3 rfl rfl rfl rfl rfl rfl (by omega) (by rw [row_congr (g := fun _ => 0) (fun j hj => quT_top a b hj), row_zero, NV_replicate]) (fun _ => rfl) (fun g0 => ?_)
      refine r_assign rfl rfl rfl ?_
      refine run_nil ?_
      refine at_tn ?_
      refine at_seq ?_
      refine at_seq ?_
      refine at_region ?_
      refine r_move rfl rfl rfl ?_
      refine r_lenS u85 rfl rfl rfl ?_
      refine r_arith (r := ((nb a : Nat) : Int) - 1) rfl rfl rfl rfl (congrArg some (wi (by omega) (by omega) (by omega))) ?_
      refine r_assign rfl rfl rfl ?_
      refine run_nil ?_
      refine at_tn ?_
      refine at_block ?_
      refine enterL (nt := 105) (ι := (p : {p : Nat // p ≤ nb a}) × SR (nb (a / 256 ^ p.1 % b))) (fun ⟨⟨p, hp⟩, z⟩ => [(0, x.v), (1, y.v), (4, slv (some g0) 0 (nb a) (nb a)), (5, z.v), (10, .int .i64 ((p : Nat) - 1))]) (fun ⟨⟨p, hp⟩, z⟩ => [⟨x.b, 3, NV .i64 (D8 a), x.n, false⟩, ⟨y.b, 3, NV .i64 (D8 b), y.n, false⟩, ⟨some g0, 3, NV .i64 (row (nb a) (quT a b p)), nb a, true⟩, ⟨z.b, 3, NV .i64 (D8 (a / 256 ^ p % b)), z.n, true⟩]) (fun ⟨⟨p, hp⟩, z⟩ => p) ⟨⟨nb a, Nat.le_refl _⟩, ⟨none, 0, 0, by rw [dW8_top, nb_zero]; exact Nat.le_refl _⟩⟩ ⟨rfl, rfl, rfl, (look_val rfl (dW8_nilv a b)), rfl, trivial⟩ (weak_picks [some 0, some 1, some 2, none] ⟨⟨_, rfl, Blk.le_refl _⟩, ⟨_, rfl, Blk.le_refl _⟩, ⟨_, rfl, Blk.le_refl _⟩, ⟨rfl, dW8_nil a b, rfl⟩, trivial⟩ rfl rfl) ?_
      rintro ⟨⟨p, hp⟩, z⟩
      show At _ ⟨105, [(0, x.v), (1, y.v), (4, slv (some g0) 0 (nb a) (nb a)), (5, z.v), (10, .int .i64 ((p : Nat) - 1))], [⟨x.b, 3, NV .i64 (D8 a), x.n, false⟩, ⟨y.b, 3, NV .i64 (D8 b), y.n, false⟩, ⟨some g0, 3, NV .i64 (row (nb a) (quT a b p)), nb a, true⟩, ⟨z.b, 3, NV .i64 (D8 (a / 256 ^ p % b)), z.n, true⟩]⟩ _
      refine at_seq ?_
      refine at_seq ?_
      refine at_region ?_
      refine r_move rfl rfl rfl ?_
      refine r_cmpInt rfl rfl rfl rfl rfl ?_
      refine run_nil ?_
      refine at_tn ?_
      refine at_cond rfl (fun hb3 => ?_) (fun hb3 => ?_)
      ·
        obtain ⟨q, rfl⟩ : ∃ q, p = q + 1 := ⟨p - 1, by have := of_decide_eq_true hb3; omega⟩
        refine at_know 10 (.int .i64 (q : Nat)) rfl (congrArg (Value.int .i64) (by omega)) ?_
        have hR := Nat.mod_lt (a / 256 ^ (q + 1)) hb
        have hnR : nb (a / 256 ^ (q + 1) % b) ≤ nb b := nb_mono (Nat.le_of_lt hR)
        have hdq := m256 (a / 256 ^ q)
        have hWn := dW8_nb a b q
        refine at_base 3 rfl (fun hbase => ?_)
        refine at_skip ?_
        refine at_tn ?_
        refine at_seq ?_
        refine at_block ?_
        refine at_seq ?_
        refine at_region ?_
        refine r_move rfl rfl rfl ?_
        refine r_move rfl rfl rfl ?_
        refine r_indexAddr 0 (q) u85 ti3 rfl rfl rfl rfl rfl (by omega) (by omega) (NV_ne (by rw [D8_length]; omega)) (by show 0 + Int.toNat _ * 1 = _; omega) ?_
        refine r_load1 0 (q) ti3 rfl rfl rfl rfl (NV_get (D8_get (by omega))) ?_
        refine r_buildSlice [(0, _)] (fun g => [_, _, _, _, ⟨some g, 3, _, 1, true⟩]) rfl rfl rfl (bs85_1) rfl (fun _ => rfl) (fun g1 => ?_)
        refine r_move rfl rfl rfl ?_
        refine r_app8 4 3 (fun b n => [_, _, _, _, ⟨b, 3, _, n, true⟩]) u85 el3 rfl rfl rfl rfl rfl hbase rfl rfl (by omega) (fun _ _ => rfl) (fun r => ?_)
        refine r_scall0 [_] [4] rfl rfl rfl (c_ref02_trim (a / 256 ^ q % 256 :: D8 (a / 256 ^ (q + 1) % b)) (dW8_lt256 a b q) (by rw [List.length_cons, D8_length]; omega) (by rw [List.length_cons, D8_length]) r) ⟨⟨_, rfl, le_share⟩, trivial⟩ rfl ?_
        refine r_know 61 (slv r.b 0 (nb (dW8 a b q)) r.cap) rfl (by rw [dW8_trim]) ?_
        refine r_assign rfl rfl rfl ?_
        refine run_nil ?_
        refine at_tn ?_
        refine at_block ?_
        refine enterL (nt := 105) (ι := (x : {x : Nat × Nat // x.1 * b + x.2 = dW8 a b q}) × SR (nb x.1.2)) (fun ⟨⟨⟨m, rr⟩, hq⟩, z2⟩ => [(0, x.v), (1, y.v), (4, slv (some g0) 0 (nb a) (nb a)), (5, z2.v), (10, .int .i64 (q : Nat))]) (fun ⟨⟨⟨m, rr⟩, hq⟩, z2⟩ => [⟨x.b, 3, NV .i64 (D8 a), x.n, false⟩, ⟨y.b, 3, NV .i64 (D8 b), y.n, false⟩, ⟨some g0, 3, NV .i64 (row (nb a) (quS a b q m)), nb a, true⟩, ⟨z2.b, 3, NV .i64 (D8 (rr)), z2.n, true⟩]) (fun ⟨⟨⟨m, rr⟩, hq⟩, z2⟩ => rr) ⟨⟨(0, dW8 a b q), by omega⟩, ⟨r.b, r.n, r.cap, Nat.le_trans hWn r.h⟩⟩ ⟨rfl, rfl, rfl, rfl, rfl, trivial⟩ (weak_picks [some 0, some 1, some 2, some 4] ⟨⟨_, rfl, Blk.le_refl _⟩, ⟨_, rfl, Blk.le_refl _⟩, ⟨_, rfl, le_same (congrArg (fun c => (⟨some g0, 3, NV .i64 c, nb a, true⟩ : Blk)) (row_congr fun j _ => quS_zero a b q j))⟩, ⟨_, rfl, rfl, rfl, rfl, ⟨nb (dW8 a b q), dW8_take a b q⟩, fun _ => rfl⟩, trivial⟩ rfl rfl) ?_
        rintro ⟨⟨⟨m, rr⟩, hq⟩, z2⟩
        show At _ ⟨105, [(0, x.v), (1, y.v), (4, slv (some g0) 0 (nb a) (nb a)), (5, z2.v), (10, .int .i64 (q : Nat))], [⟨x.b, 3, NV .i64 (D8 a), x.n, false⟩, ⟨y.b, 3, NV .i64 (D8 b), y.n, false⟩, ⟨some g0, 3, NV .i64 (row (nb a) (quS a b q m)), nb a, true⟩, ⟨z2.b, 3, NV .i64 (D8 (rr)), z2.n, true⟩]⟩ _
        replace hq : m * b + rr = dW8 a b q := hq
        have hrn := dq8_bnd hb hq
        refine at_seq ?_
        refine at_seq ?_
        refine at_region ?_
        refine r_move rfl rfl rfl ?_
        refine r_move rfl rfl rfl ?_
        refine r_scall0 [_, _] [3, 1] rfl rfl rfl (c_ref02_compare rr b (by omega) z2 y) ⟨⟨_, rfl, le_share⟩, ⟨_, rfl, le_share⟩, trivial⟩ rfl ?_
        refine r_cmpInt rfl rfl rfl rfl rfl ?_
        refine r_move rfl rfl rfl ?_
        refine r_split 66 rfl (fun hb5 => ?_) (fun hb5 => ?_)
        ·
          have hge2 : b ≤ rr := cmpN_nonneg.1 (of_decide_eq_true hb5)
          have hm1 := dq8_lt (s := 1) hb hq (by omega)
          refine r_move rfl rfl rfl ?_
          refine r_move rfl rfl rfl ?_
          refine r_indexAddr 2 (q) u85 ti3 rfl rfl rfl rfl rfl (by omega) (by omega) (NV_ne (by rw [row_length]; omega)) (by show 0 + Int.toNat _ * 1 = _; omega) ?_
          refine r_load1 2 (q) ti3 rfl rfl rfl rfl (NV_get ((row_get (by omega)).trans (by rw [quS_at]))) ?_
          refine r_cmpInt rfl rfl rfl rfl rfl ?_
          refine r_pickT rfl rfl rfl rfl ?_
          refine run_nil ?_
          refine at_tn ?_
          refine at_cond rfl (fun hb6 => ?_) (fun hb6 => ?_)
          ·
            refine at_skip ?_
            refine at_tn ?_
            refine at_block ?_
            refine at_seq ?_
            refine at_region ?_
            refine r_move rfl rfl rfl ?_
            refine r_assign rfl rfl rfl ?_
            refine r_assign rfl rfl rfl ?_
            refine run_nil ?_
            refine at_tn ?_
            refine at_seq ?_
            refine at_block ?_
            refine enterL (nt := 105) (ι := (s : {s : Nat // 0 < s ∧ s ≤ 128 ∧ s * b ≤ rr}) × SR (nb (s.1 * b))) (fun ⟨⟨s, hs0, hs1, hs2⟩, z3⟩ => [(0, x.v), (1, y.v), (4, slv (some g0) 0 (nb a) (nb a)), (5, z2.v), (10, .int .i64 (q : Nat)), (11, .int .i64 (s : Nat)), (12, z3.v)]) (fun ⟨⟨s, hs0, hs1, hs2⟩, z3⟩ => [⟨x.b, 3, NV .i64 (D8 a), x.n, false⟩, ⟨y.b, 3, NV .i64 (D8 b), y.n, false⟩, ⟨some g0, 3, NV .i64 (row (nb a) (quS a b q m)), nb a, true⟩, ⟨z2.b, 3, NV .i64 (D8 (rr)), z2.n, true⟩, ⟨z3.b, 3, NV .i64 (D8 (s * b)), z3.n, false⟩]) (fun ⟨⟨s, hs0, hs1, hs2⟩, z3⟩ => 128 - s) ⟨⟨1, by omega, by omega, by omega⟩, ⟨y.b, y.n, y.cap, by rw [Nat.one_mul]; exact y.h⟩⟩ ⟨rfl, rfl, rfl, rfl, rfl, rfl, (look_val rfl (congrArg (fun n => slv y.b 0 (nb n) y.cap) (Nat.one_mul b).symm)), trivial⟩ (weak_picks [some 0, some 1, some 2, some 3, some 1] ⟨⟨_, rfl, Blk.le_refl _⟩, ⟨_, rfl, Blk.le_refl _⟩, ⟨_, rfl, Blk.le_refl _⟩, ⟨_, rfl, Blk.le_refl _⟩, ⟨_, rfl, le_same (congrArg (fun n => (⟨y.b, 3, NV .i64 (D8 n), y.n, false⟩ : Blk)) (Nat.one_mul b))⟩, trivial⟩ rfl rfl) ?_
            rintro ⟨⟨s, hs0, hs1, hs2⟩, z3⟩
            show At _ ⟨105, [(0, x.v), (1, y.v), (4, slv (some g0) 0 (nb a) (nb a)), (5, z2.v), (10, .int .i64 (q : Nat)), (11, .int .i64 (s : Nat)), (12, z3.v)], [⟨x.b, 3, NV .i64 (D8 a), x.n, false⟩, ⟨y.b, 3, NV .i64 (D8 b), y.n, false⟩, ⟨some g0, 3, NV .i64 (row (nb a) (quS a b q m)), nb a, true⟩, ⟨z2.b, 3, NV .i64 (D8 (rr)), z2.n, true⟩, ⟨z3.b, 3, NV .i64 (D8 (s * b)), z3.n, false⟩]⟩ _
            have e2 : 2 * s * b = s * b + s * b := by rw [Nat.two_mul, Nat.add_mul]
            replace hs2 : s * b ≤ rr := hs2
            have hsn : nb (s * b) ≤ nb rr := nb_mono hs2
            have hsn2 : nb (s * b + s * b) ≤ nb b + 2 := nb_le (by have h1 := lt_nb b; have h2 : s * b ≤ 128 * b := Nat.mul_le_mul_right _ hs1; rw [Nat.pow_succ, Nat.pow_succ]; omega)
            refine at_seq ?_
            refine at_seq ?_
            refine at_region ?_
            refine r_move rfl rfl rfl ?_
            refine r_arith (r := ((2 * s : Nat) : Int)) rfl rfl rfl rfl (congrArg some (wi (by omega) (by omega) (by omega))) ?_
            refine r_cmpInt rfl rfl rfl rfl rfl ?_
            refine r_move rfl rfl rfl ?_
            refine r_split 77 rfl (fun hb8 => ?_) (fun hb8 => ?_)
            ·
              have hs3 : 2 * s ≤ 128 := (by have := of_decide_eq_true hb8; omega)
              refine r_move rfl rfl rfl ?_
              refine r_move rfl rfl rfl ?_
              refine r_scall [_, _] [4, 4] rfl rfl rfl (c_ref02_plus (s * b) (s * b) (by omega) (by omega) z3 z3) ⟨⟨_, rfl, le_share⟩, ⟨_, rfl, le_share⟩, trivial⟩ rfl (.inr fun x b hb => by rw [List.mem_singleton.1 hb]) (fun z4 => ?_)
              refine r_move rfl rfl rfl ?_
              refine r_scall0 [_, _] [5, 3] rfl rfl rfl (c_ref02_compare (s * b + s * b) rr (by omega) z4 z2) ⟨⟨_, rfl, le_share⟩, ⟨_, rfl, le_share⟩, trivial⟩ rfl ?_
              refine r_cmpInt rfl rfl rfl rfl rfl ?_
              refine r_pickT rfl rfl rfl rfl ?_
              refine run_nil ?_
              refine at_tn ?_
              refine at_cond rfl (fun hb9 => ?_) (fun hb9 => ?_)
              ·
                have hs4 : s * b + s * b ≤ rr := cmpN_nonpos.1 (of_decide_eq_true hb9)
                refine at_skip ?_
                refine at_tn ?_
                refine at_block ?_
                refine at_region ?_
                refine r_move rfl rfl rfl ?_
                refine r_arith (r := ((2 * s : Nat) : Int)) rfl rfl rfl rfl (congrArg some (wi (by omega) (by omega) (by omega))) ?_
                refine r_move rfl rfl rfl ?_
                refine r_move rfl rfl rfl ?_
                refine r_scall [_, _] [4, 4] rfl rfl rfl (c_ref02_plus (s * b) (s * b) (by omega) (by omega) z3 z3) ⟨⟨_, rfl, le_share⟩, ⟨_, rfl, le_share⟩, trivial⟩ rfl (.inr fun x b hb => by rw [List.mem_singleton.1 hb]) (fun z5 => ?_)
                refine r_assign rfl rfl rfl ?_
                refine r_assign rfl rfl rfl ?_
                refine run_nil ?_
                refine at_bn ?_
                refine at_tn ?_
                exact nextL ⟨⟨2 * s, by omega, hs3, by rw [Nat.two_mul, Nat.add_mul]; exact hs4⟩, ⟨z5.b, z5.n, z5.cap, by show nb (2 * s * b) ≤ z5.cap; rw [e2]; exact z5.h⟩⟩ (by show 128 - 2 * s < 128 - s; omega) ⟨rfl, rfl, rfl, rfl, rfl, rfl, (look_val rfl (congrArg (fun n => slv z5.b 0 (nb n) z5.cap) e2.symm)), trivial⟩ (weak_picks [some 0, some 1, some 2, some 3, some 6] ⟨⟨_, rfl, Blk.le_refl _⟩, ⟨_, rfl, Blk.le_refl _⟩, ⟨_, rfl, Blk.le_refl _⟩, ⟨_, rfl, Blk.le_refl _⟩, ⟨_, rfl, ⟨rfl, rfl, rfl, ⟨(NV .i64 (D8 (s * b + s * b))).length, by show NV .i64 (D8 (2 * s * b)) = _; rw [e2, List.take_length]⟩, fun h => by cases h⟩⟩, trivial⟩ rfl rfl)
              ·
                refine at_exit ?_
                refine at_te ?_
                refine at_te ?_
                refine at_be ?_
                refine at_tn ?_
                refine at_drawn (l' := [⟨_,_,_,_,_,_⟩, ⟨_,_,_,_,_,_⟩, ⟨_,_,_,_,_,_⟩, ⟨_,_,_,_,_,_⟩, ⟨_,_,_,_,_,_⟩, ⟨_,_,_,_,_,_⟩, ⟨_,_,_,_,_,_⟩, ⟨_,_,_,_,_,_⟩, ⟨_,_,_,_,_,_⟩, ⟨_,_,_,_,_,_⟩, ⟨_,_,_,_,_,_⟩, ⟨_,_,_,_,_,_⟩, ⟨_,_,_,_,_,_⟩, ⟨_,_,_,_,_,_⟩]) [2000000] [0, 1, 2, 3, 5, 6, 7, 8, 9, 10, 4, 11, 12, 13] mixed (by kernel_rfl) rfl (by kernel_rfl) ?_
                refine r_move rfl rfl rfl ?_
                refine r_move rfl rfl rfl ?_
                refine r_move rfl rfl rfl ?_
                refine r_move rfl rfl rfl ?_
                refine r_move rfl rfl rfl ?_
                refine r_move rfl rfl rfl ?_
                refine r_indexAddr 2 (q) u85 ti3 rfl rfl rfl rfl rfl (by omega) (by omega) (NV_ne (by rw [row_length]; omega)) (by show 0 + Int.toNat _ * 1 = _; omega) ?_
                refine r_load1 2 (q) ti3 rfl rfl rfl rfl (NV_get ((row_get (by omega)).trans (by rw [quS_at]))) ?_
                refine r_move rfl rfl rfl ?_
                refine r_arith (r := ((m + s : Nat) : Int)) rfl rfl rfl rfl (congrArg some (wi (by omega) (by omega) (by omega))) ?_
                refine r_scall [_, _] [3, 4] rfl rfl rfl (c_ref02_minus rr (s * b) (by omega) hs2 z2 z3) ⟨⟨_, rfl, le_share⟩, ⟨_, rfl, le_share⟩, trivial⟩ rfl (.inr fun x b hb => by rw [List.mem_singleton.1 hb]) (fun z6 => ?_)
                refine r_assign rfl rfl rfl ?_
                refine r_indexAddr 2 (q) u85 ti3 rfl rfl rfl rfl rfl (by omega) (by omega) (NV_ne (by rw [row_length]; omega)) (by show 0 + Int.toNat _ * 1 = _; omega) ?_
                refine r_store1 rfl 2 (q) [_, _, ⟨some g0, 3, _, _, true⟩, _, _, _, _] (NV .i64 (row (nb a) (quS a b q (m + s)))) ti3 rfl rfl rfl rfl rfl rfl rfl rfl (by rw [NV_length, row_length]; omega) (by rw [NV_set, row_set (fun j _ => quS_step a b q m (m + s) j)]) rfl ?_
                refine run_nil ?_
                refine at_bn ?_
                refine at_tn ?_
                exact nextL ⟨⟨(m + s, rr - s * b), dq8_next hq hs2⟩, z6⟩ (by have := Nat.mul_pos hs0 hb; show rr - s * b < rr; omega) ⟨rfl, rfl, rfl, rfl, rfl, trivial⟩ (weak_picks [some 0, some 1, some 2, some 6] ⟨⟨_, rfl, Blk.le_refl _⟩, ⟨_, rfl, Blk.le_refl _⟩, ⟨_, rfl, Blk.le_refl _⟩, ⟨_, rfl, Blk.le_refl _⟩, trivial⟩ rfl rfl)
            ·
              refine r_no rfl rfl rfl ?_
              refine r_no rfl rfl rfl ?_
              refine r_no rfl rfl rfl ?_
              refine r_no rfl rfl rfl ?_
              refine r_no rfl rfl rfl ?_
              refine r_no rfl rfl rfl ?_
              refine r_pickF rfl rfl rfl rfl ?_
              refine run_nil ?_
              refine at_tn ?_
              refine at_condF rfl ?_
              refine at_exit ?_
              refine at_te ?_
              refine at_te ?_
              refine at_be ?_
              refine at_tn ?_
              refine at_drawn (l' := [⟨_,_,_,_,_,_⟩, ⟨_,_,_,_,_,_⟩, ⟨_,_,_,_,_,_⟩, ⟨_,_,_,_,_,_⟩, ⟨_,_,_,_,_,_⟩, ⟨_,_,_,_,_,_⟩, ⟨_,_,_,_,_,_⟩, ⟨_,_,_,_,_,_⟩, ⟨_,_,_,_,_,_⟩, ⟨_,_,_,_,_,_⟩, ⟨_,_,_,_,_,_⟩, ⟨_,_,_,_,_,_⟩, ⟨_,_,_,_,_,_⟩, ⟨_,_,_,_,_,_⟩]) [2000000] [0, 1, 2, 3, 5, 6, 7, 8, 9, 10, 4, 11, 12, 13] mixed (by kernel_rfl) rfl (by kernel_rfl) ?_
              refine r_move rfl rfl rfl ?_
              refine r_move rfl rfl rfl ?_
              refine r_move rfl rfl rfl ?_
              refine r_move rfl rfl rfl ?_
              refine r_move rfl rfl rfl ?_
              refine r_move rfl rfl rfl ?_
              refine r_indexAddr 2 (q) u85 ti3 rfl rfl rfl rfl rfl (by omega) (by omega) (NV_ne (by rw [row_length]; omega)) (by show 0 + Int.toNat _ * 1 = _; omega) ?_
              refine r_load1 2 (q) ti3 rfl rfl rfl rfl (NV_get ((row_get (by omega)).trans (by rw [quS_at]))) ?_
              refine r_move rfl rfl rfl ?_
              refine r_arith (r := ((m + s : Nat) : Int)) rfl rfl rfl rfl (congrArg some (wi (by omega) (by omega) (by omega))) ?_
              refine r_scall [_, _] [3, 4] rfl rfl rfl (c_ref02_minus rr (s * b) (by omega) hs2 z2 z3) ⟨⟨_, rfl, le_share⟩, ⟨_, rfl, le_share⟩, trivial⟩ rfl (.inr fun x b hb => by rw [List.mem_singleton.1 hb]) (fun z6 => ?_)
              refine r_assign rfl rfl rfl ?_
              refine r_indexAddr 2 (q) u85 ti3 rfl rfl rfl rfl rfl (by omega) (by omega) (NV_ne (by rw [row_length]; omega)) (by show 0 + Int.toNat _ * 1 = _; omega) ?_
              refine r_store1 rfl 2 (q) [_, _, ⟨some g0, 3, _, _, true⟩, _, _, _] (NV .i64 (row (nb a) (quS a b q (m + s)))) ti3 rfl rfl rfl rfl rfl rfl rfl rfl (by rw [NV_length, row_length]; omega) (by rw [NV_set, row_set (fun j _ => quS_step a b q m (m + s) j)]) rfl ?_
              refine run_nil ?_
              refine at_bn ?_
              refine at_tn ?_
              exact nextL ⟨⟨(m + s, rr - s * b), dq8_next hq hs2⟩, z6⟩ (by have := Nat.mul_pos hs0 hb; show rr - s * b < rr; omega) ⟨rfl, rfl, rfl, rfl, rfl, trivial⟩ (weak_picks [some 0, some 1, some 2, some 5] ⟨⟨_, rfl, Blk.le_refl _⟩, ⟨_, rfl, Blk.le_refl _⟩, ⟨_, rfl, Blk.le_refl _⟩, ⟨_, rfl, Blk.le_refl _⟩, trivial⟩ rfl rfl)
          · exact absurd (of_decide_eq_false hb6) (by omega)
        ·
          have hlt2 : rr < b := by have := of_decide_eq_false hb5; rw [cmpN_nonneg] at this; omega
          obtain ⟨hm, hr⟩ := dq8 hb hq hlt2
          subst hm; subst hr
          refine r_no rfl rfl rfl ?_
          refine r_no rfl rfl rfl ?_
          refine r_no rfl rfl rfl ?_
          refine r_no rfl rfl rfl ?_
          refine r_no rfl rfl rfl ?_
          refine r_pickF rfl rfl rfl rfl ?_
          refine run_nil ?_
          refine at_tn ?_
          refine at_condF rfl ?_
          refine at_exit ?_
          refine at_te ?_
          refine at_te ?_
          refine at_be ?_
          refine at_bn ?_
          refine at_tn ?_
          refine at_region ?_
          refine r_move rfl rfl rfl ?_
          refine r_arith (r := ((q : Nat) : Int) - 1) rfl rfl rfl rfl (congrArg some (wi (by omega) (by omega) (by omega))) ?_
          refine r_assign rfl rfl rfl ?_
          refine run_nil ?_
          refine at_tn ?_
          exact nextL ⟨⟨q, by omega⟩, z2⟩ (Nat.lt_succ_self q) ⟨rfl, rfl, rfl, rfl, rfl, trivial⟩ (weak_picks [some 0, some 1, some 2, some 3] ⟨⟨_, rfl, Blk.le_refl _⟩, ⟨_, rfl, Blk.le_refl _⟩, ⟨_, rfl, le_same (congrArg (fun c => (⟨some g0, 3, NV .i64 c, nb a, true⟩ : Blk)) (row_congr fun j _ => (quS_end a b q j).symm))⟩, ⟨_, rfl, Blk.le_refl _⟩, trivial⟩ rfl rfl)
      ·
        have hp0 : p = 0 := by have := of_decide_eq_false hb3; omega
        subst hp0
        refine at_exit ?_
        refine at_te ?_
        refine at_te ?_
        refine at_be ?_
        refine at_tn ?_
        refine at_seq ?_
        refine at_region ?_
        refine r_move rfl rfl rfl ?_
        refine r_scall0 [_] [2] rfl rfl rfl (c_ref02_trim (row (nb a) (quT a b 0)) (row_lt fun j => quT_lt a b 0 j) (by rw [row_length]; omega) (row_length _ _) ⟨some g0, nb a, nb a, Nat.le_refl _⟩) ⟨⟨_, rfl, le_share⟩, trivial⟩ rfl ?_
        refine r_know 103 (slv (some g0) 0 (nb (a / b)) (nb a)) rfl (by rw [quT_trim]; rfl) ?_
        refine r_move rfl rfl rfl ?_
        refine r_assign rfl rfl rfl ?_
        refine r_assign rfl rfl rfl ?_
        refine run_nil ?_
        refine at_tn ?_
        refine at_ret ?_
        refine at_end2 rfl (res_tmp rfl) (res_tmp rfl) (fun w hL => ⟨.inl (⟨some g0, nb a, nb a, nb_mono (Nat.div_le_self _ _)⟩, ⟨z.b, z.n, z.cap, by have h := z.h; simp only [Nat.pow_zero, Nat.div_one] at h; exact h⟩), ?_, ?_⟩)
        · exact congrArg (fun n => Ending.returned (.tuple #[slv (some g0) 0 (nb (a / b)) (nb a), slv z.b 0 (nb n) z.cap])) (show a / 256 ^ 0 % b = a % b by rw [Nat.pow_zero, Nat.div_one])
        · exact hL.picks [some 2, some 3] ⟨⟨_, rfl, rfl, rfl, rfl, ⟨nb (a / b), quT_take a b⟩, fun _ => rfl⟩, ⟨_, rfl, le_same (congrArg (fun n => (⟨z.b, 3, NV .i64 (D8 n), z.n, true⟩ : Blk)) (show a % b = a / 256 ^ 0 % b by rw [Nat.pow_zero, Nat.div_one]))⟩, trivial⟩ rfl rfl

end Go.Proofs.YthnlafhnpphdhaaGreatDoor
set_option linter.unusedVariables false
set_option linter.unusedSimpArgs false
namespace Go.Via
open Go Go.RowKit
/-- a slice whose row is the call's own, or one of those that came in -/
structure FS (bs : List (Option Nat)) (len : Nat) where
  z : SR len
  o : Bool
  ho : o = true ∨ z.b ∈ bs
theorem divNew_own {a b : Nat} (z : (SR (nb (a / b)) × SR (nb (a % b))) ⊕ PLift (a < b)) : ∀ c ∈ divNew z, c.own = true := by
  intro c hc
  cases z with
  | inl z =>
    simp only [divNew, List.mem_cons, List.mem_nil_iff, or_false] at hc
    rcases hc with rfl | rfl <;> rfl
  | inr h => cases hc
theorem fs_new {B w : World} {L : List Blk} {x y : Blk} {c : Blk} {o : Bool} {bb : Option Nat} (h : LRel B L w) (k : Nat) {b : Blk} (hk : L[k]? = some b) (hb : b.base = bb) (hoo : b.own = o) (ho : o = true ∨ bb ∈ [x.base, y.base]) (hc : c.base = bb) : ∀ g, c.base = some g → B.heap.size ≤ g ∨ ∃ b0 ∈ [x, y], b0.base = some g := by
  intro g hg
  rcases ho with h1 | h1
  · exact .inl (own_new h k hk (by rw [hoo]; exact h1) g (by rw [hb, ← hc]; exact hg))
  · rw [hc] at hg
    subst hg
    simp only [List.mem_cons, List.mem_nil_iff, or_false] at h1
    rcases h1 with h1 | h1
    · exact .inr ⟨x, by simp, h1.symm⟩
    · exact .inr ⟨y, by simp, h1.symm⟩
theorem gcd_step8 {m n a b : Nat} (h : Nat.gcd m n = Nat.gcd a b) : Nat.gcd n (m % n) = Nat.gcd a b := by
  rw [← h, Nat.gcd_comm m n, Nat.gcd_rec n m, Nat.gcd_comm (m % n) n]
/-- the quotient and the remainder, whatever they are -/
theorem div_two {P : Program} {f a b : Nat} {x : SR (nb a)} {L0 : List Blk} {args : List Value} (hx : ∀ g, x.b = some g → ∃ b0 ∈ L0, b0.base = some g) (hL0 : L0[0]? = some ⟨x.b, 3, NV .i64 (D8 a), x.n, false⟩) (h : SCall P f L0 args ((SR (nb (a / b)) × SR (nb (a % b))) ⊕ PLift (a < b)) (divRes x) divNew) :
    SCallA P f L0 args (SR (nb (a / b)) × SR (nb (a % b))) (fun z => .tuple #[z.1.v, z.2.v]) (fun z => [⟨z.1.b, 3, NV .i64 (D8 (a / b)), z.1.n, false⟩, ⟨z.2.b, 3, NV .i64 (D8 (a % b)), z.2.n, false⟩]) := by
  refine ⟨h.1, fun w hL => (h.2 w hL).mono ?_⟩
  rintro e w' ⟨z, rfl, hz⟩
  cases z with
  | inl z =>
    refine ⟨z, rfl, hz.un, fun c hc g hg => .inl ?_⟩
    simp only [List.mem_cons, List.mem_nil_iff, or_false] at hc
    rcases hc with rfl | rfl
    · exact own_new hz 0 rfl rfl g hg
    · exact own_new hz 1 rfl rfl g hg
  | inr hlt =>
    have hlt := hlt.down
    refine ⟨(⟨none, 0, 0, by rw [Nat.div_eq_of_lt hlt, nb_zero]; exact Nat.le_refl _⟩, ⟨x.b, x.n, x.cap, by rw [Nat.mod_eq_of_lt hlt]; exact x.h⟩), ?_, ?_, fun c hc g hg => ?_⟩
    · show Ending.returned (.tuple #[Value.slice none 0 0, slv x.b 0 (nb a) x.cap]) = Ending.returned (.tuple #[slv none 0 (nb (a / b)) 0, slv x.b 0 (nb (a % b)) x.cap])
      rw [Nat.div_eq_of_lt hlt, Nat.mod_eq_of_lt hlt, nb_zero]; rfl
    · refine (hL.same (hz : LRel w [] w').below).picks [none, some 0] ⟨⟨rfl, by show NV .i64 (D8 (a / b)) = []; rw [Nat.div_eq_of_lt hlt]; exact NV_D8_0, rfl⟩, ⟨_, hL0, le_same (by show (⟨x.b, 3, NV .i64 (D8 (a % b)), x.n, false⟩ : Blk) = ⟨x.b, 3, NV .i64 (D8 a), x.n, false⟩; rw [Nat.mod_eq_of_lt hlt])⟩, trivial⟩ rfl rfl
    · simp only [List.mem_cons, List.mem_nil_iff, or_false] at hc
      rcases hc with rfl | rfl
      · cases hg
      · exact .inr (hx g hg)
end Go.Via
set_option linter.unusedVariables false
namespace Go.Proofs.YthnlafhnpphdhaaGreatDoor
open Go Go.RowKit Go.Via
set_option maxRecDepth 20000 in
theorem c_ref02_common (a b : Nat) (ha : nb a ≤ 1073740000) (hb : nb b ≤ 1073740000) (x : SR (nb a)) (y : SR (nb b)) : SCallA Tryz.prog 83 [⟨x.b, 3, NV .i64 (D8 a), x.n, false⟩, ⟨y.b, 3, NV .i64 (D8 b), y.n, false⟩] [x.v, y.v] (SR (nb (Nat.gcd a b))) SR.v (fun z => [⟨z.b, 3, NV .i64 (D8 (Nat.gcd a b)), z.n, false⟩]) := by
  refine ⟨by kernel_rfl, fun w hL0 => ?_⟩
  refine calls_at (args := [x.v, y.v]) Tryz.func83 rfl (Nat.le_of_ble_eq_true rfl) hL0 ?_
  show At w ⟨19, [(0, x.v), (1, y.v)], [⟨x.b, 3, NV .i64 (D8 a), x.n, false⟩, ⟨y.b, 3, NV .i64 (D8 b), y.n, false⟩]⟩ _
  refine at_seq ?_
  refine at_region ?_
  refine r_assign rfl rfl rfl ?_
  refine run_nil ?_
  refine at_tn ?_
  refine at_seq ?_
  refine at_block ?_
  refine enterL (nt := 19) (ι := (p : {p : Nat × Nat // Nat.gcd p.1 p.2 = Nat.gcd a b ∧ nb p.1 ≤ 1073740000 ∧ nb p.2 ≤ 1073740000}) × FS [x.b, y.b] (nb p.1.1) × FS [x.b, y.b] (nb p.1.2)) (fun ⟨⟨⟨m, n⟩, hg, hm, hn⟩, ⟨za, oa, hoa⟩, ⟨zb, ob, hob⟩⟩ => [(0, za.v), (1, zb.v)]) (fun ⟨⟨⟨m, n⟩, hg, hm, hn⟩, ⟨za, oa, hoa⟩, ⟨zb, ob, hob⟩⟩ => [⟨x.b, 3, NV .i64 (D8 a), x.n, false⟩, ⟨y.b, 3, NV .i64 (D8 b), y.n, false⟩, ⟨za.b, 3, NV .i64 (D8 (m)), za.n, oa⟩, ⟨zb.b, 3, NV .i64 (D8 (n)), zb.n, ob⟩]) (fun ⟨⟨⟨m, n⟩, hg, hm, hn⟩, ⟨za, oa, hoa⟩, ⟨zb, ob, hob⟩⟩ => n) ⟨⟨(a, b), rfl, ha, hb⟩, ⟨x, false, .inr (by simp)⟩, ⟨y, false, .inr (by simp)⟩⟩ ⟨rfl, rfl, trivial⟩ (weak_picks [some 0, some 1, some 0, some 1] ⟨⟨_, rfl, Blk.le_refl _⟩, ⟨_, rfl, Blk.le_refl _⟩, ⟨_, rfl, Blk.le_refl _⟩, ⟨_, rfl, Blk.le_refl _⟩, trivial⟩ rfl rfl) ?_
  rintro ⟨⟨⟨m, n⟩, hg, hm, hn⟩, ⟨za, oa, hoa⟩, ⟨zb, ob, hob⟩⟩
  show At _ ⟨19, [(0, za.v), (1, zb.v)], [⟨x.b, 3, NV .i64 (D8 a), x.n, false⟩, ⟨y.b, 3, NV .i64 (D8 b), y.n, false⟩, ⟨za.b, 3, NV .i64 (D8 (m)), za.n, oa⟩, ⟨zb.b, 3, NV .i64 (D8 (n)), zb.n, ob⟩]⟩ _
  replace hm : nb m ≤ 1073740000 := hm
  replace hn : nb n ≤ 1073740000 := hn
  replace hg : Nat.gcd m n = Nat.gcd a b := hg
  refine at_seq ?_
  refine at_seq ?_
  refine at_region ?_
  refine r_move rfl rfl rfl ?_
  refine r_lenS u85 rfl rfl rfl ?_
  refine r_cmpInt rfl rfl rfl rfl rfl ?_
  refine run_nil ?_
  refine at_tn ?_
  refine at_cond rfl (fun hb1 => ?_) (fun hb1 => ?_)
  ·
    have hn0 : 0 < n := Nat.pos_of_ne_zero (fun e => by subst e; rw [nb_zero] at hb1; cases hb1)
    refine at_skip ?_
    refine at_tn ?_
    refine at_block ?_
    refine at_seq ?_
    refine at_region ?_
    refine r_move rfl rfl rfl ?_
    refine r_move rfl rfl rfl ?_
    refine r_scall [_, _] [2, 3] rfl rfl rfl (c_ref02_divide m n hn0 hm hn za zb) ⟨⟨_, rfl, le_share⟩, ⟨_, rfl, le_share⟩, trivial⟩ rfl (.inr divNew_own) (fun z => ?_)
    rcases z with z | hlt
    ·
      refine r_move rfl rfl rfl ?_
      refine r_extract (vs := [_, _]) rfl rfl rfl rfl ?_
      refine r_extract (vs := [_, _]) rfl rfl rfl rfl ?_
      refine r_assign rfl rfl rfl ?_
      refine r_assign rfl rfl rfl ?_
      refine run_nil ?_
      refine at_tn ?_
      refine at_region ?_
      refine r_move rfl rfl rfl ?_
      refine r_move rfl rfl rfl ?_
      refine r_assign rfl rfl rfl ?_
      refine r_assign rfl rfl rfl ?_
      refine run_nil ?_
      refine at_bn ?_
      refine at_tn ?_
      exact nextL ⟨⟨(n, m % n), gcd_step8 hg, hn, Nat.le_trans (nb_mono (Nat.mod_le _ _)) hm⟩, ⟨zb, ob, hob⟩, ⟨z.2, true, .inl rfl⟩⟩ (Nat.mod_lt _ hn0) ⟨rfl, rfl, trivial⟩ (weak_picks [some 0, some 1, some 3, some 5] ⟨⟨_, rfl, Blk.le_refl _⟩, ⟨_, rfl, Blk.le_refl _⟩, ⟨_, rfl, Blk.le_refl _⟩, ⟨_, rfl, Blk.le_refl _⟩, trivial⟩ rfl (by cases ob <;> rfl))
    ·
      have hlt := hlt.down
      refine r_move rfl rfl rfl ?_
      refine r_extract (vs := [_, _]) rfl rfl rfl rfl ?_
      refine r_extract (vs := [_, _]) rfl rfl rfl rfl ?_
      refine r_assign rfl rfl rfl ?_
      refine r_assign rfl rfl rfl ?_
      refine run_nil ?_
      refine at_tn ?_
      refine at_region ?_
      refine r_move rfl rfl rfl ?_
      refine r_move rfl rfl rfl ?_
      refine r_assign rfl rfl rfl ?_
      refine r_assign rfl rfl rfl ?_
      refine run_nil ?_
      refine at_bn ?_
      refine at_tn ?_
      exact nextL ⟨⟨(n, m), (Nat.gcd_comm n m).trans hg, hn, hm⟩, ⟨zb, ob, hob⟩, ⟨za, oa, hoa⟩⟩ hlt ⟨rfl, rfl, trivial⟩ (weak_picks [some 0, some 1, some 3, some 2] ⟨⟨_, rfl, Blk.le_refl _⟩, ⟨_, rfl, Blk.le_refl _⟩, ⟨_, rfl, Blk.le_refl _⟩, ⟨_, rfl, Blk.le_refl _⟩, trivial⟩ rfl (by cases oa <;> cases ob <;> rfl))
  ·
    have hn1 : n = 0 := Classical.byContradiction fun e => by have := nb_pos e; have hz : ¬ ((0 : Int) < ((nb n : Nat) : Int)) := of_decide_eq_false hb1; omega
    subst hn1
    rw [Nat.gcd_zero_right] at hg
    replace hg : m = Nat.gcd a b := hg
    subst hg
    refine at_exit ?_
    refine at_te ?_
    refine at_te ?_
    refine at_be ?_
    refine at_tn ?_
    refine at_seq ?_
    refine at_region ?_
    refine r_move rfl rfl rfl ?_
    refine r_assign rfl rfl rfl ?_
    refine run_nil ?_
    refine at_tn ?_
    refine at_ret ?_
    refine at_end1 rfl (res_tmp rfl) (fun w hL => ⟨za, ?_, hL.picks [some 2] ⟨⟨_, rfl, le_share⟩, trivial⟩ rfl rfl, fun c hc => ?_⟩)
    · rfl
    · rw [List.mem_singleton.1 hc]
      exact fs_new hL 2 rfl rfl rfl hoa rfl

end Go.Proofs.YthnlafhnpphdhaaGreatDoor
