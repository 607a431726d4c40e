/-
  The law PlaneTurns answers true at every input, tied to the listed variables as its card says. No further conditions.
-/
import Derived.Laws.Small
import Derived.Test.YthnlafhnpphdhaaGreatDoorA10
import Derived.Test.YthnlafhnpphdhaaGreatDoorA12
set_option linter.unusedVariables false
set_option linter.unusedVariables false
set_option linter.unusedSimpArgs false
namespace Go.Via
open Go Go.RowKit
/-! ### the look at a region by numbers whose bits are the operations that one waits for -/
def bitsOf (ms : List Nat) (l : List Edge) : Nat := l.foldl (fun m e => if Region.binds .any e then m ||| ((1 <<< e.on) ||| ms.getD e.on 0) else m) 0
def maskOK (ops : Array Oper) (ms : List Nat) : Bool := (List.range ops.size).all fun i => match ops[i]? with
  | some o => (o.after.toList.all fun e => !Region.binds .any e || decide (e.on < i)) && ms.getD i 0 == bitsOf ms o.after.toList
  | none => true
theorem bits_fold {ms : List Nat} {j : Nat} : ∀ {l : List Edge} {m : Nat}, Nat.testBit (l.foldl (fun m e => if Region.binds .any e then m ||| ((1 <<< e.on) ||| ms.getD e.on 0) else m) m) j = true →
    Nat.testBit m j = true ∨ ∃ e ∈ l, Region.binds .any e = true ∧ (e.on = j ∨ Nat.testBit (ms.getD e.on 0) j = true)
  | [], m, h => .inl h
  | e :: l, m, h => by
    rw [List.foldl_cons] at h
    rcases bits_fold h with h | ⟨e', h1, h2⟩
    · split at h
      · rename_i hb
        rw [Nat.testBit_or, Nat.testBit_or, Bool.or_eq_true, Bool.or_eq_true] at h
        rcases h with h | h | h
        · exact .inl h
        · refine .inr ⟨e, by simp, hb, .inl ?_⟩
          rw [Nat.testBit_shiftLeft] at h
          simp only [Bool.and_eq_true, decide_eq_true_eq] at h
          have h3 := h.2
          by_cases c : j - e.on = 0
          · omega
          · exfalso
            obtain ⟨k, hk⟩ : ∃ k, j - e.on = k + 1 := ⟨j - e.on - 1, by omega⟩
            rw [hk, Nat.testBit_succ] at h3
            simp at h3
        · exact .inr ⟨e, by simp, hb, .inr h⟩
      · exact .inl h
    · exact .inr ⟨e', by simp [h1], h2⟩
theorem mask_waits {ops : Array Oper} {ms : List Nat} (hm : maskOK ops ms = true) : ∀ (f i j : Nat), i < f → i < ops.size → Nat.testBit (ms.getD i 0) j = true → waitsF ops f i j = true
  | 0, i, j, h, _, _ => by omega
  | f + 1, i, j, h, hi, hb => by
    have h1 := List.all_eq_true.1 hm i (List.mem_range.2 hi)
    rw [Array.getElem?_eq_getElem hi] at h1
    simp only [Bool.and_eq_true, beq_iff_eq] at h1
    obtain ⟨h2, h3⟩ := h1
    rw [h3] at hb
    unfold waitsF
    rw [Array.getElem?_eq_getElem hi]
    rcases bits_fold hb with hb | ⟨e, he, hbe, hj⟩
    · simp at hb
    · have hlt : e.on < i := by
        have := List.all_eq_true.1 h2 e he
        rw [hbe] at this
        simpa using this
      refine Array.any_eq_true'.2 ⟨e, by simpa using he, ?_⟩
      rw [hbe, Bool.true_and, Bool.or_eq_true]
      rcases hj with hj | hj
      · exact .inl (by simpa using hj)
      · exact .inr (mask_waits hm f e.on j (by omega) (by omega) hj)
def pairM (bl : List Nat) (ops : Array Oper) (ms : List Nat) (p i : Nat) : Bool :=
  Nat.testBit (ms.getD i 0) p ||
  match ops[p]?, ops[i]? with
  | some op, some oi => isMov op && isFr bl oi && !isCall op && op.apart ops oi
  | _, _ => false
def pairMA (bl : List Nat) (ops : Array Oper) (ms : List Nat) (p i : Nat) : Bool :=
  Nat.testBit (ms.getD i 0) p ||
  match ops[p]?, ops[i]? with
  | some op, some oi => passOk bl ops op oi
  | _, _ => false
theorem pairsB_mono {f g : Nat → Nat → Bool} : ∀ {l : List Nat}, (∀ p ∈ l, ∀ i ∈ l, f p i = true → g p i = true) → pairsB f l = true → pairsB g l = true
  | [], _, _ => rfl
  | p :: l, h, hf => by
    simp only [pairsB, Bool.and_eq_true] at hf ⊢
    exact ⟨List.all_eq_true.2 fun i hi => h p (by simp) i (by simp [hi]) (List.all_eq_true.1 hf.1 i hi), pairsB_mono (fun p hp i hi => h p (by simp [hp]) i (by simp [hi])) hf.2⟩
def drawnMOk (bl : List Nat) (ops : Array Oper) (perm : List Nat) (ms : List Nat) : Bool :=
  maskOK ops ms && (decide (perm.length = ops.size) && perm.all (fun i => decide (i < ops.size)) && (List.range ops.size).all (fun i => perm.contains i) &&
  pairsB (pairM bl ops ms) perm && pairsB (noWait ops) perm && perm.all (fun i => noWait ops i i) && perm.all (fun i => edgesIn ops i) && pairsB (dstApart bl ops) perm && pairsB (movFirst bl ops) perm && pairsB (fun i j => i != j) perm)
theorem drawnM {bl : List Nat} {ops : Array Oper} {perm : List Nat} (ms : List Nat) (h : drawnMOk bl ops perm ms = true) : drawnOk bl ops perm = true := by
  unfold drawnMOk at h
  rw [Bool.and_eq_true] at h
  obtain ⟨hm, h⟩ := h
  unfold drawnOk
  simp only [Bool.and_eq_true] at h ⊢
  obtain ⟨⟨⟨⟨⟨⟨⟨⟨⟨h1, h2⟩, h3⟩, h4⟩, h5⟩, h6⟩, h7⟩, h8⟩, h9⟩, h10⟩ := h
  refine ⟨⟨⟨⟨⟨⟨⟨⟨⟨h1, h2⟩, h3⟩, pairsB_mono (fun p hp i hi hpi => ?_) h4⟩, h5⟩, h6⟩, h7⟩, h8⟩, h9⟩, h10⟩
  have hil : i < ops.size := of_decide_eq_true (List.all_eq_true.1 h2 i hi)
  unfold pairM at hpi
  unfold pairOk
  rw [Bool.or_eq_true] at hpi ⊢
  exact hpi.imp (mask_waits hm _ i p hil hil) id
def drawnMAOk (bl : List Nat) (ops : Array Oper) (perm : List Nat) (ms : List Nat) : Bool :=
  maskOK ops ms && (decide (perm.length = ops.size) && perm.all (fun i => decide (i < ops.size)) && (List.range ops.size).all (fun i => perm.contains i) &&
  pairsB (pairMA bl ops ms) perm && pairsB (noWait ops) perm && perm.all (fun i => noWait ops i i) && perm.all (fun i => edgesIn ops i) && pairsB (fun i j => i != j) perm && blA bl && !blS bl && !isM bl)
theorem drawnMA {bl : List Nat} {ops : Array Oper} {perm : List Nat} (ms : List Nat) (h : drawnMAOk bl ops perm ms = true) : drawnAOk bl ops perm = true := by
  unfold drawnMAOk at h
  rw [Bool.and_eq_true] at h
  obtain ⟨hm, h⟩ := h
  unfold drawnAOk
  simp only [Bool.and_eq_true] at h ⊢
  obtain ⟨⟨⟨⟨⟨⟨⟨⟨⟨⟨h1, h2⟩, h3⟩, h4⟩, h5⟩, h6⟩, h7⟩, h8⟩, h9⟩, h10⟩, h11⟩ := h
  refine ⟨⟨⟨⟨⟨⟨⟨⟨⟨⟨h1, h2⟩, h3⟩, pairsB_mono (fun p hp i hi hpi => ?_) h4⟩, h5⟩, h6⟩, h7⟩, h8⟩, h9⟩, h10⟩, h11⟩
  have hil : i < ops.size := of_decide_eq_true (List.all_eq_true.1 h2 i hi)
  unfold pairMA at hpi
  unfold pairOkA
  rw [Bool.or_eq_true] at hpi ⊢
  exact hpi.imp (mask_waits hm _ i p hil hil) id
end Go.Via
set_option linter.unusedVariables false
namespace Go.Proofs.YthnlafhnpphdhaaGreatDoor
open Go Go.RowKit Go.Via
set_option maxRecDepth 20000 in
theorem c_law_known  : PCall Tryz.prog 13 #[] (.bool true) := by
  refine ⟨by kernel_rfl, fun w => ?_⟩
  refine calls_at (args := []) Tryz.func13 rfl (Nat.le_of_ble_eq_true rfl) (LRel.nil w) ?_
  show At w ⟨50, [], []⟩ _
  refine at_seq ?_
  refine at_region ?_
  refine r_assign rfl rfl rfl ?_
  refine run_nil ?_
  refine at_tn ?_
  refine at_seq ?_
  refine at_region ?_
  refine r_pcall [_, _, _, _] rfl rfl rfl (c_law_segment 0 0 4 4 (by omega) (by omega) (by omega) (by omega) (by omega) (by omega) (by omega) (by omega)) ?_
  refine r_pcall [_, _, _, _] rfl rfl rfl (c_law_segment 0 4 4 0 (by omega) (by omega) (by omega) (by omega) (by omega) (by omega) (by omega) (by omega)) ?_
  refine r_pcall [_, _] rfl rfl rfl (c_plane_Meet _ _ (Nat.le_trans kn_sz1 (Nat.le_of_ble_eq_true rfl)) (Nat.le_trans kn_sz2 (Nat.le_of_ble_eq_true rfl))) ?_
  refine r_know 7 (Mt (2, ((((2 : Int) : Rat), ((2 : Int) : Rat)), (((2 : Int) : Rat), ((2 : Int) : Rat))))) rfl (congrArg Mt known_1) ?_
  refine r_alloc [_, _, _, _, _, _, _, _, _, _, _, _, _, _, _, _, _] 17 (fun g => [⟨some g, 40, _, 17, true⟩]) rfl rfl z40 rfl rfl (fun _ => rfl) (fun g0 => ?_)
  refine r_store rfl 0 0 [⟨some g0, 40, _, 17, true⟩] [_, _, _, _, _, _, _, _, _, _, _, _, _, _, _, _, _] rfl rfl rfl rfl ti40 rfl rfl rfl rfl rfl ?_
  refine run_nil ?_
  refine at_tn ?_
  refine at_seq ?_
  refine at_region ?_
  refine r_pcall [_, _, _, _] rfl rfl rfl (c_law_segment 0 0 4 0 (by omega) (by omega) (by omega) (by omega) (by omega) (by omega) (by omega) (by omega)) ?_
  refine r_pcall [_, _, _, _] rfl rfl rfl (c_law_segment 2 0 6 0 (by omega) (by omega) (by omega) (by omega) (by omega) (by omega) (by omega) (by omega)) ?_
  refine r_pcall [_, _] rfl rfl rfl (c_plane_Meet _ _ (Nat.le_trans kn_sz3 (Nat.le_of_ble_eq_true rfl)) (Nat.le_trans kn_sz4 (Nat.le_of_ble_eq_true rfl))) ?_
  refine r_know 10 (Mt (3, ((((2 : Int) : Rat), ((0 : Int) : Rat)), (((4 : Int) : Rat), ((0 : Int) : Rat))))) rfl (congrArg Mt known_2) ?_
  refine r_alloc [_, _, _, _, _, _, _, _, _, _, _, _, _, _, _, _, _] 17 (fun g => [_, ⟨some g, 40, _, 17, true⟩]) rfl rfl z40 rfl rfl (fun _ => rfl) (fun g1 => ?_)
  refine r_store rfl 1 0 [_, ⟨some g1, 40, _, 17, true⟩] [_, _, _, _, _, _, _, _, _, _, _, _, _, _, _, _, _] rfl rfl rfl rfl ti40 rfl rfl rfl rfl rfl ?_
  refine run_nil ?_
  refine at_tn ?_
  refine at_seq ?_
  refine at_region ?_
  refine r_pcall [_, _] rfl rfl rfl (c_ref07_At 0 1 (by omega) (by omega) (by omega) (by omega)) ?_
  refine r_pcall [_, _, _, _] rfl rfl rfl (c_law_segment 0 0 2 1 (by omega) (by omega) (by omega) (by omega) (by omega) (by omega) (by omega) (by omega)) ?_
  refine r_pcall [_, _] rfl rfl rfl (c_plane_Nearest _ _ (Nat.le_trans kn_sz5 (Nat.le_of_ble_eq_true rfl)) (Nat.le_trans kn_sz6 (Nat.le_of_ble_eq_true rfl))) ?_
  refine r_know 14 (.tuple #[Pt (Rat.divInt 2 5, Rat.divInt 1 5), Q (Rat.divInt 1 5)]) rfl (by rw [known_3]) ?_
  refine r_move rfl rfl rfl ?_
  refine r_extract (vs := [_, _]) rfl rfl rfl rfl ?_
  refine r_extract (vs := [_, _]) rfl rfl rfl rfl ?_
  refine r_alloc [_, _, _, _, _, _, _, _] 8 (fun g => [_, _, ⟨some g, 27, _, 8, true⟩]) rfl rfl z27 rfl rfl (fun _ => rfl) (fun g2 => ?_)
  refine r_alloc [_, _, _, _] 4 (fun g => [_, _, _, ⟨some g, 25, _, 4, true⟩]) rfl rfl z25 rfl rfl (fun _ => rfl) (fun g3 => ?_)
  refine r_store rfl 2 0 [_, _, ⟨some g2, 27, _, 8, true⟩, _] [_, _, _, _, _, _, _, _] rfl rfl rfl rfl ti27 rfl rfl rfl rfl rfl ?_
  refine r_store rfl 3 0 [_, _, _, ⟨some g3, 25, _, 4, true⟩] [_, _, _, _] rfl rfl rfl rfl ti25 rfl rfl rfl rfl rfl ?_
  refine run_nil ?_
  refine at_tn ?_
  refine at_seq ?_
  refine at_drawn (l' := (⟨_,_,_,_,_,_⟩ :: ⟨_,_,_,_,_,_⟩ :: ⟨_,_,_,_,_,_⟩ :: ⟨_,_,_,_,_,_⟩ :: ⟨_,_,_,_,_,_⟩ :: ⟨_,_,_,_,_,_⟩ :: ⟨_,_,_,_,_,_⟩ :: ⟨_,_,_,_,_,_⟩ :: ⟨_,_,_,_,_,_⟩ :: ⟨_,_,_,_,_,_⟩ :: ⟨_,_,_,_,_,_⟩ :: ⟨_,_,_,_,_,_⟩ :: ⟨_,_,_,_,_,_⟩ :: ⟨_,_,_,_,_,_⟩ :: ⟨_,_,_,_,_,_⟩ :: ⟨_,_,_,_,_,_⟩ :: ⟨_,_,_,_,_,_⟩ :: ⟨_,_,_,_,_,_⟩ :: ⟨_,_,_,_,_,_⟩ :: ⟨_,_,_,_,_,_⟩ :: ⟨_,_,_,_,_,_⟩ :: ⟨_,_,_,_,_,_⟩ :: ⟨_,_,_,_,_,_⟩ :: ⟨_,_,_,_,_,_⟩ :: ⟨_,_,_,_,_,_⟩ :: ⟨_,_,_,_,_,_⟩ :: ⟨_,_,_,_,_,_⟩ :: ⟨_,_,_,_,_,_⟩ :: ⟨_,_,_,_,_,_⟩ :: ⟨_,_,_,_,_,_⟩ :: ⟨_,_,_,_,_,_⟩ :: ⟨_,_,_,_,_,_⟩ :: ⟨_,_,_,_,_,_⟩ :: ⟨_,_,_,_,_,_⟩ :: [])) [] (0 :: 1 :: 2 :: 3 :: 4 :: 5 :: 6 :: 7 :: 8 :: 9 :: 10 :: 11 :: 12 :: 13 :: 14 :: 15 :: 16 :: 17 :: 18 :: 19 :: 20 :: 21 :: 22 :: 23 :: 24 :: 25 :: 26 :: 27 :: 28 :: 29 :: 30 :: 31 :: 32 :: 33 :: []) mixed (drawnM (0 :: 1 :: 3 :: 7 :: 15 :: 31 :: 63 :: 15 :: 255 :: 511 :: 1023 :: 2047 :: 4095 :: 8191 :: 16383 :: 32767 :: 65535 :: 131071 :: 65535 :: 524287 :: 1048575 :: 2097151 :: 4194303 :: 4194303 :: 12582911 :: 29360127 :: 67108863 :: 134217727 :: 268435455 :: 536870911 :: 536870911 :: 2147483647 :: 4294967295 :: 8589934591 :: []) (by kernel_rfl)) rfl (by kernel_rfl) ?_
  refine r_fieldAddr 0 0 0 rfl rfl rfl rfl rfl ti40 rfl rfl ?_
  refine r_load 0 0 [_] rfl rfl rfl rfl ti3 rfl rfl rfl rfl ?_
  refine r_cmpInt rfl rfl rfl rfl rfl ?_
  refine r_know 19 (.bool true) rfl rfl ?_
  refine r_move rfl rfl rfl ?_
  refine r_fieldAddr 0 0 1 rfl rfl rfl rfl rfl ti40 rfl rfl ?_
  refine r_fieldAddr 0 1 0 rfl rfl rfl rfl rfl ti36 rfl rfl ?_
  refine r_load 0 1 [_, _, _, _, _, _, _, _] rfl rfl rfl rfl ti27 rfl rfl rfl rfl ?_
  refine r_pcall [_, _] rfl rfl rfl (c_ref07_At 2 2 (by omega) (by omega) (by omega) (by omega)) ?_
  refine r_eqlAgg rfl rfl rfl rfl gd27 (eq27 _ _) ?_
  refine r_know 25 (.bool true) rfl (congrArg Value.bool (decide_eq_true rfl)) ?_
  refine r_pickT rfl rfl rfl rfl ?_
  refine r_move rfl rfl rfl ?_
  refine r_fieldAddr 1 0 0 rfl rfl rfl rfl rfl ti40 rfl rfl ?_
  refine r_load 1 0 [_] rfl rfl rfl rfl ti3 rfl rfl rfl rfl ?_
  refine r_cmpInt rfl rfl rfl rfl rfl ?_
  refine r_know 30 (.bool true) rfl rfl ?_
  refine r_pickT rfl rfl rfl rfl ?_
  refine r_move rfl rfl rfl ?_
  refine r_fieldAddr 1 0 1 rfl rfl rfl rfl rfl ti40 rfl rfl ?_
  refine r_load 1 1 [_, _, _, _, _, _, _, _, _, _, _, _, _, _, _, _] rfl rfl rfl rfl ti36 rfl rfl rfl rfl ?_
  refine r_pcall [_, _, _, _] rfl rfl rfl (c_law_segment 2 0 4 0 (by omega) (by omega) (by omega) (by omega) (by omega) (by omega) (by omega) (by omega)) ?_
  refine r_eqlAgg rfl rfl rfl rfl gd36 (eq36 _ _) ?_
  refine r_know 36 (.bool true) rfl (congrArg Value.bool (decide_eq_true rfl)) ?_
  refine r_pickT rfl rfl rfl rfl ?_
  refine r_move rfl rfl rfl ?_
  refine r_load 2 0 [_, _, _, _, _, _, _, _] rfl rfl rfl rfl ti27 rfl rfl rfl rfl ?_
  refine r_pcall [_, _] rfl rfl rfl (c_ref02_Of 2 5 (by omega) (by omega) (by omega) (by omega) (by omega)) ?_
  refine r_pcall [_, _] rfl rfl rfl (c_ref02_Of 1 5 (by omega) (by omega) (by omega) (by omega) (by omega)) ?_
  refine r_build [(0, _), (1, _)] rfl rfl rfl (bd27_2) ?_
  refine r_eqlAgg rfl rfl rfl rfl gd27 (eq27 (Rat.divInt 2 5, Rat.divInt 1 5) (Rat.divInt 2 5, Rat.divInt 1 5)) ?_
  refine r_know 43 (.bool true) rfl (congrArg Value.bool (decide_eq_true rfl)) ?_
  refine r_pickT rfl rfl rfl rfl ?_
  refine r_move rfl rfl rfl ?_
  refine r_load 3 0 [_, _, _, _] rfl rfl rfl rfl ti25 rfl rfl rfl rfl ?_
  refine r_pcall [_, _] rfl rfl rfl (c_ref02_Of 1 5 (by omega) (by omega) (by omega) (by omega) (by omega)) ?_
  refine r_eqlAgg rfl rfl rfl rfl gd25 (eq25 _ _) ?_
  refine r_know 48 (.bool true) rfl (congrArg Value.bool (decide_eq_true rfl)) ?_
  refine r_pickT rfl rfl rfl rfl ?_
  refine r_assign rfl rfl rfl ?_
  refine run_nil ?_
  refine at_tn ?_
  refine at_ret ?_
  refine at_end1 rfl (res_tmp rfl) (fun w hL => ⟨?_, hL.below⟩)
  exact rfl

end Go.Proofs.YthnlafhnpphdhaaGreatDoor
set_option linter.unusedVariables false
namespace Go.Via
open Go Go.RowKit
theorem crs_self (p : P2) : crs p p = 0 := by unfold crs; rw [Rat.mul_comm, Rat.sub_self]
theorem around_self (p : P2) : around p p = 0 := by
  unfold around
  rw [if_neg (Int.lt_irrefl _), if_neg (Int.lt_irrefl _), crs_self]
  rfl
theorem sgn_z {q : Rat} : sgn q = 0 ↔ q = 0 := by unfold sgn; rw [Int.sign_eq_zero_iff_zero, Rat.num_eq_zero]
theorem sgn_nn {q : Rat} : 0 ≤ sgn q ↔ 0 ≤ q := by
  unfold sgn
  rw [← Rat.num_nonneg]
  rcases Int.lt_trichotomy q.num 0 with c | c | c
  · rw [Int.sign_eq_neg_one_of_neg c]; omega
  · rw [c]; decide
  · rw [Int.sign_eq_one_of_pos c]; omega
theorem sgn_neg (q : Rat) : sgn (-q) = - sgn q := by
  unfold sgn; rw [show (-q).num = -q.num from rfl, Int.sign_neg]
theorem sgn_p {q : Rat} : sgn q = 1 ↔ 0 < q := by
  have h1 := sgn_bound q; have h2 := @sgn_nn q; have h3 := @sgn_z q
  constructor
  · intro h
    have a : 0 ≤ q := h2.1 (by omega)
    have b : q ≠ 0 := fun e => by have := h3.2 e; omega
    grind
  · intro h
    have a := h2.2 (by grind)
    have b : sgn q ≠ 0 := fun e => by have := h3.1 e; grind
    omega
theorem sgn_n {q : Rat} : sgn q = -1 ↔ q < 0 := by
  have h1 := sgn_bound q; have h2 := @sgn_nn q
  constructor
  · intro h
    have : ¬ 0 ≤ q := fun e => by have := h2.2 e; omega
    grind
  · intro h
    have : ¬ 0 ≤ sgn q := fun e => by have := h2.1 e; grind
    omega

theorem ori_1 (a b c : P2) : ori b a c = 0 - ori a b c := by
  unfold ori
  rw [show crs (pSub a b) (pSub c b) = - crs (pSub b a) (pSub c a) by unfold crs pSub; grind, sgn_neg]; omega
theorem ori_2 (a b c : P2) : ori a c b = 0 - ori a b c := by
  unfold ori
  rw [show crs (pSub c a) (pSub b a) = - crs (pSub b a) (pSub c a) by unfold crs; grind, sgn_neg]; omega
theorem ori_3 (a b c : P2) : ori b c a = ori a b c := by
  unfold ori
  rw [show crs (pSub c b) (pSub a b) = crs (pSub b a) (pSub c a) by unfold crs pSub; grind]
theorem ori_4 (a b c d : P2) : ori (pAdd a d) (pAdd b d) (pAdd c d) = ori a b c := by
  unfold ori
  rw [show crs (pSub (pAdd b d) (pAdd a d)) (pSub (pAdd c d) (pAdd a d)) = crs (pSub b a) (pSub c a) by unfold crs pSub pAdd; grind]

theorem ori_bound2 (a b c : P2) : -1 ≤ ori a b c ∧ ori a b c ≤ 1 := sgn_bound _
theorem half_r (p : P2) : half p = 0 ∨ half p = 1 ∨ half p = 2 := by
  unfold half; split
  · exact .inl rfl
  · split
    · exact .inr (.inl rfl)
    · exact .inr (.inr rfl)
theorem half_e0 {p : P2} (h : half p = 0) : p = (0, 0) := by
  unfold half at h; split at h
  · assumption
  · split at h <;> omega
/-- the upper half plane -/
def Up (p : P2) : Prop := 0 < p.2 ∨ (p.2 = 0 ∧ 0 < p.1)
theorem half_e1 {p : P2} (h : half p = 1) : Up p := by
  unfold half at h; split at h
  · omega
  · split at h
    · rename_i c
      rcases c with c | ⟨c, d⟩
      · exact .inl (sgn_p.1 (by have := sgn_bound p.2; omega))
      · exact .inr ⟨sgn_z.1 c, sgn_p.1 (by have := sgn_bound p.1; omega)⟩
    · omega
theorem half_e2 {p : P2} (h : half p = 2) : Up (-p.1, -p.2) := by
  unfold half at h; split at h
  · omega
  · rename_i n0
    split at h
    · omega
    · rename_i c
      have h1 := sgn_bound p.1; have h2 := sgn_bound p.2
      have n1 : ¬ (sgn p.1 = 0 ∧ sgn p.2 = 0) := fun e => n0 (halfR.2 e)
      by_cases hz : sgn p.2 = 0
      · have : sgn p.1 = -1 := by omega
        refine .inr ⟨?_, ?_⟩
        · show -p.2 = 0
          have := sgn_z.1 hz; grind
        · show 0 < -p.1
          have := sgn_n.1 this; grind
      · have : sgn p.2 = -1 := by omega
        refine .inl ?_
        show 0 < -p.2
        have := sgn_n.1 this; grind

theorem mul_pos' {x y : Rat} (h : 0 < x) (k : 0 < y) : 0 < x * y := Rat.mul_pos h k
theorem tri {a b c : P2} (ua : Up a) (ub : Up b) (uc : Up c) (h1 : 0 ≤ crs a b) (h2 : 0 ≤ crs b c) : 0 ≤ crs a c ∧ (crs a c = 0 ↔ crs a b = 0 ∧ crs b c = 0) := by
  obtain ⟨a1, a2⟩ := a; obtain ⟨b1, b2⟩ := b; obtain ⟨c1, c2⟩ := c
  unfold Up at ua ub uc; unfold crs at *; dsimp only at *
  have na : 0 ≤ a2 := by rcases ua with h | h <;> grind
  have nb : 0 ≤ b2 := by rcases ub with h | h <;> grind
  have nc : 0 ≤ c2 := by rcases uc with h | h <;> grind
  rcases ub with hb | ⟨hb0, hb⟩
  · have id : b2 * (a1 * c2 - a2 * c1) = a2 * (b1 * c2 - b2 * c1) + c2 * (a1 * b2 - a2 * b1) := by grind
    have p1 := Rat.mul_nonneg na h2
    have p2 := Rat.mul_nonneg nc h1
    -- c2 is positive: else c = (c1, 0) with c1 positive, and the second product is negative
    have c2p : 0 < c2 := by
      rcases uc with h | ⟨h, k⟩
      · exact h
      · exfalso
        have := Rat.mul_pos hb k
        subst h; grind
    by_cases a2z : a2 = 0
    · have a1p : 0 < a1 := by rcases ua with h | h <;> grind
      have e1 : 0 < a1 * c2 := Rat.mul_pos a1p c2p
      have e2 : 0 < a1 * b2 := Rat.mul_pos a1p hb
      subst a2z
      constructor
      · grind
      · constructor
        · intro h; grind
        · intro h; grind
    · have a2p : 0 < a2 := by grind
      refine ⟨?_, ?_, ?_⟩
      · refine Rat.not_lt.1 fun hn => ?_
        have := Rat.mul_pos hb (show 0 < -(a1 * c2 - a2 * c1) by grind)
        grind
      · intro h
        rw [h] at id
        have e1 : a2 * (b1 * c2 - b2 * c1) = 0 := by grind
        have e2 : c2 * (a1 * b2 - a2 * b1) = 0 := by grind
        exact ⟨(Rat.mul_eq_zero.1 e2).resolve_left (by grind), (Rat.mul_eq_zero.1 e1).resolve_left (by grind)⟩
      · rintro ⟨h, k⟩
        rw [h, k] at id
        exact (Rat.mul_eq_zero.1 (show b2 * (a1 * c2 - a2 * c1) = 0 by grind)).resolve_left (by grind)
  · subst hb0
    have a2z : a2 = 0 := by
      refine Rat.le_antisymm (Rat.not_lt.1 fun hn => ?_) na
      have := Rat.mul_pos hn hb
      grind
    subst a2z
    have a1p : 0 < a1 := by rcases ua with h | h <;> grind
    rcases Rat.le_iff_lt_or_eq.1 nc with hc | hc
    · have e1 := Rat.mul_pos a1p hc
      have e2 := Rat.mul_pos hb hc
      refine ⟨by grind, ?_, ?_⟩ <;> intro h <;> grind
    · subst hc
      refine ⟨by grind, ?_, ?_⟩ <;> intro h <;> grind

theorem around_anti (p q : P2) : around q p = 0 - around p q := by
  unfold around
  have e : crs q p = - crs p q := by unfold crs; grind
  rw [e, sgn_neg]
  rcases Int.lt_trichotomy (half p) (half q) with h | h | h
  · rw [if_neg (by omega), if_pos h, if_pos h]; omega
  · rw [if_neg (by omega), if_neg (by omega), if_neg (by omega), if_neg (by omega)]; omega
  · rw [if_pos h, if_neg (by omega), if_pos h]; rfl
theorem around_bound (p q : P2) : -1 ≤ around p q ∧ around p q ≤ 1 := by
  unfold around
  have := sgn_bound (crs p q)
  split
  · omega
  · split <;> omega
theorem around_min {a b c : P2} (hx : around a b ≤ 0) (hy : around b c ≤ 0) : around a c = min (around a b) (around b c) := by
  have bx := around_bound a b; have yb := around_bound b c
  unfold around at *
  have ha := half_r a; have hb := half_r b; have hc := half_r c
  rcases Int.lt_trichotomy (half a) (half b) with h | h | h
  · rw [if_pos h] at *
    rcases Int.lt_trichotomy (half b) (half c) with k | k | k
    · rw [if_pos k] at *; rw [if_pos (by omega)]; rfl
    · rw [if_neg (by omega), if_neg (by omega)] at hy yb
      rw [if_pos (show half a < half c by omega), if_neg (show ¬ half b < half c by omega), if_neg (show ¬ half c < half b by omega)]; omega
    · rw [if_neg (by omega), if_pos k] at hy; omega
  · rw [if_neg (by omega), if_neg (by omega)] at hx bx
    rw [if_neg (show ¬ half a < half b by omega), if_neg (show ¬ half b < half a by omega)]
    rcases Int.lt_trichotomy (half b) (half c) with k | k | k
    · rw [if_pos k, if_pos (by omega)]; omega
    · rw [if_neg (by omega), if_neg (by omega)] at hy yb
      rw [if_neg (by omega), if_neg (by omega), if_neg (by omega), if_neg (by omega)]
      have key : 0 ≤ crs a c ∧ (crs a c = 0 ↔ crs a b = 0 ∧ crs b c = 0) := by
        have n1 : 0 ≤ crs a b := sgn_nn.1 (by omega)
        have n2 : 0 ≤ crs b c := sgn_nn.1 (by omega)
        rcases ha with e | e | e
        · have ea := half_e0 e; have eb := half_e0 (p := b) (by omega); have ec := half_e0 (p := c) (by omega)
          subst ea; subst eb; subst ec
          exact ⟨n1, ⟨fun h => ⟨h, h⟩, fun h => h.1⟩⟩
        · exact tri (half_e1 e) (half_e1 (p := b) (by omega)) (half_e1 (p := c) (by omega)) n1 n2
        · have q : ∀ u v : P2, crs (-u.1, -u.2) (-v.1, -v.2) = crs u v := fun u v => by unfold crs; grind
          have := tri (half_e2 e) (half_e2 (p := b) (by omega)) (half_e2 (p := c) (by omega)) (by rw [q]; exact n1) (by rw [q]; exact n2)
          rw [q, q, q] at this
          exact this
      obtain ⟨k1, k2⟩ := key
      have m1 := sgn_nn.2 k1; have mb := sgn_bound (crs a c)
      have m2 : sgn (crs a c) = 0 ↔ sgn (crs a b) = 0 ∧ sgn (crs b c) = 0 := by rw [sgn_z, sgn_z, sgn_z]; exact k2
      omega
    · rw [if_neg (by omega), if_pos k] at hy; omega
  · rw [if_neg (by omega), if_pos h] at hx; omega
theorem around_max {a b c : P2} (hx : 0 ≤ around a b) (hy : 0 ≤ around b c) : around a c = max (around a b) (around b c) := by
  have h1 := around_anti a b; have h2 := around_anti b c; have h3 := around_anti a c
  have := around_min (a := c) (b := b) (c := a) (by omega) (by omega)
  omega
end Go.Via
set_option linter.unusedVariables false
set_option linter.unusedSimpArgs false
namespace Go.Via
open Go Go.RowKit
/-! ### the lesser and the greater of two integers -/
section
variable {P : Program} {bl : List Nat} {ops : Array Oper} {K : St → Prop} {rest : List Oper} {nt : Nat} {t : List (Nat × Value)} {L : List Blk} {d : Nat} {ty : TypeId} {pos : String} {af : Array Edge} {g : Option (Nat × Bool)} {x y : Operand}
theorem r_minI {ts : Array TypeId} {k k' : IntKind} {m n : Int} (hd : Nat.blt d nt = true) (hg : wantedS ops ⟨some d, .call { callee := .builtin .min, args := #[x, y], argTypes := ts }, ty, pos, af, g⟩ t = some true) (hx : ev t x = some (.int k m)) (hy : ev t y = some (.int k' n))
    (h : Run P bl ops rest ⟨nt, (d, .int k (min m n)) :: t, L⟩ K) : Run P bl ops (⟨some d, .call { callee := .builtin .min, args := #[x, y], argTypes := ts }, ty, pos, af, g⟩ :: rest) ⟨nt, t, L⟩ K :=
  run_q hd hg rfl (fun B a w hrel => by
    have e : min m n = if n < m then n else m := by split <;> omega
    simp [execOp, resolve, invoke, builtin, hrel.ev hx, hrel.ev hy, run_min_int2, e]) h
theorem r_maxI {ts : Array TypeId} {k k' : IntKind} {m n : Int} (hd : Nat.blt d nt = true) (hg : wantedS ops ⟨some d, .call { callee := .builtin .max, args := #[x, y], argTypes := ts }, ty, pos, af, g⟩ t = some true) (hx : ev t x = some (.int k m)) (hy : ev t y = some (.int k' n))
    (h : Run P bl ops rest ⟨nt, (d, .int k (max m n)) :: t, L⟩ K) : Run P bl ops (⟨some d, .call { callee := .builtin .max, args := #[x, y], argTypes := ts }, ty, pos, af, g⟩ :: rest) ⟨nt, t, L⟩ K :=
  run_q hd hg rfl (fun B a w hrel => by
    have e : max m n = if m < n then n else m := by split <;> omega
    simp [execOp, resolve, invoke, builtin, hrel.ev hx, hrel.ev hy, run_max_int2, e]) h
end
end Go.Via
set_option linter.unusedVariables false
namespace Go.Proofs.YthnlafhnpphdhaaGreatDoor
open Go Go.RowKit Go.Via
set_option maxRecDepth 20000 in
theorem c_PlaneTurns (ab1 : Bool) (as1 : ByteArray) (ab2 : Bool) (as2 : ByteArray) (ab3 : Bool) (as3 : ByteArray) (ab4 : Bool) (as4 : ByteArray) (bb1 : Bool) (bs1 : ByteArray) (bb2 : Bool) (bs2 : ByteArray) (bb3 : Bool) (bs3 : ByteArray) (bb4 : Bool) (bs4 : ByteArray) (cb1 : Bool) (cs1 : ByteArray) (cb2 : Bool) (cs2 : ByteArray) (cb3 : Bool) (cs3 : ByteArray) (cb4 : Bool) (cs4 : ByteArray) (hza : szR ⟨ab1, as1, ab2, as2, ab3, as3, ab4, as4⟩) (hzb : szR ⟨bb1, bs1, bb2, bs2, bb3, bs3, bb4, bs4⟩) (hzc : szR ⟨cb1, cs1, cb2, cs2, cb3, cs3, cb4, cs4⟩) : PCall Tryz.prog 8 #[.agg #[.bool ab1, .string as1, .bool ab2, .string as2, .bool ab3, .string as3, .bool ab4, .string as4], .agg #[.bool bb1, .string bs1, .bool bb2, .string bs2, .bool bb3, .string bs3, .bool bb4, .string bs4], .agg #[.bool cb1, .string cs1, .bool cb2, .string cs2, .bool cb3, .string cs3, .bool cb4, .string cs4]] (.bool true) := by
  refine ⟨by kernel_rfl, fun w => ?_⟩
  refine calls_at (args := [.agg #[.bool ab1, .string as1, .bool ab2, .string as2, .bool ab3, .string as3, .bool ab4, .string as4], .agg #[.bool bb1, .string bs1, .bool bb2, .string bs2, .bool bb3, .string bs3, .bool bb4, .string bs4], .agg #[.bool cb1, .string cs1, .bool cb2, .string cs2, .bool cb3, .string cs3, .bool cb4, .string cs4]]) Tryz.func8 rfl (Nat.le_of_ble_eq_true rfl) (LRel.nil w) ?_
  show At w ⟨117, [(0, .agg #[.bool ab1, .string as1, .bool ab2, .string as2, .bool ab3, .string as3, .bool ab4, .string as4]), (1, .agg #[.bool bb1, .string bs1, .bool bb2, .string bs2, .bool bb3, .string bs3, .bool bb4, .string bs4]), (2, .agg #[.bool cb1, .string cs1, .bool cb2, .string cs2, .bool cb3, .string cs3, .bool cb4, .string cs4])], []⟩ _
  refine at_seq ?_
  refine at_region ?_
  refine r_box [_, _, _, _, _, _, _, _] 8 (fun g => [⟨some g, 27, _, 8, true⟩]) rfl rfl rfl rfl rfl (fun _ => rfl) (fun g0 => ?_)
  refine r_box [_, _, _, _, _, _, _, _] 8 (fun g => [_, ⟨some g, 27, _, 8, true⟩]) rfl rfl rfl rfl rfl (fun _ => rfl) (fun g1 => ?_)
  refine r_box [_, _, _, _, _, _, _, _] 8 (fun g => [_, _, ⟨some g, 27, _, 8, true⟩]) rfl rfl rfl rfl rfl (fun _ => rfl) (fun g2 => ?_)
  refine r_assign rfl rfl rfl ?_
  refine run_nil ?_
  refine at_tn ?_
  refine at_seq ?_
  refine at_seq ?_
  refine at_region ?_
  refine r_pcall [] rfl rfl rfl (c_law_known) ?_
  refine r_not rfl rfl rfl ?_
  refine r_move rfl rfl rfl ?_
  refine r_load 0 0 [_, _, _, _, _, _, _, _] rfl rfl rfl rfl ti27 rfl rfl rfl rfl ?_
  refine r_load 1 0 [_, _, _, _, _, _, _, _] rfl rfl rfl rfl ti27 rfl rfl rfl rfl ?_
  refine r_load 2 0 [_, _, _, _, _, _, _, _] rfl rfl rfl rfl ti27 rfl rfl rfl rfl ?_
  refine r_buildSlice [(0, _), (1, _), (2, _)] (fun g => [_, _, _, ⟨some g, 27, _, 24, true⟩]) rfl rfl rfl (bs61_3) rfl (fun _ => rfl) (fun g3 => ?_)
  refine r_scall0 [_] [3] rfl rfl rfl (c_law_points [⟨ab1, as1, ab2, as2, ab3, as3, ab4, as4⟩, ⟨bb1, bs1, bb2, bs2, bb3, bs3, bb4, bs4⟩, ⟨cb1, cs1, cb2, cs2, cb3, cs3, cb4, cs4⟩] (by simp only [List.forall_mem_cons]; exact ⟨hza, hzb, hzc, fun _ h => by cases h⟩) (Nat.le_of_ble_eq_true rfl) (some g3) _ _ (Nat.le_refl _)) ⟨⟨_, rfl, le_share⟩, trivial⟩ rfl ?_
  refine r_not rfl rfl rfl ?_
  refine r_pickF rfl rfl rfl rfl ?_
  refine run_nil ?_
  refine at_tn ?_
  refine at_cond rfl (fun hb0 => ?_) (fun hb0 => ?_)
  ·
    refine at_seq ?_
    refine at_region ?_
    refine r_pcall [] rfl rfl rfl (c_law_known) ?_
    refine r_assign rfl rfl rfl ?_
    refine run_nil ?_
    refine at_tn ?_
    refine at_ret ?_
    refine at_tr ?_
    refine at_end1 rfl (res_tmp rfl) (fun w hL => ⟨?_, hL.below⟩)
    exact rfl
  ·
    have hall : [(⟨ab1, as1, ab2, as2, ab3, as3, ab4, as4⟩ : RawP), ⟨bb1, bs1, bb2, bs2, bb3, bs3, bb4, bs4⟩, ⟨cb1, cs1, cb2, cs2, cb3, cs3, cb4, cs4⟩].all smallP = true := by simpa using hb0
    simp only [List.all_cons, List.all_nil, Bool.and_true, Bool.and_eq_true] at hall
    obtain ⟨hp_a, hp_b, hp_c⟩ := hall
    obtain ⟨a, ⟨⟨hx1, hx2, hx3, hx4⟩, ⟨hy1, hy2, hy3, hy4⟩⟩, hwa⟩ := smallP_q hp_a
    dsimp only at hx1 hx2 hx3 hx4 hy1 hy2 hy3 hy4
    subst hx1; subst hx2; subst hx3; subst hx4; subst hy1; subst hy2; subst hy3; subst hy4
    obtain ⟨b, ⟨⟨hx1, hx2, hx3, hx4⟩, ⟨hy1, hy2, hy3, hy4⟩⟩, hwb⟩ := smallP_q hp_b
    dsimp only at hx1 hx2 hx3 hx4 hy1 hy2 hy3 hy4
    subst hx1; subst hx2; subst hx3; subst hx4; subst hy1; subst hy2; subst hy3; subst hy4
    obtain ⟨c, ⟨⟨hx1, hx2, hx3, hx4⟩, ⟨hy1, hy2, hy3, hy4⟩⟩, hwc⟩ := smallP_q hp_c
    dsimp only at hx1 hx2 hx3 hx4 hy1 hy2 hy3 hy4
    subst hx1; subst hx2; subst hx3; subst hx4; subst hy1; subst hy2; subst hy3; subst hy4
    have hob := ori_bound2 a b c
    have hab := around_bound a b
    have hbc := around_bound b c
    refine at_skip ?_
    refine at_tn ?_
    refine at_seq ?_
    refine at_region ?_
    refine r_load 0 0 [_, _, _, _, _, _, _, _] rfl rfl rfl rfl ti27 rfl rfl rfl rfl ?_
    refine r_load 1 0 [_, _, _, _, _, _, _, _] rfl rfl rfl rfl ti27 rfl rfl rfl rfl ?_
    refine r_load 2 0 [_, _, _, _, _, _, _, _] rfl rfl rfl rfl ti27 rfl rfl rfl rfl ?_
    refine r_pcall [_, _, _] rfl rfl rfl (c_plane_Orientation a b c (szPm (Nat.le_trans (szP1 hwa) (Nat.le_of_ble_eq_true rfl)) (Nat.le_trans (szP2 hwa) (Nat.le_of_ble_eq_true rfl))) (szPm (Nat.le_trans (szP1 hwb) (Nat.le_of_ble_eq_true rfl)) (Nat.le_trans (szP2 hwb) (Nat.le_of_ble_eq_true rfl))) (szPm (Nat.le_trans (szP1 hwc) (Nat.le_of_ble_eq_true rfl)) (Nat.le_trans (szP2 hwc) (Nat.le_of_ble_eq_true rfl)))) ?_
    refine r_assign rfl rfl rfl ?_
    refine run_nil ?_
    refine at_tn ?_
    refine at_seq ?_
    refine at_seq ?_
    refine at_drawn (l' := (⟨_,_,_,_,_,_⟩ :: ⟨_,_,_,_,_,_⟩ :: ⟨_,_,_,_,_,_⟩ :: ⟨_,_,_,_,_,_⟩ :: ⟨_,_,_,_,_,_⟩ :: ⟨_,_,_,_,_,_⟩ :: ⟨_,_,_,_,_,_⟩ :: ⟨_,_,_,_,_,_⟩ :: ⟨_,_,_,_,_,_⟩ :: ⟨_,_,_,_,_,_⟩ :: ⟨_,_,_,_,_,_⟩ :: ⟨_,_,_,_,_,_⟩ :: ⟨_,_,_,_,_,_⟩ :: ⟨_,_,_,_,_,_⟩ :: ⟨_,_,_,_,_,_⟩ :: ⟨_,_,_,_,_,_⟩ :: ⟨_,_,_,_,_,_⟩ :: ⟨_,_,_,_,_,_⟩ :: ⟨_,_,_,_,_,_⟩ :: ⟨_,_,_,_,_,_⟩ :: ⟨_,_,_,_,_,_⟩ :: ⟨_,_,_,_,_,_⟩ :: ⟨_,_,_,_,_,_⟩ :: ⟨_,_,_,_,_,_⟩ :: ⟨_,_,_,_,_,_⟩ :: ⟨_,_,_,_,_,_⟩ :: ⟨_,_,_,_,_,_⟩ :: ⟨_,_,_,_,_,_⟩ :: ⟨_,_,_,_,_,_⟩ :: ⟨_,_,_,_,_,_⟩ :: ⟨_,_,_,_,_,_⟩ :: ⟨_,_,_,_,_,_⟩ :: ⟨_,_,_,_,_,_⟩ :: ⟨_,_,_,_,_,_⟩ :: ⟨_,_,_,_,_,_⟩ :: ⟨_,_,_,_,_,_⟩ :: ⟨_,_,_,_,_,_⟩ :: ⟨_,_,_,_,_,_⟩ :: [])) [] (0 :: 1 :: 2 :: 4 :: 5 :: 3 :: 6 :: 7 :: 8 :: 9 :: 10 :: 12 :: 13 :: 11 :: 14 :: 15 :: 16 :: 17 :: 18 :: 19 :: 21 :: 20 :: 22 :: 23 :: 24 :: 25 :: 26 :: 28 :: 29 :: 31 :: 32 :: 35 :: 27 :: 30 :: 33 :: 34 :: 36 :: 37 :: []) mixed (drawnM (0 :: 0 :: 0 :: 7 :: 0 :: 16 :: 63 :: 127 :: 255 :: 255 :: 255 :: 2047 :: 255 :: 4351 :: 16383 :: 32767 :: 65535 :: 131071 :: 131071 :: 131071 :: 1048575 :: 131071 :: 4194303 :: 8388607 :: 16777215 :: 33554431 :: 33554431 :: 134217727 :: 33554431 :: 33554431 :: 1073741823 :: 33554431 :: 33554431 :: 8589934591 :: 17179869183 :: 33554431 :: 68719476735 :: 137438953471 :: []) (by kernel_rfl)) rfl (by kernel_rfl) ?_
    refine r_load 1 0 [_, _, _, _, _, _, _, _] rfl rfl rfl rfl ti27 rfl rfl rfl rfl ?_
    refine r_load 0 0 [_, _, _, _, _, _, _, _] rfl rfl rfl rfl ti27 rfl rfl rfl rfl ?_
    refine r_load 2 0 [_, _, _, _, _, _, _, _] rfl rfl rfl rfl ti27 rfl rfl rfl rfl ?_
    refine r_move rfl rfl rfl ?_
    refine r_arith (r := 0 - ori a b c) rfl rfl rfl rfl (congrArg some (wi (by omega) (by omega) (by omega))) ?_
    refine r_pcall [_, _, _] rfl rfl rfl (c_plane_Orientation b a c (szPm (Nat.le_trans (szP1 hwb) (Nat.le_of_ble_eq_true rfl)) (Nat.le_trans (szP2 hwb) (Nat.le_of_ble_eq_true rfl))) (szPm (Nat.le_trans (szP1 hwa) (Nat.le_of_ble_eq_true rfl)) (Nat.le_trans (szP2 hwa) (Nat.le_of_ble_eq_true rfl))) (szPm (Nat.le_trans (szP1 hwc) (Nat.le_of_ble_eq_true rfl)) (Nat.le_trans (szP2 hwc) (Nat.le_of_ble_eq_true rfl)))) ?_
    refine r_cmpInt rfl rfl rfl rfl rfl ?_
    refine r_know 32 (.bool false) rfl (congrArg Value.bool (bne_eq_false_iff_eq.2 (ori_1 a b c))) ?_
    refine r_move rfl rfl rfl ?_
    refine r_load 0 0 [_, _, _, _, _, _, _, _] rfl rfl rfl rfl ti27 rfl rfl rfl rfl ?_
    refine r_load 2 0 [_, _, _, _, _, _, _, _] rfl rfl rfl rfl ti27 rfl rfl rfl rfl ?_
    refine r_load 1 0 [_, _, _, _, _, _, _, _] rfl rfl rfl rfl ti27 rfl rfl rfl rfl ?_
    refine r_move rfl rfl rfl ?_
    refine r_arith (r := 0 - ori a b c) rfl rfl rfl rfl (congrArg some (wi (by omega) (by omega) (by omega))) ?_
    refine r_pcall [_, _, _] rfl rfl rfl (c_plane_Orientation a c b (szPm (Nat.le_trans (szP1 hwa) (Nat.le_of_ble_eq_true rfl)) (Nat.le_trans (szP2 hwa) (Nat.le_of_ble_eq_true rfl))) (szPm (Nat.le_trans (szP1 hwc) (Nat.le_of_ble_eq_true rfl)) (Nat.le_trans (szP2 hwc) (Nat.le_of_ble_eq_true rfl))) (szPm (Nat.le_trans (szP1 hwb) (Nat.le_of_ble_eq_true rfl)) (Nat.le_trans (szP2 hwb) (Nat.le_of_ble_eq_true rfl)))) ?_
    refine r_cmpInt rfl rfl rfl rfl rfl ?_
    refine r_know 40 (.bool false) rfl (congrArg Value.bool (bne_eq_false_iff_eq.2 (ori_2 a b c))) ?_
    refine r_pickF rfl rfl rfl rfl ?_
    refine r_move rfl rfl rfl ?_
    refine r_load 1 0 [_, _, _, _, _, _, _, _] rfl rfl rfl rfl ti27 rfl rfl rfl rfl ?_
    refine r_load 2 0 [_, _, _, _, _, _, _, _] rfl rfl rfl rfl ti27 rfl rfl rfl rfl ?_
    refine r_load 0 0 [_, _, _, _, _, _, _, _] rfl rfl rfl rfl ti27 rfl rfl rfl rfl ?_
    refine r_move rfl rfl rfl ?_
    refine r_pcall [_, _, _] rfl rfl rfl (c_plane_Orientation b c a (szPm (Nat.le_trans (szP1 hwb) (Nat.le_of_ble_eq_true rfl)) (Nat.le_trans (szP2 hwb) (Nat.le_of_ble_eq_true rfl))) (szPm (Nat.le_trans (szP1 hwc) (Nat.le_of_ble_eq_true rfl)) (Nat.le_trans (szP2 hwc) (Nat.le_of_ble_eq_true rfl))) (szPm (Nat.le_trans (szP1 hwa) (Nat.le_of_ble_eq_true rfl)) (Nat.le_trans (szP2 hwa) (Nat.le_of_ble_eq_true rfl)))) ?_
    refine r_cmpInt rfl rfl rfl rfl rfl ?_
    refine r_know 48 (.bool false) rfl (congrArg Value.bool (bne_eq_false_iff_eq.2 (ori_3 a b c))) ?_
    refine r_pickF rfl rfl rfl rfl ?_
    refine r_move rfl rfl rfl ?_
    refine r_load 0 0 [_, _, _, _, _, _, _, _] rfl rfl rfl rfl ti27 rfl rfl rfl rfl ?_
    refine r_load 2 0 [_, _, _, _, _, _, _, _] rfl rfl rfl rfl ti27 rfl rfl rfl rfl ?_
    refine r_load 1 0 [_, _, _, _, _, _, _, _] rfl rfl rfl rfl ti27 rfl rfl rfl rfl ?_
    refine r_load 2 0 [_, _, _, _, _, _, _, _] rfl rfl rfl rfl ti27 rfl rfl rfl rfl ?_
    refine r_load 2 0 [_, _, _, _, _, _, _, _] rfl rfl rfl rfl ti27 rfl rfl rfl rfl ?_
    refine r_load 2 0 [_, _, _, _, _, _, _, _] rfl rfl rfl rfl ti27 rfl rfl rfl rfl ?_
    refine r_move rfl rfl rfl ?_
    refine r_pcall [_, _] rfl rfl rfl (c_plane_Add a c (szPm (Nat.le_trans (szP1 hwa) (Nat.le_of_ble_eq_true rfl)) (Nat.le_trans (szP2 hwa) (Nat.le_of_ble_eq_true rfl))) (szPm (Nat.le_trans (szP1 hwc) (Nat.le_of_ble_eq_true rfl)) (Nat.le_trans (szP2 hwc) (Nat.le_of_ble_eq_true rfl)))) ?_
    refine r_pcall [_, _] rfl rfl rfl (c_plane_Add b c (szPm (Nat.le_trans (szP1 hwb) (Nat.le_of_ble_eq_true rfl)) (Nat.le_trans (szP2 hwb) (Nat.le_of_ble_eq_true rfl))) (szPm (Nat.le_trans (szP1 hwc) (Nat.le_of_ble_eq_true rfl)) (Nat.le_trans (szP2 hwc) (Nat.le_of_ble_eq_true rfl)))) ?_
    refine r_pcall [_, _] rfl rfl rfl (c_plane_Add c c (szPm (Nat.le_trans (szP1 hwc) (Nat.le_of_ble_eq_true rfl)) (Nat.le_trans (szP2 hwc) (Nat.le_of_ble_eq_true rfl))) (szPm (Nat.le_trans (szP1 hwc) (Nat.le_of_ble_eq_true rfl)) (Nat.le_trans (szP2 hwc) (Nat.le_of_ble_eq_true rfl)))) ?_
    refine r_pcall [_, _, _] rfl rfl rfl (c_plane_Orientation (pAdd a c) (pAdd b c) (pAdd c c) (szPm (Nat.le_trans (szQ_add (szP1 hwa) (szP1 hwc)) (Nat.le_of_ble_eq_true rfl)) (Nat.le_trans (szQ_add (szP2 hwa) (szP2 hwc)) (Nat.le_of_ble_eq_true rfl))) (szPm (Nat.le_trans (szQ_add (szP1 hwb) (szP1 hwc)) (Nat.le_of_ble_eq_true rfl)) (Nat.le_trans (szQ_add (szP2 hwb) (szP2 hwc)) (Nat.le_of_ble_eq_true rfl))) (szPm (Nat.le_trans (szQ_add (szP1 hwc) (szP1 hwc)) (Nat.le_of_ble_eq_true rfl)) (Nat.le_trans (szQ_add (szP2 hwc) (szP2 hwc)) (Nat.le_of_ble_eq_true rfl)))) ?_
    refine r_cmpInt rfl rfl rfl rfl rfl ?_
    refine r_know 62 (.bool false) rfl (congrArg Value.bool (bne_eq_false_iff_eq.2 (ori_4 a b c c))) ?_
    refine r_pickF rfl rfl rfl rfl ?_
    refine run_nil ?_
    refine at_tn ?_
    refine at_condF rfl ?_
    refine at_skip ?_
    refine at_tn ?_
    refine at_seq ?_
    refine at_drawn (l' := [⟨_,_,_,_,_,_⟩, ⟨_,_,_,_,_,_⟩, ⟨_,_,_,_,_,_⟩, ⟨_,_,_,_,_,_⟩, ⟨_,_,_,_,_,_⟩, ⟨_,_,_,_,_,_⟩, ⟨_,_,_,_,_,_⟩, ⟨_,_,_,_,_,_⟩, ⟨_,_,_,_,_,_⟩, ⟨_,_,_,_,_,_⟩, ⟨_,_,_,_,_,_⟩, ⟨_,_,_,_,_,_⟩]) [] [0, 1, 3, 4, 6, 7, 2, 5, 8, 9, 10, 11] mixed (by kernel_rfl) rfl (by kernel_rfl) ?_
    refine r_load 0 0 [_, _, _, _, _, _, _, _] rfl rfl rfl rfl ti27 rfl rfl rfl rfl ?_
    refine r_load 1 0 [_, _, _, _, _, _, _, _] rfl rfl rfl rfl ti27 rfl rfl rfl rfl ?_
    refine r_load 1 0 [_, _, _, _, _, _, _, _] rfl rfl rfl rfl ti27 rfl rfl rfl rfl ?_
    refine r_load 2 0 [_, _, _, _, _, _, _, _] rfl rfl rfl rfl ti27 rfl rfl rfl rfl ?_
    refine r_load 0 0 [_, _, _, _, _, _, _, _] rfl rfl rfl rfl ti27 rfl rfl rfl rfl ?_
    refine r_load 2 0 [_, _, _, _, _, _, _, _] rfl rfl rfl rfl ti27 rfl rfl rfl rfl ?_
    refine r_pcall [_, _] rfl rfl rfl (c_plane_Around a b (szPm (Nat.le_trans (szP1 hwa) (Nat.le_of_ble_eq_true rfl)) (Nat.le_trans (szP2 hwa) (Nat.le_of_ble_eq_true rfl))) (szPm (Nat.le_trans (szP1 hwb) (Nat.le_of_ble_eq_true rfl)) (Nat.le_trans (szP2 hwb) (Nat.le_of_ble_eq_true rfl)))) ?_
    refine r_pcall [_, _] rfl rfl rfl (c_plane_Around b c (szPm (Nat.le_trans (szP1 hwb) (Nat.le_of_ble_eq_true rfl)) (Nat.le_trans (szP2 hwb) (Nat.le_of_ble_eq_true rfl))) (szPm (Nat.le_trans (szP1 hwc) (Nat.le_of_ble_eq_true rfl)) (Nat.le_trans (szP2 hwc) (Nat.le_of_ble_eq_true rfl)))) ?_
    refine r_pcall [_, _] rfl rfl rfl (c_plane_Around a c (szPm (Nat.le_trans (szP1 hwa) (Nat.le_of_ble_eq_true rfl)) (Nat.le_trans (szP2 hwa) (Nat.le_of_ble_eq_true rfl))) (szPm (Nat.le_trans (szP1 hwc) (Nat.le_of_ble_eq_true rfl)) (Nat.le_trans (szP2 hwc) (Nat.le_of_ble_eq_true rfl)))) ?_
    refine r_assign rfl rfl rfl ?_
    refine r_assign rfl rfl rfl ?_
    refine r_assign rfl rfl rfl ?_
    refine run_nil ?_
    refine at_tn ?_
    refine at_seq ?_
    refine at_region ?_
    refine r_move rfl rfl rfl ?_
    refine r_cmpInt rfl rfl rfl rfl rfl ?_
    refine r_know 74 (.bool true) rfl (congrArg Value.bool (decide_eq_true hab.1)) ?_
    refine r_move rfl rfl rfl ?_
    refine r_move rfl rfl rfl ?_
    refine r_cmpInt rfl rfl rfl rfl rfl ?_
    refine r_know 77 (.bool true) rfl (congrArg Value.bool (decide_eq_true hab.2)) ?_
    refine r_pickT rfl rfl rfl rfl ?_
    refine r_move rfl rfl rfl ?_
    refine r_load 1 0 [_, _, _, _, _, _, _, _] rfl rfl rfl rfl ti27 rfl rfl rfl rfl ?_
    refine r_load 0 0 [_, _, _, _, _, _, _, _] rfl rfl rfl rfl ti27 rfl rfl rfl rfl ?_
    refine r_pcall [_, _] rfl rfl rfl (c_plane_Around b a (szPm (Nat.le_trans (szP1 hwb) (Nat.le_of_ble_eq_true rfl)) (Nat.le_trans (szP2 hwb) (Nat.le_of_ble_eq_true rfl))) (szPm (Nat.le_trans (szP1 hwa) (Nat.le_of_ble_eq_true rfl)) (Nat.le_trans (szP2 hwa) (Nat.le_of_ble_eq_true rfl)))) ?_
    refine r_move rfl rfl rfl ?_
    refine r_arith (r := 0 - around a b) rfl rfl rfl rfl (congrArg some (wi (by omega) (by omega) (by omega))) ?_
    refine r_cmpInt rfl rfl rfl rfl rfl ?_
    refine r_know 85 (.bool true) rfl (congrArg Value.bool (beq_iff_eq.2 (around_anti a b))) ?_
    refine r_pickT rfl rfl rfl rfl ?_
    refine r_move rfl rfl rfl ?_
    refine r_move rfl rfl rfl ?_
    refine r_cmpInt rfl rfl rfl rfl rfl ?_
    refine r_move rfl rfl rfl ?_
    refine r_split 90 rfl (fun hb1 => ?_) (fun hb1 => ?_)
    ·
      refine r_no rfl rfl rfl ?_
      refine r_no rfl rfl rfl ?_
      refine r_pickT rfl rfl rfl rfl ?_
      refine r_move rfl rfl rfl ?_
      refine r_no rfl rfl rfl ?_
      refine r_no rfl rfl rfl ?_
      refine r_no rfl rfl rfl ?_
      refine r_no rfl rfl rfl ?_
      refine r_no rfl rfl rfl ?_
      refine r_pickT rfl rfl rfl rfl ?_
      refine r_pickT rfl rfl rfl rfl ?_
      refine r_move rfl rfl rfl ?_
      refine r_move rfl rfl rfl ?_
      refine r_cmpInt rfl rfl rfl rfl rfl ?_
      refine r_move rfl rfl rfl ?_
      refine r_split 105 rfl (fun hb2 => ?_) (fun hb2 => ?_)
      ·
        refine r_no rfl rfl rfl ?_
        refine r_no rfl rfl rfl ?_
        refine r_pickT rfl rfl rfl rfl ?_
        refine r_move rfl rfl rfl ?_
        refine r_no rfl rfl rfl ?_
        refine r_no rfl rfl rfl ?_
        refine r_no rfl rfl rfl ?_
        refine r_no rfl rfl rfl ?_
        refine r_no rfl rfl rfl ?_
        refine r_pickT rfl rfl rfl rfl ?_
        refine r_pickT rfl rfl rfl rfl ?_
        refine r_assign rfl rfl rfl ?_
        refine run_nil ?_
        refine at_tn ?_
        refine at_ret ?_
        refine at_end1 rfl (res_tmp rfl) (fun w hL => ⟨?_, hL.below⟩)
        exact rfl
      ·
        have hx2 : around a b ≥ 0 := by have h9 := of_decide_eq_false hb2; omega
        refine r_move rfl rfl rfl ?_
        refine r_cmpInt rfl rfl rfl rfl rfl ?_
        refine r_pickF rfl rfl rfl rfl ?_
        refine r_move rfl rfl rfl ?_
        refine r_split 109 rfl (fun hb3 => ?_) (fun hb3 => ?_)
        ·
          refine r_no rfl rfl rfl ?_
          refine r_no rfl rfl rfl ?_
          refine r_no rfl rfl rfl ?_
          refine r_no rfl rfl rfl ?_
          refine r_no rfl rfl rfl ?_
          refine r_pickT rfl rfl rfl rfl ?_
          refine r_pickT rfl rfl rfl rfl ?_
          refine r_assign rfl rfl rfl ?_
          refine run_nil ?_
          refine at_tn ?_
          refine at_ret ?_
          refine at_end1 rfl (res_tmp rfl) (fun w hL => ⟨?_, hL.below⟩)
          exact rfl
        ·
          have hx3 : around b c ≥ 0 := by have h9 := of_decide_eq_false hb3; omega
          refine r_move rfl rfl rfl ?_
          refine r_move rfl rfl rfl ?_
          refine r_move rfl rfl rfl ?_
          refine r_maxI rfl rfl rfl rfl ?_
          refine r_cmpInt rfl rfl rfl rfl rfl ?_
          refine r_know 114 (.bool true) rfl (congrArg Value.bool (beq_iff_eq.2 (around_max hx2 hx3))) ?_
          refine r_pickF rfl rfl rfl rfl ?_
          refine r_pickT rfl rfl rfl rfl ?_
          refine r_assign rfl rfl rfl ?_
          refine run_nil ?_
          refine at_tn ?_
          refine at_ret ?_
          refine at_end1 rfl (res_tmp rfl) (fun w hL => ⟨?_, hL.below⟩)
          exact rfl
    ·
      have hx0 : around a b ≤ 0 := by have h9 := of_decide_eq_false hb1; omega
      refine r_move rfl rfl rfl ?_
      refine r_cmpInt rfl rfl rfl rfl rfl ?_
      refine r_pickF rfl rfl rfl rfl ?_
      refine r_move rfl rfl rfl ?_
      refine r_split 94 rfl (fun hb2 => ?_) (fun hb2 => ?_)
      ·
        refine r_no rfl rfl rfl ?_
        refine r_no rfl rfl rfl ?_
        refine r_no rfl rfl rfl ?_
        refine r_no rfl rfl rfl ?_
        refine r_no rfl rfl rfl ?_
        refine r_pickT rfl rfl rfl rfl ?_
        refine r_pickT rfl rfl rfl rfl ?_
        refine r_move rfl rfl rfl ?_
        refine r_move rfl rfl rfl ?_
        refine r_cmpInt rfl rfl rfl rfl rfl ?_
        refine r_move rfl rfl rfl ?_
        refine r_split 105 rfl (fun hb3 => ?_) (fun hb3 => ?_)
        ·
          refine r_no rfl rfl rfl ?_
          refine r_no rfl rfl rfl ?_
          refine r_pickT rfl rfl rfl rfl ?_
          refine r_move rfl rfl rfl ?_
          refine r_no rfl rfl rfl ?_
          refine r_no rfl rfl rfl ?_
          refine r_no rfl rfl rfl ?_
          refine r_no rfl rfl rfl ?_
          refine r_no rfl rfl rfl ?_
          refine r_pickT rfl rfl rfl rfl ?_
          refine r_pickT rfl rfl rfl rfl ?_
          refine r_assign rfl rfl rfl ?_
          refine run_nil ?_
          refine at_tn ?_
          refine at_ret ?_
          refine at_end1 rfl (res_tmp rfl) (fun w hL => ⟨?_, hL.below⟩)
          exact rfl
        ·
          have hx2 : around a b ≥ 0 := by have h9 := of_decide_eq_false hb3; omega
          refine r_move rfl rfl rfl ?_
          refine r_cmpInt rfl rfl rfl rfl rfl ?_
          refine r_pickF rfl rfl rfl rfl ?_
          refine r_move rfl rfl rfl ?_
          refine r_split 109 rfl (fun hb4 => ?_) (fun hb4 => ?_)
          ·
            refine r_no rfl rfl rfl ?_
            refine r_no rfl rfl rfl ?_
            refine r_no rfl rfl rfl ?_
            refine r_no rfl rfl rfl ?_
            refine r_no rfl rfl rfl ?_
            refine r_pickT rfl rfl rfl rfl ?_
            refine r_pickT rfl rfl rfl rfl ?_
            refine r_assign rfl rfl rfl ?_
            refine run_nil ?_
            refine at_tn ?_
            refine at_ret ?_
            refine at_end1 rfl (res_tmp rfl) (fun w hL => ⟨?_, hL.below⟩)
            exact rfl
          ·
            have hx3 : around b c ≥ 0 := by have h9 := of_decide_eq_false hb4; omega
            refine r_move rfl rfl rfl ?_
            refine r_move rfl rfl rfl ?_
            refine r_move rfl rfl rfl ?_
            refine r_maxI rfl rfl rfl rfl ?_
            refine r_cmpInt rfl rfl rfl rfl rfl ?_
            refine r_know 114 (.bool true) rfl (congrArg Value.bool (beq_iff_eq.2 (around_max hx2 hx3))) ?_
            refine r_pickF rfl rfl rfl rfl ?_
            refine r_pickT rfl rfl rfl rfl ?_
            refine r_assign rfl rfl rfl ?_
            refine run_nil ?_
            refine at_tn ?_
            refine at_ret ?_
            refine at_end1 rfl (res_tmp rfl) (fun w hL => ⟨?_, hL.below⟩)
            exact rfl
      ·
        have hx1 : around b c ≤ 0 := by have h9 := of_decide_eq_false hb2; omega
        refine r_move rfl rfl rfl ?_
        refine r_move rfl rfl rfl ?_
        refine r_move rfl rfl rfl ?_
        refine r_minI rfl rfl rfl rfl ?_
        refine r_cmpInt rfl rfl rfl rfl rfl ?_
        refine r_know 99 (.bool true) rfl (congrArg Value.bool (beq_iff_eq.2 (around_min hx0 hx1))) ?_
        refine r_pickF rfl rfl rfl rfl ?_
        refine r_pickT rfl rfl rfl rfl ?_
        refine r_move rfl rfl rfl ?_
        refine r_move rfl rfl rfl ?_
        refine r_cmpInt rfl rfl rfl rfl rfl ?_
        refine r_move rfl rfl rfl ?_
        refine r_split 105 rfl (fun hb3 => ?_) (fun hb3 => ?_)
        ·
          refine r_no rfl rfl rfl ?_
          refine r_no rfl rfl rfl ?_
          refine r_pickT rfl rfl rfl rfl ?_
          refine r_move rfl rfl rfl ?_
          refine r_no rfl rfl rfl ?_
          refine r_no rfl rfl rfl ?_
          refine r_no rfl rfl rfl ?_
          refine r_no rfl rfl rfl ?_
          refine r_no rfl rfl rfl ?_
          refine r_pickT rfl rfl rfl rfl ?_
          refine r_pickT rfl rfl rfl rfl ?_
          refine r_assign rfl rfl rfl ?_
          refine run_nil ?_
          refine at_tn ?_
          refine at_ret ?_
          refine at_end1 rfl (res_tmp rfl) (fun w hL => ⟨?_, hL.below⟩)
          exact rfl
        ·
          have hx2 : around a b ≥ 0 := by have h9 := of_decide_eq_false hb3; omega
          refine r_move rfl rfl rfl ?_
          refine r_cmpInt rfl rfl rfl rfl rfl ?_
          refine r_pickF rfl rfl rfl rfl ?_
          refine r_move rfl rfl rfl ?_
          refine r_split 109 rfl (fun hb4 => ?_) (fun hb4 => ?_)
          ·
            refine r_no rfl rfl rfl ?_
            refine r_no rfl rfl rfl ?_
            refine r_no rfl rfl rfl ?_
            refine r_no rfl rfl rfl ?_
            refine r_no rfl rfl rfl ?_
            refine r_pickT rfl rfl rfl rfl ?_
            refine r_pickT rfl rfl rfl rfl ?_
            refine r_assign rfl rfl rfl ?_
            refine run_nil ?_
            refine at_tn ?_
            refine at_ret ?_
            refine at_end1 rfl (res_tmp rfl) (fun w hL => ⟨?_, hL.below⟩)
            exact rfl
          ·
            have hx3 : around b c ≥ 0 := by have h9 := of_decide_eq_false hb4; omega
            refine r_move rfl rfl rfl ?_
            refine r_move rfl rfl rfl ?_
            refine r_move rfl rfl rfl ?_
            refine r_maxI rfl rfl rfl rfl ?_
            refine r_cmpInt rfl rfl rfl rfl rfl ?_
            refine r_know 114 (.bool true) rfl (congrArg Value.bool (beq_iff_eq.2 (around_max hx2 hx3))) ?_
            refine r_pickF rfl rfl rfl rfl ?_
            refine r_pickT rfl rfl rfl rfl ?_
            refine r_assign rfl rfl rfl ?_
            refine run_nil ?_
            refine at_tn ?_
            refine at_ret ?_
            refine at_end1 rfl (res_tmp rfl) (fun w hL => ⟨?_, hL.below⟩)
            exact rfl

end Go.Proofs.YthnlafhnpphdhaaGreatDoor
set_option linter.unusedVariables false
namespace Go.Proofs.YthnlafhnpphdhaaGreatDoor.planeTurns
open Go Go.ChangeShapes Go.WideShapes Go.ChangeAt Go.RowKit Go.Via

theorem big {n : Nat} (h : n ≤ reachBytes) : n ≤ BIG := Nat.le_trans h (by decide)

set_option maxRecDepth 20000 in
theorem contract (H : Type) (enc : TypeId × Value → H) (W : World) (base : Nat) (args : Array Value) (ds gs : List (DataW H)) (before : List MemPlace)
    (hval : ∀ (j : Nat) t v, Tryz.f8.params[j]? = some t → args[j]? = some v → Value.okWide Tryz.prog W .any base t v)
    (hW : DataW.Whole enc Tryz.prog Tryz.f8.params.toList Rows.planeTurnsSpec.vars false W args.toList ds gs before)
    (hsz : (DataW.weightsEach Tryz.prog (Tryz.f8.params.toList ++ (OpenSpec.ofChange Rows.planeTurnsSpec).bare.plain.varTypes Tryz.prog) (ds ++ gs)).all (· ≤ reachBytes) = true) :
    Calls Tryz.prog 8 args W fun e W' => ∃ v, e = .returned v ∧ Rows.planeTurnsSpec.post enc Tryz.prog Tryz.f8 false true false false W args v W' := by
  have hW' := hW
  obtain ⟨p, q, hA0, hV, rfl, hfz, hnd⟩ := hW
  have hA : DataW.TrodAll enc Tryz.prog W 0 (fun _ => true) true Tryz.f8.params.toList args.toList ds p := hA0
  rw [Tryz.params8] at hA hval
  obtain ⟨v0, vs0, d0, ds0, p0, q0, hargs, rfl, rfl, h0, r0⟩ := trodAll_cons hA
  obtain ⟨v1, vs1, d1, ds1, p1, q1, rfl, rfl, rfl, h1, r1⟩ := trodAll_cons r0
  obtain ⟨v2, vs2, d2, ds2, p2, q2, rfl, rfl, rfl, h2, r2⟩ := trodAll_cons r1
  obtain ⟨rfl, rfl, rfl⟩ := trodAll_nil r2
  obtain rfl : args = #[v0, v1, v2] := by cases args; simp_all
  obtain ⟨rfl, rfl⟩ := trodVars_none hV
  obtain ⟨a0, rfl, rfl, rfl, s0⟩ := openP (hval 0 27 v0 rfl rfl) h0
  obtain ⟨a1, rfl, rfl, rfl, s1⟩ := openP (hval 1 27 v1 rfl rfl) h1
  obtain ⟨a2, rfl, rfl, rfl, s2⟩ := openP (hval 2 27 v2 rfl rfl) h2
  clear hA0
  simp only [List.append_nil] at hW'
  have hz : ([a0.s1.size, a0.s2.size, a0.s3.size, a0.s4.size] ++ ([a1.s1.size, a1.s2.size, a1.s3.size, a1.s4.size] ++ ([a2.s1.size, a2.s2.size, a2.s3.size, a2.s4.size] ++ []))).all (· ≤ reachBytes) = true := by
    have h : (DataW.weightsEach Tryz.prog [27, 27, 27] [(dP a0 : DataW H), dP a1, dP a2]).all (· ≤ reachBytes) = true := hsz
    rw [DataW.weightsEach, DataW.weightsEach, DataW.weightsEach, DataW.weightsEach, wP, wP, wP] at h
    · exact h
    all_goals (intros; simp_all)
  simp only [List.all_append, List.all_cons, List.all_nil, Bool.and_true, Bool.and_eq_true, decide_eq_true_eq] at hz
  obtain ⟨⟨z01, z02, z03, z04⟩, ⟨z11, z12, z13, z14⟩, z21, z22, z23, z24⟩ := hz
  have walk := (c_PlaneTurns a0.a1 a0.s1 a0.a2 a0.s2 a0.a3 a0.s3 a0.a4 a0.s4 a1.a1 a1.s1 a1.a2 a1.s2 a1.a3 a1.s3 a1.a4 a1.s4 a2.a1 a2.s1 a2.a2 a2.s2 a2.a3 a2.s3 a2.a4 a2.s4 ⟨big z01, big z02, big z03, big z04⟩ ⟨big z11, big z12, big z13, big z14⟩ ⟨big z21, big z22, big z23, big z24⟩).2 W
  refine walk.mono fun e W' ⟨he, hg⟩ => ?_
  subst he
  exact ⟨_, rfl, post_plain rfl hW' (fun _ _ _ => trodAll_cons_mk (shut_bool Tryz.underlying4 _) trodAll_mk0)
    (fun _ => trodAll_cons_mk (s0 _ _ _ _) (trodAll_cons_mk (s1 _ _ _ _) (trodAll_cons_mk (s2 _ _ _ _) (trodAll_mk0)))) rfl hg (ok_one (by kernel_rfl) rfl (okWide_bool_mk Tryz.underlying4 _))⟩

abbrev wit : Array Value := #[.agg #[.bool false, .string ⟨#[]⟩, .bool false, .string ⟨#[]⟩, .bool false, .string ⟨#[]⟩, .bool false, .string ⟨#[]⟩], .agg #[.bool false, .string ⟨#[]⟩, .bool false, .string ⟨#[]⟩, .bool false, .string ⟨#[]⟩, .bool false, .string ⟨#[]⟩], .agg #[.bool false, .string ⟨#[]⟩, .bool false, .string ⟨#[]⟩, .bool false, .string ⟨#[]⟩, .bool false, .string ⟨#[]⟩]]
abbrev wi {H : Type} : DataW H := .agg [.lit (.bool false), .lit (.string [])]
abbrev wq {H : Type} : DataW H := .agg [wi, wi]
theorem reads (os : Os) {H : Type} (enc : TypeId × Value → H) : ∃ places, DataW.whole enc Tryz.prog ((laidWorld os).forCall (fun _ _ => 0) ⟨#[], wit, []⟩).memory Tryz.f8.params.toList Rows.planeTurnsSpec.vars false wit.toList 8 = some ([.agg [wq, wq], .agg [wq, wq], .agg [wq, wq]], [], places) :=
  ⟨[], by kernel_rfl⟩

set_option maxRecDepth 100000 in
theorem lifted (os : Os) (started : os.Started) (H : Type) (enc : TypeId × Value → H) (F : Stop.Interp) :
    ReturnsInHanded {} Tryz.checked os 8 .any ((OpenSpec.ofChange Rows.planeTurnsSpec).preRow enc Tryz.prog Tryz.f8 Rows.planeTurnsRow.domain false Rows.planeTurnsRow.laid) (((OpenSpec.ofChange Rows.planeTurnsSpec).at F).post enc Tryz.prog Tryz.f8 false true false false) := by
  obtain ⟨places, hx⟩ := reads os enc
  refine returnsInHanded_of_row (C := Tryz.checked) (s := OpenSpec.ofChange Rows.planeTurnsSpec) own started (by kernel_rfl) Tryz.func8
    (witness_row_at (enc := enc) (C := Tryz.checked) false (laidWorld os) wit rfl (by kernel_rfl) (by kernel_rfl) (by kernel_rfl)
      (OpenSpec.preRow_of_cond 8 hx (by kernel_rfl) (fun k hk => by cases hk) (by kernel_rfl) (laid_met os _))) ?_
  intro W base args ds gs before hval hW _ _ hsz hL _ _
  exact contract H enc W base args ds gs before hval hW hsz

theorem said : Rows.PlaneTurnsSaid :=
  OpenClaim.holds_of_cond 8 Tryz.f8 rfl rfl rfl rfl rfl rfl rfl ⟨rfl, rfl, rfl, rfl, rfl⟩ rfl rfl rfl rfl rfl (by kernel_rfl) Tryz.func8 (by kernel_rfl)
    (of_decide_eq_true (by kernel_rfl)) (by unfold Func.isWrapper; first | (rw [if_pos (by decide +kernel)]; kernel_rfl) | (rw [if_neg (by decide +kernel)]; exact ⟨rfl, rfl⟩))
    (fun os started H enc _ F => by rw [OpenClaim.pre_eq_preRow]; exact lifted os started H enc F)

/-- No parameter wants a stand-in; the program's own looks are off. -/
theorem plain (f : FuncId) (fn : Func) (hf : Tryz.pinned.checked.prog.funcNamed "viator/viatorlaw07.PlaneTurns" = some f) (hfn : Tryz.pinned.checked.prog.funcs[f]? = some fn) :
    false = Tryz.pinned.checked.prog.looks [] ∧ ∀ (j : Nat) t, fn.params[j]? = some t → Tryz.pinned.checked.prog.wantsStandIn t = false := by
  obtain rfl : f = 8 := Option.some.inj ((show Tryz.prog.funcNamed "viator/viatorlaw07.PlaneTurns" = some 8 by kernel_rfl).symm.trans hf) |>.symm
  obtain rfl : fn = Tryz.f8 := (Option.some.inj (Tryz.func8.symm.trans hfn)).symm
  refine ⟨by kernel_rfl, fun j t ht => ?_⟩
  rw [Tryz.params8] at ht
  have hm : t ∈ ([27, 27, 27] : List Nat) := by simpa using Array.mem_of_getElem? ht
  have hw : ∀ t ∈ ([27, 27, 27] : List Nat), Tryz.prog.wantsStandIn t = false := by
    intro t ht
    simp only [List.mem_cons, List.mem_nil_iff, or_false] at ht
    rcases ht with rfl | rfl | rfl
    · exact (show Tryz.prog.wantsStandIn 27 = false by kernel_rfl)
    · exact (show Tryz.prog.wantsStandIn 27 = false by kernel_rfl)
    · exact (show Tryz.prog.wantsStandIn 27 = false by kernel_rfl)
  exact hw t hm

/-- ████ THE CARD ████ -/
theorem card : Rows.PlaneTurnsCardSaid :=
  Claim7.holds_tied_plain_at .later [] _ _ _ _ said (fun _ h => by cases h) (by kernel_rfl) (fun _ h => by cases h) planeTurns_row_tie rfl ⟨rfl, rfl⟩ (by kernel_rfl) rfl plain (by kernel_rfl)
end Go.Proofs.YthnlafhnpphdhaaGreatDoor.planeTurns
namespace Go.Proofs.YthnlafhnpphdhaaGreatDoor
/-- the card -/
theorem planeTurns_holds : Rows.PlaneTurnsCardSaid := planeTurns.card
end Go.Proofs.YthnlafhnpphdhaaGreatDoor
