/-
  For any point whose fractions have at most 20 bytes, Check says whether they are canonical, and At returns the point of any two ints. No further conditions.
-/
import Derived.Test.YthnlafhnpphdhaaGreatDoorA10
import Derived.Test.YthnlafhnpphdhaaGreatDoorA11
import Derived.Test.YthnlafhnpphdhaaGreatDoorA12
set_option linter.unusedVariables false
set_option linter.unusedVariables false
set_option linter.unusedSimpArgs false
namespace Go.Via
open Go Go.RowKit
/-! ### the look at a region by numbers whose bits are the operations that one waits for -/
def bitsOf (ms : List Nat) (l : List Edge) : Nat := l.foldl (fun m e => if Region.binds .any e then m ||| ((1 <<< e.on) ||| ms.getD e.on 0) else m) 0
def maskOK (ops : Array Oper) (ms : List Nat) : Bool := (List.range ops.size).all fun i => match ops[i]? with
  | some o => (o.after.toList.all fun e => !Region.binds .any e || decide (e.on < i)) && ms.getD i 0 == bitsOf ms o.after.toList
  | none => true
theorem bits_fold {ms : List Nat} {j : Nat} : ∀ {l : List Edge} {m : Nat}, Nat.testBit (l.foldl (fun m e => if Region.binds .any e then m ||| ((1 <<< e.on) ||| ms.getD e.on 0) else m) m) j = true →
    Nat.testBit m j = true ∨ ∃ e ∈ l, Region.binds .any e = true ∧ (e.on = j ∨ Nat.testBit (ms.getD e.on 0) j = true)
  | [], m, h => .inl h
  | e :: l, m, h => by
    rw [List.foldl_cons] at h
    rcases bits_fold h with h | ⟨e', h1, h2⟩
    · split at h
      · rename_i hb
        rw [Nat.testBit_or, Nat.testBit_or, Bool.or_eq_true, Bool.or_eq_true] at h
        rcases h with h | h | h
        · exact .inl h
        · refine .inr ⟨e, by simp, hb, .inl ?_⟩
          rw [Nat.testBit_shiftLeft] at h
          simp only [Bool.and_eq_true, decide_eq_true_eq] at h
          have h3 := h.2
          by_cases c : j - e.on = 0
          · omega
          · exfalso
            obtain ⟨k, hk⟩ : ∃ k, j - e.on = k + 1 := ⟨j - e.on - 1, by omega⟩
            rw [hk, Nat.testBit_succ] at h3
            simp at h3
        · exact .inr ⟨e, by simp, hb, .inr h⟩
      · exact .inl h
    · exact .inr ⟨e', by simp [h1], h2⟩
theorem mask_waits {ops : Array Oper} {ms : List Nat} (hm : maskOK ops ms = true) : ∀ (f i j : Nat), i < f → i < ops.size → Nat.testBit (ms.getD i 0) j = true → waitsF ops f i j = true
  | 0, i, j, h, _, _ => by omega
  | f + 1, i, j, h, hi, hb => by
    have h1 := List.all_eq_true.1 hm i (List.mem_range.2 hi)
    rw [Array.getElem?_eq_getElem hi] at h1
    simp only [Bool.and_eq_true, beq_iff_eq] at h1
    obtain ⟨h2, h3⟩ := h1
    rw [h3] at hb
    unfold waitsF
    rw [Array.getElem?_eq_getElem hi]
    rcases bits_fold hb with hb | ⟨e, he, hbe, hj⟩
    · simp at hb
    · have hlt : e.on < i := by
        have := List.all_eq_true.1 h2 e he
        rw [hbe] at this
        simpa using this
      refine Array.any_eq_true'.2 ⟨e, by simpa using he, ?_⟩
      rw [hbe, Bool.true_and, Bool.or_eq_true]
      rcases hj with hj | hj
      · exact .inl (by simpa using hj)
      · exact .inr (mask_waits hm f e.on j (by omega) (by omega) hj)
def pairM (bl : List Nat) (ops : Array Oper) (ms : List Nat) (p i : Nat) : Bool :=
  Nat.testBit (ms.getD i 0) p ||
  match ops[p]?, ops[i]? with
  | some op, some oi => isMov op && isFr bl oi && !isCall op && op.apart ops oi
  | _, _ => false
def pairMA (bl : List Nat) (ops : Array Oper) (ms : List Nat) (p i : Nat) : Bool :=
  Nat.testBit (ms.getD i 0) p ||
  match ops[p]?, ops[i]? with
  | some op, some oi => passOk bl ops op oi
  | _, _ => false
theorem pairsB_mono {f g : Nat → Nat → Bool} : ∀ {l : List Nat}, (∀ p ∈ l, ∀ i ∈ l, f p i = true → g p i = true) → pairsB f l = true → pairsB g l = true
  | [], _, _ => rfl
  | p :: l, h, hf => by
    simp only [pairsB, Bool.and_eq_true] at hf ⊢
    exact ⟨List.all_eq_true.2 fun i hi => h p (by simp) i (by simp [hi]) (List.all_eq_true.1 hf.1 i hi), pairsB_mono (fun p hp i hi => h p (by simp [hp]) i (by simp [hi])) hf.2⟩
def drawnMOk (bl : List Nat) (ops : Array Oper) (perm : List Nat) (ms : List Nat) : Bool :=
  maskOK ops ms && (decide (perm.length = ops.size) && perm.all (fun i => decide (i < ops.size)) && (List.range ops.size).all (fun i => perm.contains i) &&
  pairsB (pairM bl ops ms) perm && pairsB (noWait ops) perm && perm.all (fun i => noWait ops i i) && perm.all (fun i => edgesIn ops i) && pairsB (dstApart bl ops) perm && pairsB (movFirst bl ops) perm && pairsB (fun i j => i != j) perm)
theorem drawnM {bl : List Nat} {ops : Array Oper} {perm : List Nat} (ms : List Nat) (h : drawnMOk bl ops perm ms = true) : drawnOk bl ops perm = true := by
  unfold drawnMOk at h
  rw [Bool.and_eq_true] at h
  obtain ⟨hm, h⟩ := h
  unfold drawnOk
  simp only [Bool.and_eq_true] at h ⊢
  obtain ⟨⟨⟨⟨⟨⟨⟨⟨⟨h1, h2⟩, h3⟩, h4⟩, h5⟩, h6⟩, h7⟩, h8⟩, h9⟩, h10⟩ := h
  refine ⟨⟨⟨⟨⟨⟨⟨⟨⟨h1, h2⟩, h3⟩, pairsB_mono (fun p hp i hi hpi => ?_) h4⟩, h5⟩, h6⟩, h7⟩, h8⟩, h9⟩, h10⟩
  have hil : i < ops.size := of_decide_eq_true (List.all_eq_true.1 h2 i hi)
  unfold pairM at hpi
  unfold pairOk
  rw [Bool.or_eq_true] at hpi ⊢
  exact hpi.imp (mask_waits hm _ i p hil hil) id
def drawnMAOk (bl : List Nat) (ops : Array Oper) (perm : List Nat) (ms : List Nat) : Bool :=
  maskOK ops ms && (decide (perm.length = ops.size) && perm.all (fun i => decide (i < ops.size)) && (List.range ops.size).all (fun i => perm.contains i) &&
  pairsB (pairMA bl ops ms) perm && pairsB (noWait ops) perm && perm.all (fun i => noWait ops i i) && perm.all (fun i => edgesIn ops i) && pairsB (fun i j => i != j) perm && blA bl && !blS bl && !isM bl)
theorem drawnMA {bl : List Nat} {ops : Array Oper} {perm : List Nat} (ms : List Nat) (h : drawnMAOk bl ops perm ms = true) : drawnAOk bl ops perm = true := by
  unfold drawnMAOk at h
  rw [Bool.and_eq_true] at h
  obtain ⟨hm, h⟩ := h
  unfold drawnAOk
  simp only [Bool.and_eq_true] at h ⊢
  obtain ⟨⟨⟨⟨⟨⟨⟨⟨⟨⟨h1, h2⟩, h3⟩, h4⟩, h5⟩, h6⟩, h7⟩, h8⟩, h9⟩, h10⟩, h11⟩ := h
  refine ⟨⟨⟨⟨⟨⟨⟨⟨⟨⟨h1, h2⟩, h3⟩, pairsB_mono (fun p hp i hi hpi => ?_) h4⟩, h5⟩, h6⟩, h7⟩, h8⟩, h9⟩, h10⟩, h11⟩
  have hil : i < ops.size := of_decide_eq_true (List.all_eq_true.1 h2 i hi)
  unfold pairMA at hpi
  unfold pairOkA
  rw [Bool.or_eq_true] at hpi ⊢
  exact hpi.imp (mask_waits hm _ i p hil hil) id
end Go.Via
set_option linter.unusedVariables false
namespace Go.Proofs.YthnlafhnpphdhaaGreatDoor
open Go Go.RowKit Go.Via
set_option maxRecDepth 20000 in
theorem c_law_known  : PCall Tryz.prog 13 #[] (.bool true) := by
  refine ⟨by kernel_rfl, fun w => ?_⟩
  refine calls_at (args := []) Tryz.func13 rfl (Nat.le_of_ble_eq_true rfl) (LRel.nil w) ?_
  show At w ⟨50, [], []⟩ _
  refine at_seq ?_
  refine at_region ?_
  refine r_assign rfl rfl rfl ?_
  refine run_nil ?_
  refine at_tn ?_
  refine at_seq ?_
  refine at_region ?_
  refine r_pcall [_, _, _, _] rfl rfl rfl (c_law_segment 0 0 4 4 (by omega) (by omega) (by omega) (by omega) (by omega) (by omega) (by omega) (by omega)) ?_
  refine r_pcall [_, _, _, _] rfl rfl rfl (c_law_segment 0 4 4 0 (by omega) (by omega) (by omega) (by omega) (by omega) (by omega) (by omega) (by omega)) ?_
  refine r_pcall [_, _] rfl rfl rfl (c_plane_Meet _ _ (Nat.le_trans kn_sz1 (Nat.le_of_ble_eq_true rfl)) (Nat.le_trans kn_sz2 (Nat.le_of_ble_eq_true rfl))) ?_
  refine r_know 7 (Mt (2, ((((2 : Int) : Rat), ((2 : Int) : Rat)), (((2 : Int) : Rat), ((2 : Int) : Rat))))) rfl (congrArg Mt known_1) ?_
  refine r_alloc [_, _, _, _, _, _, _, _, _, _, _, _, _, _, _, _, _] 17 (fun g => [⟨some g, 40, _, 17, true⟩]) rfl rfl z40 rfl rfl (fun _ => rfl) (fun g0 => ?_)
  refine r_store rfl 0 0 [⟨some g0, 40, _, 17, true⟩] [_, _, _, _, _, _, _, _, _, _, _, _, _, _, _, _, _] rfl rfl rfl rfl ti40 rfl rfl rfl rfl rfl ?_
  refine run_nil ?_
  refine at_tn ?_
  refine at_seq ?_
  refine at_region ?_
  refine r_pcall [_, _, _, _] rfl rfl rfl (c_law_segment 0 0 4 0 (by omega) (by omega) (by omega) (by omega) (by omega) (by omega) (by omega) (by omega)) ?_
  refine r_pcall [_, _, _, _] rfl rfl rfl (c_law_segment 2 0 6 0 (by omega) (by omega) (by omega) (by omega) (by omega) (by omega) (by omega) (by omega)) ?_
  refine r_pcall [_, _] rfl rfl rfl (c_plane_Meet _ _ (Nat.le_trans kn_sz3 (Nat.le_of_ble_eq_true rfl)) (Nat.le_trans kn_sz4 (Nat.le_of_ble_eq_true rfl))) ?_
  refine r_know 10 (Mt (3, ((((2 : Int) : Rat), ((0 : Int) : Rat)), (((4 : Int) : Rat), ((0 : Int) : Rat))))) rfl (congrArg Mt known_2) ?_
  refine r_alloc [_, _, _, _, _, _, _, _, _, _, _, _, _, _, _, _, _] 17 (fun g => [_, ⟨some g, 40, _, 17, true⟩]) rfl rfl z40 rfl rfl (fun _ => rfl) (fun g1 => ?_)
  refine r_store rfl 1 0 [_, ⟨some g1, 40, _, 17, true⟩] [_, _, _, _, _, _, _, _, _, _, _, _, _, _, _, _, _] rfl rfl rfl rfl ti40 rfl rfl rfl rfl rfl ?_
  refine run_nil ?_
  refine at_tn ?_
  refine at_seq ?_
  refine at_region ?_
  refine r_pcall [_, _] rfl rfl rfl (c_ref07_At 0 1 (by omega) (by omega) (by omega) (by omega)) ?_
  refine r_pcall [_, _, _, _] rfl rfl rfl (c_law_segment 0 0 2 1 (by omega) (by omega) (by omega) (by omega) (by omega) (by omega) (by omega) (by omega)) ?_
  refine r_pcall [_, _] rfl rfl rfl (c_plane_Nearest _ _ (Nat.le_trans kn_sz5 (Nat.le_of_ble_eq_true rfl)) (Nat.le_trans kn_sz6 (Nat.le_of_ble_eq_true rfl))) ?_
  refine r_know 14 (.tuple #[Pt (Rat.divInt 2 5, Rat.divInt 1 5), Q (Rat.divInt 1 5)]) rfl (by rw [known_3]) ?_
  refine r_move rfl rfl rfl ?_
  refine r_extract (vs := [_, _]) rfl rfl rfl rfl ?_
  refine r_extract (vs := [_, _]) rfl rfl rfl rfl ?_
  refine r_alloc [_, _, _, _, _, _, _, _] 8 (fun g => [_, _, ⟨some g, 27, _, 8, true⟩]) rfl rfl z27 rfl rfl (fun _ => rfl) (fun g2 => ?_)
  refine r_alloc [_, _, _, _] 4 (fun g => [_, _, _, ⟨some g, 25, _, 4, true⟩]) rfl rfl z25 rfl rfl (fun _ => rfl) (fun g3 => ?_)
  refine r_store rfl 2 0 [_, _, ⟨some g2, 27, _, 8, true⟩, _] [_, _, _, _, _, _, _, _] rfl rfl rfl rfl ti27 rfl rfl rfl rfl rfl ?_
  refine r_store rfl 3 0 [_, _, _, ⟨some g3, 25, _, 4, true⟩] [_, _, _, _] rfl rfl rfl rfl ti25 rfl rfl rfl rfl rfl ?_
  refine run_nil ?_
  refine at_tn ?_
  refine at_seq ?_
  refine at_drawn (l' := (⟨_,_,_,_,_,_⟩ :: ⟨_,_,_,_,_,_⟩ :: ⟨_,_,_,_,_,_⟩ :: ⟨_,_,_,_,_,_⟩ :: ⟨_,_,_,_,_,_⟩ :: ⟨_,_,_,_,_,_⟩ :: ⟨_,_,_,_,_,_⟩ :: ⟨_,_,_,_,_,_⟩ :: ⟨_,_,_,_,_,_⟩ :: ⟨_,_,_,_,_,_⟩ :: ⟨_,_,_,_,_,_⟩ :: ⟨_,_,_,_,_,_⟩ :: ⟨_,_,_,_,_,_⟩ :: ⟨_,_,_,_,_,_⟩ :: ⟨_,_,_,_,_,_⟩ :: ⟨_,_,_,_,_,_⟩ :: ⟨_,_,_,_,_,_⟩ :: ⟨_,_,_,_,_,_⟩ :: ⟨_,_,_,_,_,_⟩ :: ⟨_,_,_,_,_,_⟩ :: ⟨_,_,_,_,_,_⟩ :: ⟨_,_,_,_,_,_⟩ :: ⟨_,_,_,_,_,_⟩ :: ⟨_,_,_,_,_,_⟩ :: ⟨_,_,_,_,_,_⟩ :: ⟨_,_,_,_,_,_⟩ :: ⟨_,_,_,_,_,_⟩ :: ⟨_,_,_,_,_,_⟩ :: ⟨_,_,_,_,_,_⟩ :: ⟨_,_,_,_,_,_⟩ :: ⟨_,_,_,_,_,_⟩ :: ⟨_,_,_,_,_,_⟩ :: ⟨_,_,_,_,_,_⟩ :: ⟨_,_,_,_,_,_⟩ :: [])) [] (0 :: 1 :: 2 :: 3 :: 4 :: 5 :: 6 :: 7 :: 8 :: 9 :: 10 :: 11 :: 12 :: 13 :: 14 :: 15 :: 16 :: 17 :: 18 :: 19 :: 20 :: 21 :: 22 :: 23 :: 24 :: 25 :: 26 :: 27 :: 28 :: 29 :: 30 :: 31 :: 32 :: 33 :: []) mixed (drawnM (0 :: 1 :: 3 :: 7 :: 15 :: 31 :: 63 :: 15 :: 255 :: 511 :: 1023 :: 2047 :: 4095 :: 8191 :: 16383 :: 32767 :: 65535 :: 131071 :: 65535 :: 524287 :: 1048575 :: 2097151 :: 4194303 :: 4194303 :: 12582911 :: 29360127 :: 67108863 :: 134217727 :: 268435455 :: 536870911 :: 536870911 :: 2147483647 :: 4294967295 :: 8589934591 :: []) (by kernel_rfl)) rfl (by kernel_rfl) ?_
  refine r_fieldAddr 0 0 0 rfl rfl rfl rfl rfl ti40 rfl rfl ?_
  refine r_load 0 0 [_] rfl rfl rfl rfl ti3 rfl rfl rfl rfl ?_
  refine r_cmpInt rfl rfl rfl rfl rfl ?_
  refine r_know 19 (.bool true) rfl rfl ?_
  refine r_move rfl rfl rfl ?_
  refine r_fieldAddr 0 0 1 rfl rfl rfl rfl rfl ti40 rfl rfl ?_
  refine r_fieldAddr 0 1 0 rfl rfl rfl rfl rfl ti36 rfl rfl ?_
  refine r_load 0 1 [_, _, _, _, _, _, _, _] rfl rfl rfl rfl ti27 rfl rfl rfl rfl ?_
  refine r_pcall [_, _] rfl rfl rfl (c_ref07_At 2 2 (by omega) (by omega) (by omega) (by omega)) ?_
  refine r_eqlAgg rfl rfl rfl rfl gd27 (eq27 _ _) ?_
  refine r_know 25 (.bool true) rfl (congrArg Value.bool (decide_eq_true rfl)) ?_
  refine r_pickT rfl rfl rfl rfl ?_
  refine r_move rfl rfl rfl ?_
  refine r_fieldAddr 1 0 0 rfl rfl rfl rfl rfl ti40 rfl rfl ?_
  refine r_load 1 0 [_] rfl rfl rfl rfl ti3 rfl rfl rfl rfl ?_
  refine r_cmpInt rfl rfl rfl rfl rfl ?_
  refine r_know 30 (.bool true) rfl rfl ?_
  refine r_pickT rfl rfl rfl rfl ?_
  refine r_move rfl rfl rfl ?_
  refine r_fieldAddr 1 0 1 rfl rfl rfl rfl rfl ti40 rfl rfl ?_
  refine r_load 1 1 [_, _, _, _, _, _, _, _, _, _, _, _, _, _, _, _] rfl rfl rfl rfl ti36 rfl rfl rfl rfl ?_
  refine r_pcall [_, _, _, _] rfl rfl rfl (c_law_segment 2 0 4 0 (by omega) (by omega) (by omega) (by omega) (by omega) (by omega) (by omega) (by omega)) ?_
  refine r_eqlAgg rfl rfl rfl rfl gd36 (eq36 _ _) ?_
  refine r_know 36 (.bool true) rfl (congrArg Value.bool (decide_eq_true rfl)) ?_
  refine r_pickT rfl rfl rfl rfl ?_
  refine r_move rfl rfl rfl ?_
  refine r_load 2 0 [_, _, _, _, _, _, _, _] rfl rfl rfl rfl ti27 rfl rfl rfl rfl ?_
  refine r_pcall [_, _] rfl rfl rfl (c_ref02_Of 2 5 (by omega) (by omega) (by omega) (by omega) (by omega)) ?_
  refine r_pcall [_, _] rfl rfl rfl (c_ref02_Of 1 5 (by omega) (by omega) (by omega) (by omega) (by omega)) ?_
  refine r_build [(0, _), (1, _)] rfl rfl rfl (bd27_2) ?_
  refine r_eqlAgg rfl rfl rfl rfl gd27 (eq27 (Rat.divInt 2 5, Rat.divInt 1 5) (Rat.divInt 2 5, Rat.divInt 1 5)) ?_
  refine r_know 43 (.bool true) rfl (congrArg Value.bool (decide_eq_true rfl)) ?_
  refine r_pickT rfl rfl rfl rfl ?_
  refine r_move rfl rfl rfl ?_
  refine r_load 3 0 [_, _, _, _] rfl rfl rfl rfl ti25 rfl rfl rfl rfl ?_
  refine r_pcall [_, _] rfl rfl rfl (c_ref02_Of 1 5 (by omega) (by omega) (by omega) (by omega) (by omega)) ?_
  refine r_eqlAgg rfl rfl rfl rfl gd25 (eq25 _ _) ?_
  refine r_know 48 (.bool true) rfl (congrArg Value.bool (decide_eq_true rfl)) ?_
  refine r_pickT rfl rfl rfl rfl ?_
  refine r_assign rfl rfl rfl ?_
  refine run_nil ?_
  refine at_tn ?_
  refine at_ret ?_
  refine at_end1 rfl (res_tmp rfl) (fun w hL => ⟨?_, hL.below⟩)
  exact rfl

end Go.Proofs.YthnlafhnpphdhaaGreatDoor
set_option linter.unusedVariables false
namespace Go.Via
open Go Go.RowKit
theorem crs_self (p : P2) : crs p p = 0 := by unfold crs; rw [Rat.mul_comm, Rat.sub_self]
theorem around_self (p : P2) : around p p = 0 := by
  unfold around
  rw [if_neg (Int.lt_irrefl _), if_neg (Int.lt_irrefl _), crs_self]
  rfl
theorem sgn_z {q : Rat} : sgn q = 0 ↔ q = 0 := by unfold sgn; rw [Int.sign_eq_zero_iff_zero, Rat.num_eq_zero]
theorem sgn_nn {q : Rat} : 0 ≤ sgn q ↔ 0 ≤ q := by
  unfold sgn
  rw [← Rat.num_nonneg]
  rcases Int.lt_trichotomy q.num 0 with c | c | c
  · rw [Int.sign_eq_neg_one_of_neg c]; omega
  · rw [c]; decide
  · rw [Int.sign_eq_one_of_pos c]; omega
theorem sgn_neg (q : Rat) : sgn (-q) = - sgn q := by
  unfold sgn; rw [show (-q).num = -q.num from rfl, Int.sign_neg]
theorem sgn_p {q : Rat} : sgn q = 1 ↔ 0 < q := by
  have h1 := sgn_bound q; have h2 := @sgn_nn q; have h3 := @sgn_z q
  constructor
  · intro h
    have a : 0 ≤ q := h2.1 (by omega)
    have b : q ≠ 0 := fun e => by have := h3.2 e; omega
    grind
  · intro h
    have a := h2.2 (by grind)
    have b : sgn q ≠ 0 := fun e => by have := h3.1 e; grind
    omega
theorem sgn_n {q : Rat} : sgn q = -1 ↔ q < 0 := by
  have h1 := sgn_bound q; have h2 := @sgn_nn q
  constructor
  · intro h
    have : ¬ 0 ≤ q := fun e => by have := h2.2 e; omega
    grind
  · intro h
    have : ¬ 0 ≤ sgn q := fun e => by have := h2.1 e; grind
    omega

theorem ori_1 (a b c : P2) : ori b a c = 0 - ori a b c := by
  unfold ori
  rw [show crs (pSub a b) (pSub c b) = - crs (pSub b a) (pSub c a) by unfold crs pSub; grind, sgn_neg]; omega
theorem ori_2 (a b c : P2) : ori a c b = 0 - ori a b c := by
  unfold ori
  rw [show crs (pSub c a) (pSub b a) = - crs (pSub b a) (pSub c a) by unfold crs; grind, sgn_neg]; omega
theorem ori_3 (a b c : P2) : ori b c a = ori a b c := by
  unfold ori
  rw [show crs (pSub c b) (pSub a b) = crs (pSub b a) (pSub c a) by unfold crs pSub; grind]
theorem ori_4 (a b c d : P2) : ori (pAdd a d) (pAdd b d) (pAdd c d) = ori a b c := by
  unfold ori
  rw [show crs (pSub (pAdd b d) (pAdd a d)) (pSub (pAdd c d) (pAdd a d)) = crs (pSub b a) (pSub c a) by unfold crs pSub pAdd; grind]

theorem ori_bound2 (a b c : P2) : -1 ≤ ori a b c ∧ ori a b c ≤ 1 := sgn_bound _
theorem half_r (p : P2) : half p = 0 ∨ half p = 1 ∨ half p = 2 := by
  unfold half; split
  · exact .inl rfl
  · split
    · exact .inr (.inl rfl)
    · exact .inr (.inr rfl)
theorem half_e0 {p : P2} (h : half p = 0) : p = (0, 0) := by
  unfold half at h; split at h
  · assumption
  · split at h <;> omega
/-- the upper half plane -/
def Up (p : P2) : Prop := 0 < p.2 ∨ (p.2 = 0 ∧ 0 < p.1)
theorem half_e1 {p : P2} (h : half p = 1) : Up p := by
  unfold half at h; split at h
  · omega
  · split at h
    · rename_i c
      rcases c with c | ⟨c, d⟩
      · exact .inl (sgn_p.1 (by have := sgn_bound p.2; omega))
      · exact .inr ⟨sgn_z.1 c, sgn_p.1 (by have := sgn_bound p.1; omega)⟩
    · omega
theorem half_e2 {p : P2} (h : half p = 2) : Up (-p.1, -p.2) := by
  unfold half at h; split at h
  · omega
  · rename_i n0
    split at h
    · omega
    · rename_i c
      have h1 := sgn_bound p.1; have h2 := sgn_bound p.2
      have n1 : ¬ (sgn p.1 = 0 ∧ sgn p.2 = 0) := fun e => n0 (halfR.2 e)
      by_cases hz : sgn p.2 = 0
      · have : sgn p.1 = -1 := by omega
        refine .inr ⟨?_, ?_⟩
        · show -p.2 = 0
          have := sgn_z.1 hz; grind
        · show 0 < -p.1
          have := sgn_n.1 this; grind
      · have : sgn p.2 = -1 := by omega
        refine .inl ?_
        show 0 < -p.2
        have := sgn_n.1 this; grind

theorem mul_pos' {x y : Rat} (h : 0 < x) (k : 0 < y) : 0 < x * y := Rat.mul_pos h k
theorem tri {a b c : P2} (ua : Up a) (ub : Up b) (uc : Up c) (h1 : 0 ≤ crs a b) (h2 : 0 ≤ crs b c) : 0 ≤ crs a c ∧ (crs a c = 0 ↔ crs a b = 0 ∧ crs b c = 0) := by
  obtain ⟨a1, a2⟩ := a; obtain ⟨b1, b2⟩ := b; obtain ⟨c1, c2⟩ := c
  unfold Up at ua ub uc; unfold crs at *; dsimp only at *
  have na : 0 ≤ a2 := by rcases ua with h | h <;> grind
  have nb : 0 ≤ b2 := by rcases ub with h | h <;> grind
  have nc : 0 ≤ c2 := by rcases uc with h | h <;> grind
  rcases ub with hb | ⟨hb0, hb⟩
  · have id : b2 * (a1 * c2 - a2 * c1) = a2 * (b1 * c2 - b2 * c1) + c2 * (a1 * b2 - a2 * b1) := by grind
    have p1 := Rat.mul_nonneg na h2
    have p2 := Rat.mul_nonneg nc h1
    -- c2 is positive: else c = (c1, 0) with c1 positive, and the second product is negative
    have c2p : 0 < c2 := by
      rcases uc with h | ⟨h, k⟩
      · exact h
      · exfalso
        have := Rat.mul_pos hb k
        subst h; grind
    by_cases a2z : a2 = 0
    · have a1p : 0 < a1 := by rcases ua with h | h <;> grind
      have e1 : 0 < a1 * c2 := Rat.mul_pos a1p c2p
      have e2 : 0 < a1 * b2 := Rat.mul_pos a1p hb
      subst a2z
      constructor
      · grind
      · constructor
        · intro h; grind
        · intro h; grind
    · have a2p : 0 < a2 := by grind
      refine ⟨?_, ?_, ?_⟩
      · refine Rat.not_lt.1 fun hn => ?_
        have := Rat.mul_pos hb (show 0 < -(a1 * c2 - a2 * c1) by grind)
        grind
      · intro h
        rw [h] at id
        have e1 : a2 * (b1 * c2 - b2 * c1) = 0 := by grind
        have e2 : c2 * (a1 * b2 - a2 * b1) = 0 := by grind
        exact ⟨(Rat.mul_eq_zero.1 e2).resolve_left (by grind), (Rat.mul_eq_zero.1 e1).resolve_left (by grind)⟩
      · rintro ⟨h, k⟩
        rw [h, k] at id
        exact (Rat.mul_eq_zero.1 (show b2 * (a1 * c2 - a2 * c1) = 0 by grind)).resolve_left (by grind)
  · subst hb0
    have a2z : a2 = 0 := by
      refine Rat.le_antisymm (Rat.not_lt.1 fun hn => ?_) na
      have := Rat.mul_pos hn hb
      grind
    subst a2z
    have a1p : 0 < a1 := by rcases ua with h | h <;> grind
    rcases Rat.le_iff_lt_or_eq.1 nc with hc | hc
    · have e1 := Rat.mul_pos a1p hc
      have e2 := Rat.mul_pos hb hc
      refine ⟨by grind, ?_, ?_⟩ <;> intro h <;> grind
    · subst hc
      refine ⟨by grind, ?_, ?_⟩ <;> intro h <;> grind

theorem around_anti (p q : P2) : around q p = 0 - around p q := by
  unfold around
  have e : crs q p = - crs p q := by unfold crs; grind
  rw [e, sgn_neg]
  rcases Int.lt_trichotomy (half p) (half q) with h | h | h
  · rw [if_neg (by omega), if_pos h, if_pos h]; omega
  · rw [if_neg (by omega), if_neg (by omega), if_neg (by omega), if_neg (by omega)]; omega
  · rw [if_pos h, if_neg (by omega), if_pos h]; rfl
theorem around_bound (p q : P2) : -1 ≤ around p q ∧ around p q ≤ 1 := by
  unfold around
  have := sgn_bound (crs p q)
  split
  · omega
  · split <;> omega
theorem around_min {a b c : P2} (hx : around a b ≤ 0) (hy : around b c ≤ 0) : around a c = min (around a b) (around b c) := by
  have bx := around_bound a b; have yb := around_bound b c
  unfold around at *
  have ha := half_r a; have hb := half_r b; have hc := half_r c
  rcases Int.lt_trichotomy (half a) (half b) with h | h | h
  · rw [if_pos h] at *
    rcases Int.lt_trichotomy (half b) (half c) with k | k | k
    · rw [if_pos k] at *; rw [if_pos (by omega)]; rfl
    · rw [if_neg (by omega), if_neg (by omega)] at hy yb
      rw [if_pos (show half a < half c by omega), if_neg (show ¬ half b < half c by omega), if_neg (show ¬ half c < half b by omega)]; omega
    · rw [if_neg (by omega), if_pos k] at hy; omega
  · rw [if_neg (by omega), if_neg (by omega)] at hx bx
    rw [if_neg (show ¬ half a < half b by omega), if_neg (show ¬ half b < half a by omega)]
    rcases Int.lt_trichotomy (half b) (half c) with k | k | k
    · rw [if_pos k, if_pos (by omega)]; omega
    · rw [if_neg (by omega), if_neg (by omega)] at hy yb
      rw [if_neg (by omega), if_neg (by omega), if_neg (by omega), if_neg (by omega)]
      have key : 0 ≤ crs a c ∧ (crs a c = 0 ↔ crs a b = 0 ∧ crs b c = 0) := by
        have n1 : 0 ≤ crs a b := sgn_nn.1 (by omega)
        have n2 : 0 ≤ crs b c := sgn_nn.1 (by omega)
        rcases ha with e | e | e
        · have ea := half_e0 e; have eb := half_e0 (p := b) (by omega); have ec := half_e0 (p := c) (by omega)
          subst ea; subst eb; subst ec
          exact ⟨n1, ⟨fun h => ⟨h, h⟩, fun h => h.1⟩⟩
        · exact tri (half_e1 e) (half_e1 (p := b) (by omega)) (half_e1 (p := c) (by omega)) n1 n2
        · have q : ∀ u v : P2, crs (-u.1, -u.2) (-v.1, -v.2) = crs u v := fun u v => by unfold crs; grind
          have := tri (half_e2 e) (half_e2 (p := b) (by omega)) (half_e2 (p := c) (by omega)) (by rw [q]; exact n1) (by rw [q]; exact n2)
          rw [q, q, q] at this
          exact this
      obtain ⟨k1, k2⟩ := key
      have m1 := sgn_nn.2 k1; have mb := sgn_bound (crs a c)
      have m2 : sgn (crs a c) = 0 ↔ sgn (crs a b) = 0 ∧ sgn (crs b c) = 0 := by rw [sgn_z, sgn_z, sgn_z]; exact k2
      omega
    · rw [if_neg (by omega), if_pos k] at hy; omega
  · rw [if_neg (by omega), if_pos h] at hx; omega
theorem around_max {a b c : P2} (hx : 0 ≤ around a b) (hy : 0 ≤ around b c) : around a c = max (around a b) (around b c) := by
  have h1 := around_anti a b; have h2 := around_anti b c; have h3 := around_anti a c
  have := around_min (a := c) (b := b) (c := a) (by omega) (by omega)
  omega
end Go.Via
set_option linter.unusedVariables false
namespace Go.Via
open Go Go.RowKit
/-! ### the two tests whether a point lies on a segment agree -/
theorem on_pos {u v x y : Rat} (hu : 0 < u) (h : u * y = v * x) :
    (¬ ((0 < x ∨ (x = 0 ∧ 0 < y)) ∧ (u < x ∨ (u = x ∧ v < y))) ∧ ¬ ((x < 0 ∨ (x = 0 ∧ y < 0)) ∧ (x < u ∨ (x = u ∧ y < v)))) ↔ (((0 ≤ x ∧ x ≤ u) ∨ (u ≤ x ∧ x ≤ 0)) ∧ ((0 ≤ y ∧ y ≤ v) ∨ (v ≤ y ∧ y ≤ 0))) := by
  constructor
  · rintro ⟨h1, h2⟩
    have x0 : 0 ≤ x := Rat.not_lt.1 fun c => h2 ⟨.inl c, .inl (by grind)⟩
    have xu : x ≤ u := Rat.not_lt.1 fun c => h1 ⟨.inl (by grind), .inl c⟩
    refine ⟨.inl ⟨x0, xu⟩, ?_⟩
    by_cases hv : 0 ≤ v
    · left
      have p1 := Rat.mul_nonneg hv x0
      have p2 := Rat.mul_nonneg hv (show 0 ≤ u - x by grind)
      constructor
      · refine Rat.not_lt.1 fun c => ?_
        have := Rat.mul_pos hu (show 0 < -y by grind)
        grind
      · refine Rat.not_lt.1 fun c => ?_
        have := Rat.mul_pos hu (show 0 < y - v by grind)
        grind
    · right
      have hv' : 0 ≤ -v := by grind
      have p1 := Rat.mul_nonneg hv' x0
      have p2 := Rat.mul_nonneg hv' (show 0 ≤ u - x by grind)
      constructor
      · refine Rat.not_lt.1 fun c => ?_
        have := Rat.mul_pos hu (show 0 < v - y by grind)
        grind
      · refine Rat.not_lt.1 fun c => ?_
        have := Rat.mul_pos hu (show 0 < y by grind)
        grind
  · rintro ⟨hx, hy⟩
    have x0 : 0 ≤ x := by rcases hx with c | c <;> grind
    have xu : x ≤ u := by rcases hx with c | c <;> grind
    constructor
    · rintro ⟨_, c | ⟨c, d⟩⟩
      · grind
      · subst c
        have : u * (y - v) = 0 := by grind
        rcases Rat.mul_eq_zero.1 this with e | e <;> grind
    · rintro ⟨c | ⟨c, d⟩, _⟩
      · grind
      · subst c
        have : u * y = 0 := by grind
        rcases Rat.mul_eq_zero.1 this with e | e <;> grind
theorem on_core {u v x y : Rat} (h : u * y = v * x) :
    (¬ ((0 < x ∨ (x = 0 ∧ 0 < y)) ∧ (u < x ∨ (u = x ∧ v < y))) ∧ ¬ ((x < 0 ∨ (x = 0 ∧ y < 0)) ∧ (x < u ∨ (x = u ∧ y < v))) ∧ (¬ (u = 0 ∧ v = 0) ∨ (x = 0 ∧ y = 0))) ↔ (((0 ≤ x ∧ x ≤ u) ∨ (u ≤ x ∧ x ≤ 0)) ∧ ((0 ≤ y ∧ y ≤ v) ∨ (v ≤ y ∧ y ≤ 0))) := by
  by_cases hu : 0 < u
  · rw [← on_pos hu h]
    constructor
    · rintro ⟨a, b, _⟩; exact ⟨a, b⟩
    · rintro ⟨a, b⟩; exact ⟨a, b, .inl (by grind)⟩
  · by_cases hu2 : u < 0
    · have k := on_pos (u := -u) (v := -v) (x := -x) (y := -y) (by grind) (by grind)
      constructor
      · rintro ⟨a, b, _⟩
        have := k.1 ⟨fun c => b (by grind), fun c => a (by grind)⟩
        grind
      · intro c
        have := k.2 (by grind)
        refine ⟨fun e => this.2 (by grind), fun e => this.1 (by grind), .inl (by grind)⟩
    · have u0 : u = 0 := by grind
      subst u0
      by_cases hv : v = 0
      · subst hv
        constructor
        · rintro ⟨_, _, c⟩; grind
        · intro c; grind
      · have x0 : x = 0 := by
          have : v * x = 0 := by grind
          exact (Rat.mul_eq_zero.1 this).resolve_left hv
        subst x0
        constructor
        · rintro ⟨a, b, _⟩
          refine ⟨.inl ⟨Rat.le_refl, Rat.le_refl⟩, ?_⟩
          by_cases c : 0 < y
          · have : y ≤ v := Rat.not_lt.1 fun d => a ⟨.inr ⟨rfl, c⟩, .inr ⟨rfl, d⟩⟩
            left; grind
          · by_cases d : y < 0
            · have : v ≤ y := Rat.not_lt.1 fun e => b ⟨.inr ⟨rfl, d⟩, .inr ⟨rfl, e⟩⟩
              right; grind
            · rcases Rat.le_total (a := 0) (b := v) with e | e
              · left; grind
              · right; grind
        · rintro ⟨_, c⟩
          refine ⟨?_, ?_, .inl (by grind)⟩
          · rintro ⟨d, e⟩
            rcases c with c | c <;> grind
          · rintro ⟨d, e⟩
            rcases c with c | c <;> grind
/-- the order of points: by the first coordinate, then by the second -/
def ltP (a b : P2) : Prop := a.1 < b.1 ∨ (a.1 = b.1 ∧ a.2 < b.2)
theorem cmpQ_neg {a b : Rat} : cmpQ a b = -1 ↔ a < b := by
  unfold cmpQ; split
  · simp_all
  · split <;> simp_all
theorem cmpQ_pos {a b : Rat} : cmpQ a b = 1 ↔ b < a := by
  unfold cmpQ; split
  · rename_i h
    constructor
    · intro c; cases c
    · intro c; grind
  · split <;> simp_all
theorem cmpQ_zero {a b : Rat} : cmpQ a b = 0 ↔ a = b := by
  have h1 := @cmpQ_neg a b; have h2 := @cmpQ_pos a b
  rcases cmpQ_cases a b with h | h | h
  · have := h1.1 h; constructor
    · intro c; omega
    · intro c; grind
  · constructor
    · intro _
      have n1 : ¬ a < b := fun c => by have := h1.2 c; omega
      have n2 : ¬ b < a := fun c => by have := h2.2 c; omega
      grind
    · intro _; exact h
  · have := h2.1 h; constructor
    · intro c; omega
    · intro c; grind
theorem cmpP_neg {a b : P2} : cmpP a b = -1 ↔ ltP a b := by
  unfold cmpP ltP
  by_cases h : cmpQ a.1 b.1 = 0
  · rw [if_pos h, cmpQ_neg]; have := cmpQ_zero.1 h; grind
  · rw [if_neg h, cmpQ_neg]; have : a.1 ≠ b.1 := fun e => h (cmpQ_zero.2 e); grind
theorem cmpP_pos {a b : P2} : cmpP a b = 1 ↔ ltP b a := by
  unfold cmpP ltP
  by_cases h : cmpQ a.1 b.1 = 0
  · rw [if_pos h, cmpQ_pos]; have := cmpQ_zero.1 h; grind
  · rw [if_neg h, cmpQ_pos]; have : a.1 ≠ b.1 := fun e => h (cmpQ_zero.2 e); grind
theorem cmpP_prod {a p b : P2} : 0 ≤ cmpP a p * cmpP p b ↔ ¬ (ltP a p ∧ ltP b p) ∧ ¬ (ltP p a ∧ ltP p b) := by
  rw [← cmpP_neg (a := a), ← cmpP_pos (a := p) (b := b), ← cmpP_pos (a := a) (b := p), ← cmpP_neg (a := p) (b := b)]
  rcases cmpP_cases a p with h | h | h <;> rcases cmpP_cases p b with k | k | k <;> rw [h, k] <;> decide
theorem on_same (p : P2) (s : S2) : onS p s ↔ onR p s := by
  unfold onS onR
  refine and_congr_right fun h => ?_
  obtain ⟨p1, p2⟩ := p
  obtain ⟨⟨a1, a2⟩, ⟨b1, b2⟩⟩ := s
  have h0 : (b1 - a1) * (p2 - a2) - (b2 - a2) * (p1 - a1) = 0 := by
    have : sgn ((b1 - a1) * (p2 - a2) - (b2 - a2) * (p1 - a1)) = 0 := h
    unfold sgn at this
    rwa [Int.sign_eq_zero_iff_zero, Rat.num_eq_zero] at this
  have c := on_core (u := b1 - a1) (v := b2 - a2) (x := p1 - a1) (y := p2 - a2) (by grind)
  rw [cmpP_prod]
  unfold ltP btw
  dsimp only
  constructor
  · rintro ⟨⟨k1, k2⟩, k3⟩
    have := c.1 ⟨fun e => k1 (by grind), fun e => k2 (by grind), by
      rcases k3 with k3 | k3
      · left; rintro ⟨e1, e2⟩; exact k3 (Prod.ext (show a1 = b1 by grind) (show a2 = b2 by grind))
      · right
        have e1 : p1 = a1 := congrArg Prod.fst k3
        have e2 : p2 = a2 := congrArg Prod.snd k3
        grind⟩
    grind
  · intro k
    have := c.2 (by grind)
    obtain ⟨n1, n2, n3⟩ := this
    refine ⟨⟨fun e => n1 (by grind), fun e => n2 (by grind)⟩, ?_⟩
    rcases n3 with n3 | n3
    · left; intro e
      have e1 : a1 = b1 := congrArg Prod.fst e
      have e2 : a2 = b2 := congrArg Prod.snd e
      exact n3 (by grind)
    · right; exact Prod.ext (show p1 = a1 by grind) (show p2 = a2 by grind)
theorem on_same' (p : P2) (s : S2) : decide (onS p s) = decide (onR p s) := decide_eq_decide.2 (on_same p s)
theorem near_div (p : P2) (s : S2) : divP s (nearP p s).2 = (nearP p s).1 := by
  unfold nearP; split
  · unfold divP pAdd pScale; refine Prod.ext ?_ ?_
    · show s.1.1 + _ * (0 : Rat) = s.1.1; grind
    · show s.1.2 + _ * (0 : Rat) = s.1.2; grind
  · rfl
theorem szNearQ {p : P2} {s : S2} (hp : szP p ≤ 1000) (hs : szS s ≤ 1000) : szQ (nearP p s).2 ≤ 17000 := by
  by_cases h : dot (pSub s.2 s.1) (pSub s.2 s.1) = 0
  · rw [near_T h]; exact Nat.le_trans szQ_0 (by omega)
  · rw [near_F h]; exact Nat.le_trans (szQ_nearQ hp hs) (by omega)
end Go.Via
set_option linter.unusedVariables false
set_option linter.unusedSimpArgs false
namespace Go.Via
open Go Go.RowKit
/-! ### what two segments have in common -/
def inI (a b x : Rat) : Prop := (a ≤ x ∧ x ≤ b) ∨ (b ≤ x ∧ x ≤ a)
theorem frac_of {x u : Rat} (hu : u ≠ 0) (h : inI 0 u x) : ∃ r : Rat, 0 ≤ r ∧ r ≤ 1 ∧ x = u * r := by
  have e : x = u * (x / u) := by rw [Rat.mul_comm, Rat.div_mul_cancel hu]
  refine ⟨x / u, ?_, ?_, e⟩
  · generalize x / u = r at e
    subst e
    refine Rat.not_lt.1 fun c => ?_
    rcases h with ⟨h1, h2⟩ | ⟨h1, h2⟩
    · have hu' : 0 < u := by grind
      have := Rat.mul_pos hu' (show 0 < -r by grind)
      grind
    · have hu' : 0 < -u := by grind
      have := Rat.mul_pos hu' (show 0 < -r by grind)
      grind
  · generalize x / u = r at e
    subst e
    refine Rat.not_lt.1 fun c => ?_
    rcases h with ⟨h1, h2⟩ | ⟨h1, h2⟩
    · have hu' : 0 < u := by grind
      have := Rat.mul_pos hu' (show 0 < r - 1 by grind)
      grind
    · have hu' : 0 < -u := by grind
      have := Rat.mul_pos hu' (show 0 < r - 1 by grind)
      grind
theorem of_frac {u r : Rat} (h0 : 0 ≤ r) (h1 : r ≤ 1) : inI 0 u (u * r) := by
  rcases Rat.le_total (a := 0) (b := u) with h | h
  · have p1 := Rat.mul_nonneg h h0
    have p2 := Rat.mul_nonneg h (show 0 ≤ 1 - r by grind)
    left; constructor <;> grind
  · have h' : 0 ≤ -u := by grind
    have p1 := Rat.mul_nonneg h' h0
    have p2 := Rat.mul_nonneg h' (show 0 ≤ 1 - r by grind)
    right; constructor <;> grind
theorem seg_par {u v x y : Rat} : (u * y = v * x ∧ inI 0 u x ∧ inI 0 v y) ↔ ∃ r : Rat, 0 ≤ r ∧ r ≤ 1 ∧ x = u * r ∧ y = v * r := by
  constructor
  · rintro ⟨h, hx, hy⟩
    by_cases hu : u = 0
    · subst hu
      have x0 : x = 0 := by unfold inI at hx; grind
      subst x0
      by_cases hv : v = 0
      · subst hv
        have y0 : y = 0 := by unfold inI at hy; grind
        exact ⟨0, by grind, by grind, by grind, by grind⟩
      · obtain ⟨r, h0, h1, e⟩ := frac_of hv hy
        exact ⟨r, h0, h1, by grind, e⟩
    · obtain ⟨r, h0, h1, e⟩ := frac_of hu hx
      refine ⟨r, h0, h1, e, ?_⟩
      subst e
      have : u * (y - v * r) = 0 := by grind
      rcases Rat.mul_eq_zero.1 this with c | c
      · exact absurd c hu
      · grind
  · rintro ⟨r, h0, h1, rfl, rfl⟩
    exact ⟨by grind, of_frac h0 h1, of_frac h0 h1⟩
theorem on_par {p : P2} {s : S2} : onS p s ↔ ∃ r : Rat, 0 ≤ r ∧ r ≤ 1 ∧ p = divP s r := by
  rw [on_same]
  obtain ⟨p1, p2⟩ := p
  obtain ⟨⟨a1, a2⟩, ⟨b1, b2⟩⟩ := s
  have k := seg_par (u := b1 - a1) (v := b2 - a2) (x := p1 - a1) (y := p2 - a2)
  have ho : ori (a1, a2) (b1, b2) (p1, p2) = 0 ↔ (b1 - a1) * (p2 - a2) = (b2 - a2) * (p1 - a1) := by
    show sgn ((b1 - a1) * (p2 - a2) - (b2 - a2) * (p1 - a1)) = 0 ↔ _
    rw [sgn_z]; constructor <;> intro h <;> grind
  unfold onR btw divP pAdd pScale pSub
  unfold inI at k
  dsimp only
  rw [ho]
  constructor
  · rintro ⟨h1, h2, h3⟩
    obtain ⟨r, h0, h1, e1, e2⟩ := k.1 ⟨h1, by grind, by grind⟩
    exact ⟨r, h0, h1, Prod.ext (show p1 = a1 + (b1 - a1) * r by grind) (show p2 = a2 + (b2 - a2) * r by grind)⟩
  · rintro ⟨r, h0, h1, e⟩
    have e1 : p1 = a1 + (b1 - a1) * r := congrArg Prod.fst e
    have e2 : p2 = a2 + (b2 - a2) * r := congrArg Prod.snd e
    obtain ⟨c1, c2, c3⟩ := k.2 ⟨r, h0, h1, by grind, by grind⟩
    exact ⟨c1, by grind, by grind⟩
theorem on_end1 (s : S2) : onS s.1 s := on_par.2 ⟨0, by grind, by grind, Prod.ext (show s.1.1 = s.1.1 + (s.2.1 - s.1.1) * 0 by grind) (show s.1.2 = s.1.2 + (s.2.2 - s.1.2) * 0 by grind)⟩
theorem on_end2 (s : S2) : onS s.2 s := on_par.2 ⟨1, by grind, by grind, Prod.ext (show s.2.1 = s.1.1 + (s.2.1 - s.1.1) * 1 by grind) (show s.2.2 = s.1.2 + (s.2.2 - s.1.2) * 1 by grind)⟩
theorem on_div {s : S2} {r : Rat} (h0 : 0 ≤ r) (h1 : r ≤ 1) : onS (divP s r) s := on_par.2 ⟨r, h0, h1, rfl⟩
def Kp (s t : S2) (p : P2) : Prop := onS p s ∧ onS p t
def Ep (s t : S2) (p : P2) : Prop := p = s.1 ∨ p = s.2 ∨ p = t.1 ∨ p = t.2
def leP (a b : P2) : Prop := ¬ ltP b a
def uv (s t : S2) : Rat := crs (pSub s.2 s.1) (pSub t.2 t.1)
def wv (s t : S2) : Rat := crs (pSub t.1 s.1) (pSub t.2 t.1)
def wUq (s t : S2) : Rat := crs (pSub t.1 s.1) (pSub s.2 s.1)
/-- the fractions of a common point -/
theorem K_fr {s t : S2} {p : P2} (h : Kp s t p) : ∃ r q : Rat, 0 ≤ r ∧ r ≤ 1 ∧ 0 ≤ q ∧ q ≤ 1 ∧ p = divP s r ∧ p = divP t q ∧ r * uv s t = wv s t ∧ q * uv s t = wUq s t := by
  obtain ⟨r, h0, h1, e⟩ := on_par.1 h.1
  obtain ⟨q, g0, g1, f⟩ := on_par.1 h.2
  refine ⟨r, q, h0, h1, g0, g1, e, f, ?_, ?_⟩ <;>
  · obtain ⟨p1, p2⟩ := p
    obtain ⟨⟨a1, a2⟩, ⟨b1, b2⟩⟩ := s
    obtain ⟨⟨c1, c2⟩, ⟨d1, d2⟩⟩ := t
    have e1 : p1 = a1 + (b1 - a1) * r := congrArg Prod.fst e
    have e2 : p2 = a2 + (b2 - a2) * r := congrArg Prod.snd e
    have f1 : p1 = c1 + (d1 - c1) * q := congrArg Prod.fst f
    have f2 : p2 = c2 + (d2 - c2) * q := congrArg Prod.snd f
    simp only [uv, wv, wUq, crs, pSub]
    have w1 : c1 - a1 = (b1 - a1) * r - (d1 - c1) * q := by grind
    have w2 : c2 - a2 = (b2 - a2) * r - (d2 - c2) * q := by grind
    rw [w1, w2]; grind
theorem K_uniq {s t : S2} (hD : uv s t ≠ 0) {p q : P2} (hp : Kp s t p) (hq : Kp s t q) : p = q := by
  obtain ⟨r, _, _, _, _, _, e, _, h, _⟩ := K_fr hp
  obtain ⟨r', _, _, _, _, _, e', _, h', _⟩ := K_fr hq
  have : (r - r') * uv s t = 0 := by grind
  rcases Rat.mul_eq_zero.1 this with c | c
  · rw [e, e', show r = r' by grind]
  · exact absurd c hD
/-! parallel segments with a common point -/
def posV (g : P2) : Prop := 0 < g.1 ∨ (g.1 = 0 ∧ 0 < g.2)
theorem mult {u v : P2} (hu : u ≠ (0, 0)) (h : crs u v = 0) : ∃ m : Rat, v = pScale u m := by
  obtain ⟨u1, u2⟩ := u
  obtain ⟨v1, v2⟩ := v
  have h' : u1 * v2 - u2 * v1 = 0 := h
  by_cases h1 : u1 = 0
  · have h2 : u2 ≠ 0 := fun e => hu (by rw [h1, e])
    refine ⟨v2 / u2, Prod.ext (show v1 = u1 * (v2 / u2) from ?_) (show v2 = u2 * (v2 / u2) from ?_)⟩
    · have : u2 * v1 = 0 := by grind
      rcases Rat.mul_eq_zero.1 this with c | c
      · exact absurd c h2
      · rw [c, h1, Rat.zero_mul]
    · rw [Rat.mul_comm, Rat.div_mul_cancel h2]
  · have e : v1 = u1 * (v1 / u1) := by rw [Rat.mul_comm, Rat.div_mul_cancel h1]
    refine ⟨v1 / u1, Prod.ext e (show v2 = u2 * (v1 / u1) from ?_)⟩
    generalize v1 / u1 = m at e
    subst e
    have : u1 * (v2 - u2 * m) = 0 := by grind
    rcases Rat.mul_eq_zero.1 this with c | c
    · exact absurd c h1
    · grind
theorem pos_or {u : P2} (hu : u ≠ (0, 0)) : posV u ∨ posV (-u.1, -u.2) := by
  obtain ⟨u1, u2⟩ := u
  unfold posV
  dsimp only
  by_cases h1 : u1 = 0
  · have h2 : u2 ≠ 0 := fun e => hu (by rw [h1, e])
    grind
  · grind
theorem par_of_ne {u v : P2} (hu : u ≠ (0, 0)) (h : crs u v = 0) : ∃ (g : P2) (k m : Rat), posV g ∧ u = pScale g k ∧ v = pScale g m := by
  obtain ⟨m, hm⟩ := mult hu h
  have e1 : v.1 = u.1 * m := congrArg Prod.fst hm
  have e2 : v.2 = u.2 * m := congrArg Prod.snd hm
  rcases pos_or hu with c | c
  · exact ⟨u, 1, m, c, Prod.ext (show u.1 = u.1 * 1 by grind) (show u.2 = u.2 * 1 by grind), hm⟩
  · exact ⟨(-u.1, -u.2), -1, -m, c, Prod.ext (show u.1 = -u.1 * -1 by grind) (show u.2 = -u.2 * -1 by grind), Prod.ext (show v.1 = -u.1 * -m by grind) (show v.2 = -u.2 * -m by grind)⟩
theorem par_line {u v : P2} (h : crs u v = 0) : ∃ (g : P2) (k m : Rat), posV g ∧ u = pScale g k ∧ v = pScale g m := by
  by_cases hu : u = (0, 0)
  · by_cases hv : v = (0, 0)
    · refine ⟨(1, 0), 0, 0, .inl (show (0 : Rat) < 1 by grind), ?_, ?_⟩
      · rw [hu]; exact Prod.ext (show (0 : Rat) = 1 * 0 by grind) (show (0 : Rat) = 0 * 0 by grind)
      · rw [hv]; exact Prod.ext (show (0 : Rat) = 1 * 0 by grind) (show (0 : Rat) = 0 * 0 by grind)
    · obtain ⟨g, k, m, h1, h2, h3⟩ := par_of_ne (u := v) (v := u) hv (by unfold crs at h ⊢; grind)
      exact ⟨g, m, k, h1, h3, h2⟩
  · exact par_of_ne hu h
def lnP (o g : P2) (x : Rat) : P2 := (o.1 + g.1 * x, o.2 + g.2 * x)
theorem ln_lt {o g : P2} (hg : posV g) {x y : Rat} : ltP (lnP o g x) (lnP o g y) ↔ x < y := by
  unfold ltP lnP
  dsimp only
  rcases hg with h | ⟨h0, h⟩
  · constructor
    · intro c
      refine Rat.not_le.1 fun d => ?_
      have := Rat.mul_nonneg (Rat.le_of_lt h) (show 0 ≤ x - y by grind)
      rcases c with c | ⟨c, e⟩
      · grind
      · have : g.1 * (x - y) = 0 := by grind
        rcases Rat.mul_eq_zero.1 this with f | f
        · grind
        · have : x = y := by grind
          subst this; grind
    · intro c
      have := Rat.mul_pos h (show 0 < y - x by grind)
      left; grind
  · rw [h0]
    constructor
    · intro c
      refine Rat.not_le.1 fun d => ?_
      have := Rat.mul_nonneg (Rat.le_of_lt h) (show 0 ≤ x - y by grind)
      rcases c with c | ⟨c, e⟩ <;> grind
    · intro c
      have := Rat.mul_pos h (show 0 < y - x by grind)
      right; constructor <;> grind
theorem ltP_irrefl (a : P2) : ¬ ltP a a := by unfold ltP; grind
theorem ltP_tri {a b : P2} (h1 : ¬ ltP a b) (h2 : ¬ ltP b a) : a = b := by
  unfold ltP at h1 h2
  have : a.1 = b.1 := by grind
  exact Prod.ext this (by grind)
theorem ltP_trans {a b c : P2} (h1 : ltP a b) (h2 : ltP b c) : ltP a c := by unfold ltP at *; grind
theorem ln_inj {o g : P2} (hg : posV g) {x y : Rat} (h : lnP o g x = lnP o g y) : x = y := by
  have h1 : ¬ x < y := fun c => by have := (ln_lt (o := o) hg).2 c; rw [h] at this; exact ltP_irrefl _ this
  have h2 : ¬ y < x := fun c => by have := (ln_lt (o := o) hg).2 c; rw [h] at this; exact ltP_irrefl _ this
  grind
theorem ln_on {o g : P2} {a b : Rat} {p : P2} : onS p (lnP o g a, lnP o g b) ↔ ∃ x, p = lnP o g x ∧ inI a b x := by
  rw [on_par]
  constructor
  · rintro ⟨r, h0, h1, rfl⟩
    refine ⟨a + (b - a) * r, ?_, ?_⟩
    · unfold divP pAdd pScale pSub lnP
      refine Prod.ext ?_ ?_
      · show o.1 + g.1 * a + (o.1 + g.1 * b - (o.1 + g.1 * a)) * r = o.1 + g.1 * (a + (b - a) * r); grind
      · show o.2 + g.2 * a + (o.2 + g.2 * b - (o.2 + g.2 * a)) * r = o.2 + g.2 * (a + (b - a) * r); grind
    · have := of_frac (u := b - a) h0 h1
      unfold inI at this ⊢; grind
  · rintro ⟨x, rfl, hx⟩
    obtain ⟨r, h0, h1, e⟩ : ∃ r : Rat, 0 ≤ r ∧ r ≤ 1 ∧ x - a = (b - a) * r := by
      by_cases hab : b - a = 0
      · exact ⟨0, by grind, by grind, by unfold inI at hx; grind⟩
      · exact frac_of hab (by unfold inI at hx ⊢; grind)
    have e' : x = a + (b - a) * r := by grind
    refine ⟨r, h0, h1, ?_⟩
    unfold divP pAdd pScale pSub lnP
    subst e'
    refine Prod.ext ?_ ?_
    · show o.1 + g.1 * (a + (b - a) * r) = o.1 + g.1 * a + (o.1 + g.1 * b - (o.1 + g.1 * a)) * r; grind
    · show o.2 + g.2 * (a + (b - a) * r) = o.2 + g.2 * a + (o.2 + g.2 * b - (o.2 + g.2 * a)) * r; grind
theorem lin_low {a b c d : Rat} (h1 : inI a b 0) (h2 : inI c d 0) : ∃ l : Rat, (l = a ∨ l = b ∨ l = c ∨ l = d) ∧ inI a b l ∧ inI c d l ∧ ∀ x, inI a b x → inI c d x → l ≤ x := by
  have key : ∀ {a b c d : Rat}, a ≤ 0 → 0 ≤ b → c ≤ 0 → 0 ≤ d → ∃ l : Rat, (l = a ∨ l = c) ∧ inI a b l ∧ inI c d l ∧ ∀ x, inI a b x → inI c d x → l ≤ x := by
    intro a b c d ha hb hc hd
    by_cases h : a ≤ c
    · exact ⟨c, .inr rfl, .inl ⟨h, by grind⟩, .inl ⟨Rat.le_refl, by grind⟩, fun x k1 k2 => by unfold inI at k1 k2; grind⟩
    · exact ⟨a, .inl rfl, .inl ⟨Rat.le_refl, by grind⟩, .inl ⟨by grind, by grind⟩, fun x k1 k2 => by unfold inI at k1 k2; grind⟩
  have sy : ∀ {a b x : Rat}, inI a b x ↔ inI b a x := by intro a b x; unfold inI; exact Or.comm
  rcases h1 with ⟨a1, a2⟩ | ⟨a1, a2⟩ <;> rcases h2 with ⟨c1, c2⟩ | ⟨c1, c2⟩
  · obtain ⟨l, k, k1, k2, k3⟩ := key a1 a2 c1 c2
    exact ⟨l, by rcases k with k | k <;> simp [k], k1, k2, k3⟩
  · obtain ⟨l, k, k1, k2, k3⟩ := key a1 a2 c1 c2
    exact ⟨l, by rcases k with k | k <;> simp [k], k1, sy.1 k2, fun x e f => k3 x e (sy.1 f)⟩
  · obtain ⟨l, k, k1, k2, k3⟩ := key a1 a2 c1 c2
    exact ⟨l, by rcases k with k | k <;> simp [k], sy.1 k1, k2, fun x e f => k3 x (sy.1 e) f⟩
  · obtain ⟨l, k, k1, k2, k3⟩ := key a1 a2 c1 c2
    exact ⟨l, by rcases k with k | k <;> simp [k], sy.1 k1, sy.1 k2, fun x e f => k3 x (sy.1 e) (sy.1 f)⟩
theorem inI_neg {a b x : Rat} : inI (-a) (-b) (-x) ↔ inI a b x := by unfold inI; constructor <;> intro h <;> grind
theorem lin_high {a b c d : Rat} (h1 : inI a b 0) (h2 : inI c d 0) : ∃ l : Rat, (l = a ∨ l = b ∨ l = c ∨ l = d) ∧ inI a b l ∧ inI c d l ∧ ∀ x, inI a b x → inI c d x → x ≤ l := by
  obtain ⟨l, k, k1, k2, k3⟩ := lin_low (a := -a) (b := -b) (c := -c) (d := -d) (by have := inI_neg.2 h1; rwa [Rat.neg_zero] at this) (by have := inI_neg.2 h2; rwa [Rat.neg_zero] at this)
  refine ⟨-l, by grind, inI_neg.1 (by rwa [Rat.neg_neg]), inI_neg.1 (by rwa [Rat.neg_neg]), fun x e f => ?_⟩
  have := k3 (-x) (inI_neg.2 e) (inI_neg.2 f)
  grind
theorem lin_end1 {a b l h : Rat} (z : inI a b 0) (l1 : inI a b l) (h1 : inI a b h) (A : l ≤ a) (B : a ≤ h) : a = l ∨ a = h := by
  unfold inI at z l1 h1
  grind
theorem inI_sy {a b x : Rat} : inI a b x ↔ inI b a x := by unfold inI; exact Or.comm
theorem lin_end {a b c d l h x : Rat} (z : inI a b 0) (z' : inI c d 0) (l1 : inI a b l) (l2 : inI c d l) (h1 : inI a b h) (h2 : inI c d h) (hx : x = a ∨ x = b ∨ x = c ∨ x = d) (A : l ≤ x) (B : x ≤ h) : x = l ∨ x = h := by
  rcases hx with rfl | rfl | rfl | rfl
  · exact lin_end1 z l1 h1 A B
  · exact lin_end1 (inI_sy.1 z) (inI_sy.1 l1) (inI_sy.1 h1) A B
  · exact lin_end1 z' l2 h2 A B
  · exact lin_end1 (inI_sy.1 z') (inI_sy.1 l2) (inI_sy.1 h2) A B
/-- parallel segments with a common point: the least and the greatest one are ends -/
theorem K_line {s t : S2} (hD : uv s t = 0) {p : P2} (hp : Kp s t p) : ∃ lo hi, Kp s t lo ∧ Kp s t hi ∧ Ep s t lo ∧ Ep s t hi ∧ (∀ q, Kp s t q → leP lo q ∧ leP q hi) ∧ (∀ e, Ep s t e → Kp s t e → e = lo ∨ e = hi) := by
  obtain ⟨g, k, m, hg, hu, hv⟩ := par_line hD
  obtain ⟨r, q, h0, h1, g0, g1, e, f, _, _⟩ := K_fr hp
  have u1 : s.2.1 - s.1.1 = g.1 * k := congrArg Prod.fst hu
  have u2 : s.2.2 - s.1.2 = g.2 * k := congrArg Prod.snd hu
  have v1 : t.2.1 - t.1.1 = g.1 * m := congrArg Prod.fst hv
  have v2 : t.2.2 - t.1.2 = g.2 * m := congrArg Prod.snd hv
  have e1 : p.1 = s.1.1 + (s.2.1 - s.1.1) * r := congrArg Prod.fst e
  have e2 : p.2 = s.1.2 + (s.2.2 - s.1.2) * r := congrArg Prod.snd e
  have f1 : p.1 = t.1.1 + (t.2.1 - t.1.1) * q := congrArg Prod.fst f
  have f2 : p.2 = t.1.2 + (t.2.2 - t.1.2) * q := congrArg Prod.snd f
  have hs1 : s.1 = lnP p g (-(k * r)) := Prod.ext (show s.1.1 = p.1 + g.1 * (-(k * r)) by rw [e1, u1]; grind) (show s.1.2 = p.2 + g.2 * (-(k * r)) by rw [e2, u2]; grind)
  have hs2 : s.2 = lnP p g (k * (1 - r)) := Prod.ext (show s.2.1 = p.1 + g.1 * (k * (1 - r)) by rw [e1, u1]; grind) (show s.2.2 = p.2 + g.2 * (k * (1 - r)) by rw [e2, u2]; grind)
  have ht1 : t.1 = lnP p g (-(m * q)) := Prod.ext (show t.1.1 = p.1 + g.1 * (-(m * q)) by rw [f1, v1]; grind) (show t.1.2 = p.2 + g.2 * (-(m * q)) by rw [f2, v2]; grind)
  have ht2 : t.2 = lnP p g (m * (1 - q)) := Prod.ext (show t.2.1 = p.1 + g.1 * (m * (1 - q)) by rw [f1, v1]; grind) (show t.2.2 = p.2 + g.2 * (m * (1 - q)) by rw [f2, v2]; grind)
  have zs : inI (-(k * r)) (k * (1 - r)) 0 := by
    have := of_frac (u := k) h0 h1
    unfold inI at this ⊢; grind
  have zt : inI (-(m * q)) (m * (1 - q)) 0 := by
    have := of_frac (u := m) g0 g1
    unfold inI at this ⊢; grind
  generalize -(k * r) = α at *
  generalize k * (1 - r) = β at *
  generalize -(m * q) = γ at *
  generalize m * (1 - q) = δ at *
  have hK : ∀ z, Kp s t z ↔ ∃ x, z = lnP p g x ∧ inI α β x ∧ inI γ δ x := by
    intro z
    unfold Kp
    rw [show s = (lnP p g α, lnP p g β) from Prod.ext hs1 hs2, show t = (lnP p g γ, lnP p g δ) from Prod.ext ht1 ht2, ln_on, ln_on]
    constructor
    · rintro ⟨⟨x, rfl, hx⟩, y, hy, hy'⟩
      have := ln_inj hg hy
      subst this
      exact ⟨x, rfl, hx, hy'⟩
    · rintro ⟨x, rfl, a, b⟩
      exact ⟨⟨x, rfl, a⟩, x, rfl, b⟩
  have hE : ∀ z, Ep s t z ↔ ∃ x, z = lnP p g x ∧ (x = α ∨ x = β ∨ x = γ ∨ x = δ) := by
    intro z
    unfold Ep
    rw [hs1, hs2, ht1, ht2]
    constructor
    · rintro (c | c | c | c) <;> exact ⟨_, c, by simp⟩
    · rintro ⟨x, rfl, c | c | c | c⟩ <;> simp [c]
  obtain ⟨l, lE, l1, l2, l3⟩ := lin_low zs zt
  obtain ⟨h, hE', h1', h2', h3'⟩ := lin_high zs zt
  refine ⟨lnP p g l, lnP p g h, (hK _).2 ⟨l, rfl, l1, l2⟩, (hK _).2 ⟨h, rfl, h1', h2'⟩, (hE _).2 ⟨l, rfl, lE⟩, (hE _).2 ⟨h, rfl, hE'⟩, ?_, ?_⟩
  · intro z hz
    obtain ⟨x, rfl, a, b⟩ := (hK _).1 hz
    unfold leP
    rw [ln_lt hg, ln_lt hg, Rat.not_lt, Rat.not_lt]
    exact ⟨l3 x a b, h3' x a b⟩
  · intro z hz hz'
    obtain ⟨x, rfl, hx⟩ := (hE _).1 hz
    obtain ⟨y, hy, a, b⟩ := (hK _).1 hz'
    have := ln_inj hg hy
    subst this
    have A := l3 x a b
    have B := h3' x a b
    have : x = l ∨ x = h := lin_end zs zt l1 l2 h1' h2' hx A B
    rcases this with c | c
    · left; rw [c]
    · right; rw [c]
end Go.Via
set_option linter.unusedVariables false
set_option linter.unusedSimpArgs false
namespace Go.Via
open Go Go.RowKit
/-- what the answer of a meeting has to be -/
def MeetIs (s t : S2) (m : Int × S2) : Prop :=
  (m = (0, ((0, 0), (0, 0))) ∧ ∀ p, ¬ Kp s t p) ∨ (∃ c, m = (1, (c, c)) ∧ Kp s t c ∧ Ep s t c ∧ ∀ p, Kp s t p → p = c) ∨
  (∃ c, m = (2, (c, c)) ∧ Kp s t c ∧ ¬ Ep s t c ∧ ∀ p, Kp s t p → p = c) ∨
  (∃ a b, m = (3, (a, b)) ∧ Kp s t a ∧ Kp s t b ∧ ltP a b ∧ ∀ p, Kp s t p → leP a p ∧ leP p b)
theorem MeetIs.uniq {s t s' t' : S2} {m m' : Int × S2} (h : MeetIs s t m) (h' : MeetIs s' t' m') (hK : ∀ p, Kp s t p ↔ Kp s' t' p) (hE : ∀ p, Ep s t p ↔ Ep s' t' p) : m = m' := by
  rcases h with ⟨rfl, h⟩ | ⟨c, rfl, h1, h2, h3⟩ | ⟨c, rfl, h1, h2, h3⟩ | ⟨a, b, rfl, h1, h2, h3, h4⟩
  · rcases h' with ⟨rfl, g⟩ | ⟨d, rfl, g1, g2, g3⟩ | ⟨d, rfl, g1, g2, g3⟩ | ⟨a', b', rfl, g1, g2, g3, g4⟩
    · rfl
    · exact absurd ((hK _).2 g1) (h _)
    · exact absurd ((hK _).2 g1) (h _)
    · exact absurd ((hK _).2 g1) (h _)
  · rcases h' with ⟨rfl, g⟩ | ⟨d, rfl, g1, g2, g3⟩ | ⟨d, rfl, g1, g2, g3⟩ | ⟨a', b', rfl, g1, g2, g3, g4⟩
    · exact absurd ((hK _).1 h1) (g _)
    · rw [h3 d ((hK _).2 g1)]
    · have := h3 d ((hK _).2 g1); subst this; exact absurd ((hE _).1 h2) g2
    · have e1 := h3 _ ((hK _).2 g1); have e2 := h3 _ ((hK _).2 g2); rw [e1, e2] at g3; exact absurd g3 (ltP_irrefl _)
  · rcases h' with ⟨rfl, g⟩ | ⟨d, rfl, g1, g2, g3⟩ | ⟨d, rfl, g1, g2, g3⟩ | ⟨a', b', rfl, g1, g2, g3, g4⟩
    · exact absurd ((hK _).1 h1) (g _)
    · have := h3 d ((hK _).2 g1); subst this; exact absurd ((hE _).2 g2) h2
    · rw [h3 d ((hK _).2 g1)]
    · have e1 := h3 _ ((hK _).2 g1); have e2 := h3 _ ((hK _).2 g2); rw [e1, e2] at g3; exact absurd g3 (ltP_irrefl _)
  · rcases h' with ⟨rfl, g⟩ | ⟨d, rfl, g1, g2, g3⟩ | ⟨d, rfl, g1, g2, g3⟩ | ⟨a', b', rfl, g1, g2, g3, g4⟩
    · exact absurd ((hK _).1 h1) (g _)
    · have e1 := g3 _ ((hK _).1 h1); have e2 := g3 _ ((hK _).1 h2); rw [e1, e2] at h3; exact absurd h3 (ltP_irrefl _)
    · have e1 := g3 _ ((hK _).1 h1); have e2 := g3 _ ((hK _).1 h2); rw [e1, e2] at h3; exact absurd h3 (ltP_irrefl _)
    · have A := h4 _ ((hK _).2 g1); have B := h4 _ ((hK _).2 g2); have A' := g4 _ ((hK _).1 h1); have B' := g4 _ ((hK _).1 h2)
      rw [ltP_tri A'.1 A.1, ltP_tri B.2 B'.2]
theorem addE_iff {l : List P2} {p q : P2} {on : S2} : q ∈ addE l p on ↔ q ∈ l ∨ (q = p ∧ onS p on) := by
  unfold addE
  by_cases h : onS p on
  · by_cases g : p ∈ l
    · rw [if_neg (fun c => c.2 g)]
      exact ⟨.inl, fun c => c.elim id (fun c => c.1 ▸ g)⟩
    · rw [if_pos ⟨h, g⟩, List.mem_append, List.mem_singleton]
      exact ⟨fun c => c.imp id (fun c => ⟨c, h⟩), fun c => c.imp id (fun c => c.1)⟩
  · rw [if_neg (fun c => h c.1)]
    exact ⟨.inl, fun c => c.elim id (fun c => absurd c.2 h)⟩
theorem addE_nodup {l : List P2} {p : P2} {on : S2} (h : l.Nodup) : (addE l p on).Nodup := by
  unfold addE
  split
  · rename_i c
    rw [List.nodup_append]
    exact ⟨h, by simp, fun a ha b hb e => c.2 (by rw [List.mem_singleton] at hb; rw [← hb, ← e]; exact ha)⟩
  · exact h
theorem ends_nodup (s t : S2) : (endsP s t).Nodup := by unfold endsP; exact addE_nodup (addE_nodup (addE_nodup (addE_nodup List.nodup_nil)))
theorem mem_ends {s t : S2} {p : P2} : p ∈ endsP s t ↔ Ep s t p ∧ Kp s t p := by
  unfold endsP
  rw [addE_iff, addE_iff, addE_iff, addE_iff]
  unfold Ep Kp
  constructor
  · rintro ((((c | ⟨rfl, c⟩) | ⟨rfl, c⟩) | ⟨rfl, c⟩) | ⟨rfl, c⟩)
    · cases c
    · exact ⟨.inl rfl, on_end1 s, c⟩
    · exact ⟨.inr (.inl rfl), on_end2 s, c⟩
    · exact ⟨.inr (.inr (.inl rfl)), c, on_end1 t⟩
    · exact ⟨.inr (.inr (.inr rfl)), c, on_end2 t⟩
  · rintro ⟨rfl | rfl | rfl | rfl, c, d⟩
    · exact .inl (.inl (.inl (.inr ⟨rfl, d⟩)))
    · exact .inl (.inl (.inr ⟨rfl, d⟩))
    · exact .inl (.inr ⟨rfl, c⟩)
    · exact .inr ⟨rfl, c⟩
theorem sgn_opp {x y : Rat} : sgn x * sgn y < 0 ↔ (x < 0 ∧ 0 < y) ∨ (0 < x ∧ y < 0) := by
  have hx := @sgn_n x; have hx' := @sgn_p x; have hx0 := @sgn_z x
  have hy := @sgn_n y; have hy' := @sgn_p y; have hy0 := @sgn_z y
  have bx := sgn_bound x; have by' := sgn_bound y
  rcases (show sgn x = -1 ∨ sgn x = 0 ∨ sgn x = 1 by omega) with a | a | a <;> rcases (show sgn y = -1 ∨ sgn y = 0 ∨ sgn y = 1 by omega) with b | b | b <;> rw [a, b]
  · have := hx.1 a; have := hy.1 b; constructor
    · intro h; exact absurd h (by decide)
    · intro h; grind
  · have := hx.1 a; have := hy0.1 b; constructor
    · intro h; exact absurd h (by decide)
    · intro h; grind
  · have := hx.1 a; have := hy'.1 b; exact ⟨fun _ => by grind, fun _ => by decide⟩
  · have := hx0.1 a; have := hy.1 b; constructor
    · intro h; exact absurd h (by decide)
    · intro h; grind
  · have := hx0.1 a; have := hy0.1 b; constructor
    · intro h; exact absurd h (by decide)
    · intro h; grind
  · have := hx0.1 a; have := hy'.1 b; constructor
    · intro h; exact absurd h (by decide)
    · intro h; grind
  · have := hx'.1 a; have := hy.1 b; exact ⟨fun _ => by grind, fun _ => by decide⟩
  · have := hx'.1 a; have := hy0.1 b; constructor
    · intro h; exact absurd h (by decide)
    · intro h; grind
  · have := hx'.1 a; have := hy'.1 b; constructor
    · intro h; exact absurd h (by decide)
    · intro h; grind
/-- the test of the crossing, by the products -/
def FFt (s t : S2) : Prop := ¬ 0 ≤ ori s.1 s.2 t.1 * ori s.1 s.2 t.2 ∧ ¬ 0 ≤ ori t.1 t.2 s.1 * ori t.1 t.2 s.2
theorem FF_iff (s t : S2) : FFt s t ↔ ((0 < wUq s t ∧ wUq s t < uv s t) ∨ (wUq s t < 0 ∧ uv s t < wUq s t)) ∧ ((0 < wv s t ∧ wv s t < uv s t) ∨ (wv s t < 0 ∧ uv s t < wv s t)) := by
  obtain ⟨⟨a1, a2⟩, ⟨b1, b2⟩⟩ := s
  obtain ⟨⟨c1, c2⟩, ⟨d1, d2⟩⟩ := t
  unfold FFt ori
  rw [Int.not_le, Int.not_le, sgn_opp, sgn_opp]
  unfold wUq wv uv crs pSub
  dsimp only
  have e1 : (b1 - a1) * (c2 - a2) - (b2 - a2) * (c1 - a1) = -((c1 - a1) * (b2 - a2) - (c2 - a2) * (b1 - a1)) := by grind
  have e2 : (b1 - a1) * (d2 - a2) - (b2 - a2) * (d1 - a1) = ((b1 - a1) * (d2 - c2) - (b2 - a2) * (d1 - c1)) - ((c1 - a1) * (b2 - a2) - (c2 - a2) * (b1 - a1)) := by grind
  have e3 : (d1 - c1) * (a2 - c2) - (d2 - c2) * (a1 - c1) = (c1 - a1) * (d2 - c2) - (c2 - a2) * (d1 - c1) := by grind
  have e4 : (d1 - c1) * (b2 - c2) - (d2 - c2) * (b1 - c1) = ((c1 - a1) * (d2 - c2) - (c2 - a2) * (d1 - c1)) - ((b1 - a1) * (d2 - c2) - (b2 - a2) * (d1 - c1)) := by grind
  rw [e1, e2, e3, e4]
  generalize (c1 - a1) * (b2 - a2) - (c2 - a2) * (b1 - a1) = X
  generalize (b1 - a1) * (d2 - c2) - (b2 - a2) * (d1 - c1) = D
  generalize (c1 - a1) * (d2 - c2) - (c2 - a2) * (d1 - c1) = Y
  constructor <;> intro h <;> grind
theorem div_unit {x d : Rat} (h : (0 ≤ x ∧ x ≤ d) ∨ (x ≤ 0 ∧ d ≤ x)) (hd : d ≠ 0) : 0 ≤ x / d ∧ x / d ≤ 1 := by
  obtain ⟨r, h0, h1, e⟩ := frac_of hd (x := x) (by unfold inI; grind)
  rw [e, Rat.mul_comm, Rat.mul_div_cancel hd]
  exact ⟨h0, h1⟩
theorem cross_t {s t : S2} (hD : uv s t ≠ 0) : divP s (wv s t / uv s t) = divP t (wUq s t / uv s t) := by
  have e1 : wv s t / uv s t * uv s t = wv s t := Rat.div_mul_cancel hD
  have e2 : wUq s t / uv s t * uv s t = wUq s t := Rat.div_mul_cancel hD
  generalize wv s t / uv s t = r at *
  generalize wUq s t / uv s t = q at *
  have key : ∀ x y : Rat, (x - y) * uv s t = 0 → x = y := fun x y h => by
    rcases Rat.mul_eq_zero.1 h with c | c
    · grind
    · exact absurd c hD
  obtain ⟨⟨a1, a2⟩, ⟨b1, b2⟩⟩ := s
  obtain ⟨⟨c1, c2⟩, ⟨d1, d2⟩⟩ := t
  unfold divP pAdd pScale pSub
  dsimp only
  refine Prod.ext (key _ _ ?_) (key _ _ ?_)
  · show (a1 + (b1 - a1) * r - (c1 + (d1 - c1) * q)) * _ = 0
    have : (a1 + (b1 - a1) * r - (c1 + (d1 - c1) * q)) * uv ((a1, a2), (b1, b2)) ((c1, c2), (d1, d2)) = (a1 - c1) * uv ((a1, a2), (b1, b2)) ((c1, c2), (d1, d2)) + (b1 - a1) * (r * uv ((a1, a2), (b1, b2)) ((c1, c2), (d1, d2))) - (d1 - c1) * (q * uv ((a1, a2), (b1, b2)) ((c1, c2), (d1, d2))) := by grind
    rw [this, e1, e2]
    unfold uv wv wUq crs pSub
    dsimp only
    grind
  · show (a2 + (b2 - a2) * r - (c2 + (d2 - c2) * q)) * _ = 0
    have : (a2 + (b2 - a2) * r - (c2 + (d2 - c2) * q)) * uv ((a1, a2), (b1, b2)) ((c1, c2), (d1, d2)) = (a2 - c2) * uv ((a1, a2), (b1, b2)) ((c1, c2), (d1, d2)) + (b2 - a2) * (r * uv ((a1, a2), (b1, b2)) ((c1, c2), (d1, d2))) - (d2 - c2) * (q * uv ((a1, a2), (b1, b2)) ((c1, c2), (d1, d2))) := by grind
    rw [this, e1, e2]
    unfold uv wv wUq crs pSub
    dsimp only
    grind
/-- where the test of the crossing holds, its point is common -/
theorem cross_K {s t : S2} (h : FFt s t) : uv s t ≠ 0 ∧ Kp s t (divP s (wv s t / uv s t)) := by
  have h' := (FF_iff s t).1 h
  have hD : uv s t ≠ 0 := by grind
  refine ⟨hD, ?_, ?_⟩
  · have := div_unit (x := wv s t) (d := uv s t) (by grind) hD
    exact on_div this.1 this.2
  · rw [cross_t hD]
    have := div_unit (x := wUq s t) (d := uv s t) (by grind) hD
    exact on_div this.1 this.2
/-- a common point that is no end: the test holds, and the point is that of the crossing -/
theorem cross_of {s t : S2} {c : P2} (hc : Kp s t c) (hN : ∀ e, Ep s t e → ¬ Kp s t e) : uv s t ≠ 0 ∧ FFt s t ∧ divP s (wv s t / uv s t) = c := by
  have hE : ¬ Ep s t c := fun h => hN c h hc
  obtain ⟨r, q, h0, h1, g0, g1, e, f, er, eq⟩ := K_fr hc
  have hr0 : r ≠ 0 := fun z => hE (.inl (by rw [e, z]; unfold divP pAdd pScale; exact Prod.ext (show _ + _ * (0 : Rat) = _ by grind) (show _ + _ * (0 : Rat) = _ by grind)))
  have hr1 : r ≠ 1 := fun z => hE (.inr (.inl (by rw [e, z]; unfold divP pAdd pScale pSub; exact Prod.ext (show s.1.1 + (s.2.1 - s.1.1) * (1 : Rat) = s.2.1 by grind) (show s.1.2 + (s.2.2 - s.1.2) * (1 : Rat) = s.2.2 by grind))))
  have hq0 : q ≠ 0 := fun z => hE (.inr (.inr (.inl (by rw [f, z]; unfold divP pAdd pScale; exact Prod.ext (show _ + _ * (0 : Rat) = _ by grind) (show _ + _ * (0 : Rat) = _ by grind)))))
  have hq1 : q ≠ 1 := fun z => hE (.inr (.inr (.inr (by rw [f, z]; unfold divP pAdd pScale pSub; exact Prod.ext (show t.1.1 + (t.2.1 - t.1.1) * (1 : Rat) = t.2.1 by grind) (show t.1.2 + (t.2.2 - t.1.2) * (1 : Rat) = t.2.2 by grind)))))
  have hD : uv s t ≠ 0 := fun z => by
    obtain ⟨lo, hi, k1, k2, e1, e2, k3, k4⟩ := K_line z hc
    exact hN lo e1 k1
  refine ⟨hD, (FF_iff s t).2 ?_, ?_⟩
  · rw [← er, ← eq]
    rcases (show 0 < uv s t ∨ 0 < -uv s t by grind) with d | d
    · have A := Rat.mul_pos (show 0 < r by grind) d
      have B := Rat.mul_pos (show 0 < 1 - r by grind) d
      have A' := Rat.mul_pos (show 0 < q by grind) d
      have B' := Rat.mul_pos (show 0 < 1 - q by grind) d
      grind
    · have A := Rat.mul_pos (show 0 < r by grind) d
      have B := Rat.mul_pos (show 0 < 1 - r by grind) d
      have A' := Rat.mul_pos (show 0 < q by grind) d
      have B' := Rat.mul_pos (show 0 < 1 - q by grind) d
      grind
  · rw [← er, Rat.mul_div_cancel hD]; exact e.symm
theorem K_ends {s t : S2} {e : P2} (he : Ep s t e) (hk : Kp s t e) : ∃ lo hi, Kp s t lo ∧ Kp s t hi ∧ Ep s t lo ∧ Ep s t hi ∧ (∀ q, Kp s t q → leP lo q ∧ leP q hi) ∧ (∀ e, Ep s t e → Kp s t e → e = lo ∨ e = hi) := by
  by_cases hD : uv s t = 0
  · exact K_line hD hk
  · exact ⟨e, e, hk, hk, he, he, fun q hq => by rw [K_uniq hD hq hk]; exact ⟨ltP_irrefl _, ltP_irrefl _⟩, fun z _ hz => .inl (K_uniq hD hz hk)⟩
theorem cross_1 {s t : S2} (h : FFt s t) : crossP s t = (2, (divP s (wv s t / uv s t), divP s (wv s t / uv s t))) := cross_FF h.1 h.2
theorem cross_0 {s t : S2} (h : ¬ FFt s t) : crossP s t = (0, ((0, 0), (0, 0))) := by
  by_cases h1 : 0 ≤ ori s.1 s.2 t.1 * ori s.1 s.2 t.2
  · exact cross_T1 h1
  · exact cross_T2 (Classical.byContradiction fun h2 => h ⟨h1, h2⟩)
theorem leP_of_ltP {a b : P2} (h : ltP a b) : leP a b := fun c => ltP_irrefl _ (ltP_trans h c)
/-- a list of distinct ends that are common: what it says about the common points -/
theorem ends_cases {s t : S2} {l : List P2} (hn : l.Nodup) (hm : ∀ p, p ∈ l ↔ Ep s t p ∧ Kp s t p) :
    (l = [] ∧ ∀ e, Ep s t e → ¬ Kp s t e) ∨ (∃ c, l = [c] ∧ Kp s t c ∧ Ep s t c ∧ ∀ p, Kp s t p → p = c) ∨ (∃ a b, (l = [a, b] ∨ l = [b, a]) ∧ Kp s t a ∧ Kp s t b ∧ ltP a b ∧ ∀ p, Kp s t p → leP a p ∧ leP p b) := by
  match l, hn, hm with
  | [], hn, hm => exact .inl ⟨rfl, fun e h1 h2 => by have := (hm e).2 ⟨h1, h2⟩; cases this⟩
  | [c], hn, hm =>
    obtain ⟨hE, hK⟩ := (hm c).1 (by simp)
    obtain ⟨lo, hi, k1, k2, e1, e2, k3, k4⟩ := K_ends hE hK
    have a1 : lo = c := by have := (hm lo).2 ⟨e1, k1⟩; simpa using this
    have a2 : hi = c := by have := (hm hi).2 ⟨e2, k2⟩; simpa using this
    subst a1; subst a2
    exact .inr (.inl ⟨hi, rfl, hK, hE, fun p hp => ltP_tri (k3 p hp).1 (k3 p hp).2⟩)
  | [a, b], hn, hm =>
    obtain ⟨hE, hK⟩ := (hm a).1 (by simp)
    obtain ⟨hE', hK'⟩ := (hm b).1 (by simp)
    have hab : a ≠ b := by simp at hn; exact hn
    obtain ⟨lo, hi, k1, k2, e1, e2, k3, k4⟩ := K_ends hE hK
    refine .inr (.inr ⟨lo, hi, ?_⟩)
    have h1 := k4 a hE hK
    have h2 := k4 b hE' hK'
    have hne : lo ≠ hi := fun e => hab (by rcases h1 with h1 | h1 <;> rcases h2 with h2 | h2 <;> rw [h1, h2] <;> first | rfl | exact e | exact e.symm)
    have hlt : ltP lo hi := Classical.byContradiction fun c => hne (ltP_tri c (k3 hi k2).1)
    refine ⟨?_, k1, k2, hlt, k3⟩
    rcases h1 with h1 | h1 <;> rcases h2 with h2 | h2
    · exact absurd (h1.trans h2.symm) hab
    · left; rw [h1, h2]
    · right; rw [h1, h2]
    · exact absurd (h1.trans h2.symm) hab
  | a :: b :: c :: l, hn, hm =>
    exfalso
    obtain ⟨hE, hK⟩ := (hm a).1 (by simp)
    obtain ⟨hE', hK'⟩ := (hm b).1 (by simp)
    obtain ⟨hE2, hK2⟩ := (hm c).1 (by simp)
    simp only [List.nodup_cons, List.mem_cons, not_or] at hn
    obtain ⟨lo, hi, k1, k2, e1, e2, k3, k4⟩ := K_ends hE hK
    obtain ⟨⟨n1, n2, _⟩, ⟨n3, _⟩, _⟩ := hn
    rcases k4 a hE hK with c1 | c1 <;> rcases k4 b hE' hK' with c2 | c2 <;> rcases k4 c hE2 hK2 with c3 | c3 <;> subst c1 <;> first | exact n1 c2.symm | exact n2 c3.symm | exact n3 (c2.trans c3.symm)
theorem meetP_is (s t : S2) : MeetIs s t (meetP s t) := by
  rcases ends_cases (ends_nodup s t) (fun p => mem_ends) with ⟨h, hN⟩ | ⟨c, h, h1, h2, h3⟩ | ⟨a, b, h | h, h1, h2, h3, h4⟩
  · rw [meet_0 h]
    by_cases hF : FFt s t
    · rw [cross_1 hF]
      obtain ⟨hD, hK⟩ := cross_K hF
      exact .inr (.inr (.inl ⟨_, rfl, hK, fun e => hN _ e hK, fun p hp => K_uniq hD hp hK⟩))
    · rw [cross_0 hF]
      exact .inl ⟨rfl, fun p hp => hF (cross_of hp hN).2.1⟩
  · rw [meet_1 h]; exact .inr (.inl ⟨c, rfl, h1, h2, h3⟩)
  · rw [meet_3 h (by have := cmpP_neg.2 h3; omega)]; exact .inr (.inr (.inr ⟨a, b, rfl, h1, h2, h3, h4⟩))
  · rw [meet_2 h (by have := cmpP_pos.2 h3; omega)]; exact .inr (.inr (.inr ⟨a, b, rfl, h1, h2, h3, h4⟩))
theorem meetP_swap (s t : S2) : meetP t s = meetP s t := (meetP_is t s).uniq (meetP_is s t) (fun p => And.comm) (fun p => by unfold Ep; grind)
theorem onS_back {s : S2} {p : P2} : onS p (s.2, s.1) ↔ onS p s := by
  rw [on_par, on_par]
  constructor
  · rintro ⟨r, h0, h1, rfl⟩
    refine ⟨1 - r, by grind, by grind, ?_⟩
    unfold divP pAdd pScale pSub
    exact Prod.ext (show s.2.1 + (s.1.1 - s.2.1) * r = s.1.1 + (s.2.1 - s.1.1) * (1 - r) by grind) (show s.2.2 + (s.1.2 - s.2.2) * r = s.1.2 + (s.2.2 - s.1.2) * (1 - r) by grind)
  · rintro ⟨r, h0, h1, rfl⟩
    refine ⟨1 - r, by grind, by grind, ?_⟩
    unfold divP pAdd pScale pSub
    exact Prod.ext (show s.1.1 + (s.2.1 - s.1.1) * r = s.2.1 + (s.1.1 - s.2.1) * (1 - r) by grind) (show s.1.2 + (s.2.2 - s.1.2) * r = s.2.2 + (s.1.2 - s.2.2) * (1 - r) by grind)
theorem meetP_back (s t : S2) : meetP (s.2, s.1) t = meetP s t := (meetP_is _ t).uniq (meetP_is s t) (fun p => by unfold Kp; rw [onS_back]) (fun p => by unfold Ep; grind)
/-! what PlaneCommon says -/
theorem meet_apart {s t : S2} (h : (meetP s t).1 = 0) : (meetP s t).2 = ((0, 0), (0, 0)) ∧ ∀ r : Rat, 0 ≤ r → r ≤ 1 → ¬ onS (divP s r) t := by
  rcases meetP_is s t with ⟨e, k⟩ | ⟨c, e, _⟩ | ⟨c, e, _⟩ | ⟨a, b, e, _⟩
  · rw [e]; exact ⟨rfl, fun r h0 h1 hc => k _ ⟨on_div h0 h1, hc⟩⟩
  · rw [e] at h; cases h
  · rw [e] at h; cases h
  · rw [e] at h; cases h
theorem meet_on {s t : S2} (h : (meetP s t).1 ≠ 0) : onS (meetP s t).2.1 s ∧ onS (meetP s t).2.1 t ∧ onS (meetP s t).2.2 s ∧ onS (meetP s t).2.2 t := by
  rcases meetP_is s t with ⟨e, k⟩ | ⟨c, e, k, _⟩ | ⟨c, e, k, _⟩ | ⟨a, b, e, k, k', _⟩
  · rw [e] at h; exact absurd rfl h
  · rw [e]; exact ⟨k.1, k.2, k.1, k.2⟩
  · rw [e]; exact ⟨k.1, k.2, k.1, k.2⟩
  · rw [e]; exact ⟨k.1, k.2, k'.1, k'.2⟩
theorem meet_touch {s t : S2} (h : (meetP s t).1 = 1) : (meetP s t).2.1 = (meetP s t).2.2 ∧ Ep s t (meetP s t).2.1 := by
  rcases meetP_is s t with ⟨e, k⟩ | ⟨c, e, k, hE, _⟩ | ⟨c, e, k, _⟩ | ⟨a, b, e, k, k', _⟩
  · rw [e] at h; cases h
  · rw [e]; exact ⟨rfl, hE⟩
  · rw [e] at h; cases h
  · rw [e] at h; cases h
theorem meet_cross {s t : S2} (h : (meetP s t).1 = 2) : (meetP s t).2.1 = (meetP s t).2.2 ∧ ¬ Ep s t (meetP s t).2.1 := by
  rcases meetP_is s t with ⟨e, k⟩ | ⟨c, e, k, _⟩ | ⟨c, e, k, hE, _⟩ | ⟨a, b, e, k, k', _⟩
  · rw [e] at h; cases h
  · rw [e] at h; cases h
  · rw [e]; exact ⟨rfl, hE⟩
  · rw [e] at h; cases h
theorem meet_over {s t : S2} (h0 : (meetP s t).1 ≠ 0) (h1 : (meetP s t).1 ≠ 1) (h2 : (meetP s t).1 ≠ 2) : (meetP s t).1 = 3 ∧ cmpP (meetP s t).2.1 (meetP s t).2.2 = -1 := by
  rcases meetP_is s t with ⟨e, k⟩ | ⟨c, e, k, _⟩ | ⟨c, e, k, hE, _⟩ | ⟨a, b, e, k, k', hlt, _⟩
  · rw [e] at h0; exact absurd rfl h0
  · rw [e] at h1; exact absurd rfl h1
  · rw [e] at h2; exact absurd rfl h2
  · rw [e]; exact ⟨rfl, cmpP_neg.2 hlt⟩
end Go.Via
set_option linter.unusedVariables false
set_option linter.unusedSimpArgs false
namespace Go.Via
open Go Go.RowKit
/-! ### checks -/
theorem chk_T {a b : Bool} (h : ((if a = true then (0 : Int) else 5) != 0) = true) : (5 : Int) = if (a && b) = true then 0 else 5 := by cases a <;> cases b <;> first | rfl | (cases h; done)
theorem chk_F {a b : Bool} (h : ((if a = true then (0 : Int) else 5) != 0) = false) (h2 : ((if b = true then (0 : Int) else 5) != 0) = true) : (5 : Int) = if (a && b) = true then 0 else 5 := by cases a <;> cases b <;> first | rfl | (cases h; done) | (cases h2; done)
theorem chk_FF {a b : Bool} (h : ((if a = true then (0 : Int) else 5) != 0) = false) (h2 : ((if b = true then (0 : Int) else 5) != 0) = false) : (0 : Int) = if (a && b) = true then 0 else 5 := by cases a <;> cases b <;> first | rfl | (cases h; done) | (cases h2; done)
theorem chk_0 {a : Bool} (h : a = true) : (if a = true then (0 : Int) else 5) = 0 := if_pos h
theorem chk_5 {a : Bool} (h : a = false) : (if a = true then (0 : Int) else 5) = 5 := by rw [h]; rfl
end Go.Via
set_option linter.unusedVariables false
namespace Go.Proofs.YthnlafhnpphdhaaGreatDoor
open Go Go.RowKit Go.Via
set_option maxRecDepth 20000 in
theorem c_plane_Check (b1 : Bool) (s1 : ByteArray) (b2 : Bool) (s2 : ByteArray) (b3 : Bool) (s3 : ByteArray) (b4 : Bool) (s4 : ByteArray) (hs1 : s1.size ≤ 1000) (hs2 : s2.size ≤ 1000) (hs3 : s3.size ≤ 1000) (hs4 : s4.size ≤ 1000) : PCall Tryz.prog 51 #[.agg #[.bool b1, .string s1, .bool b2, .string s2, .bool b3, .string s3, .bool b4, .string s4]] (.int .i64 (if (isQ b1 s1 b2 s2 && isQ b3 s3 b4 s4) = true then 0 else 5)) := by
  refine ⟨by kernel_rfl, fun w => ?_⟩
  refine calls_at (args := [.agg #[.bool b1, .string s1, .bool b2, .string s2, .bool b3, .string s3, .bool b4, .string s4]]) Tryz.func51 rfl (Nat.le_of_ble_eq_true rfl) (LRel.nil w) ?_
  show At w ⟨13, [(0, .agg #[.bool b1, .string s1, .bool b2, .string s2, .bool b3, .string s3, .bool b4, .string s4])], []⟩ _
  refine at_seq ?_
  refine at_region ?_
  refine r_box [_, _, _, _, _, _, _, _] 8 (fun g => [⟨some g, 27, _, 8, true⟩]) rfl rfl rfl rfl rfl (fun _ => rfl) (fun g0 => ?_)
  refine r_assign rfl rfl rfl ?_
  refine run_nil ?_
  refine at_tn ?_
  refine at_seq ?_
  refine at_seq ?_
  refine at_region ?_
  refine r_fieldAddr 0 0 0 rfl rfl rfl rfl rfl ti27 rfl rfl ?_
  refine r_load 0 0 [_, _, _, _] rfl rfl rfl rfl ti25 rfl rfl rfl rfl ?_
  refine r_pcall [_] rfl rfl rfl (c_rational_Check b1 s1 b2 s2 hs1 hs2) ?_
  refine r_cmpInt rfl rfl rfl rfl rfl ?_
  refine r_move rfl rfl rfl ?_
  refine r_split 7 rfl (fun hb0 => ?_) (fun hb0 => ?_)
  ·
    refine r_no rfl rfl rfl ?_
    refine r_no rfl rfl rfl ?_
    refine r_no rfl rfl rfl ?_
    refine r_no rfl rfl rfl ?_
    refine r_pickT rfl rfl rfl rfl ?_
    refine run_nil ?_
    refine at_tn ?_
    refine at_condT rfl ?_
    refine at_seq ?_
    refine at_region ?_
    refine r_assign rfl rfl rfl ?_
    refine run_nil ?_
    refine at_tn ?_
    refine at_ret ?_
    refine at_tr ?_
    refine at_end1 rfl (res_tmp rfl) (fun w hL => ⟨?_, hL.below⟩)
    exact congrArg (fun z => Ending.returned (.int .i64 z)) (chk_T hb0)
  ·
    refine r_fieldAddr 0 0 4 rfl rfl rfl rfl rfl ti27 rfl rfl ?_
    refine r_load 0 4 [_, _, _, _] rfl rfl rfl rfl ti25 rfl rfl rfl rfl ?_
    refine r_pcall [_] rfl rfl rfl (c_rational_Check b3 s3 b4 s4 hs3 hs4) ?_
    refine r_cmpInt rfl rfl rfl rfl rfl ?_
    refine r_pickF rfl rfl rfl rfl ?_
    refine run_nil ?_
    refine at_tn ?_
    refine at_cond rfl (fun hb1 => ?_) (fun hb1 => ?_)
    ·
      refine at_seq ?_
      refine at_region ?_
      refine r_assign rfl rfl rfl ?_
      refine run_nil ?_
      refine at_tn ?_
      refine at_ret ?_
      refine at_tr ?_
      refine at_end1 rfl (res_tmp rfl) (fun w hL => ⟨?_, hL.below⟩)
      exact congrArg (fun z => Ending.returned (.int .i64 z)) (chk_F hb0 hb1)
    ·
      refine at_skip ?_
      refine at_tn ?_
      refine at_seq ?_
      refine at_region ?_
      refine r_assign rfl rfl rfl ?_
      refine run_nil ?_
      refine at_tn ?_
      refine at_ret ?_
      refine at_end1 rfl (res_tmp rfl) (fun w hL => ⟨?_, hL.below⟩)
      exact congrArg (fun z => Ending.returned (.int .i64 z)) (chk_FF hb0 hb1)

set_option maxRecDepth 20000 in
theorem c_ref07_Check (b1 : Bool) (s1 : ByteArray) (b2 : Bool) (s2 : ByteArray) (b3 : Bool) (s3 : ByteArray) (b4 : Bool) (s4 : ByteArray) (hs1 : s1.size ≤ 1000) (hs2 : s2.size ≤ 1000) (hs3 : s3.size ≤ 1000) (hs4 : s4.size ≤ 1000) : PCall Tryz.prog 50 #[.agg #[.bool b1, .string s1, .bool b2, .string s2, .bool b3, .string s3, .bool b4, .string s4]] (.bool (isQ b1 s1 b2 s2 && isQ b3 s3 b4 s4)) := by
  refine ⟨by kernel_rfl, fun w => ?_⟩
  refine calls_at (args := [.agg #[.bool b1, .string s1, .bool b2, .string s2, .bool b3, .string s3, .bool b4, .string s4]]) Tryz.func50 rfl (Nat.le_of_ble_eq_true rfl) (LRel.nil w) ?_
  show At w ⟨11, [(0, .agg #[.bool b1, .string s1, .bool b2, .string s2, .bool b3, .string s3, .bool b4, .string s4])], []⟩ _
  refine at_seq ?_
  refine at_region ?_
  refine r_box [_, _, _, _, _, _, _, _] 8 (fun g => [⟨some g, 27, _, 8, true⟩]) rfl rfl rfl rfl rfl (fun _ => rfl) (fun g0 => ?_)
  refine r_assign rfl rfl rfl ?_
  refine run_nil ?_
  refine at_tn ?_
  refine at_seq ?_
  refine at_region ?_
  refine r_fieldAddr 0 0 0 rfl rfl rfl rfl rfl ti27 rfl rfl ?_
  refine r_load 0 0 [_, _, _, _] rfl rfl rfl rfl ti25 rfl rfl rfl rfl ?_
  refine r_pcall [_] rfl rfl rfl (c_ref02_Check b1 s1 b2 s2 hs1 hs2) ?_
  refine r_move rfl rfl rfl ?_
  refine r_split 6 rfl (fun hb0 => ?_) (fun hb0 => ?_)
  ·
    refine r_fieldAddr 0 0 4 rfl rfl rfl rfl rfl ti27 rfl rfl ?_
    refine r_load 0 4 [_, _, _, _] rfl rfl rfl rfl ti25 rfl rfl rfl rfl ?_
    refine r_pcall [_] rfl rfl rfl (c_ref02_Check b3 s3 b4 s4 hs3 hs4) ?_
    refine r_pickT rfl rfl rfl rfl ?_
    refine r_assign rfl rfl rfl ?_
    refine run_nil ?_
    refine at_tn ?_
    refine at_ret ?_
    refine at_end1 rfl (res_tmp rfl) (fun w hL => ⟨?_, hL.below⟩)
    rw [hb0]; rfl
  ·
    refine r_no rfl rfl rfl ?_
    refine r_no rfl rfl rfl ?_
    refine r_no rfl rfl rfl ?_
    refine r_pickF rfl rfl rfl rfl ?_
    refine r_assign rfl rfl rfl ?_
    refine run_nil ?_
    refine at_tn ?_
    refine at_ret ?_
    refine at_end1 rfl (res_tmp rfl) (fun w hL => ⟨?_, hL.below⟩)
    rw [hb0]; rfl

end Go.Proofs.YthnlafhnpphdhaaGreatDoor
set_option linter.unusedVariables false
namespace Go.Proofs.YthnlafhnpphdhaaGreatDoor
open Go Go.RowKit Go.Via
set_option maxRecDepth 20000 in
theorem c_PlaneChecks (pb1 : Bool) (ps1 : ByteArray) (pb2 : Bool) (ps2 : ByteArray) (pb3 : Bool) (ps3 : ByteArray) (pb4 : Bool) (ps4 : ByteArray) (x y : Int) (hzp : szR ⟨pb1, ps1, pb2, ps2, pb3, ps3, pb4, ps4⟩) (hx1 : -9223372036854775808 ≤ x) (hx2 : x ≤ 9223372036854775807) (hy1 : -9223372036854775808 ≤ y) (hy2 : y ≤ 9223372036854775807) : PCall Tryz.prog 11 #[.agg #[.bool pb1, .string ps1, .bool pb2, .string ps2, .bool pb3, .string ps3, .bool pb4, .string ps4], .int .i64 x, .int .i64 y] (.bool true) := by
  obtain ⟨hz1, hz2, hz3, hz4⟩ := hzp
  dsimp only at hz1 hz2 hz3 hz4
  unfold BIG at hz1 hz2 hz3 hz4
  refine ⟨by kernel_rfl, fun w => ?_⟩
  refine calls_at (args := [.agg #[.bool pb1, .string ps1, .bool pb2, .string ps2, .bool pb3, .string ps3, .bool pb4, .string ps4], .int .i64 x, .int .i64 y]) Tryz.func11 rfl (Nat.le_of_ble_eq_true rfl) (LRel.nil w) ?_
  show At w ⟨54, [(0, .agg #[.bool pb1, .string ps1, .bool pb2, .string ps2, .bool pb3, .string ps3, .bool pb4, .string ps4]), (1, .int .i64 x), (2, .int .i64 y)], []⟩ _
  refine at_seq ?_
  refine at_region ?_
  refine r_box [_, _, _, _, _, _, _, _] 8 (fun g => [⟨some g, 27, _, 8, true⟩]) rfl rfl rfl rfl rfl (fun _ => rfl) (fun g0 => ?_)
  refine r_assign rfl rfl rfl ?_
  refine run_nil ?_
  refine at_tn ?_
  refine at_seq ?_
  refine at_seq ?_
  refine at_region ?_
  refine r_pcall [] rfl rfl rfl (c_law_known) ?_
  refine r_not rfl rfl rfl ?_
  refine r_move rfl rfl rfl ?_
  refine r_fieldAddr 0 0 0 rfl rfl rfl rfl rfl ti27 rfl rfl ?_
  refine r_fieldAddr 0 0 0 rfl rfl rfl rfl rfl ti25 rfl rfl ?_
  refine r_fieldAddr 0 0 1 rfl rfl rfl rfl rfl ti23 rfl rfl ?_
  refine r_load 0 1 [_] rfl rfl rfl rfl ti9 rfl rfl rfl rfl ?_
  refine r_len rfl u9 rfl rfl ?_
  refine r_fieldAddr 0 0 0 rfl rfl rfl rfl rfl ti27 rfl rfl ?_
  refine r_fieldAddr 0 0 2 rfl rfl rfl rfl rfl ti25 rfl rfl ?_
  refine r_fieldAddr 0 2 1 rfl rfl rfl rfl rfl ti23 rfl rfl ?_
  refine r_load 0 3 [_] rfl rfl rfl rfl ti9 rfl rfl rfl rfl ?_
  refine r_len rfl u9 rfl rfl ?_
  refine r_arith (r := ((ps1.size + ps2.size : Nat) : Int)) rfl rfl rfl rfl (congrArg some (wi (by omega) (by omega) (by omega))) ?_
  refine r_cmpInt rfl rfl rfl rfl rfl ?_
  refine r_pickF rfl rfl rfl rfl ?_
  refine r_move rfl rfl rfl ?_
  refine r_split 24 rfl (fun hb0 => ?_) (fun hb0 => ?_)
  ·
    refine r_no rfl rfl rfl ?_
    refine r_no rfl rfl rfl ?_
    refine r_no rfl rfl rfl ?_
    refine r_no rfl rfl rfl ?_
    refine r_no rfl rfl rfl ?_
    refine r_no rfl rfl rfl ?_
    refine r_no rfl rfl rfl ?_
    refine r_no rfl rfl rfl ?_
    refine r_no rfl rfl rfl ?_
    refine r_no rfl rfl rfl ?_
    refine r_no rfl rfl rfl ?_
    refine r_no rfl rfl rfl ?_
    refine r_pickT rfl rfl rfl rfl ?_
    refine run_nil ?_
    refine at_tn ?_
    refine at_condT rfl ?_
    refine at_seq ?_
    refine at_region ?_
    refine r_pcall [] rfl rfl rfl (c_law_known) ?_
    refine r_assign rfl rfl rfl ?_
    refine run_nil ?_
    refine at_tn ?_
    refine at_ret ?_
    refine at_tr ?_
    refine at_end1 rfl (res_tmp rfl) (fun w hL => ⟨?_, hL.below⟩)
    exact rfl
  ·
    have hsz1 : ps1.size + ps2.size ≤ 20 := by have := of_decide_eq_false hb0; omega
    refine r_fieldAddr 0 0 4 rfl rfl rfl rfl rfl ti27 rfl rfl ?_
    refine r_fieldAddr 0 4 0 rfl rfl rfl rfl rfl ti25 rfl rfl ?_
    refine r_fieldAddr 0 4 1 rfl rfl rfl rfl rfl ti23 rfl rfl ?_
    refine r_load 0 5 [_] rfl rfl rfl rfl ti9 rfl rfl rfl rfl ?_
    refine r_len rfl u9 rfl rfl ?_
    refine r_fieldAddr 0 0 4 rfl rfl rfl rfl rfl ti27 rfl rfl ?_
    refine r_fieldAddr 0 4 2 rfl rfl rfl rfl rfl ti25 rfl rfl ?_
    refine r_fieldAddr 0 6 1 rfl rfl rfl rfl rfl ti23 rfl rfl ?_
    refine r_load 0 7 [_] rfl rfl rfl rfl ti9 rfl rfl rfl rfl ?_
    refine r_len rfl u9 rfl rfl ?_
    refine r_arith (r := ((ps3.size + ps4.size : Nat) : Int)) rfl rfl rfl rfl (congrArg some (wi (by omega) (by omega) (by omega))) ?_
    refine r_cmpInt rfl rfl rfl rfl rfl ?_
    refine r_pickF rfl rfl rfl rfl ?_
    refine run_nil ?_
    refine at_tn ?_
    refine at_cond rfl (fun hb1 => ?_) (fun hb1 => ?_)
    ·
      refine at_seq ?_
      refine at_region ?_
      refine r_pcall [] rfl rfl rfl (c_law_known) ?_
      refine r_assign rfl rfl rfl ?_
      refine run_nil ?_
      refine at_tn ?_
      refine at_ret ?_
      refine at_tr ?_
      refine at_end1 rfl (res_tmp rfl) (fun w hL => ⟨?_, hL.below⟩)
      exact rfl
    ·
      have hsz2 : ps3.size + ps4.size ≤ 20 := by have := of_decide_eq_false hb1; omega
      refine at_skip ?_
      refine at_tn ?_
      refine at_seq ?_
      refine at_region ?_
      refine r_assign rfl rfl rfl ?_
      refine run_nil ?_
      refine at_tn ?_
      refine at_seq ?_
      refine at_seq ?_
      refine at_region ?_
      refine r_load 0 0 [_, _, _, _, _, _, _, _] rfl rfl rfl rfl ti27 rfl rfl rfl rfl ?_
      refine r_pcall [_] rfl rfl rfl (c_ref07_Check pb1 ps1 pb2 ps2 pb3 ps3 pb4 ps4 (by omega) (by omega) (by omega) (by omega)) ?_
      refine run_nil ?_
      refine at_tn ?_
      refine at_cond rfl (fun hb2 => ?_) (fun hb2 => ?_)
      ·
        have hok := chk_0 hb2
        refine at_region ?_
        refine r_assign rfl rfl rfl ?_
        refine run_nil ?_
        refine at_tn ?_
        refine at_seq ?_
        refine at_region ?_
        refine r_load 0 0 [_, _, _, _, _, _, _, _] rfl rfl rfl rfl ti27 rfl rfl rfl rfl ?_
        refine r_pcall [_] rfl rfl rfl (c_plane_Check pb1 ps1 pb2 ps2 pb3 ps3 pb4 ps4 (by omega) (by omega) (by omega) (by omega)) ?_
        refine r_move rfl rfl rfl ?_
        refine r_cmpInt rfl rfl rfl rfl rfl ?_
        refine r_know 44 (.bool true) rfl (congrArg Value.bool (beq_iff_eq.2 hok)) ?_
        refine r_move rfl rfl rfl ?_
        refine r_move rfl rfl rfl ?_
        refine r_move rfl rfl rfl ?_
        refine r_pcall [_, _] rfl rfl rfl (c_plane_At x y hx1 hx2 hy1 hy2) ?_
        refine r_move rfl rfl rfl ?_
        refine r_move rfl rfl rfl ?_
        refine r_pcall [_, _] rfl rfl rfl (c_ref07_At x y hx1 hx2 hy1 hy2) ?_
        refine r_eqlAgg rfl rfl rfl rfl gd27 (eq27 _ _) ?_
        refine r_know 52 (.bool true) rfl (congrArg Value.bool (decide_eq_true rfl)) ?_
        refine r_pickT rfl rfl rfl rfl ?_
        refine r_assign rfl rfl rfl ?_
        refine run_nil ?_
        refine at_tn ?_
        refine at_ret ?_
        refine at_end1 rfl (res_tmp rfl) (fun w hL => ⟨?_, hL.below⟩)
        exact rfl
      ·
        have hok := chk_5 hb2
        refine at_skip ?_
        refine at_tn ?_
        refine at_seq ?_
        refine at_region ?_
        refine r_load 0 0 [_, _, _, _, _, _, _, _] rfl rfl rfl rfl ti27 rfl rfl rfl rfl ?_
        refine r_pcall [_] rfl rfl rfl (c_plane_Check pb1 ps1 pb2 ps2 pb3 ps3 pb4 ps4 (by omega) (by omega) (by omega) (by omega)) ?_
        refine r_move rfl rfl rfl ?_
        refine r_cmpInt rfl rfl rfl rfl rfl ?_
        refine r_know 44 (.bool true) rfl (congrArg Value.bool (beq_iff_eq.2 hok)) ?_
        refine r_move rfl rfl rfl ?_
        refine r_move rfl rfl rfl ?_
        refine r_move rfl rfl rfl ?_
        refine r_pcall [_, _] rfl rfl rfl (c_plane_At x y hx1 hx2 hy1 hy2) ?_
        refine r_move rfl rfl rfl ?_
        refine r_move rfl rfl rfl ?_
        refine r_pcall [_, _] rfl rfl rfl (c_ref07_At x y hx1 hx2 hy1 hy2) ?_
        refine r_eqlAgg rfl rfl rfl rfl gd27 (eq27 _ _) ?_
        refine r_know 52 (.bool true) rfl (congrArg Value.bool (decide_eq_true rfl)) ?_
        refine r_pickT rfl rfl rfl rfl ?_
        refine r_assign rfl rfl rfl ?_
        refine run_nil ?_
        refine at_tn ?_
        refine at_ret ?_
        refine at_end1 rfl (res_tmp rfl) (fun w hL => ⟨?_, hL.below⟩)
        exact rfl

end Go.Proofs.YthnlafhnpphdhaaGreatDoor
set_option linter.unusedVariables false
namespace Go.Proofs.YthnlafhnpphdhaaGreatDoor.planeChecks
open Go Go.ChangeShapes Go.WideShapes Go.ChangeAt Go.RowKit Go.Via

theorem big {n : Nat} (h : n ≤ reachBytes) : n ≤ BIG := Nat.le_trans h (by decide)

set_option maxRecDepth 20000 in
theorem contract (H : Type) (enc : TypeId × Value → H) (W : World) (base : Nat) (args : Array Value) (ds gs : List (DataW H)) (before : List MemPlace)
    (hval : ∀ (j : Nat) t v, Tryz.f11.params[j]? = some t → args[j]? = some v → Value.okWide Tryz.prog W .any base t v)
    (hW : DataW.Whole enc Tryz.prog Tryz.f11.params.toList Rows.planeChecksSpec.vars false W args.toList ds gs before)
    (hsz : (DataW.weightsEach Tryz.prog (Tryz.f11.params.toList ++ (OpenSpec.ofChange Rows.planeChecksSpec).bare.plain.varTypes Tryz.prog) (ds ++ gs)).all (· ≤ reachBytes) = true) :
    Calls Tryz.prog 11 args W fun e W' => ∃ v, e = .returned v ∧ Rows.planeChecksSpec.post enc Tryz.prog Tryz.f11 false true false false W args v W' := by
  have hW' := hW
  obtain ⟨p, q, hA0, hV, rfl, hfz, hnd⟩ := hW
  have hA : DataW.TrodAll enc Tryz.prog W 0 (fun _ => true) true Tryz.f11.params.toList args.toList ds p := hA0
  rw [Tryz.params11] at hA hval
  obtain ⟨v0, vs0, d0, ds0, p0, q0, hargs, rfl, rfl, h0, r0⟩ := trodAll_cons hA
  obtain ⟨v1, vs1, d1, ds1, p1, q1, rfl, rfl, rfl, h1, r1⟩ := trodAll_cons r0
  obtain ⟨v2, vs2, d2, ds2, p2, q2, rfl, rfl, rfl, h2, r2⟩ := trodAll_cons r1
  obtain ⟨rfl, rfl, rfl⟩ := trodAll_nil r2
  obtain rfl : args = #[v0, v1, v2] := by cases args; simp_all
  obtain ⟨rfl, rfl⟩ := trodVars_none hV
  obtain ⟨a0, rfl, rfl, rfl, s0⟩ := openP (hval 0 27 v0 rfl rfl) h0
  obtain ⟨n1, rfl, rfl, rfl, r1n, s1⟩ := openI (hval 1 3 v1 rfl rfl) h1
  obtain ⟨n2, rfl, rfl, rfl, r2n, s2⟩ := openI (hval 2 3 v2 rfl rfl) h2
  clear hA0
  simp only [List.append_nil] at hW'
  have hz : ([a0.s1.size, a0.s2.size, a0.s3.size, a0.s4.size] ++ ([] ++ ([] ++ []))).all (· ≤ reachBytes) = true := by
    have h : (DataW.weightsEach Tryz.prog [27, 3, 3] [(dP a0 : DataW H), dN n1, dN n2]).all (· ≤ reachBytes) = true := hsz
    rw [DataW.weightsEach, DataW.weightsEach, DataW.weightsEach, DataW.weightsEach, wP, wN, wN] at h
    · exact h
    all_goals (intros; simp_all)
  simp only [List.all_append, List.all_cons, List.all_nil, Bool.and_true, Bool.and_eq_true, decide_eq_true_eq] at hz
  obtain ⟨z01, z02, z03, z04⟩ := hz
  have walk := (c_PlaneChecks a0.a1 a0.s1 a0.a2 a0.s2 a0.a3 a0.s3 a0.a4 a0.s4 n1 n2 ⟨big z01, big z02, big z03, big z04⟩ r1n.1 r1n.2 r2n.1 r2n.2).2 W
  refine walk.mono fun e W' ⟨he, hg⟩ => ?_
  subst he
  exact ⟨_, rfl, post_plain rfl hW' (fun _ _ _ => trodAll_cons_mk (shut_bool Tryz.underlying4 _) trodAll_mk0)
    (fun _ => trodAll_cons_mk (s0 _ _ _ _) (trodAll_cons_mk (s1 _ _ _ _) (trodAll_cons_mk (s2 _ _ _ _) (trodAll_mk0)))) rfl hg (ok_one (by kernel_rfl) rfl (okWide_bool_mk Tryz.underlying4 _))⟩

abbrev wit : Array Value := #[.agg #[.bool false, .string ⟨#[]⟩, .bool false, .string ⟨#[]⟩, .bool false, .string ⟨#[]⟩, .bool false, .string ⟨#[]⟩], .int .i64 0, .int .i64 0]
abbrev wi {H : Type} : DataW H := .agg [.lit (.bool false), .lit (.string [])]
abbrev wq {H : Type} : DataW H := .agg [wi, wi]
theorem reads (os : Os) {H : Type} (enc : TypeId × Value → H) : ∃ places, DataW.whole enc Tryz.prog ((laidWorld os).forCall (fun _ _ => 0) ⟨#[], wit, []⟩).memory Tryz.f11.params.toList Rows.planeChecksSpec.vars false wit.toList 8 = some ([.agg [wq, wq], .lit (.int .i64 0), .lit (.int .i64 0)], [], places) :=
  ⟨[], by kernel_rfl⟩

set_option maxRecDepth 100000 in
theorem lifted (os : Os) (started : os.Started) (H : Type) (enc : TypeId × Value → H) (F : Stop.Interp) :
    ReturnsInHanded {} Tryz.checked os 11 .any ((OpenSpec.ofChange Rows.planeChecksSpec).preRow enc Tryz.prog Tryz.f11 Rows.planeChecksRow.domain false Rows.planeChecksRow.laid) (((OpenSpec.ofChange Rows.planeChecksSpec).at F).post enc Tryz.prog Tryz.f11 false true false false) := by
  obtain ⟨places, hx⟩ := reads os enc
  refine returnsInHanded_of_row (C := Tryz.checked) (s := OpenSpec.ofChange Rows.planeChecksSpec) own started (by kernel_rfl) Tryz.func11
    (witness_row_at (enc := enc) (C := Tryz.checked) false (laidWorld os) wit rfl (by kernel_rfl) (by kernel_rfl) (by kernel_rfl)
      (OpenSpec.preRow_of_cond 8 hx (by kernel_rfl) (fun k hk => by cases hk) (by kernel_rfl) (laid_met os _))) ?_
  intro W base args ds gs before hval hW _ _ hsz hL _ _
  exact contract H enc W base args ds gs before hval hW hsz

theorem said : Rows.PlaneChecksSaid :=
  OpenClaim.holds_of_cond 11 Tryz.f11 rfl rfl rfl rfl rfl rfl rfl ⟨rfl, rfl, rfl, rfl, rfl⟩ rfl rfl rfl rfl rfl (by kernel_rfl) Tryz.func11 (by kernel_rfl)
    (of_decide_eq_true (by kernel_rfl)) (by unfold Func.isWrapper; first | (rw [if_pos (by decide +kernel)]; kernel_rfl) | (rw [if_neg (by decide +kernel)]; exact ⟨rfl, rfl⟩))
    (fun os started H enc _ F => by rw [OpenClaim.pre_eq_preRow]; exact lifted os started H enc F)

/-- No parameter wants a stand-in; the program's own looks are off. -/
theorem plain (f : FuncId) (fn : Func) (hf : Tryz.pinned.checked.prog.funcNamed "viator/viatorlaw07.PlaneChecks" = some f) (hfn : Tryz.pinned.checked.prog.funcs[f]? = some fn) :
    false = Tryz.pinned.checked.prog.looks [] ∧ ∀ (j : Nat) t, fn.params[j]? = some t → Tryz.pinned.checked.prog.wantsStandIn t = false := by
  obtain rfl : f = 11 := Option.some.inj ((show Tryz.prog.funcNamed "viator/viatorlaw07.PlaneChecks" = some 11 by kernel_rfl).symm.trans hf) |>.symm
  obtain rfl : fn = Tryz.f11 := (Option.some.inj (Tryz.func11.symm.trans hfn)).symm
  refine ⟨by kernel_rfl, fun j t ht => ?_⟩
  rw [Tryz.params11] at ht
  have hm : t ∈ ([27, 3, 3] : List Nat) := by simpa using Array.mem_of_getElem? ht
  have hw : ∀ t ∈ ([27, 3, 3] : List Nat), Tryz.prog.wantsStandIn t = false := by
    intro t ht
    simp only [List.mem_cons, List.mem_nil_iff, or_false] at ht
    rcases ht with rfl | rfl | rfl
    · exact (show Tryz.prog.wantsStandIn 27 = false by kernel_rfl)
    · exact (show Tryz.prog.wantsStandIn 3 = false by kernel_rfl)
    · exact (show Tryz.prog.wantsStandIn 3 = false by kernel_rfl)
  exact hw t hm

/-- ████ THE CARD ████ -/
theorem card : Rows.PlaneChecksCardSaid :=
  Claim7.holds_tied_plain_at .later [] _ _ _ _ said (fun _ h => by cases h) (by kernel_rfl) (fun _ h => by cases h) planeChecks_row_tie rfl ⟨rfl, rfl⟩ (by kernel_rfl) rfl plain (by kernel_rfl)
end Go.Proofs.YthnlafhnpphdhaaGreatDoor.planeChecks
namespace Go.Proofs.YthnlafhnpphdhaaGreatDoor
/-- the card -/
theorem planeChecks_holds : Rows.PlaneChecksCardSaid := planeChecks.card
end Go.Proofs.YthnlafhnpphdhaaGreatDoor
