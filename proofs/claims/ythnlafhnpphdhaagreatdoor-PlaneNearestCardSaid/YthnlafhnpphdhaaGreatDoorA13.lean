/-
  The law PlaneNearest answers true at every input, tied to the listed variables as its card says. No further conditions.
-/
import Derived.Test.YthnlafhnpphdhaaGreatDoorA11
import Derived.Test.YthnlafhnpphdhaaGreatDoorA12
set_option linter.unusedVariables false
set_option linter.unusedVariables false
set_option linter.unusedSimpArgs false
namespace Go.Via
open Go Go.RowKit
/-! ### the look at a region by numbers whose bits are the operations that one waits for -/
def bitsOf (ms : List Nat) (l : List Edge) : Nat := l.foldl (fun m e => if Region.binds .any e then m ||| ((1 <<< e.on) ||| ms.getD e.on 0) else m) 0
def maskOK (ops : Array Oper) (ms : List Nat) : Bool := (List.range ops.size).all fun i => match ops[i]? with
  | some o => (o.after.toList.all fun e => !Region.binds .any e || decide (e.on < i)) && ms.getD i 0 == bitsOf ms o.after.toList
  | none => true
theorem bits_fold {ms : List Nat} {j : Nat} : ∀ {l : List Edge} {m : Nat}, Nat.testBit (l.foldl (fun m e => if Region.binds .any e then m ||| ((1 <<< e.on) ||| ms.getD e.on 0) else m) m) j = true →
    Nat.testBit m j = true ∨ ∃ e ∈ l, Region.binds .any e = true ∧ (e.on = j ∨ Nat.testBit (ms.getD e.on 0) j = true)
  | [], m, h => .inl h
  | e :: l, m, h => by
    rw [List.foldl_cons] at h
    rcases bits_fold h with h | ⟨e', h1, h2⟩
    · split at h
      · rename_i hb
        rw [Nat.testBit_or, Nat.testBit_or, Bool.or_eq_true, Bool.or_eq_true] at h
        rcases h with h | h | h
        · exact .inl h
        · refine .inr ⟨e, by simp, hb, .inl ?_⟩
          rw [Nat.testBit_shiftLeft] at h
          simp only [Bool.and_eq_true, decide_eq_true_eq] at h
          have h3 := h.2
          by_cases c : j - e.on = 0
          · omega
          · exfalso
            obtain ⟨k, hk⟩ : ∃ k, j - e.on = k + 1 := ⟨j - e.on - 1, by omega⟩
            rw [hk, Nat.testBit_succ] at h3
            simp at h3
        · exact .inr ⟨e, by simp, hb, .inr h⟩
      · exact .inl h
    · exact .inr ⟨e', by simp [h1], h2⟩
theorem mask_waits {ops : Array Oper} {ms : List Nat} (hm : maskOK ops ms = true) : ∀ (f i j : Nat), i < f → i < ops.size → Nat.testBit (ms.getD i 0) j = true → waitsF ops f i j = true
  | 0, i, j, h, _, _ => by omega
  | f + 1, i, j, h, hi, hb => by
    have h1 := List.all_eq_true.1 hm i (List.mem_range.2 hi)
    rw [Array.getElem?_eq_getElem hi] at h1
    simp only [Bool.and_eq_true, beq_iff_eq] at h1
    obtain ⟨h2, h3⟩ := h1
    rw [h3] at hb
    unfold waitsF
    rw [Array.getElem?_eq_getElem hi]
    rcases bits_fold hb with hb | ⟨e, he, hbe, hj⟩
    · simp at hb
    · have hlt : e.on < i := by
        have := List.all_eq_true.1 h2 e he
        rw [hbe] at this
        simpa using this
      refine Array.any_eq_true'.2 ⟨e, by simpa using he, ?_⟩
      rw [hbe, Bool.true_and, Bool.or_eq_true]
      rcases hj with hj | hj
      · exact .inl (by simpa using hj)
      · exact .inr (mask_waits hm f e.on j (by omega) (by omega) hj)
def pairM (bl : List Nat) (ops : Array Oper) (ms : List Nat) (p i : Nat) : Bool :=
  Nat.testBit (ms.getD i 0) p ||
  match ops[p]?, ops[i]? with
  | some op, some oi => isMov op && isFr bl oi && !isCall op && op.apart ops oi
  | _, _ => false
def pairMA (bl : List Nat) (ops : Array Oper) (ms : List Nat) (p i : Nat) : Bool :=
  Nat.testBit (ms.getD i 0) p ||
  match ops[p]?, ops[i]? with
  | some op, some oi => passOk bl ops op oi
  | _, _ => false
theorem pairsB_mono {f g : Nat → Nat → Bool} : ∀ {l : List Nat}, (∀ p ∈ l, ∀ i ∈ l, f p i = true → g p i = true) → pairsB f l = true → pairsB g l = true
  | [], _, _ => rfl
  | p :: l, h, hf => by
    simp only [pairsB, Bool.and_eq_true] at hf ⊢
    exact ⟨List.all_eq_true.2 fun i hi => h p (by simp) i (by simp [hi]) (List.all_eq_true.1 hf.1 i hi), pairsB_mono (fun p hp i hi => h p (by simp [hp]) i (by simp [hi])) hf.2⟩
def drawnMOk (bl : List Nat) (ops : Array Oper) (perm : List Nat) (ms : List Nat) : Bool :=
  maskOK ops ms && (decide (perm.length = ops.size) && perm.all (fun i => decide (i < ops.size)) && (List.range ops.size).all (fun i => perm.contains i) &&
  pairsB (pairM bl ops ms) perm && pairsB (noWait ops) perm && perm.all (fun i => noWait ops i i) && perm.all (fun i => edgesIn ops i) && pairsB (dstApart bl ops) perm && pairsB (movFirst bl ops) perm && pairsB (fun i j => i != j) perm)
theorem drawnM {bl : List Nat} {ops : Array Oper} {perm : List Nat} (ms : List Nat) (h : drawnMOk bl ops perm ms = true) : drawnOk bl ops perm = true := by
  unfold drawnMOk at h
  rw [Bool.and_eq_true] at h
  obtain ⟨hm, h⟩ := h
  unfold drawnOk
  simp only [Bool.and_eq_true] at h ⊢
  obtain ⟨⟨⟨⟨⟨⟨⟨⟨⟨h1, h2⟩, h3⟩, h4⟩, h5⟩, h6⟩, h7⟩, h8⟩, h9⟩, h10⟩ := h
  refine ⟨⟨⟨⟨⟨⟨⟨⟨⟨h1, h2⟩, h3⟩, pairsB_mono (fun p hp i hi hpi => ?_) h4⟩, h5⟩, h6⟩, h7⟩, h8⟩, h9⟩, h10⟩
  have hil : i < ops.size := of_decide_eq_true (List.all_eq_true.1 h2 i hi)
  unfold pairM at hpi
  unfold pairOk
  rw [Bool.or_eq_true] at hpi ⊢
  exact hpi.imp (mask_waits hm _ i p hil hil) id
def drawnMAOk (bl : List Nat) (ops : Array Oper) (perm : List Nat) (ms : List Nat) : Bool :=
  maskOK ops ms && (decide (perm.length = ops.size) && perm.all (fun i => decide (i < ops.size)) && (List.range ops.size).all (fun i => perm.contains i) &&
  pairsB (pairMA bl ops ms) perm && pairsB (noWait ops) perm && perm.all (fun i => noWait ops i i) && perm.all (fun i => edgesIn ops i) && pairsB (fun i j => i != j) perm && blA bl && !blS bl && !isM bl)
theorem drawnMA {bl : List Nat} {ops : Array Oper} {perm : List Nat} (ms : List Nat) (h : drawnMAOk bl ops perm ms = true) : drawnAOk bl ops perm = true := by
  unfold drawnMAOk at h
  rw [Bool.and_eq_true] at h
  obtain ⟨hm, h⟩ := h
  unfold drawnAOk
  simp only [Bool.and_eq_true] at h ⊢
  obtain ⟨⟨⟨⟨⟨⟨⟨⟨⟨⟨h1, h2⟩, h3⟩, h4⟩, h5⟩, h6⟩, h7⟩, h8⟩, h9⟩, h10⟩, h11⟩ := h
  refine ⟨⟨⟨⟨⟨⟨⟨⟨⟨⟨h1, h2⟩, h3⟩, pairsB_mono (fun p hp i hi hpi => ?_) h4⟩, h5⟩, h6⟩, h7⟩, h8⟩, h9⟩, h10⟩, h11⟩
  have hil : i < ops.size := of_decide_eq_true (List.all_eq_true.1 h2 i hi)
  unfold pairMA at hpi
  unfold pairOkA
  rw [Bool.or_eq_true] at hpi ⊢
  exact hpi.imp (mask_waits hm _ i p hil hil) id
end Go.Via
set_option linter.unusedVariables false
namespace Go.Proofs.YthnlafhnpphdhaaGreatDoor
open Go Go.RowKit Go.Via
set_option maxRecDepth 20000 in
theorem c_law_known  : PCall Tryz.prog 13 #[] (.bool true) := by
  refine ⟨by kernel_rfl, fun w => ?_⟩
  refine calls_at (args := []) Tryz.func13 rfl (Nat.le_of_ble_eq_true rfl) (LRel.nil w) ?_
  show At w ⟨50, [], []⟩ _
  refine at_seq ?_
  refine at_region ?_
  refine r_assign rfl rfl rfl ?_
  refine run_nil ?_
  refine at_tn ?_
  refine at_seq ?_
  refine at_region ?_
  refine r_pcall [_, _, _, _] rfl rfl rfl (c_law_segment 0 0 4 4 (by omega) (by omega) (by omega) (by omega) (by omega) (by omega) (by omega) (by omega)) ?_
  refine r_pcall [_, _, _, _] rfl rfl rfl (c_law_segment 0 4 4 0 (by omega) (by omega) (by omega) (by omega) (by omega) (by omega) (by omega) (by omega)) ?_
  refine r_pcall [_, _] rfl rfl rfl (c_plane_Meet _ _ (Nat.le_trans kn_sz1 (Nat.le_of_ble_eq_true rfl)) (Nat.le_trans kn_sz2 (Nat.le_of_ble_eq_true rfl))) ?_
  refine r_know 7 (Mt (2, ((((2 : Int) : Rat), ((2 : Int) : Rat)), (((2 : Int) : Rat), ((2 : Int) : Rat))))) rfl (congrArg Mt known_1) ?_
  refine r_alloc [_, _, _, _, _, _, _, _, _, _, _, _, _, _, _, _, _] 17 (fun g => [⟨some g, 40, _, 17, true⟩]) rfl rfl z40 rfl rfl (fun _ => rfl) (fun g0 => ?_)
  refine r_store rfl 0 0 [⟨some g0, 40, _, 17, true⟩] [_, _, _, _, _, _, _, _, _, _, _, _, _, _, _, _, _] rfl rfl rfl rfl ti40 rfl rfl rfl rfl rfl ?_
  refine run_nil ?_
  refine at_tn ?_
  refine at_seq ?_
  refine at_region ?_
  refine r_pcall [_, _, _, _] rfl rfl rfl (c_law_segment 0 0 4 0 (by omega) (by omega) (by omega) (by omega) (by omega) (by omega) (by omega) (by omega)) ?_
  refine r_pcall [_, _, _, _] rfl rfl rfl (c_law_segment 2 0 6 0 (by omega) (by omega) (by omega) (by omega) (by omega) (by omega) (by omega) (by omega)) ?_
  refine r_pcall [_, _] rfl rfl rfl (c_plane_Meet _ _ (Nat.le_trans kn_sz3 (Nat.le_of_ble_eq_true rfl)) (Nat.le_trans kn_sz4 (Nat.le_of_ble_eq_true rfl))) ?_
  refine r_know 10 (Mt (3, ((((2 : Int) : Rat), ((0 : Int) : Rat)), (((4 : Int) : Rat), ((0 : Int) : Rat))))) rfl (congrArg Mt known_2) ?_
  refine r_alloc [_, _, _, _, _, _, _, _, _, _, _, _, _, _, _, _, _] 17 (fun g => [_, ⟨some g, 40, _, 17, true⟩]) rfl rfl z40 rfl rfl (fun _ => rfl) (fun g1 => ?_)
  refine r_store rfl 1 0 [_, ⟨some g1, 40, _, 17, true⟩] [_, _, _, _, _, _, _, _, _, _, _, _, _, _, _, _, _] rfl rfl rfl rfl ti40 rfl rfl rfl rfl rfl ?_
  refine run_nil ?_
  refine at_tn ?_
  refine at_seq ?_
  refine at_region ?_
  refine r_pcall [_, _] rfl rfl rfl (c_ref07_At 0 1 (by omega) (by omega) (by omega) (by omega)) ?_
  refine r_pcall [_, _, _, _] rfl rfl rfl (c_law_segment 0 0 2 1 (by omega) (by omega) (by omega) (by omega) (by omega) (by omega) (by omega) (by omega)) ?_
  refine r_pcall [_, _] rfl rfl rfl (c_plane_Nearest _ _ (Nat.le_trans kn_sz5 (Nat.le_of_ble_eq_true rfl)) (Nat.le_trans kn_sz6 (Nat.le_of_ble_eq_true rfl))) ?_
  refine r_know 14 (.tuple #[Pt (Rat.divInt 2 5, Rat.divInt 1 5), Q (Rat.divInt 1 5)]) rfl (by rw [known_3]) ?_
  refine r_move rfl rfl rfl ?_
  refine r_extract (vs := [_, _]) rfl rfl rfl rfl ?_
  refine r_extract (vs := [_, _]) rfl rfl rfl rfl ?_
  refine r_alloc [_, _, _, _, _, _, _, _] 8 (fun g => [_, _, ⟨some g, 27, _, 8, true⟩]) rfl rfl z27 rfl rfl (fun _ => rfl) (fun g2 => ?_)
  refine r_alloc [_, _, _, _] 4 (fun g => [_, _, _, ⟨some g, 25, _, 4, true⟩]) rfl rfl z25 rfl rfl (fun _ => rfl) (fun g3 => ?_)
  refine r_store rfl 2 0 [_, _, ⟨some g2, 27, _, 8, true⟩, _] [_, _, _, _, _, _, _, _] rfl rfl rfl rfl ti27 rfl rfl rfl rfl rfl ?_
  refine r_store rfl 3 0 [_, _, _, ⟨some g3, 25, _, 4, true⟩] [_, _, _, _] rfl rfl rfl rfl ti25 rfl rfl rfl rfl rfl ?_
  refine run_nil ?_
  refine at_tn ?_
  refine at_seq ?_
  refine at_drawn (l' := (⟨_,_,_,_,_,_⟩ :: ⟨_,_,_,_,_,_⟩ :: ⟨_,_,_,_,_,_⟩ :: ⟨_,_,_,_,_,_⟩ :: ⟨_,_,_,_,_,_⟩ :: ⟨_,_,_,_,_,_⟩ :: ⟨_,_,_,_,_,_⟩ :: ⟨_,_,_,_,_,_⟩ :: ⟨_,_,_,_,_,_⟩ :: ⟨_,_,_,_,_,_⟩ :: ⟨_,_,_,_,_,_⟩ :: ⟨_,_,_,_,_,_⟩ :: ⟨_,_,_,_,_,_⟩ :: ⟨_,_,_,_,_,_⟩ :: ⟨_,_,_,_,_,_⟩ :: ⟨_,_,_,_,_,_⟩ :: ⟨_,_,_,_,_,_⟩ :: ⟨_,_,_,_,_,_⟩ :: ⟨_,_,_,_,_,_⟩ :: ⟨_,_,_,_,_,_⟩ :: ⟨_,_,_,_,_,_⟩ :: ⟨_,_,_,_,_,_⟩ :: ⟨_,_,_,_,_,_⟩ :: ⟨_,_,_,_,_,_⟩ :: ⟨_,_,_,_,_,_⟩ :: ⟨_,_,_,_,_,_⟩ :: ⟨_,_,_,_,_,_⟩ :: ⟨_,_,_,_,_,_⟩ :: ⟨_,_,_,_,_,_⟩ :: ⟨_,_,_,_,_,_⟩ :: ⟨_,_,_,_,_,_⟩ :: ⟨_,_,_,_,_,_⟩ :: ⟨_,_,_,_,_,_⟩ :: ⟨_,_,_,_,_,_⟩ :: [])) [] (0 :: 1 :: 2 :: 3 :: 4 :: 5 :: 6 :: 7 :: 8 :: 9 :: 10 :: 11 :: 12 :: 13 :: 14 :: 15 :: 16 :: 17 :: 18 :: 19 :: 20 :: 21 :: 22 :: 23 :: 24 :: 25 :: 26 :: 27 :: 28 :: 29 :: 30 :: 31 :: 32 :: 33 :: []) mixed (drawnM (0 :: 1 :: 3 :: 7 :: 15 :: 31 :: 63 :: 15 :: 255 :: 511 :: 1023 :: 2047 :: 4095 :: 8191 :: 16383 :: 32767 :: 65535 :: 131071 :: 65535 :: 524287 :: 1048575 :: 2097151 :: 4194303 :: 4194303 :: 12582911 :: 29360127 :: 67108863 :: 134217727 :: 268435455 :: 536870911 :: 536870911 :: 2147483647 :: 4294967295 :: 8589934591 :: []) (by kernel_rfl)) rfl (by kernel_rfl) ?_
  refine r_fieldAddr 0 0 0 rfl rfl rfl rfl rfl ti40 rfl rfl ?_
  refine r_load 0 0 [_] rfl rfl rfl rfl ti3 rfl rfl rfl rfl ?_
  refine r_cmpInt rfl rfl rfl rfl rfl ?_
  refine r_know 19 (.bool true) rfl rfl ?_
  refine r_move rfl rfl rfl ?_
  refine r_fieldAddr 0 0 1 rfl rfl rfl rfl rfl ti40 rfl rfl ?_
  refine r_fieldAddr 0 1 0 rfl rfl rfl rfl rfl ti36 rfl rfl ?_
  refine r_load 0 1 [_, _, _, _, _, _, _, _] rfl rfl rfl rfl ti27 rfl rfl rfl rfl ?_
  refine r_pcall [_, _] rfl rfl rfl (c_ref07_At 2 2 (by omega) (by omega) (by omega) (by omega)) ?_
  refine r_eqlAgg rfl rfl rfl rfl gd27 (eq27 _ _) ?_
  refine r_know 25 (.bool true) rfl (congrArg Value.bool (decide_eq_true rfl)) ?_
  refine r_pickT rfl rfl rfl rfl ?_
  refine r_move rfl rfl rfl ?_
  refine r_fieldAddr 1 0 0 rfl rfl rfl rfl rfl ti40 rfl rfl ?_
  refine r_load 1 0 [_] rfl rfl rfl rfl ti3 rfl rfl rfl rfl ?_
  refine r_cmpInt rfl rfl rfl rfl rfl ?_
  refine r_know 30 (.bool true) rfl rfl ?_
  refine r_pickT rfl rfl rfl rfl ?_
  refine r_move rfl rfl rfl ?_
  refine r_fieldAddr 1 0 1 rfl rfl rfl rfl rfl ti40 rfl rfl ?_
  refine r_load 1 1 [_, _, _, _, _, _, _, _, _, _, _, _, _, _, _, _] rfl rfl rfl rfl ti36 rfl rfl rfl rfl ?_
  refine r_pcall [_, _, _, _] rfl rfl rfl (c_law_segment 2 0 4 0 (by omega) (by omega) (by omega) (by omega) (by omega) (by omega) (by omega) (by omega)) ?_
  refine r_eqlAgg rfl rfl rfl rfl gd36 (eq36 _ _) ?_
  refine r_know 36 (.bool true) rfl (congrArg Value.bool (decide_eq_true rfl)) ?_
  refine r_pickT rfl rfl rfl rfl ?_
  refine r_move rfl rfl rfl ?_
  refine r_load 2 0 [_, _, _, _, _, _, _, _] rfl rfl rfl rfl ti27 rfl rfl rfl rfl ?_
  refine r_pcall [_, _] rfl rfl rfl (c_ref02_Of 2 5 (by omega) (by omega) (by omega) (by omega) (by omega)) ?_
  refine r_pcall [_, _] rfl rfl rfl (c_ref02_Of 1 5 (by omega) (by omega) (by omega) (by omega) (by omega)) ?_
  refine r_build [(0, _), (1, _)] rfl rfl rfl (bd27_2) ?_
  refine r_eqlAgg rfl rfl rfl rfl gd27 (eq27 (Rat.divInt 2 5, Rat.divInt 1 5) (Rat.divInt 2 5, Rat.divInt 1 5)) ?_
  refine r_know 43 (.bool true) rfl (congrArg Value.bool (decide_eq_true rfl)) ?_
  refine r_pickT rfl rfl rfl rfl ?_
  refine r_move rfl rfl rfl ?_
  refine r_load 3 0 [_, _, _, _] rfl rfl rfl rfl ti25 rfl rfl rfl rfl ?_
  refine r_pcall [_, _] rfl rfl rfl (c_ref02_Of 1 5 (by omega) (by omega) (by omega) (by omega) (by omega)) ?_
  refine r_eqlAgg rfl rfl rfl rfl gd25 (eq25 _ _) ?_
  refine r_know 48 (.bool true) rfl (congrArg Value.bool (decide_eq_true rfl)) ?_
  refine r_pickT rfl rfl rfl rfl ?_
  refine r_assign rfl rfl rfl ?_
  refine run_nil ?_
  refine at_tn ?_
  refine at_ret ?_
  refine at_end1 rfl (res_tmp rfl) (fun w hL => ⟨?_, hL.below⟩)
  exact rfl

end Go.Proofs.YthnlafhnpphdhaaGreatDoor
set_option linter.unusedVariables false
namespace Go.Via
open Go Go.RowKit
/-! ### the two tests whether a point lies on a segment agree -/
theorem on_pos {u v x y : Rat} (hu : 0 < u) (h : u * y = v * x) :
    (¬ ((0 < x ∨ (x = 0 ∧ 0 < y)) ∧ (u < x ∨ (u = x ∧ v < y))) ∧ ¬ ((x < 0 ∨ (x = 0 ∧ y < 0)) ∧ (x < u ∨ (x = u ∧ y < v)))) ↔ (((0 ≤ x ∧ x ≤ u) ∨ (u ≤ x ∧ x ≤ 0)) ∧ ((0 ≤ y ∧ y ≤ v) ∨ (v ≤ y ∧ y ≤ 0))) := by
  constructor
  · rintro ⟨h1, h2⟩
    have x0 : 0 ≤ x := Rat.not_lt.1 fun c => h2 ⟨.inl c, .inl (by grind)⟩
    have xu : x ≤ u := Rat.not_lt.1 fun c => h1 ⟨.inl (by grind), .inl c⟩
    refine ⟨.inl ⟨x0, xu⟩, ?_⟩
    by_cases hv : 0 ≤ v
    · left
      have p1 := Rat.mul_nonneg hv x0
      have p2 := Rat.mul_nonneg hv (show 0 ≤ u - x by grind)
      constructor
      · refine Rat.not_lt.1 fun c => ?_
        have := Rat.mul_pos hu (show 0 < -y by grind)
        grind
      · refine Rat.not_lt.1 fun c => ?_
        have := Rat.mul_pos hu (show 0 < y - v by grind)
        grind
    · right
      have hv' : 0 ≤ -v := by grind
      have p1 := Rat.mul_nonneg hv' x0
      have p2 := Rat.mul_nonneg hv' (show 0 ≤ u - x by grind)
      constructor
      · refine Rat.not_lt.1 fun c => ?_
        have := Rat.mul_pos hu (show 0 < v - y by grind)
        grind
      · refine Rat.not_lt.1 fun c => ?_
        have := Rat.mul_pos hu (show 0 < y by grind)
        grind
  · rintro ⟨hx, hy⟩
    have x0 : 0 ≤ x := by rcases hx with c | c <;> grind
    have xu : x ≤ u := by rcases hx with c | c <;> grind
    constructor
    · rintro ⟨_, c | ⟨c, d⟩⟩
      · grind
      · subst c
        have : u * (y - v) = 0 := by grind
        rcases Rat.mul_eq_zero.1 this with e | e <;> grind
    · rintro ⟨c | ⟨c, d⟩, _⟩
      · grind
      · subst c
        have : u * y = 0 := by grind
        rcases Rat.mul_eq_zero.1 this with e | e <;> grind
theorem on_core {u v x y : Rat} (h : u * y = v * x) :
    (¬ ((0 < x ∨ (x = 0 ∧ 0 < y)) ∧ (u < x ∨ (u = x ∧ v < y))) ∧ ¬ ((x < 0 ∨ (x = 0 ∧ y < 0)) ∧ (x < u ∨ (x = u ∧ y < v))) ∧ (¬ (u = 0 ∧ v = 0) ∨ (x = 0 ∧ y = 0))) ↔ (((0 ≤ x ∧ x ≤ u) ∨ (u ≤ x ∧ x ≤ 0)) ∧ ((0 ≤ y ∧ y ≤ v) ∨ (v ≤ y ∧ y ≤ 0))) := by
  by_cases hu : 0 < u
  · rw [← on_pos hu h]
    constructor
    · rintro ⟨a, b, _⟩; exact ⟨a, b⟩
    · rintro ⟨a, b⟩; exact ⟨a, b, .inl (by grind)⟩
  · by_cases hu2 : u < 0
    · have k := on_pos (u := -u) (v := -v) (x := -x) (y := -y) (by grind) (by grind)
      constructor
      · rintro ⟨a, b, _⟩
        have := k.1 ⟨fun c => b (by grind), fun c => a (by grind)⟩
        grind
      · intro c
        have := k.2 (by grind)
        refine ⟨fun e => this.2 (by grind), fun e => this.1 (by grind), .inl (by grind)⟩
    · have u0 : u = 0 := by grind
      subst u0
      by_cases hv : v = 0
      · subst hv
        constructor
        · rintro ⟨_, _, c⟩; grind
        · intro c; grind
      · have x0 : x = 0 := by
          have : v * x = 0 := by grind
          exact (Rat.mul_eq_zero.1 this).resolve_left hv
        subst x0
        constructor
        · rintro ⟨a, b, _⟩
          refine ⟨.inl ⟨Rat.le_refl, Rat.le_refl⟩, ?_⟩
          by_cases c : 0 < y
          · have : y ≤ v := Rat.not_lt.1 fun d => a ⟨.inr ⟨rfl, c⟩, .inr ⟨rfl, d⟩⟩
            left; grind
          · by_cases d : y < 0
            · have : v ≤ y := Rat.not_lt.1 fun e => b ⟨.inr ⟨rfl, d⟩, .inr ⟨rfl, e⟩⟩
              right; grind
            · rcases Rat.le_total (a := 0) (b := v) with e | e
              · left; grind
              · right; grind
        · rintro ⟨_, c⟩
          refine ⟨?_, ?_, .inl (by grind)⟩
          · rintro ⟨d, e⟩
            rcases c with c | c <;> grind
          · rintro ⟨d, e⟩
            rcases c with c | c <;> grind
/-- the order of points: by the first coordinate, then by the second -/
def ltP (a b : P2) : Prop := a.1 < b.1 ∨ (a.1 = b.1 ∧ a.2 < b.2)
theorem cmpQ_neg {a b : Rat} : cmpQ a b = -1 ↔ a < b := by
  unfold cmpQ; split
  · simp_all
  · split <;> simp_all
theorem cmpQ_pos {a b : Rat} : cmpQ a b = 1 ↔ b < a := by
  unfold cmpQ; split
  · rename_i h
    constructor
    · intro c; cases c
    · intro c; grind
  · split <;> simp_all
theorem cmpQ_zero {a b : Rat} : cmpQ a b = 0 ↔ a = b := by
  have h1 := @cmpQ_neg a b; have h2 := @cmpQ_pos a b
  rcases cmpQ_cases a b with h | h | h
  · have := h1.1 h; constructor
    · intro c; omega
    · intro c; grind
  · constructor
    · intro _
      have n1 : ¬ a < b := fun c => by have := h1.2 c; omega
      have n2 : ¬ b < a := fun c => by have := h2.2 c; omega
      grind
    · intro _; exact h
  · have := h2.1 h; constructor
    · intro c; omega
    · intro c; grind
theorem cmpP_neg {a b : P2} : cmpP a b = -1 ↔ ltP a b := by
  unfold cmpP ltP
  by_cases h : cmpQ a.1 b.1 = 0
  · rw [if_pos h, cmpQ_neg]; have := cmpQ_zero.1 h; grind
  · rw [if_neg h, cmpQ_neg]; have : a.1 ≠ b.1 := fun e => h (cmpQ_zero.2 e); grind
theorem cmpP_pos {a b : P2} : cmpP a b = 1 ↔ ltP b a := by
  unfold cmpP ltP
  by_cases h : cmpQ a.1 b.1 = 0
  · rw [if_pos h, cmpQ_pos]; have := cmpQ_zero.1 h; grind
  · rw [if_neg h, cmpQ_pos]; have : a.1 ≠ b.1 := fun e => h (cmpQ_zero.2 e); grind
theorem cmpP_prod {a p b : P2} : 0 ≤ cmpP a p * cmpP p b ↔ ¬ (ltP a p ∧ ltP b p) ∧ ¬ (ltP p a ∧ ltP p b) := by
  rw [← cmpP_neg (a := a), ← cmpP_pos (a := p) (b := b), ← cmpP_pos (a := a) (b := p), ← cmpP_neg (a := p) (b := b)]
  rcases cmpP_cases a p with h | h | h <;> rcases cmpP_cases p b with k | k | k <;> rw [h, k] <;> decide
theorem on_same (p : P2) (s : S2) : onS p s ↔ onR p s := by
  unfold onS onR
  refine and_congr_right fun h => ?_
  obtain ⟨p1, p2⟩ := p
  obtain ⟨⟨a1, a2⟩, ⟨b1, b2⟩⟩ := s
  have h0 : (b1 - a1) * (p2 - a2) - (b2 - a2) * (p1 - a1) = 0 := by
    have : sgn ((b1 - a1) * (p2 - a2) - (b2 - a2) * (p1 - a1)) = 0 := h
    unfold sgn at this
    rwa [Int.sign_eq_zero_iff_zero, Rat.num_eq_zero] at this
  have c := on_core (u := b1 - a1) (v := b2 - a2) (x := p1 - a1) (y := p2 - a2) (by grind)
  rw [cmpP_prod]
  unfold ltP btw
  dsimp only
  constructor
  · rintro ⟨⟨k1, k2⟩, k3⟩
    have := c.1 ⟨fun e => k1 (by grind), fun e => k2 (by grind), by
      rcases k3 with k3 | k3
      · left; rintro ⟨e1, e2⟩; exact k3 (Prod.ext (show a1 = b1 by grind) (show a2 = b2 by grind))
      · right
        have e1 : p1 = a1 := congrArg Prod.fst k3
        have e2 : p2 = a2 := congrArg Prod.snd k3
        grind⟩
    grind
  · intro k
    have := c.2 (by grind)
    obtain ⟨n1, n2, n3⟩ := this
    refine ⟨⟨fun e => n1 (by grind), fun e => n2 (by grind)⟩, ?_⟩
    rcases n3 with n3 | n3
    · left; intro e
      have e1 : a1 = b1 := congrArg Prod.fst e
      have e2 : a2 = b2 := congrArg Prod.snd e
      exact n3 (by grind)
    · right; exact Prod.ext (show p1 = a1 by grind) (show p2 = a2 by grind)
theorem on_same' (p : P2) (s : S2) : decide (onS p s) = decide (onR p s) := decide_eq_decide.2 (on_same p s)
theorem near_div (p : P2) (s : S2) : divP s (nearP p s).2 = (nearP p s).1 := by
  unfold nearP; split
  · unfold divP pAdd pScale; refine Prod.ext ?_ ?_
    · show s.1.1 + _ * (0 : Rat) = s.1.1; grind
    · show s.1.2 + _ * (0 : Rat) = s.1.2; grind
  · rfl
theorem szNearQ {p : P2} {s : S2} (hp : szP p ≤ 1000) (hs : szS s ≤ 1000) : szQ (nearP p s).2 ≤ 17000 := by
  by_cases h : dot (pSub s.2 s.1) (pSub s.2 s.1) = 0
  · rw [near_T h]; exact Nat.le_trans szQ_0 (by omega)
  · rw [near_F h]; exact Nat.le_trans (szQ_nearQ hp hs) (by omega)
end Go.Via
set_option linter.unusedVariables false
namespace Go.Proofs.YthnlafhnpphdhaaGreatDoor
open Go Go.RowKit Go.Via
set_option maxRecDepth 20000 in
theorem c_PlaneNearest (pb1 : Bool) (ps1 : ByteArray) (pb2 : Bool) (ps2 : ByteArray) (pb3 : Bool) (ps3 : ByteArray) (pb4 : Bool) (ps4 : ByteArray) (ab1 : Bool) (as1 : ByteArray) (ab2 : Bool) (as2 : ByteArray) (ab3 : Bool) (as3 : ByteArray) (ab4 : Bool) (as4 : ByteArray) (bb1 : Bool) (bs1 : ByteArray) (bb2 : Bool) (bs2 : ByteArray) (bb3 : Bool) (bs3 : ByteArray) (bb4 : Bool) (bs4 : ByteArray) (rb1 : Bool) (rs1 : ByteArray) (rb2 : Bool) (rs2 : ByteArray) (hzp : szR ⟨pb1, ps1, pb2, ps2, pb3, ps3, pb4, ps4⟩) (hza : szR ⟨ab1, as1, ab2, as2, ab3, as3, ab4, as4⟩) (hzb : szR ⟨bb1, bs1, bb2, bs2, bb3, bs3, bb4, bs4⟩) (hzr : rs1.size ≤ BIG ∧ rs2.size ≤ BIG) : PCall Tryz.prog 6 #[.agg #[.bool pb1, .string ps1, .bool pb2, .string ps2, .bool pb3, .string ps3, .bool pb4, .string ps4], .agg #[.bool ab1, .string as1, .bool ab2, .string as2, .bool ab3, .string as3, .bool ab4, .string as4, .bool bb1, .string bs1, .bool bb2, .string bs2, .bool bb3, .string bs3, .bool bb4, .string bs4], .agg #[.bool rb1, .string rs1, .bool rb2, .string rs2]] (.bool true) := by
  refine ⟨by kernel_rfl, fun w => ?_⟩
  refine calls_at (args := [.agg #[.bool pb1, .string ps1, .bool pb2, .string ps2, .bool pb3, .string ps3, .bool pb4, .string ps4], .agg #[.bool ab1, .string as1, .bool ab2, .string as2, .bool ab3, .string as3, .bool ab4, .string as4, .bool bb1, .string bs1, .bool bb2, .string bs2, .bool bb3, .string bs3, .bool bb4, .string bs4], .agg #[.bool rb1, .string rs1, .bool rb2, .string rs2]]) Tryz.func6 rfl (Nat.le_of_ble_eq_true rfl) (LRel.nil w) ?_
  show At w ⟨74, [(0, .agg #[.bool pb1, .string ps1, .bool pb2, .string ps2, .bool pb3, .string ps3, .bool pb4, .string ps4]), (1, .agg #[.bool ab1, .string as1, .bool ab2, .string as2, .bool ab3, .string as3, .bool ab4, .string as4, .bool bb1, .string bs1, .bool bb2, .string bs2, .bool bb3, .string bs3, .bool bb4, .string bs4]), (2, .agg #[.bool rb1, .string rs1, .bool rb2, .string rs2])], []⟩ _
  refine at_seq ?_
  refine at_region ?_
  refine r_box [_, _, _, _, _, _, _, _] 8 (fun g => [⟨some g, 27, _, 8, true⟩]) rfl rfl rfl rfl rfl (fun _ => rfl) (fun g0 => ?_)
  refine r_box [_, _, _, _, _, _, _, _, _, _, _, _, _, _, _, _] 16 (fun g => [_, ⟨some g, 36, _, 16, true⟩]) rfl rfl rfl rfl rfl (fun _ => rfl) (fun g1 => ?_)
  refine r_box [_, _, _, _] 4 (fun g => [_, _, ⟨some g, 25, _, 4, true⟩]) rfl rfl rfl rfl rfl (fun _ => rfl) (fun g2 => ?_)
  refine r_assign rfl rfl rfl ?_
  refine run_nil ?_
  refine at_tn ?_
  refine at_seq ?_
  refine at_seq ?_
  refine at_region ?_
  refine r_pcall [] rfl rfl rfl (c_law_known) ?_
  refine r_not rfl rfl rfl ?_
  refine r_move rfl rfl rfl ?_
  refine r_load 0 0 [_, _, _, _, _, _, _, _] rfl rfl rfl rfl ti27 rfl rfl rfl rfl ?_
  refine r_fieldAddr 1 0 0 rfl rfl rfl rfl rfl ti36 rfl rfl ?_
  refine r_load 1 0 [_, _, _, _, _, _, _, _] rfl rfl rfl rfl ti27 rfl rfl rfl rfl ?_
  refine r_fieldAddr 1 0 8 rfl rfl rfl rfl rfl ti36 rfl rfl ?_
  refine r_load 1 8 [_, _, _, _, _, _, _, _] rfl rfl rfl rfl ti27 rfl rfl rfl rfl ?_
  refine r_buildSlice [(0, _), (1, _), (2, _)] (fun g => [_, _, _, ⟨some g, 27, _, 24, true⟩]) rfl rfl rfl (bs61_3) rfl (fun _ => rfl) (fun g3 => ?_)
  refine r_scall0 [_] [3] rfl rfl rfl (c_law_points [⟨pb1, ps1, pb2, ps2, pb3, ps3, pb4, ps4⟩, ⟨ab1, as1, ab2, as2, ab3, as3, ab4, as4⟩, ⟨bb1, bs1, bb2, bs2, bb3, bs3, bb4, bs4⟩] (by simp only [List.forall_mem_cons]; exact ⟨hzp, hza, hzb, fun _ h => by cases h⟩) (Nat.le_of_ble_eq_true rfl) (some g3) _ _ (Nat.le_refl _)) ⟨⟨_, rfl, le_share⟩, trivial⟩ rfl ?_
  refine r_not rfl rfl rfl ?_
  refine r_pickF rfl rfl rfl rfl ?_
  refine r_move rfl rfl rfl ?_
  refine r_split 23 rfl (fun hb0 => ?_) (fun hb0 => ?_)
  ·
    refine r_no rfl rfl rfl ?_
    refine r_no rfl rfl rfl ?_
    refine r_no rfl rfl rfl ?_
    refine r_pickT rfl rfl rfl rfl ?_
    refine run_nil ?_
    refine at_tn ?_
    refine at_condT rfl ?_
    refine at_seq ?_
    refine at_region ?_
    refine r_pcall [] rfl rfl rfl (c_law_known) ?_
    refine r_assign rfl rfl rfl ?_
    refine run_nil ?_
    refine at_tn ?_
    refine at_ret ?_
    refine at_tr ?_
    refine at_end1 rfl (res_tmp rfl) (fun w hL => ⟨?_, hL.below⟩)
    exact rfl
  ·
    have hall : [(⟨pb1, ps1, pb2, ps2, pb3, ps3, pb4, ps4⟩ : RawP), ⟨ab1, as1, ab2, as2, ab3, as3, ab4, as4⟩, ⟨bb1, bs1, bb2, bs2, bb3, bs3, bb4, bs4⟩].all smallP = true := by simpa using hb0
    simp only [List.all_cons, List.all_nil, Bool.and_true, Bool.and_eq_true] at hall
    obtain ⟨hp_p, hp_a, hp_b⟩ := hall
    obtain ⟨p, ⟨⟨hx1, hx2, hx3, hx4⟩, ⟨hy1, hy2, hy3, hy4⟩⟩, hwp⟩ := smallP_q hp_p
    dsimp only at hx1 hx2 hx3 hx4 hy1 hy2 hy3 hy4
    subst hx1; subst hx2; subst hx3; subst hx4; subst hy1; subst hy2; subst hy3; subst hy4
    obtain ⟨a, ⟨⟨hx1, hx2, hx3, hx4⟩, ⟨hy1, hy2, hy3, hy4⟩⟩, hwa⟩ := smallP_q hp_a
    dsimp only at hx1 hx2 hx3 hx4 hy1 hy2 hy3 hy4
    subst hx1; subst hx2; subst hx3; subst hx4; subst hy1; subst hy2; subst hy3; subst hy4
    obtain ⟨b, ⟨⟨hx1, hx2, hx3, hx4⟩, ⟨hy1, hy2, hy3, hy4⟩⟩, hwb⟩ := smallP_q hp_b
    dsimp only at hx1 hx2 hx3 hx4 hy1 hy2 hy3 hy4
    subst hx1; subst hx2; subst hx3; subst hx4; subst hy1; subst hy2; subst hy3; subst hy4
    refine r_load 2 0 [_, _, _, _] rfl rfl rfl rfl ti25 rfl rfl rfl rfl ?_
    refine r_pcall [_] rfl rfl rfl (c_law_small rb1 rs1 rb2 rs2 hzr.1 hzr.2) ?_
    refine r_not rfl rfl rfl ?_
    refine r_pickF rfl rfl rfl rfl ?_
    refine run_nil ?_
    refine at_tn ?_
    refine at_cond rfl (fun hb1 => ?_) (fun hb1 => ?_)
    ·
      refine at_seq ?_
      refine at_region ?_
      refine r_pcall [] rfl rfl rfl (c_law_known) ?_
      refine r_assign rfl rfl rfl ?_
      refine run_nil ?_
      refine at_tn ?_
      refine at_ret ?_
      refine at_tr ?_
      refine at_end1 rfl (res_tmp rfl) (fun w hL => ⟨?_, hL.below⟩)
      exact rfl
    ·
      have hall_r : smallB rb1 rs1 rb2 rs2 = true := by simpa using hb1
      obtain ⟨r, ⟨hx1, hx2, hx3, hx4⟩, hwr⟩ := small_q hall_r
      subst hx1; subst hx2; subst hx3; subst hx4
      refine at_skip ?_
      refine at_tn ?_
      refine at_seq ?_
      refine at_region ?_
      refine r_load 0 0 [_, _, _, _, _, _, _, _] rfl rfl rfl rfl ti27 rfl rfl rfl rfl ?_
      refine r_load 1 0 [_, _, _, _, _, _, _, _, _, _, _, _, _, _, _, _] rfl rfl rfl rfl ti36 rfl rfl rfl rfl ?_
      refine r_pcall [_, _] rfl rfl rfl (c_plane_Nearest p (a, b) (szPm (Nat.le_trans (szP1 hwp) (Nat.le_of_ble_eq_true rfl)) (Nat.le_trans (szP2 hwp) (Nat.le_of_ble_eq_true rfl))) (szSm (szPm (Nat.le_trans (szP1 hwa) (Nat.le_of_ble_eq_true rfl)) (Nat.le_trans (szP2 hwa) (Nat.le_of_ble_eq_true rfl))) (szPm (Nat.le_trans (szP1 hwb) (Nat.le_of_ble_eq_true rfl)) (Nat.le_trans (szP2 hwb) (Nat.le_of_ble_eq_true rfl))))) ?_
      refine r_move rfl rfl rfl ?_
      refine r_extract (vs := [_, _]) rfl rfl rfl rfl ?_
      refine r_extract (vs := [_, _]) rfl rfl rfl rfl ?_
      refine r_alloc [_, _, _, _, _, _, _, _] 8 (fun g => [_, _, _, _, ⟨some g, 27, _, 8, true⟩]) rfl rfl z27 rfl rfl (fun _ => rfl) (fun g4 => ?_)
      refine r_alloc [_, _, _, _] 4 (fun g => [_, _, _, _, _, ⟨some g, 25, _, 4, true⟩]) rfl rfl z25 rfl rfl (fun _ => rfl) (fun g5 => ?_)
      refine r_store rfl 4 0 [_, _, _, _, ⟨some g4, 27, _, 8, true⟩, _] [_, _, _, _, _, _, _, _] rfl rfl rfl rfl ti27 rfl rfl rfl rfl rfl ?_
      refine r_store rfl 5 0 [_, _, _, _, _, ⟨some g5, 25, _, 4, true⟩] [_, _, _, _] rfl rfl rfl rfl ti25 rfl rfl rfl rfl rfl ?_
      refine run_nil ?_
      refine at_tn ?_
      refine at_seq ?_
      refine at_region ?_
      refine r_load 0 0 [_, _, _, _, _, _, _, _] rfl rfl rfl rfl ti27 rfl rfl rfl rfl ?_
      refine r_load 1 0 [_, _, _, _, _, _, _, _, _, _, _, _, _, _, _, _] rfl rfl rfl rfl ti36 rfl rfl rfl rfl ?_
      refine r_pcall [_, _] rfl rfl rfl (c_ref07_Nearest p (a, b) (szPm (Nat.le_trans (szP1 hwp) (Nat.le_of_ble_eq_true rfl)) (Nat.le_trans (szP2 hwp) (Nat.le_of_ble_eq_true rfl))) (szSm (szPm (Nat.le_trans (szP1 hwa) (Nat.le_of_ble_eq_true rfl)) (Nat.le_trans (szP2 hwa) (Nat.le_of_ble_eq_true rfl))) (szPm (Nat.le_trans (szP1 hwb) (Nat.le_of_ble_eq_true rfl)) (Nat.le_trans (szP2 hwb) (Nat.le_of_ble_eq_true rfl))))) ?_
      refine r_move rfl rfl rfl ?_
      refine r_extract (vs := [_, _]) rfl rfl rfl rfl ?_
      refine r_extract (vs := [_, _]) rfl rfl rfl rfl ?_
      refine r_alloc [_, _, _, _, _, _, _, _] 8 (fun g => [_, _, _, _, _, _, ⟨some g, 27, _, 8, true⟩]) rfl rfl z27 rfl rfl (fun _ => rfl) (fun g6 => ?_)
      refine r_alloc [_, _, _, _] 4 (fun g => [_, _, _, _, _, _, _, ⟨some g, 25, _, 4, true⟩]) rfl rfl z25 rfl rfl (fun _ => rfl) (fun g7 => ?_)
      refine r_store rfl 6 0 [_, _, _, _, _, _, ⟨some g6, 27, _, 8, true⟩, _] [_, _, _, _, _, _, _, _] rfl rfl rfl rfl ti27 rfl rfl rfl rfl rfl ?_
      refine r_store rfl 7 0 [_, _, _, _, _, _, _, ⟨some g7, 25, _, 4, true⟩] [_, _, _, _] rfl rfl rfl rfl ti25 rfl rfl rfl rfl rfl ?_
      refine run_nil ?_
      refine at_tn ?_
      refine at_seq ?_
      refine at_drawn (l' := (⟨_,_,_,_,_,_⟩ :: ⟨_,_,_,_,_,_⟩ :: ⟨_,_,_,_,_,_⟩ :: ⟨_,_,_,_,_,_⟩ :: ⟨_,_,_,_,_,_⟩ :: ⟨_,_,_,_,_,_⟩ :: ⟨_,_,_,_,_,_⟩ :: ⟨_,_,_,_,_,_⟩ :: ⟨_,_,_,_,_,_⟩ :: ⟨_,_,_,_,_,_⟩ :: ⟨_,_,_,_,_,_⟩ :: ⟨_,_,_,_,_,_⟩ :: ⟨_,_,_,_,_,_⟩ :: ⟨_,_,_,_,_,_⟩ :: ⟨_,_,_,_,_,_⟩ :: ⟨_,_,_,_,_,_⟩ :: ⟨_,_,_,_,_,_⟩ :: ⟨_,_,_,_,_,_⟩ :: ⟨_,_,_,_,_,_⟩ :: ⟨_,_,_,_,_,_⟩ :: ⟨_,_,_,_,_,_⟩ :: ⟨_,_,_,_,_,_⟩ :: ⟨_,_,_,_,_,_⟩ :: ⟨_,_,_,_,_,_⟩ :: ⟨_,_,_,_,_,_⟩ :: ⟨_,_,_,_,_,_⟩ :: ⟨_,_,_,_,_,_⟩ :: ⟨_,_,_,_,_,_⟩ :: ⟨_,_,_,_,_,_⟩ :: ⟨_,_,_,_,_,_⟩ :: ⟨_,_,_,_,_,_⟩ :: ⟨_,_,_,_,_,_⟩ :: ⟨_,_,_,_,_,_⟩ :: ⟨_,_,_,_,_,_⟩ :: [])) [] (0 :: 1 :: 3 :: 4 :: 2 :: 5 :: 6 :: 7 :: 8 :: 9 :: 11 :: 12 :: 10 :: 13 :: 14 :: 15 :: 16 :: 17 :: 18 :: 19 :: 20 :: 21 :: 22 :: 23 :: 24 :: 25 :: 26 :: 27 :: 28 :: 30 :: 29 :: 31 :: 32 :: 33 :: []) mixed (drawnM (0 :: 0 :: 3 :: 0 :: 0 :: 31 :: 63 :: 127 :: 255 :: 255 :: 1023 :: 255 :: 255 :: 8191 :: 16383 :: 32767 :: 65535 :: 131071 :: 131071 :: 524287 :: 1048575 :: 2097151 :: 4194303 :: 4194303 :: 16777215 :: 33554431 :: 67108863 :: 134217727 :: 134217727 :: 536870911 :: 134217727 :: 2147483647 :: 4294967295 :: 8589934591 :: []) (by kernel_rfl)) rfl (by kernel_rfl) ?_
      refine r_load 0 0 [_, _, _, _, _, _, _, _] rfl rfl rfl rfl ti27 rfl rfl rfl rfl ?_
      refine r_load 1 0 [_, _, _, _, _, _, _, _, _, _, _, _, _, _, _, _] rfl rfl rfl rfl ti36 rfl rfl rfl rfl ?_
      refine r_load 0 0 [_, _, _, _, _, _, _, _] rfl rfl rfl rfl ti27 rfl rfl rfl rfl ?_
      refine r_load 1 0 [_, _, _, _, _, _, _, _, _, _, _, _, _, _, _, _] rfl rfl rfl rfl ti36 rfl rfl rfl rfl ?_
      refine r_pcall [_, _] rfl rfl rfl (c_plane_OnSegment p (a, b) (szPm (Nat.le_trans (szP1 hwp) (Nat.le_of_ble_eq_true rfl)) (Nat.le_trans (szP2 hwp) (Nat.le_of_ble_eq_true rfl))) (szSm (szPm (Nat.le_trans (szP1 hwa) (Nat.le_of_ble_eq_true rfl)) (Nat.le_trans (szP2 hwa) (Nat.le_of_ble_eq_true rfl))) (szPm (Nat.le_trans (szP1 hwb) (Nat.le_of_ble_eq_true rfl)) (Nat.le_trans (szP2 hwb) (Nat.le_of_ble_eq_true rfl))))) ?_
      refine r_pcall [_, _] rfl rfl rfl (c_ref07_OnSegment p (a, b) (szPm (Nat.le_trans (szP1 hwp) (Nat.le_of_ble_eq_true rfl)) (Nat.le_trans (szP2 hwp) (Nat.le_of_ble_eq_true rfl))) (szSm (szPm (Nat.le_trans (szP1 hwa) (Nat.le_of_ble_eq_true rfl)) (Nat.le_trans (szP2 hwa) (Nat.le_of_ble_eq_true rfl))) (szPm (Nat.le_trans (szP1 hwb) (Nat.le_of_ble_eq_true rfl)) (Nat.le_trans (szP2 hwb) (Nat.le_of_ble_eq_true rfl))))) ?_
      refine r_eqlBool rfl u4 rfl rfl rfl ?_
      refine r_know 47 (.bool true) rfl (congrArg Value.bool (beq_iff_eq.2 (on_same' p (a, b)))) ?_
      refine r_move rfl rfl rfl ?_
      refine r_load 1 0 [_, _, _, _, _, _, _, _, _, _, _, _, _, _, _, _] rfl rfl rfl rfl ti36 rfl rfl rfl rfl ?_
      refine r_load 2 0 [_, _, _, _] rfl rfl rfl rfl ti25 rfl rfl rfl rfl ?_
      refine r_load 1 0 [_, _, _, _, _, _, _, _, _, _, _, _, _, _, _, _] rfl rfl rfl rfl ti36 rfl rfl rfl rfl ?_
      refine r_load 2 0 [_, _, _, _] rfl rfl rfl rfl ti25 rfl rfl rfl rfl ?_
      refine r_pcall [_, _] rfl rfl rfl (c_plane_Divide (a, b) r (szSm (szPm (Nat.le_trans (szP1 hwa) (Nat.le_of_ble_eq_true rfl)) (Nat.le_trans (szP2 hwa) (Nat.le_of_ble_eq_true rfl))) (szPm (Nat.le_trans (szP1 hwb) (Nat.le_of_ble_eq_true rfl)) (Nat.le_trans (szP2 hwb) (Nat.le_of_ble_eq_true rfl)))) (Nat.le_trans hwr (Nat.le_of_ble_eq_true rfl))) ?_
      refine r_pcall [_, _] rfl rfl rfl (c_ref07_Divide (a, b) r (szSm (szPm (Nat.le_trans (szP1 hwa) (Nat.le_of_ble_eq_true rfl)) (Nat.le_trans (szP2 hwa) (Nat.le_of_ble_eq_true rfl))) (szPm (Nat.le_trans (szP1 hwb) (Nat.le_of_ble_eq_true rfl)) (Nat.le_trans (szP2 hwb) (Nat.le_of_ble_eq_true rfl)))) (Nat.le_trans hwr (Nat.le_of_ble_eq_true rfl))) ?_
      refine r_eqlAgg rfl rfl rfl rfl gd27 (eq27 _ _) ?_
      refine r_know 55 (.bool true) rfl (congrArg Value.bool (decide_eq_true rfl)) ?_
      refine r_pickT rfl rfl rfl rfl ?_
      refine r_move rfl rfl rfl ?_
      refine r_load 4 0 [_, _, _, _, _, _, _, _] rfl rfl rfl rfl ti27 rfl rfl rfl rfl ?_
      refine r_load 6 0 [_, _, _, _, _, _, _, _] rfl rfl rfl rfl ti27 rfl rfl rfl rfl ?_
      refine r_eqlAgg rfl rfl rfl rfl gd27 (eq27 (nearP p (a, b)).1 (nearP p (a, b)).1) ?_
      refine r_know 60 (.bool true) rfl (congrArg Value.bool (decide_eq_true rfl)) ?_
      refine r_pickT rfl rfl rfl rfl ?_
      refine r_move rfl rfl rfl ?_
      refine r_load 5 0 [_, _, _, _] rfl rfl rfl rfl ti25 rfl rfl rfl rfl ?_
      refine r_load 7 0 [_, _, _, _] rfl rfl rfl rfl ti25 rfl rfl rfl rfl ?_
      refine r_eqlAgg rfl rfl rfl rfl gd25 (eq25 (nearP p (a, b)).2 (nearP p (a, b)).2) ?_
      refine r_know 65 (.bool true) rfl (congrArg Value.bool (decide_eq_true rfl)) ?_
      refine r_pickT rfl rfl rfl rfl ?_
      refine r_move rfl rfl rfl ?_
      refine r_load 1 0 [_, _, _, _, _, _, _, _, _, _, _, _, _, _, _, _] rfl rfl rfl rfl ti36 rfl rfl rfl rfl ?_
      refine r_load 5 0 [_, _, _, _] rfl rfl rfl rfl ti25 rfl rfl rfl rfl ?_
      refine r_load 4 0 [_, _, _, _, _, _, _, _] rfl rfl rfl rfl ti27 rfl rfl rfl rfl ?_
      refine r_pcall [_, _] rfl rfl rfl (c_plane_Divide (a, b) (nearP p (a, b)).2 (szSm (szPm (Nat.le_trans (szP1 hwa) (Nat.le_of_ble_eq_true rfl)) (Nat.le_trans (szP2 hwa) (Nat.le_of_ble_eq_true rfl))) (szPm (Nat.le_trans (szP1 hwb) (Nat.le_of_ble_eq_true rfl)) (Nat.le_trans (szP2 hwb) (Nat.le_of_ble_eq_true rfl)))) (Nat.le_trans (szNearQ (szPm (Nat.le_trans (szP1 hwp) (Nat.le_of_ble_eq_true rfl)) (Nat.le_trans (szP2 hwp) (Nat.le_of_ble_eq_true rfl))) (szSm (szPm (Nat.le_trans (szP1 hwa) (Nat.le_of_ble_eq_true rfl)) (Nat.le_trans (szP2 hwa) (Nat.le_of_ble_eq_true rfl))) (szPm (Nat.le_trans (szP1 hwb) (Nat.le_of_ble_eq_true rfl)) (Nat.le_trans (szP2 hwb) (Nat.le_of_ble_eq_true rfl))))) (Nat.le_of_ble_eq_true rfl))) ?_
      refine r_eqlAgg rfl rfl rfl rfl gd27 (eq27 (divP (a, b) (nearP p (a, b)).2) (nearP p (a, b)).1) ?_
      refine r_know 72 (.bool true) rfl (congrArg Value.bool (decide_eq_true (near_div p (a, b)))) ?_
      refine r_pickT rfl rfl rfl rfl ?_
      refine r_assign rfl rfl rfl ?_
      refine run_nil ?_
      refine at_tn ?_
      refine at_ret ?_
      refine at_end1 rfl (res_tmp rfl) (fun w hL => ⟨?_, hL.below⟩)
      exact rfl

end Go.Proofs.YthnlafhnpphdhaaGreatDoor
set_option linter.unusedVariables false
namespace Go.Proofs.YthnlafhnpphdhaaGreatDoor.planeNearest
open Go Go.ChangeShapes Go.WideShapes Go.ChangeAt Go.RowKit Go.Via

theorem big {n : Nat} (h : n ≤ reachBytes) : n ≤ BIG := Nat.le_trans h (by decide)

set_option maxRecDepth 20000 in
theorem contract (H : Type) (enc : TypeId × Value → H) (W : World) (base : Nat) (args : Array Value) (ds gs : List (DataW H)) (before : List MemPlace)
    (hval : ∀ (j : Nat) t v, Tryz.f6.params[j]? = some t → args[j]? = some v → Value.okWide Tryz.prog W .any base t v)
    (hW : DataW.Whole enc Tryz.prog Tryz.f6.params.toList Rows.planeNearestSpec.vars false W args.toList ds gs before)
    (hsz : (DataW.weightsEach Tryz.prog (Tryz.f6.params.toList ++ (OpenSpec.ofChange Rows.planeNearestSpec).bare.plain.varTypes Tryz.prog) (ds ++ gs)).all (· ≤ reachBytes) = true) :
    Calls Tryz.prog 6 args W fun e W' => ∃ v, e = .returned v ∧ Rows.planeNearestSpec.post enc Tryz.prog Tryz.f6 false true false false W args v W' := by
  have hW' := hW
  obtain ⟨p, q, hA0, hV, rfl, hfz, hnd⟩ := hW
  have hA : DataW.TrodAll enc Tryz.prog W 0 (fun _ => true) true Tryz.f6.params.toList args.toList ds p := hA0
  rw [Tryz.params6] at hA hval
  obtain ⟨v0, vs0, d0, ds0, p0, q0, hargs, rfl, rfl, h0, r0⟩ := trodAll_cons hA
  obtain ⟨v1, vs1, d1, ds1, p1, q1, rfl, rfl, rfl, h1, r1⟩ := trodAll_cons r0
  obtain ⟨v2, vs2, d2, ds2, p2, q2, rfl, rfl, rfl, h2, r2⟩ := trodAll_cons r1
  obtain ⟨rfl, rfl, rfl⟩ := trodAll_nil r2
  obtain rfl : args = #[v0, v1, v2] := by cases args; simp_all
  obtain ⟨rfl, rfl⟩ := trodVars_none hV
  obtain ⟨a0, rfl, rfl, rfl, s0⟩ := openP (hval 0 27 v0 rfl rfl) h0
  obtain ⟨a1, c1, rfl, rfl, rfl, s1⟩ := openS (hval 1 36 v1 rfl rfl) h1
  obtain ⟨b21, t21, b22, t22, rfl, rfl, rfl, s2⟩ := openQ (hval 2 25 v2 rfl rfl) h2
  clear hA0
  simp only [List.append_nil] at hW'
  have hz : ([a0.s1.size, a0.s2.size, a0.s3.size, a0.s4.size] ++ ([a1.s1.size, a1.s2.size, a1.s3.size, a1.s4.size, c1.s1.size, c1.s2.size, c1.s3.size, c1.s4.size] ++ ([t21.size, t22.size] ++ []))).all (· ≤ reachBytes) = true := by
    have h : (DataW.weightsEach Tryz.prog [27, 36, 25] [(dP a0 : DataW H), dSg a1 c1, dQ b21 t21 b22 t22]).all (· ≤ reachBytes) = true := hsz
    rw [DataW.weightsEach, DataW.weightsEach, DataW.weightsEach, DataW.weightsEach, wP, wSg, wQ] at h
    · exact h
    all_goals (intros; simp_all)
  simp only [List.all_append, List.all_cons, List.all_nil, Bool.and_true, Bool.and_eq_true, decide_eq_true_eq] at hz
  obtain ⟨⟨z01, z02, z03, z04⟩, ⟨z11, z12, z13, z14, y11, y12, y13, y14⟩, z21, z22⟩ := hz
  have walk := (c_PlaneNearest a0.a1 a0.s1 a0.a2 a0.s2 a0.a3 a0.s3 a0.a4 a0.s4 a1.a1 a1.s1 a1.a2 a1.s2 a1.a3 a1.s3 a1.a4 a1.s4 c1.a1 c1.s1 c1.a2 c1.s2 c1.a3 c1.s3 c1.a4 c1.s4 b21 t21 b22 t22 ⟨big z01, big z02, big z03, big z04⟩ ⟨big z11, big z12, big z13, big z14⟩ ⟨big y11, big y12, big y13, big y14⟩ ⟨big z21, big z22⟩).2 W
  refine walk.mono fun e W' ⟨he, hg⟩ => ?_
  subst he
  exact ⟨_, rfl, post_plain rfl hW' (fun _ _ _ => trodAll_cons_mk (shut_bool Tryz.underlying4 _) trodAll_mk0)
    (fun _ => trodAll_cons_mk (s0 _ _ _ _) (trodAll_cons_mk (s1 _ _ _ _) (trodAll_cons_mk (s2 _ _ _ _) (trodAll_mk0)))) rfl hg (ok_one (by kernel_rfl) rfl (okWide_bool_mk Tryz.underlying4 _))⟩

abbrev wit : Array Value := #[.agg #[.bool false, .string ⟨#[]⟩, .bool false, .string ⟨#[]⟩, .bool false, .string ⟨#[]⟩, .bool false, .string ⟨#[]⟩], .agg #[.bool false, .string ⟨#[]⟩, .bool false, .string ⟨#[]⟩, .bool false, .string ⟨#[]⟩, .bool false, .string ⟨#[]⟩, .bool false, .string ⟨#[]⟩, .bool false, .string ⟨#[]⟩, .bool false, .string ⟨#[]⟩, .bool false, .string ⟨#[]⟩], .agg #[.bool false, .string ⟨#[]⟩, .bool false, .string ⟨#[]⟩]]
abbrev wi {H : Type} : DataW H := .agg [.lit (.bool false), .lit (.string [])]
abbrev wq {H : Type} : DataW H := .agg [wi, wi]
theorem reads (os : Os) {H : Type} (enc : TypeId × Value → H) : ∃ places, DataW.whole enc Tryz.prog ((laidWorld os).forCall (fun _ _ => 0) ⟨#[], wit, []⟩).memory Tryz.f6.params.toList Rows.planeNearestSpec.vars false wit.toList 8 = some ([.agg [wq, wq], .agg [.agg [wq, wq], .agg [wq, wq]], wq], [], places) :=
  ⟨[], by kernel_rfl⟩

set_option maxRecDepth 100000 in
theorem lifted (os : Os) (started : os.Started) (H : Type) (enc : TypeId × Value → H) (F : Stop.Interp) :
    ReturnsInHanded {} Tryz.checked os 6 .any ((OpenSpec.ofChange Rows.planeNearestSpec).preRow enc Tryz.prog Tryz.f6 Rows.planeNearestRow.domain false Rows.planeNearestRow.laid) (((OpenSpec.ofChange Rows.planeNearestSpec).at F).post enc Tryz.prog Tryz.f6 false true false false) := by
  obtain ⟨places, hx⟩ := reads os enc
  refine returnsInHanded_of_row (C := Tryz.checked) (s := OpenSpec.ofChange Rows.planeNearestSpec) own started (by kernel_rfl) Tryz.func6
    (witness_row_at (enc := enc) (C := Tryz.checked) false (laidWorld os) wit rfl (by kernel_rfl) (by kernel_rfl) (by kernel_rfl)
      (OpenSpec.preRow_of_cond 8 hx (by kernel_rfl) (fun k hk => by cases hk) (by kernel_rfl) (laid_met os _))) ?_
  intro W base args ds gs before hval hW _ _ hsz hL _ _
  exact contract H enc W base args ds gs before hval hW hsz

theorem said : Rows.PlaneNearestSaid :=
  OpenClaim.holds_of_cond 6 Tryz.f6 rfl rfl rfl rfl rfl rfl rfl ⟨rfl, rfl, rfl, rfl, rfl⟩ rfl rfl rfl rfl rfl (by kernel_rfl) Tryz.func6 (by kernel_rfl)
    (of_decide_eq_true (by kernel_rfl)) (by unfold Func.isWrapper; first | (rw [if_pos (by decide +kernel)]; kernel_rfl) | (rw [if_neg (by decide +kernel)]; exact ⟨rfl, rfl⟩))
    (fun os started H enc _ F => by rw [OpenClaim.pre_eq_preRow]; exact lifted os started H enc F)

/-- No parameter wants a stand-in; the program's own looks are off. -/
theorem plain (f : FuncId) (fn : Func) (hf : Tryz.pinned.checked.prog.funcNamed "viator/viatorlaw07.PlaneNearest" = some f) (hfn : Tryz.pinned.checked.prog.funcs[f]? = some fn) :
    false = Tryz.pinned.checked.prog.looks [] ∧ ∀ (j : Nat) t, fn.params[j]? = some t → Tryz.pinned.checked.prog.wantsStandIn t = false := by
  obtain rfl : f = 6 := Option.some.inj ((show Tryz.prog.funcNamed "viator/viatorlaw07.PlaneNearest" = some 6 by kernel_rfl).symm.trans hf) |>.symm
  obtain rfl : fn = Tryz.f6 := (Option.some.inj (Tryz.func6.symm.trans hfn)).symm
  refine ⟨by kernel_rfl, fun j t ht => ?_⟩
  rw [Tryz.params6] at ht
  have hm : t ∈ ([27, 36, 25] : List Nat) := by simpa using Array.mem_of_getElem? ht
  have hw : ∀ t ∈ ([27, 36, 25] : List Nat), Tryz.prog.wantsStandIn t = false := by
    intro t ht
    simp only [List.mem_cons, List.mem_nil_iff, or_false] at ht
    rcases ht with rfl | rfl | rfl
    · exact (show Tryz.prog.wantsStandIn 27 = false by kernel_rfl)
    · exact (show Tryz.prog.wantsStandIn 36 = false by kernel_rfl)
    · exact (show Tryz.prog.wantsStandIn 25 = false by kernel_rfl)
  exact hw t hm

/-- ████ THE CARD ████ -/
theorem card : Rows.PlaneNearestCardSaid :=
  Claim7.holds_tied_plain_at .later [] _ _ _ _ said (fun _ h => by cases h) (by kernel_rfl) (fun _ h => by cases h) planeNearest_row_tie rfl ⟨rfl, rfl⟩ (by kernel_rfl) rfl plain (by kernel_rfl)
end Go.Proofs.YthnlafhnpphdhaaGreatDoor.planeNearest
namespace Go.Proofs.YthnlafhnpphdhaaGreatDoor
/-- the card -/
theorem planeNearest_holds : Rows.PlaneNearestCardSaid := planeNearest.card
end Go.Proofs.YthnlafhnpphdhaaGreatDoor
