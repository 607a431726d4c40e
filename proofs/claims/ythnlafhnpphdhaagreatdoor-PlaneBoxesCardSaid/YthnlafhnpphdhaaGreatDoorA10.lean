/-
  Part 10: lemmas, and walks through the functions that the laws of chapter 07 call. Each theorem states its own conditions.
-/
import Derived.Laws.Small
import Derived.ChangeSame
import Derived.OpenShut
import Derived.RowKit3
import Derived.ProofKit
import Derived.Test.YthnlafhnpphdhaaGreatDoorCards
import Derived.Test.YthnlafhnpphdhaaGreatDoorTie
import Derived.WalkKit
import Derived.Deep.DeepHandedRow
import Derived.Lib.LaidTab
import Derived.Deep.Slices
import Derived.Carry
import Derived.Test.YthnlafhnpphdhaaGreatDoorA09
set_option linter.unusedVariables false
set_option linter.unusedVariables false
set_option linter.unusedSimpArgs false
namespace Go.Via
open Go Go.RowKit
/-! ### the look at a region by numbers whose bits are the operations that one waits for -/
def bitsOf (ms : List Nat) (l : List Edge) : Nat := l.foldl (fun m e => if Region.binds .any e then m ||| ((1 <<< e.on) ||| ms.getD e.on 0) else m) 0
def maskOK (ops : Array Oper) (ms : List Nat) : Bool := (List.range ops.size).all fun i => match ops[i]? with
  | some o => (o.after.toList.all fun e => !Region.binds .any e || decide (e.on < i)) && ms.getD i 0 == bitsOf ms o.after.toList
  | none => true
theorem bits_fold {ms : List Nat} {j : Nat} : ∀ {l : List Edge} {m : Nat}, Nat.testBit (l.foldl (fun m e => if Region.binds .any e then m ||| ((1 <<< e.on) ||| ms.getD e.on 0) else m) m) j = true →
    Nat.testBit m j = true ∨ ∃ e ∈ l, Region.binds .any e = true ∧ (e.on = j ∨ Nat.testBit (ms.getD e.on 0) j = true)
  | [], m, h => .inl h
  | e :: l, m, h => by
    rw [List.foldl_cons] at h
    rcases bits_fold h with h | ⟨e', h1, h2⟩
    · split at h
      · rename_i hb
        rw [Nat.testBit_or, Nat.testBit_or, Bool.or_eq_true, Bool.or_eq_true] at h
        rcases h with h | h | h
        · exact .inl h
        · refine .inr ⟨e, by simp, hb, .inl ?_⟩
          rw [Nat.testBit_shiftLeft] at h
          simp only [Bool.and_eq_true, decide_eq_true_eq] at h
          have h3 := h.2
          by_cases c : j - e.on = 0
          · omega
          · exfalso
            obtain ⟨k, hk⟩ : ∃ k, j - e.on = k + 1 := ⟨j - e.on - 1, by omega⟩
            rw [hk, Nat.testBit_succ] at h3
            simp at h3
        · exact .inr ⟨e, by simp, hb, .inr h⟩
      · exact .inl h
    · exact .inr ⟨e', by simp [h1], h2⟩
theorem mask_waits {ops : Array Oper} {ms : List Nat} (hm : maskOK ops ms = true) : ∀ (f i j : Nat), i < f → i < ops.size → Nat.testBit (ms.getD i 0) j = true → waitsF ops f i j = true
  | 0, i, j, h, _, _ => by omega
  | f + 1, i, j, h, hi, hb => by
    have h1 := List.all_eq_true.1 hm i (List.mem_range.2 hi)
    rw [Array.getElem?_eq_getElem hi] at h1
    simp only [Bool.and_eq_true, beq_iff_eq] at h1
    obtain ⟨h2, h3⟩ := h1
    rw [h3] at hb
    unfold waitsF
    rw [Array.getElem?_eq_getElem hi]
    rcases bits_fold hb with hb | ⟨e, he, hbe, hj⟩
    · simp at hb
    · have hlt : e.on < i := by
        have := List.all_eq_true.1 h2 e he
        rw [hbe] at this
        simpa using this
      refine Array.any_eq_true'.2 ⟨e, by simpa using he, ?_⟩
      rw [hbe, Bool.true_and, Bool.or_eq_true]
      rcases hj with hj | hj
      · exact .inl (by simpa using hj)
      · exact .inr (mask_waits hm f e.on j (by omega) (by omega) hj)
def pairM (bl : List Nat) (ops : Array Oper) (ms : List Nat) (p i : Nat) : Bool :=
  Nat.testBit (ms.getD i 0) p ||
  match ops[p]?, ops[i]? with
  | some op, some oi => isMov op && isFr bl oi && !isCall op && op.apart ops oi
  | _, _ => false
def pairMA (bl : List Nat) (ops : Array Oper) (ms : List Nat) (p i : Nat) : Bool :=
  Nat.testBit (ms.getD i 0) p ||
  match ops[p]?, ops[i]? with
  | some op, some oi => passOk bl ops op oi
  | _, _ => false
theorem pairsB_mono {f g : Nat → Nat → Bool} : ∀ {l : List Nat}, (∀ p ∈ l, ∀ i ∈ l, f p i = true → g p i = true) → pairsB f l = true → pairsB g l = true
  | [], _, _ => rfl
  | p :: l, h, hf => by
    simp only [pairsB, Bool.and_eq_true] at hf ⊢
    exact ⟨List.all_eq_true.2 fun i hi => h p (by simp) i (by simp [hi]) (List.all_eq_true.1 hf.1 i hi), pairsB_mono (fun p hp i hi => h p (by simp [hp]) i (by simp [hi])) hf.2⟩
def drawnMOk (bl : List Nat) (ops : Array Oper) (perm : List Nat) (ms : List Nat) : Bool :=
  maskOK ops ms && (decide (perm.length = ops.size) && perm.all (fun i => decide (i < ops.size)) && (List.range ops.size).all (fun i => perm.contains i) &&
  pairsB (pairM bl ops ms) perm && pairsB (noWait ops) perm && perm.all (fun i => noWait ops i i) && perm.all (fun i => edgesIn ops i) && pairsB (dstApart bl ops) perm && pairsB (movFirst bl ops) perm && pairsB (fun i j => i != j) perm)
theorem drawnM {bl : List Nat} {ops : Array Oper} {perm : List Nat} (ms : List Nat) (h : drawnMOk bl ops perm ms = true) : drawnOk bl ops perm = true := by
  unfold drawnMOk at h
  rw [Bool.and_eq_true] at h
  obtain ⟨hm, h⟩ := h
  unfold drawnOk
  simp only [Bool.and_eq_true] at h ⊢
  obtain ⟨⟨⟨⟨⟨⟨⟨⟨⟨h1, h2⟩, h3⟩, h4⟩, h5⟩, h6⟩, h7⟩, h8⟩, h9⟩, h10⟩ := h
  refine ⟨⟨⟨⟨⟨⟨⟨⟨⟨h1, h2⟩, h3⟩, pairsB_mono (fun p hp i hi hpi => ?_) h4⟩, h5⟩, h6⟩, h7⟩, h8⟩, h9⟩, h10⟩
  have hil : i < ops.size := of_decide_eq_true (List.all_eq_true.1 h2 i hi)
  unfold pairM at hpi
  unfold pairOk
  rw [Bool.or_eq_true] at hpi ⊢
  exact hpi.imp (mask_waits hm _ i p hil hil) id
def drawnMAOk (bl : List Nat) (ops : Array Oper) (perm : List Nat) (ms : List Nat) : Bool :=
  maskOK ops ms && (decide (perm.length = ops.size) && perm.all (fun i => decide (i < ops.size)) && (List.range ops.size).all (fun i => perm.contains i) &&
  pairsB (pairMA bl ops ms) perm && pairsB (noWait ops) perm && perm.all (fun i => noWait ops i i) && perm.all (fun i => edgesIn ops i) && pairsB (fun i j => i != j) perm && blA bl && !blS bl && !isM bl)
theorem drawnMA {bl : List Nat} {ops : Array Oper} {perm : List Nat} (ms : List Nat) (h : drawnMAOk bl ops perm ms = true) : drawnAOk bl ops perm = true := by
  unfold drawnMAOk at h
  rw [Bool.and_eq_true] at h
  obtain ⟨hm, h⟩ := h
  unfold drawnAOk
  simp only [Bool.and_eq_true] at h ⊢
  obtain ⟨⟨⟨⟨⟨⟨⟨⟨⟨⟨h1, h2⟩, h3⟩, h4⟩, h5⟩, h6⟩, h7⟩, h8⟩, h9⟩, h10⟩, h11⟩ := h
  refine ⟨⟨⟨⟨⟨⟨⟨⟨⟨⟨h1, h2⟩, h3⟩, pairsB_mono (fun p hp i hi hpi => ?_) h4⟩, h5⟩, h6⟩, h7⟩, h8⟩, h9⟩, h10⟩, h11⟩
  have hil : i < ops.size := of_decide_eq_true (List.all_eq_true.1 h2 i hi)
  unfold pairMA at hpi
  unfold pairOkA
  rw [Bool.or_eq_true] at hpi ⊢
  exact hpi.imp (mask_waits hm _ i p hil hil) id
end Go.Via
set_option linter.unusedVariables false
set_option linter.unusedSimpArgs false
namespace Go.Via
open Go Go.RowKit
/-! ### the lesser and the greater of two integers -/
section
variable {P : Program} {bl : List Nat} {ops : Array Oper} {K : St → Prop} {rest : List Oper} {nt : Nat} {t : List (Nat × Value)} {L : List Blk} {d : Nat} {ty : TypeId} {pos : String} {af : Array Edge} {g : Option (Nat × Bool)} {x y : Operand}
end
end Go.Via
set_option linter.unusedVariables false
set_option linter.unusedSimpArgs false
namespace Go.Via
open Go Go.RowKit
/-! ### a field of a struct that is a value -/
section
variable {P : Program} {bl : List Nat} {ops : Array Oper} {K : St → Prop} {rest : List Oper} {nt : Nat} {t : List (Nat × Value)} {L : List Blk} {d : Nat} {ty : TypeId} {pos : String} {af : Array Edge} {g : Option (Nat × Bool)} {x y : Operand}
end
end Go.Via
set_option linter.unusedVariables false
set_option linter.unusedSimpArgs false
namespace Go.Via
open Go Go.RowKit
section
variable {P : Program} {bl : List Nat} {ops : Array Oper} {K : St → Prop} {rest : List Oper} {nt : Nat} {t : List (Nat × Value)} {L : List Blk} {d : Nat} {ty : TypeId} {pos : String} {af : Array Edge} {g : Option (Nat × Bool)} {x y z : Operand}
end
end Go.Via
set_option linter.unusedVariables false
set_option linter.unusedSimpArgs false
namespace Go.Via
open Go Go.RowKit
/-! ### a region that draws its order: first what looks at slots alone, then each order of the others -/
end Go.Via
set_option linter.unusedVariables false
set_option linter.unusedSimpArgs false
namespace Go.Via
open Go Go.RowKit
/-! ### trees that end in one state; a call of a function value that writes one block, in a region that draws its order -/
theorem at_drawnTM {P : Program} {B : World} {Q : Exit → Act → World → Prop} {nt : Nat} {t : List (Nat × Value)} {L : List Blk} {id : Nat} {l l' : List Oper} {X : Type} (Tm : X → List (Nat × Value)) (Lm : X → List Blk) (bl perm T : List Nat) (hm : P.follows .mixedOrders = true) (hc : drawnTOk bl l.toArray perm T = true) (hl : perm.map (fun i => l.toArray.getD i default) = l')
    (h : Run P bl l.toArray l' ⟨nt, t, L⟩ (TreeT P bl l.toArray (fun s' => ∃ x : X, s'.nt = nt ∧ LookAll s'.t (Tm x) ∧ List.Perm s'.L (Lm x)) T.length T)) (hk : ∀ x, At B ⟨nt, Tm x, Lm x⟩ (Q .normal)) : At B ⟨nt, t, L⟩ ((Code.region id l.toArray true).wp P Q) := fun a w hr =>
  wp_drawnT (K := fun s' => ∃ x : X, s'.nt = nt ∧ LookAll s'.t (Tm x) ∧ List.Perm s'.L (Lm x)) perm T hm hc hl h (fun s' a' w' ⟨x, h1, h2, h3⟩ hrel => hk x a' w' (by
    have := hrel.sub (t := Tm x) fun d v hd => h2.mem (d, v) (look_mem hd)
    rw [h1] at this
    exact ⟨this.df, this.size, this.tmp, this.mem.perm h3⟩)) hr
theorem get_snoc {α : Type} (x : α) (R : List α) (y : α) : ((x :: R) ++ [y])[R.length + 1]? = some y := by simp
section
variable {P : Program} {bl : List Nat} {ops : Array Oper} {K : St → Prop} {rest : List Oper} {nt : Nat} {t : List (Nat × Value)} {L : List Blk} {d : Nat} {ty : TypeId} {pos : String} {af : Array Edge} {g : Option (Nat × Bool)} {x y : Operand}
theorem r_mfcall {f : Nat} {args : List Operand} {ts : Array TypeId} {c : Value} (vs : List Value) {v : Value} {b b' : Blk} (k : Nat) (L' : List Blk) (hS : blS bl = true) (hd : Nat.blt d nt = true)
    (hg : wantedS ops ⟨some d, .call { callee := .value x, args := args.toArray, argTypes := ts }, ty, pos, af, g⟩ t = some true) (hf : ev t x = some (.func (.func f) #[] #[c]))
    (hv : args.map (ev t) = vs.map some) (hc : MCall P f b (vs ++ [c]) v b') (hk : L[k]? = some b) (hL : L.set k b' = L') (hb : blank bl L' = blank bl L) (h : Run P bl ops rest ⟨nt, (d, v) :: t, L'⟩ K) :
    Run P bl ops (⟨some d, .call { callee := .value x, args := args.toArray, argTypes := ts }, ty, pos, af, g⟩ :: rest) ⟨nt, t, L⟩ K := by
  have hd' : ∀ d', (⟨some d, .call { callee := .value x, args := args.toArray, argTypes := ts }, ty, pos, af, g⟩ : Oper).dst = some d' → d' < nt := fun d' h => by cases h; simpa using hd
  refine ⟨hd', true, hg, .inr ⟨rfl, .inr (.inr (.inr (.inr (.inr ⟨rfl, hS, Unit, fun _ => v, fun _ => L', fun B a w hr => ?_, fun _ => hb, fun _ => h⟩))))⟩⟩
  have hfv := hr.ev hf
  have hva : args.toArray.map a.eval = vs.toArray := by simp [evs_spec hr hv]
  have hp := hc.1
  unfold plainF at hp
  cases hq : P.funcs[f]? with
  | none => rw [hq] at hp; cases hp
  | some fn =>
    rw [hq] at hp
    simp only [Bool.and_eq_true, Bool.not_eq_true'] at hp
    obtain ⟨h1, h2⟩ := hp
    have h3 : fn.body ≠ none := by intro hb; rw [hb] at h1; cases h1
    have h4 : ¬ fn.name = "runtime.NumGoroutine" := by simpa using h2
    refine ⟨f, (vs ++ [c]).toArray, by simp [execOp, resolve, hfv, hva, Deferred.ofValue, invoke, callFunc, hq, h4, h3], ?_⟩
    refine (hc.2 B w _ (hr.mem.toFront hk)).mono ?_
    rintro e w' ⟨rfl, hw⟩
    refine ⟨(), rfl, ?_⟩
    rw [← hL]
    exact LRel.fromFront hk hw
/-- the length of a slice, wherever it lies -/
theorem r_lenV {T e : Nat} {b : Option Addr} {len cap : Nat} (hT : P.underlying T = some (.slice e)) (hd : Nat.blt d nt = true) (hg : wantedS ops ⟨some d, .call { callee := .builtin .len, args := #[x], argTypes := #[T] }, ty, pos, af, g⟩ t = some true) (hx : ev t x = some (.slice b len cap)) (h : Run P bl ops rest ⟨nt, (d, .int .i64 len) :: t, L⟩ K) :
    Run P bl ops (⟨some d, .call { callee := .builtin .len, args := #[x], argTypes := #[T] }, ty, pos, af, g⟩ :: rest) ⟨nt, t, L⟩ K :=
  run_q hd hg rfl (fun B a w hrel => by
    have he : P.elem T = e := by simp [Program.elem, hT]
    have := run_len_slice (P := P) w T ty b len cap (by rw [he]; exact hT)
    have h2 := hrel.ev hx
    simp [execOp, resolve, invoke, builtin, h2, this, goInt]) h
/-- x[l:] of a slice with an offset -/
theorem r_sliceMO {T e : Nat} {b : Option Nat} {off len cap off' n' c' : Nat} {ki : IntKind} {inf : TI} (l : Nat) (hT : P.underlying T = some (.slice e)) (hinf : tiOK P e inf = true) (hd : Nat.blt d nt = true) (hg : wantedS ops ⟨some d, .slice T x (some y) none none, ty, pos, af, g⟩ t = some true) (hx : ev t x = some (slv b off len cap)) (hy : ev t y = some (.int ki (l : Nat))) (h1 : l ≤ len) (e1 : (if cap = l then off else off + l * inf.size) = off') (e2 : len - l = n') (e3 : cap - l = c')
    (h : Run P bl ops rest ⟨nt, (d, slv b off' n' c') :: t, L⟩ K) : Run P bl ops (⟨some d, .slice T x (some y) none none, ty, pos, af, g⟩ :: rest) ⟨nt, t, L⟩ K := by
  subst e1; subst e2; subst e3
  exact run_q hd hg rfl (fun B a w hrel => by
    have he : P.elem T = e := by simp [Program.elem, hT]
    have hT' : P.underlying T = some (.slice (P.elem T)) := by rw [he]; exact hT
    have h2 := hrel.ev hx
    have h3 := hrel.ev hy
    unfold slv at h2
    have r1 := run_sliceAt_slice (P := P) w T (.slice (b.map fun g => ⟨g, off, none⟩) len cap) (some (.int ki (l : Nat))) none none hT'
    rw [run_slice_l (P := P) w T (b.map fun g => ⟨g, off, none⟩) len cap hT' ki (l : Nat) (by omega) (by omega), he, ti_sizeOf hinf w] at r1
    simp only [Result.andThen_ok] at r1
    have e1 : sliced (b.map fun g => (⟨g, off, none⟩ : Addr)) ((l : Nat) : Int).toNat len cap inf.size = slv b (if cap = l then off else off + l * inf.size) (len - l) (cap - l) := by
      unfold sliced slv
      rw [Int.toNat_natCast]
      by_cases hc : cap = l
      · rw [if_pos hc, if_pos hc]
      · rw [if_neg hc, if_neg hc]; cases b <;> simp [add_lit]
    rw [e1] at r1
    simp [execOp, h2, h3, r1]) h
end
/-! a row that lies behind others in its block -/
theorem pre_get {pre C v : List Value} {k n m : Nat} (h : (C.drop k).take n = v) (e : m = pre.length + k) : ((pre ++ C).drop m).take n = v := by
  subst e
  rw [List.drop_length_add_append]
  exact h
theorem pre_ne {pre C : List Value} (h : C ≠ []) : pre ++ C ≠ [] := by simp [h]
end Go.Via
set_option linter.unusedVariables false
set_option linter.unusedSimpArgs false
namespace Go.Via
open Go Go.RowKit
/-! ### points as they come in -/
structure RawP where
  a1 : Bool
  s1 : ByteArray
  a2 : Bool
  s2 : ByteArray
  a3 : Bool
  s3 : ByteArray
  a4 : Bool
  s4 : ByteArray
def rpC (p : RawP) : List Value := [.bool p.a1, .string p.s1, .bool p.a2, .string p.s2, .bool p.a3, .string p.s3, .bool p.a4, .string p.s4]
def RLc : List RawP → List Value
  | [] => []
  | p :: l => rpC p ++ RLc l
theorem RLc_length (l : List RawP) : (RLc l).length = l.length * 8 := by
  induction l with
  | nil => rfl
  | cons p l ih => rw [RLc, List.length_append, ih]; simp [rpC]; omega
theorem RLc_get8 {l : List RawP} {i : Nat} {p : RawP} (h : l[i]? = some p) : ∃ m, (RLc l).drop (i * 8) = rpC p ++ m := by
  induction l generalizing i with
  | nil => simp at h
  | cons q l ih =>
    cases i with
    | zero =>
      simp at h; subst h
      exact ⟨RLc l, by rw [Nat.zero_mul, List.drop_zero, RLc]⟩
    | succ i =>
      rw [List.getElem?_cons_succ] at h
      rw [RLc, Nat.succ_mul, Nat.add_comm, ← List.drop_drop, List.drop_left' (by simp [rpC])]
      exact ih h
theorem RLc_get1 {l : List RawP} {i : Nat} {p : RawP} (h : l[i]? = some p) : ((RLc l).drop (i * 8)).take 4 = [.bool p.a1, .string p.s1, .bool p.a2, .string p.s2] := by
  obtain ⟨m, hm⟩ := RLc_get8 h
  rw [hm]; rfl
theorem RLc_get2 {l : List RawP} {i : Nat} {p : RawP} (h : l[i]? = some p) : ((RLc l).drop (i * 8 + 4)).take 4 = [.bool p.a3, .string p.s3, .bool p.a4, .string p.s4] := by
  obtain ⟨m, hm⟩ := RLc_get8 h
  rw [← List.drop_drop, hm]; rfl
theorem RLc_ne {l : List RawP} (h : 0 < l.length) : RLc l ≠ [] := fun e => by
  have := congrArg List.length e
  rw [RLc_length] at this
  simp at this; omega
def BIG : Nat := 1152921504606846976
/-- canonical, of at most 8 bytes -/
noncomputable def smallB (b1 : Bool) (s1 : ByteArray) (b2 : Bool) (s2 : ByteArray) : Bool := decide (s1.size + s2.size ≤ 8) && isQ b1 s1 b2 s2
noncomputable def smallP (p : RawP) : Bool := smallB p.a1 p.s1 p.a2 p.s2 && smallB p.a3 p.s3 p.a4 p.s4
def szR (p : RawP) : Prop := p.s1.size ≤ BIG ∧ p.s2.size ≤ BIG ∧ p.s3.size ≤ BIG ∧ p.s4.size ≤ BIG
theorem small_T {b1 : Bool} {s1 : ByteArray} {b2 : Bool} {s2 : ByteArray} (h : decide (((s1.size + s2.size : Nat) : Int) ≤ 8) = true) : isQ b1 s1 b2 s2 = smallB b1 s1 b2 s2 := by
  unfold smallB
  rw [decide_eq_true (by have := of_decide_eq_true h; omega), Bool.true_and]
theorem small_F {b1 : Bool} {s1 : ByteArray} {b2 : Bool} {s2 : ByteArray} (h : decide (((s1.size + s2.size : Nat) : Int) ≤ 8) = false) : false = smallB b1 s1 b2 s2 := by
  unfold smallB
  rw [decide_eq_false (by have := of_decide_eq_false h; omega), Bool.false_and]
theorem small_q {b1 : Bool} {s1 : ByteArray} {b2 : Bool} {s2 : ByteArray} (h : smallB b1 s1 b2 s2 = true) : ∃ q : Rat, (b1 = decide (q.num < 0) ∧ s1 = mag q.num.natAbs ∧ b2 = false ∧ s2 = dm q) ∧ szQ q ≤ 8 := by
  unfold smallB at h
  rw [Bool.and_eq_true] at h
  obtain ⟨q, h1, h2, h3, h4⟩ := isQ_iff.1 h.2
  refine ⟨q, ⟨h1, h2, h3, h4⟩, ?_⟩
  have h5 := of_decide_eq_true h.1
  rw [h2, h4, mag_size] at h5
  unfold szQ
  have h6 : nb q.den ≤ 8 := by
    unfold dm at h5
    split at h5
    · rename_i e; rw [e, nb_one]; omega
    · rw [mag_size] at h5; omega
  omega
theorem pts_no {l : List RawP} {i : Nat} {p : RawP} (h : l[i]? = some p) (h1 : smallP p = false) : false = l.all smallP := by
  symm
  rw [List.all_eq_false]
  exact ⟨p, List.mem_of_getElem? h, by rw [h1]; decide⟩
theorem pts_yes {l : List RawP} (h : ∀ j, j < l.length → ∀ p, l[j]? = some p → smallP p = true) : true = l.all smallP := by
  symm
  rw [List.all_eq_true]
  intro p hp
  obtain ⟨j, hj⟩ := List.mem_iff_getElem?.1 hp
  exact h j (List.getElem?_eq_some_iff.1 hj).1 p hj
theorem pts_step {l : List RawP} {i : Nat} {p : RawP} (h : ∀ j, j < i → ∀ q, l[j]? = some q → smallP q = true) (hp : l[i]? = some p) (h1 : smallP p = true) : ∀ j, j < i + 1 → ∀ q, l[j]? = some q → smallP q = true := fun j hj q hq => by
  by_cases e : j = i
  · subst e; rw [hp] at hq; cases hq; exact h1
  · exact h j (by omega) q hq
theorem pts_baseP {b : Option Nat} {pre : List Value} {l : List RawP} (h : b = none → pre ++ RLc l = []) (h0 : 0 < l.length) : ∃ g, b = some g := by
  cases b with
  | none => exact absurd (h rfl) (pre_ne (RLc_ne h0))
  | some g => exact ⟨g, rfl⟩
theorem smallP_mk {p : RawP} (h1 : (!smallB p.a1 p.s1 p.a2 p.s2) = false) (h2 : (!smallB p.a3 p.s3 p.a4 p.s4) = false) : smallP p = true := by
  unfold smallP; simp at h1 h2; rw [h1, h2]; rfl
theorem smallP_n1 {p : RawP} (h1 : (!smallB p.a1 p.s1 p.a2 p.s2) = true) : smallP p = false := by
  unfold smallP; simp at h1; rw [h1]; rfl
theorem smallP_n2 {p : RawP} (h1 : (!smallB p.a3 p.s3 p.a4 p.s4) = true) : smallP p = false := by
  unfold smallP; simp at h1; rw [h1, Bool.and_false]
/-- a point that is canonical -/
def isP (p : RawP) (q : P2) : Prop := (p.a1 = decide (q.1.num < 0) ∧ p.s1 = mag q.1.num.natAbs ∧ p.a2 = false ∧ p.s2 = dm q.1) ∧ (p.a3 = decide (q.2.num < 0) ∧ p.s3 = mag q.2.num.natAbs ∧ p.a4 = false ∧ p.s4 = dm q.2)
theorem smallP_q {p : RawP} (h : smallP p = true) : ∃ q : P2, isP p q ∧ szP q ≤ 8 := by
  unfold smallP at h
  rw [Bool.and_eq_true] at h
  obtain ⟨x, hx, hx2⟩ := small_q h.1
  obtain ⟨y, hy, hy2⟩ := small_q h.2
  exact ⟨(x, y), ⟨hx, hy⟩, szPm hx2 hy2⟩
theorem known_1 : meetP ((((0 : Int) : Rat), ((0 : Int) : Rat)), (((4 : Int) : Rat), ((4 : Int) : Rat))) ((((0 : Int) : Rat), ((4 : Int) : Rat)), (((4 : Int) : Rat), ((0 : Int) : Rat))) = (2, ((((2 : Int) : Rat), ((2 : Int) : Rat)), (((2 : Int) : Rat), ((2 : Int) : Rat)))) :=
  of_decide_eq_true (by kernel_rfl)
theorem known_2 : meetP ((((0 : Int) : Rat), ((0 : Int) : Rat)), (((4 : Int) : Rat), ((0 : Int) : Rat))) ((((2 : Int) : Rat), ((0 : Int) : Rat)), (((6 : Int) : Rat), ((0 : Int) : Rat))) = (3, ((((2 : Int) : Rat), ((0 : Int) : Rat)), (((4 : Int) : Rat), ((0 : Int) : Rat)))) :=
  of_decide_eq_true (by kernel_rfl)
theorem known_3 : nearP (((0 : Int) : Rat), ((1 : Int) : Rat)) ((((0 : Int) : Rat), ((0 : Int) : Rat)), (((2 : Int) : Rat), ((1 : Int) : Rat))) = ((Rat.divInt 2 5, Rat.divInt 1 5), Rat.divInt 1 5) :=
  of_decide_eq_true (by kernel_rfl)
end Go.Via
namespace Go.Via
theorem kn_szI {a b c d : Int} (ha : a.natAbs < 256) (hb : b.natAbs < 256) (hc : c.natAbs < 256) (hd : d.natAbs < 256) : szS (((a : Rat), (b : Rat)), ((c : Rat), (d : Rat))) ≤ 2 := by
  have key : ∀ z : Int, z.natAbs < 256 → szQ (z : Rat) ≤ 2 := fun z hz => Nat.le_trans (szQ_cast z) (by have : nb z.natAbs ≤ 1 := nb_le (by omega); omega)
  exact szSm (szPm (key a ha) (key b hb)) (szPm (key c hc) (key d hd))
theorem kn_sz1 : szS ((((0 : Int) : Rat), ((0 : Int) : Rat)), (((4 : Int) : Rat), ((4 : Int) : Rat))) ≤ 2 := kn_szI (by decide) (by decide) (by decide) (by decide)
theorem kn_sz2 : szS ((((0 : Int) : Rat), ((4 : Int) : Rat)), (((4 : Int) : Rat), ((0 : Int) : Rat))) ≤ 2 := kn_szI (by decide) (by decide) (by decide) (by decide)
theorem kn_sz3 : szS ((((0 : Int) : Rat), ((0 : Int) : Rat)), (((4 : Int) : Rat), ((0 : Int) : Rat))) ≤ 2 := kn_szI (by decide) (by decide) (by decide) (by decide)
theorem kn_sz4 : szS ((((2 : Int) : Rat), ((0 : Int) : Rat)), (((6 : Int) : Rat), ((0 : Int) : Rat))) ≤ 2 := kn_szI (by decide) (by decide) (by decide) (by decide)
theorem kn_sz5 : szP (((0 : Int) : Rat), ((1 : Int) : Rat)) ≤ 2 := szS1 (s := ((((0 : Int) : Rat), ((1 : Int) : Rat)), (((0 : Int) : Rat), ((1 : Int) : Rat)))) (kn_szI (by decide) (by decide) (by decide) (by decide))
theorem kn_sz6 : szS ((((0 : Int) : Rat), ((0 : Int) : Rat)), (((2 : Int) : Rat), ((1 : Int) : Rat))) ≤ 2 := kn_szI (by decide) (by decide) (by decide) (by decide)
end Go.Via
set_option linter.unusedVariables false
namespace Go.Proofs.YthnlafhnpphdhaaGreatDoor
open Go Go.RowKit Go.Via Go.ChangeShapes Go.WideShapes
theorem below_kept {w w' : World} (h : Below w.heap.size w w') (may : MemPlace → Prop) : w.keptBut w' may := by
  have hb : ∀ b, b < w.heap.size → w'.heap[b]? = w.heap[b]? := h.block
  refine ⟨h.os, h.output, fun i hi => ?_⟩
  rw [hb i hi]
  split
  · rename_i e1 e2
    rw [e1] at e2; cases e2
    exact ⟨rfl, rfl, rfl, fun _ _ => rfl⟩
  · rename_i e1 e2
    rw [e1] at e2; cases e2
    exact Or.inr ⟨rfl, rfl⟩
  · rfl
section
variable {H : Type} {enc : TypeId × Value → H} {w : World} {base : Nat} {spare : Nat → Bool} {held : Bool}
def dB (b : Bool) : DataW H := .lit (.bool b)
def dS (s : ByteArray) : DataW H := .lit (.string s.data.toList)
def dI (b : Bool) (s : ByteArray) : DataW H := .agg [dB b, dS s]
def dQ (b1 : Bool) (s1 : ByteArray) (b2 : Bool) (s2 : ByteArray) : DataW H := .agg [dI b1 s1, dI b2 s2]
def dP (p : RawP) : DataW H := .agg [dQ p.a1 p.s1 p.a2 p.s2, dQ p.a3 p.s3 p.a4 p.s4]
theorem ce23 : Tryz.prog.cellsOf 23 = 2 := by kernel_rfl
theorem ce25 : Tryz.prog.cellsOf 25 = 4 := by kernel_rfl
theorem ce27 : Tryz.prog.cellsOf 27 = 8 := by kernel_rfl
theorem ce4 : Tryz.prog.cellsOf 4 = 1 := by kernel_rfl
theorem ce9 : Tryz.prog.cellsOf 9 = 1 := by kernel_rfl
theorem o23 {fuel : Nat} {cs : List Value} {x : DataW H × List MemPlace} (h : DataW.trod enc Tryz.prog w base spare held fuel 23 cs = some x) :
    ∃ b s, cs = [.bool b, .string s] ∧ x = (dI b s, []) ∧ s.size ≤ maxLen := by
  obtain ⟨y0, y1, n, rfl, hl, h0, h1⟩ := trod_struct2 Tryz.underlying23 h
  rw [ce4] at h0
  rw [ce9] at h1
  rw [ce23] at hl
  obtain ⟨b, e0, rfl⟩ := DataW.trod_bool Tryz.underlying4 h0
  obtain ⟨s, e1, rfl, hs⟩ := DataW.trod_string Tryz.underlying9 h1
  refine ⟨b, s, ?_, rfl, hs⟩
  match cs, hl with
  | [c0, c1], _ => simp at e0 e1; simp [e0, e1]
theorem o25 {fuel : Nat} {cs : List Value} {x : DataW H × List MemPlace} (h : DataW.trod enc Tryz.prog w base spare held fuel 25 cs = some x) :
    ∃ b1 s1 b2 s2, cs = [.bool b1, .string s1, .bool b2, .string s2] ∧ x = (dQ b1 s1 b2 s2, []) ∧ s1.size ≤ maxLen ∧ s2.size ≤ maxLen := by
  obtain ⟨y0, y1, n, rfl, hl, h0, h1⟩ := trod_struct2 Tryz.underlying25 h
  rw [ce23] at h0 h1
  rw [ce25] at hl
  obtain ⟨b1, s1, e0, rfl, z1⟩ := o23 h0
  obtain ⟨b2, s2, e1, rfl, z2⟩ := o23 h1
  refine ⟨b1, s1, b2, s2, ?_, rfl, z1, z2⟩
  match cs, hl with
  | [c0, c1, c2, c3], _ => simp at e0 e1; simp [e0, e1]
theorem o27 {fuel : Nat} {cs : List Value} {x : DataW H × List MemPlace} (h : DataW.trod enc Tryz.prog w base spare held fuel 27 cs = some x) :
    ∃ p : RawP, cs = rpC p ∧ x = (dP p, []) ∧ (p.s1.size ≤ maxLen ∧ p.s2.size ≤ maxLen ∧ p.s3.size ≤ maxLen ∧ p.s4.size ≤ maxLen) := by
  obtain ⟨y0, y1, n, rfl, hl, h0, h1⟩ := trod_struct2 Tryz.underlying27 h
  rw [ce25] at h0 h1
  rw [ce27] at hl
  obtain ⟨b1, s1, b2, s2, e0, rfl, z1, z2⟩ := o25 h0
  obtain ⟨b3, s3, b4, s4, e1, rfl, z3, z4⟩ := o25 h1
  refine ⟨⟨b1, s1, b2, s2, b3, s3, b4, s4⟩, ?_, rfl, z1, z2, z3, z4⟩
  match cs, hl with
  | [c0, c1, c2, c3, c4, c5, c6, c7], _ => simp at e0 e1; simp [rpC, e0, e1]
theorem s4 (n : Nat) (b : Bool) : DataW.trod enc Tryz.prog w base spare held (n + 1) 4 [.bool b] = some (dB b, []) := by
  simp [DataW.trod, Tryz.underlying4, dB]
theorem wB (b : Bool) : (dB b : DataW H).weights Tryz.prog 4 = [] := by rw [dB, DataW.weights]; intro x h; cases h
theorem wS (s : ByteArray) : (dS s : DataW H).weights Tryz.prog 9 = [s.size] := by rw [dS, DataW.weights]; show [s.data.toList.length] = [s.size]; rw [Array.length_toList]; rfl
theorem wI (b : Bool) (s : ByteArray) : (dI b s : DataW H).weights Tryz.prog 23 = [s.size] := by
  rw [dI, DataW.weights, Tryz.underlying23]
  show DataW.weightsEach Tryz.prog [4, 9] [dB b, dS s] = _
  rw [DataW.weightsEach, DataW.weightsEach, DataW.weightsEach, wB, wS]
  rfl
  all_goals (intros; simp_all)
theorem wQ (b1 b2 : Bool) (s1 s2 : ByteArray) : (dQ b1 s1 b2 s2 : DataW H).weights Tryz.prog 25 = [s1.size, s2.size] := by
  rw [dQ, DataW.weights, Tryz.underlying25]
  show DataW.weightsEach Tryz.prog [23, 23] [dI b1 s1, dI b2 s2] = _
  rw [DataW.weightsEach, DataW.weightsEach, DataW.weightsEach, wI, wI]
  rfl
  all_goals (intros; simp_all)
theorem wP (p : RawP) : (dP p : DataW H).weights Tryz.prog 27 = [p.s1.size, p.s2.size, p.s3.size, p.s4.size] := by
  rw [dP, DataW.weights, Tryz.underlying27]
  show DataW.weightsEach Tryz.prog [25, 25] [dQ p.a1 p.s1 p.a2 p.s2, dQ p.a3 p.s3 p.a4 p.s4] = _
  rw [DataW.weightsEach, DataW.weightsEach, DataW.weightsEach, wQ, wQ]
  rfl
  all_goals (intros; simp_all)
end
end Go.Proofs.YthnlafhnpphdhaaGreatDoor
set_option linter.unusedVariables false
namespace Go.Proofs.YthnlafhnpphdhaaGreatDoor
open Go.ChangeShapes Go.WideShapes Go.ChangeAt Go.RowKit
theorem own : ownKnob Tryz.prog.godebug = none := by kernel_rfl
/-- A WORLD FOR THE WITNESS: the settled one, the two listed tables holding what their initialisers lay. -/
noncomputable def laidWorld (os : Os) : World :=
  let w0 := World.holding Tryz.prog os ⟨#[], #[], []⟩
  { w0 with heap := (w0.heap.modify 2 fun
      | .cells _ t frozen => .cells (List.map (Value.int .u8) ([128, 191, 160, 191, 128, 159, 144, 191, 128, 143] ++ List.replicate 22 0)).toArray t frozen
      | o => o).modify 1 fun
      | .cells _ t frozen => .cells (List.map (fun (z : Nat) => Value.int .u8 z) Go.Pinned.utf8FirstZ).toArray t frozen
      | o => o }
set_option maxRecDepth 100000 in
theorem laid_met (os : Os) (args : Array Value) : laidMet Tryz.prog [("unicode/utf8.acceptRanges", Rows.laid_unicode_utf8_acceptRanges), ("unicode/utf8.first", Rows.laid_unicode_utf8_first)] ((laidWorld os).forCall (fun _ _ => 0) ⟨#[], args, []⟩).memory :=
  laidMet_of_run' 8 (by kernel_rfl) (by kernel_rfl)
end Go.Proofs.YthnlafhnpphdhaaGreatDoor
set_option linter.unusedVariables false
namespace Go.Proofs.YthnlafhnpphdhaaGreatDoor
open Go Go.RowKit Go.Via Go.ChangeShapes Go.WideShapes
section
variable {H : Type} {enc : TypeId × Value → H} {w : World} {base : Nat} {spare : Nat → Bool} {held : Bool}
end
end Go.Proofs.YthnlafhnpphdhaaGreatDoor
set_option linter.unusedVariables false
namespace Go.Proofs.YthnlafhnpphdhaaGreatDoor
open Go Go.RowKit Go.Via Go.ChangeShapes Go.WideShapes Go.Deep
/-! a slice of points, as it comes in -/
instance : Inhabited RawP := ⟨⟨false, ⟨#[]⟩, false, ⟨#[]⟩, false, ⟨#[]⟩, false, ⟨#[]⟩⟩⟩
theorem RLc_at {l : List RawP} {i r : Nat} {p : RawP} (h : l[i]? = some p) (hr : r < 8) : (RLc l)[i * 8 + r]? = (rpC p)[r]? := by
  obtain ⟨m, hm⟩ := RLc_get8 h
  rw [← List.getElem?_drop, hm, List.getElem?_append_left (by simp [rpC]; omega)]
theorem rel_nil (w : World) : LRel w [⟨none, 27, [] ++ RLc [], 0, false⟩] w := by
  refine ⟨Below.refl _ _, fun k b hk => ?_, fun i j g bi bj hij hi hj ho => ?_⟩
  · cases k with
    | zero => simp at hk; subst hk; exact ⟨fun g hg => (by cases hg), fun _ => ⟨rfl, rfl⟩⟩
    | succ k => simp at hk
  · cases i with
    | zero => simp at hi; subst hi; cases ho
    | succ i => simp at hi
/-- a row of raw points in the world: a known block -/
theorem rel_raw {w : World} {a : Addr} {raw : List RawP} (hne : raw ≠ []) (h : ∀ (i : Nat) (p : RawP), raw[i]? = some p → w.cells? 0 (a.add (i * 8)) 8 = some (rpC p)) :
    ∃ (g : Nat) (e0 : TypeId) (pre : List Value) (N : Nat), a = ⟨g, pre.length, none⟩ ∧ LRel w [⟨some g, e0, pre ++ RLc raw, N, false⟩] w := by
  obtain ⟨p0, l, rfl⟩ := List.exists_cons_of_ne_nil hne
  have cellAt : ∀ (i r : Nat) (p : RawP), (p0 :: l)[i]? = some p → r < 8 → w.cell? ((a.add (i * 8)).add r) = (rpC p)[r]? := fun i r p hp hr => by
    obtain ⟨_, _, hc⟩ := World.cells?_some (h i p hp)
    exact hc r hr
  have h0 := cellAt 0 0 p0 rfl (by omega)
  rw [show (a.add (0 * 8)).add 0 = a by simp [Addr.add]] at h0
  have h0' : w.cell? a = some (.bool p0.a1) := h0
  obtain ⟨g, off, spot⟩ := a
  unfold World.cell? at h0'
  split at h0'
  · rename_i cur e0 fr heq
    split at h0'
    · cases h0'
    · rename_i hsp
      have hsn : spot = none := by cases spot with | none => rfl | some z => simp at hsp
      subst hsn
      have hoff : off < cur.size := (Array.getElem?_eq_some_iff.1 h0').1
      have hpl : (cur.toList.take off).length = off := by simp; omega
      refine ⟨g, e0, cur.toList.take off, cur.size, by rw [hpl], ?_⟩
      refine ⟨Below.refl _ _, fun k b hk => ?_, fun i j g bi bj hij hi hj ho => ?_⟩
      · cases k with
        | succ k => simp at hk
        | zero =>
          simp only [List.getElem?_cons_zero, Option.some.injEq] at hk
          subst hk
          refine ⟨fun g' hg' => ?_, fun hg' => (by cases hg')⟩
          simp only [Option.some.injEq] at hg'
          subst hg'
          refine ⟨⟨cur, ⟨fr, heq, fun h => by cases h⟩, rfl, ?_⟩, fun h => by cases h⟩
          refine List.ext_getElem? fun j => ?_
          have hlen : (cur.toList.take off ++ RLc (p0 :: l)).length = off + (p0 :: l).length * 8 := by rw [List.length_append, hpl, RLc_length]
          show (cur.toList.take (cur.toList.take off ++ RLc (p0 :: l)).length)[j]? = _
          rw [hlen]
          by_cases hj : j < off
          · rw [List.getElem?_append_left (by rw [hpl]; exact hj), List.getElem?_take, List.getElem?_take, if_pos (by omega), if_pos hj]
          · rw [List.getElem?_append_right (by rw [hpl]; omega), hpl, List.getElem?_take]
            split
            · rename_i hj2
              have hi : (j - off) / 8 < (p0 :: l).length := by omega
              obtain ⟨p, hp⟩ : ∃ p, (p0 :: l)[(j - off) / 8]? = some p := ⟨_, List.getElem?_eq_getElem hi⟩
              have hr : (j - off) % 8 < 8 := Nat.mod_lt _ (by omega)
              have k1 := RLc_at hp hr
              have k2 := cellAt _ _ p hp hr
              have e1 : (j - off) / 8 * 8 + (j - off) % 8 = j - off := by omega
              rw [e1] at k1
              rw [k1, ← k2, add_lit, add_lit]
              unfold World.cell?
              simp only [heq]
              have e2 : off + (j - off) / 8 * 8 + (j - off) % 8 = j := by omega
              rw [e2]
              simp
            · rename_i hj2
              rw [List.getElem?_eq_none (by rw [RLc_length]; omega)]
      · cases i with
        | zero => simp at hi; subst hi; cases ho
        | succ i => simp at hi
  · cases h0'
theorem weightsAll_mem {H : Type} {P : Program} {e : TypeId} {n : Nat} : ∀ {l : List (DataW H)} {d : DataW H}, d ∈ l → n ∈ d.weights P e → n ∈ DataW.weightsAll P e l
  | x :: l, d, hd, hn => by
    rw [DataW.weightsAll, List.mem_append]
    rcases List.mem_cons.1 hd with rfl | hd
    · exact .inl hn
    · exact .inr (weightsAll_mem hd hn)
section
variable {H : Type} {enc : TypeId × Value → H} {w : World}
set_option maxRecDepth 20000 in
theorem openL {r : Reach} {b0 : Nat} {v : Value} {d : DataW H} {ps : List MemPlace} (hval : Value.okWide Tryz.prog w r b0 61 v) (hd : DataW.Trod enc Tryz.prog w 0 (fun _ => true) true 61 v d ps) :
    ∃ (raw : List RawP) (a : Option Addr) (b : Option Nat) (e0 : TypeId) (pre : List Value) (N cap : Nat), v = .slice a raw.length cap ∧ raw.length ≤ cap ∧ (raw ≠ [] → a = b.map fun g => ⟨g, pre.length, none⟩) ∧ LRel w [⟨b, e0, pre ++ RLc raw, N, false⟩] w ∧
      ∀ p ∈ raw, ∀ n ∈ [p.s1.size, p.s2.size, p.s3.size, p.s4.size], n ∈ d.weights Tryz.prog 61 := by
  obtain ⟨a0, len0, cap0, rfl⟩ := okWide_slice Tryz.underlying61 hval
  obtain ⟨fuel, hf⟩ := hd
  rcases open_slice Tryz.underlying61 hf with ⟨h1, h2⟩ | ⟨a, len, cap, m, n, D, Pl, h1, _, hl, _, hm, h2, hx⟩
  · have h1' : Value.slice a0 len0 cap0 = .slice none 0 0 := List.head_eq_of_cons_eq h1
    cases h1'
    exact ⟨[], none, none, 27, [], 0, 0, rfl, Nat.le_refl _, fun h => absurd rfl h, rel_nil w, fun p hp => by cases hp⟩
  · have h1' : Value.slice a0 len0 cap0 = .slice (some a) len cap := List.head_eq_of_cons_eq h1
    cases h1'
    cases h2
    have hm' : m = cap0 := by rw [hm]; rfl
    rw [ce27] at hx
    obtain ⟨f, hf⟩ := choose_lt (α := RawP) (n := len0) (p := fun i p => w.cells? 0 (a.add (i * 8)) 8 = some (rpC p) ∧ D i = dP p) (fun i hi => by
      obtain ⟨cs', k1, k2⟩ := hx i (by omega)
      obtain ⟨p, k3, k4, _⟩ := o27 k2
      exact ⟨p, by rw [k1, k3], (Prod.ext_iff.1 k4).1⟩)
    have hlen : ((List.range len0).map f).length = len0 := by simp
    have hget : ∀ (i : Nat) (p : RawP), ((List.range len0).map f)[i]? = some p → i < len0 ∧ p = f i := fun i p hp => by
      have hi : i < len0 := by rw [← hlen]; exact (List.getElem?_eq_some_iff.1 hp).1
      refine ⟨hi, ?_⟩
      rw [List.getElem?_map, List.getElem?_range hi] at hp
      exact (Option.some.inj hp).symm
    have hw : ∀ p ∈ (List.range len0).map f, ∀ n ∈ [p.s1.size, p.s2.size, p.s3.size, p.s4.size], n ∈ (DataW.slice ((List.range len0).map D) ((List.range (m - len0)).map fun j => D (len0 + j)) : DataW H).weights Tryz.prog 61 := fun p hp n hn => by
      obtain ⟨i, hi⟩ := List.mem_iff_getElem?.1 hp
      obtain ⟨hi1, hi2⟩ := hget i p hi
      rw [DataW.weights, Tryz.underlying61]
      refine List.mem_cons_of_mem _ (List.mem_append_left _ (weightsAll_mem (d := D i) (List.mem_map.2 ⟨i, List.mem_range.2 hi1, rfl⟩) ?_))
      rw [(hf i hi1).2, wP, ← hi2]
      exact hn
    by_cases h0 : len0 = 0
    · subst h0
      exact ⟨[], some a, none, 27, [], 0, cap0, rfl, Nat.zero_le _, fun h => absurd rfl h, rel_nil w, fun p hp => by cases hp⟩
    · obtain ⟨g, e0, pre, N, rfl, hL⟩ := rel_raw (w := w) (a := a) (raw := (List.range len0).map f) (fun e => h0 (by rw [← hlen, e]; rfl)) (fun i p hp => by
        obtain ⟨hi1, rfl⟩ := hget i p hp
        exact (hf i hi1).1)
      exact ⟨(List.range len0).map f, some ⟨g, pre.length, none⟩, some g, e0, pre, N, cap0, by rw [hlen], by rw [hlen]; exact hl, fun _ => rfl, hL, hw⟩
end
end Go.Proofs.YthnlafhnpphdhaaGreatDoor
set_option linter.unusedVariables false
namespace Go.Proofs.YthnlafhnpphdhaaGreatDoor
open Go Go.RowKit Go.Via
set_option maxRecDepth 20000 in
theorem c_law_small (b1 : Bool) (s1 : ByteArray) (b2 : Bool) (s2 : ByteArray) (hs1 : s1.size ≤ BIG) (hs2 : s2.size ≤ BIG) : PCall Tryz.prog 15 #[.agg #[.bool b1, .string s1, .bool b2, .string s2]] (.bool (smallB b1 s1 b2 s2)) := by
 unfold BIG at hs1 hs2
 refine ⟨by kernel_rfl, fun w => ?_⟩
 refine calls_at (args := [.agg #[.bool b1, .string s1, .bool b2, .string s2]]) Tryz.func15 rfl (Nat.le_of_ble_eq_true rfl) (LRel.nil w) ?_
 show At w ⟨17, [(0, .agg #[.bool b1, .string s1, .bool b2, .string s2])], []⟩ _
 refine at_seq ?_
 refine at_region ?_
 refine r_box [_, _, _, _] 4 (fun g => [⟨some g, 25, _, 4, true⟩]) rfl rfl rfl rfl rfl (fun _ => rfl) (fun g0 => ?_)
 refine r_assign rfl rfl rfl ?_
 refine run_nil ?_
 refine at_tn ?_
 refine at_seq ?_
 refine at_region ?_
 refine r_fieldAddr 0 0 0 rfl rfl rfl rfl rfl ti25 rfl rfl ?_
 refine r_fieldAddr 0 0 1 rfl rfl rfl rfl rfl ti23 rfl rfl ?_
 refine r_load 0 1 [_] rfl rfl rfl rfl ti9 rfl rfl rfl rfl ?_
 refine r_len rfl u9 rfl rfl ?_
 refine r_fieldAddr 0 0 2 rfl rfl rfl rfl rfl ti25 rfl rfl ?_
 refine r_fieldAddr 0 2 1 rfl rfl rfl rfl rfl ti23 rfl rfl ?_
 refine r_load 0 3 [_] rfl rfl rfl rfl ti9 rfl rfl rfl rfl ?_
 refine r_len rfl u9 rfl rfl ?_
 refine r_arith (r := ((s1.size + s2.size : Nat) : Int)) rfl rfl rfl rfl (congrArg some (wi (by omega) (by omega) (by omega))) ?_
 refine r_cmpInt rfl rfl rfl rfl rfl ?_
 refine r_move rfl rfl rfl ?_
 refine r_split 13 rfl (fun hb0 => ?_) (fun hb0 => ?_)
 ·
  have h8 : s1.size + s2.size ≤ 8 := by have := of_decide_eq_true hb0; omega
  refine r_load 0 0 [_, _, _, _] rfl rfl rfl rfl ti25 rfl rfl rfl rfl ?_
  refine r_pcall [_] rfl rfl rfl (c_ref02_Check b1 s1 b2 s2 (by omega) (by omega)) ?_
  refine r_pickT rfl rfl rfl rfl ?_
  refine r_assign rfl rfl rfl ?_
  refine run_nil ?_
  refine at_tn ?_
  refine at_ret ?_
  refine at_end1 rfl (res_tmp rfl) (fun w hL => ⟨?_, hL.below⟩)
  exact congrArg (fun b => Ending.returned (.bool b)) (small_T hb0)
 ·
  refine r_no rfl rfl rfl ?_
  refine r_no rfl rfl rfl ?_
  refine r_pickF rfl rfl rfl rfl ?_
  refine r_assign rfl rfl rfl ?_
  refine run_nil ?_
  refine at_tn ?_
  refine at_ret ?_
  refine at_end1 rfl (res_tmp rfl) (fun w hL => ⟨?_, hL.below⟩)
  exact congrArg (fun b => Ending.returned (.bool b)) (small_F hb0)
set_option maxRecDepth 20000 in
theorem c_law_pointsG (l : List RawP) (hl : ∀ p ∈ l, szR p) (hn : l.length ≤ 1000) (a : Option Addr) (b : Option Nat) (e0 : TypeId) (pre : List Value) (N cap : Nat) (hc : l.length ≤ cap) (ha : l ≠ [] → a = b.map fun g => ⟨g, pre.length, none⟩) : SCall Tryz.prog 14 [⟨b, e0, pre ++ RLc l, N, false⟩] [.slice a l.length cap] Unit (fun _ => .bool (l.all smallP)) (fun _ => []) := by
 refine ⟨by kernel_rfl, fun w hL0 => ?_⟩
 refine calls_at (args := [.slice a l.length cap]) Tryz.func14 rfl (Nat.le_of_ble_eq_true rfl) hL0 ?_
 show At w ⟨26, [(0, .slice a l.length cap)], [⟨b, e0, pre ++ RLc l, N, false⟩]⟩ _
 refine at_seq ?_
 refine at_region ?_
 refine r_assign rfl rfl rfl ?_
 refine run_nil ?_
 refine at_tn ?_
 refine at_seq ?_
 refine at_seq ?_
 refine at_region ?_
 refine r_assign rfl rfl rfl ?_
 refine run_nil ?_
 refine at_tn ?_
 refine at_block ?_
 refine enterL (nt := 26) (ι := {i : Nat // i ≤ l.length ∧ ∀ j, j < i → ∀ q, l[j]? = some q → smallP q = true}) (fun ⟨i, hi, hs⟩ => [(0, .slice a l.length cap), (3, .int .i64 (i : Nat))]) (fun ⟨i, hi, hs⟩ => [⟨b, e0, pre ++ RLc l, N, false⟩]) (fun ⟨i, hi, hs⟩ => l.length - i) ⟨0, Nat.zero_le _, fun j hj => absurd hj (by omega)⟩ ⟨rfl, rfl, trivial⟩ (Weak.refl _) ?_
 rintro ⟨i, hi, hs⟩
 show At _ ⟨26, [(0, .slice a l.length cap), (3, .int .i64 (i : Nat))], [⟨b, e0, pre ++ RLc l, N, false⟩]⟩ _
 refine at_seq ?_
 refine at_seq ?_
 refine at_region ?_
 refine r_move rfl rfl rfl ?_
 refine r_move rfl rfl rfl ?_
 refine r_lenV u61 rfl rfl rfl ?_
 refine r_cmpInt rfl rfl rfl rfl rfl ?_
 refine run_nil ?_
 refine at_tn ?_
 refine at_cond rfl (fun hb1 => ?_) (fun hb1 => ?_)
 ·
  have hlt : i < l.length := (by have := of_decide_eq_true hb1; omega)
  obtain ⟨p, hp⟩ : ∃ p, l[i]? = some p := ⟨l[i], List.getElem?_eq_getElem hlt⟩
  have hz := hl p (List.mem_of_getElem? hp)
  refine at_base 0 rfl (fun hbase => ?_)
  obtain ⟨gb, hgb⟩ := pts_baseP hbase (by omega)
  replace hgb : b = some gb := hgb
  subst hgb
  obtain rfl : a = some ⟨gb, pre.length, none⟩ := ha (fun e => by rw [e] at hlt; cases hlt)
  refine at_skip ?_
  refine at_tn ?_
  refine at_seq ?_
  refine at_block ?_
  refine at_seq ?_
  refine at_region ?_
  refine r_move rfl rfl rfl ?_
  refine r_move rfl rfl rfl ?_
  refine r_indexAddr 0 (pre.length + i * 8) u61 ti27 rfl rfl rfl rfl rfl (by omega) (by omega) (pre_ne (RLc_ne (by omega))) (by show pre.length + Int.toNat _ * 8 = _; omega) ?_
  refine r_fieldAddr 0 (pre.length + i * 8) 0 rfl rfl rfl rfl rfl ti27 rfl rfl ?_
  refine r_load (v := .agg #[.bool p.a1, .string p.s1, .bool p.a2, .string p.s2]) 0 (pre.length + (i * 8 + 0)) _ rfl rfl rfl rfl ti25 (pre_get (RLc_get1 hp) rfl) rfl (by decide) rfl ?_
  refine r_pcall [_] rfl rfl rfl (c_law_small p.a1 p.s1 p.a2 p.s2 hz.1 hz.2.1) ?_
  refine r_not rfl rfl rfl ?_
  refine r_move rfl rfl rfl ?_
  refine r_split 17 rfl (fun hb2 => ?_) (fun hb2 => ?_)
  ·
   have hf := smallP_n1 (p := p) hb2
   refine r_no rfl rfl rfl ?_
   refine r_no rfl rfl rfl ?_
   refine r_no rfl rfl rfl ?_
   refine r_no rfl rfl rfl ?_
   refine r_no rfl rfl rfl ?_
   refine r_no rfl rfl rfl ?_
   refine r_no rfl rfl rfl ?_
   refine r_pickT rfl rfl rfl rfl ?_
   refine run_nil ?_
   refine at_tn ?_
   refine at_condT rfl ?_
   refine at_seq ?_
   refine at_region ?_
   refine r_assign rfl rfl rfl ?_
   refine run_nil ?_
   refine at_tn ?_
   refine at_ret ?_
   refine at_br ?_
   refine at_tr ?_
   refine at_tr ?_
   refine at_br ?_
   refine at_tr ?_
   refine at_end1 rfl (res_tmp rfl) (fun w hL => ⟨(), ?_, hL.picks [] trivial rfl rfl⟩)
   exact congrArg (fun b => Ending.returned (.bool b)) (pts_no hp hf)
  ·
   have hk1 := hb2
   refine r_move rfl rfl rfl ?_
   refine r_move rfl rfl rfl ?_
   refine r_indexAddr 0 (pre.length + i * 8) u61 ti27 rfl rfl rfl rfl rfl (by omega) (by omega) (pre_ne (RLc_ne (by omega))) (by show pre.length + Int.toNat _ * 8 = _; omega) ?_
   refine r_fieldAddr 0 (pre.length + i * 8) 4 rfl rfl rfl rfl rfl ti27 rfl rfl ?_
   refine r_load (v := .agg #[.bool p.a3, .string p.s3, .bool p.a4, .string p.s4]) 0 (pre.length + (i * 8 + 4)) _ rfl rfl rfl rfl ti25 (pre_get (RLc_get2 hp) rfl) rfl (by decide) rfl ?_
   refine r_pcall [_] rfl rfl rfl (c_law_small p.a3 p.s3 p.a4 p.s4 hz.2.2.1 hz.2.2.2) ?_
   refine r_not rfl rfl rfl ?_
   refine r_pickF rfl rfl rfl rfl ?_
   refine run_nil ?_
   refine at_tn ?_
   refine at_cond rfl (fun hb3 => ?_) (fun hb3 => ?_)
   ·
    have hf := smallP_n2 (p := p) hb3
    refine at_seq ?_
    refine at_region ?_
    refine r_assign rfl rfl rfl ?_
    refine run_nil ?_
    refine at_tn ?_
    refine at_ret ?_
    refine at_br ?_
    refine at_tr ?_
    refine at_tr ?_
    refine at_br ?_
    refine at_tr ?_
    refine at_end1 rfl (res_tmp rfl) (fun w hL => ⟨(), ?_, hL.picks [] trivial rfl rfl⟩)
    exact congrArg (fun b => Ending.returned (.bool b)) (pts_no hp hf)
   ·
    have ht := smallP_mk (p := p) hk1 hb3
    refine at_skip ?_
    refine at_bn ?_
    refine at_tn ?_
    refine at_region ?_
    refine r_move rfl rfl rfl ?_
    refine r_arith (r := ((i + 1 : Nat) : Int)) rfl rfl rfl rfl (congrArg some (wi (by omega) (by omega) (by omega))) ?_
    refine r_assign rfl rfl rfl ?_
    refine run_nil ?_
    refine at_tn ?_
    exact nextL ⟨i + 1, hlt, pts_step hs hp ht⟩ (by simp only []; omega) ⟨rfl, rfl, trivial⟩ (Weak.refl _)
 ·
  have hge : i = l.length := (by have := of_decide_eq_false hb1; omega)
  subst hge
  refine at_exit ?_
  refine at_te ?_
  refine at_te ?_
  refine at_be ?_
  refine at_tn ?_
  refine at_seq ?_
  refine at_region ?_
  refine r_assign rfl rfl rfl ?_
  refine run_nil ?_
  refine at_tn ?_
  refine at_ret ?_
  refine at_end1 rfl (res_tmp rfl) (fun w hL => ⟨(), ?_, hL.picks [] trivial rfl rfl⟩)
  exact congrArg (fun b => Ending.returned (.bool b)) (pts_yes hs)
set_option maxRecDepth 20000 in
theorem c_law_segment (a b c d : Int) (ha1 : -9223372036854775808 ≤ a) (ha2 : a ≤ 9223372036854775807) (hb1 : -9223372036854775808 ≤ b) (hb2 : b ≤ 9223372036854775807) (hc1 : -9223372036854775808 ≤ c) (hc2 : c ≤ 9223372036854775807) (hd1 : -9223372036854775808 ≤ d) (hd2 : d ≤ 9223372036854775807) : PCall Tryz.prog 58 #[.int .i64 a, .int .i64 b, .int .i64 c, .int .i64 d] (Sg (((a : Rat), (b : Rat)), ((c : Rat), (d : Rat)))) := by
 refine ⟨by kernel_rfl, fun w => ?_⟩
 refine calls_at (args := [.int .i64 a, .int .i64 b, .int .i64 c, .int .i64 d]) Tryz.func58 rfl (Nat.le_of_ble_eq_true rfl) (LRel.nil w) ?_
 show At w ⟨16, [(0, .int .i64 a), (1, .int .i64 b), (2, .int .i64 c), (3, .int .i64 d)], []⟩ _
 refine at_seq ?_
 refine at_region ?_
 refine r_alloc [_, _, _, _, _, _, _, _, _, _, _, _, _, _, _, _] 16 (fun g => [⟨some g, 36, _, 16, true⟩]) rfl rfl z36 rfl rfl (fun _ => rfl) (fun g0 => ?_)
 refine run_nil ?_
 refine at_tn ?_
 refine at_seq ?_
 refine at_region ?_
 refine r_move rfl rfl rfl ?_
 refine r_move rfl rfl rfl ?_
 refine r_pcall [_, _] rfl rfl rfl (c_ref07_At a b ha1 ha2 hb1 hb2) ?_
 refine r_move rfl rfl rfl ?_
 refine r_move rfl rfl rfl ?_
 refine r_pcall [_, _] rfl rfl rfl (c_ref07_At c d hc1 hc2 hd1 hd2) ?_
 refine r_build [(0, _), (1, _)] rfl rfl rfl (bd36_2) ?_
 refine r_store rfl 0 0 [⟨some g0, 36, _, 16, true⟩] [_, _, _, _, _, _, _, _, _, _, _, _, _, _, _, _] rfl rfl rfl rfl ti36 rfl rfl rfl rfl rfl ?_
 refine run_nil ?_
 refine at_tn ?_
 refine at_ret ?_
 refine at_end1 rfl (res_cell 0 rfl rfl ti36 (vs := [_, _, _, _, _, _, _, _, _, _, _, _, _, _, _, _]) rfl rfl (Nat.le_of_ble_eq_true rfl) rfl) (fun w hL => ⟨?_, hL.below⟩)
 exact rfl
end Go.Proofs.YthnlafhnpphdhaaGreatDoor
set_option linter.unusedVariables false
namespace Go.Proofs.YthnlafhnpphdhaaGreatDoor
open Go Go.RowKit Go.Via
set_option maxRecDepth 20000 in
theorem c_law_known  : PCall Tryz.prog 13 #[] (.bool true) := by
 refine ⟨by kernel_rfl, fun w => ?_⟩
 refine calls_at (args := []) Tryz.func13 rfl (Nat.le_of_ble_eq_true rfl) (LRel.nil w) ?_
 show At w ⟨50, [], []⟩ _
 refine at_seq ?_
 refine at_region ?_
 refine r_assign rfl rfl rfl ?_
 refine run_nil ?_
 refine at_tn ?_
 refine at_seq ?_
 refine at_region ?_
 refine r_pcall [_, _, _, _] rfl rfl rfl (c_law_segment 0 0 4 4 (by omega) (by omega) (by omega) (by omega) (by omega) (by omega) (by omega) (by omega)) ?_
 refine r_pcall [_, _, _, _] rfl rfl rfl (c_law_segment 0 4 4 0 (by omega) (by omega) (by omega) (by omega) (by omega) (by omega) (by omega) (by omega)) ?_
 refine r_pcall [_, _] rfl rfl rfl (c_plane_Meet _ _ (Nat.le_trans kn_sz1 (Nat.le_of_ble_eq_true rfl)) (Nat.le_trans kn_sz2 (Nat.le_of_ble_eq_true rfl))) ?_
 refine r_know 7 (Mt (2, ((((2 : Int) : Rat), ((2 : Int) : Rat)), (((2 : Int) : Rat), ((2 : Int) : Rat))))) rfl (congrArg Mt known_1) ?_
 refine r_alloc [_, _, _, _, _, _, _, _, _, _, _, _, _, _, _, _, _] 17 (fun g => [⟨some g, 40, _, 17, true⟩]) rfl rfl z40 rfl rfl (fun _ => rfl) (fun g0 => ?_)
 refine r_store rfl 0 0 [⟨some g0, 40, _, 17, true⟩] [_, _, _, _, _, _, _, _, _, _, _, _, _, _, _, _, _] rfl rfl rfl rfl ti40 rfl rfl rfl rfl rfl ?_
 refine run_nil ?_
 refine at_tn ?_
 refine at_seq ?_
 refine at_region ?_
 refine r_pcall [_, _, _, _] rfl rfl rfl (c_law_segment 0 0 4 0 (by omega) (by omega) (by omega) (by omega) (by omega) (by omega) (by omega) (by omega)) ?_
 refine r_pcall [_, _, _, _] rfl rfl rfl (c_law_segment 2 0 6 0 (by omega) (by omega) (by omega) (by omega) (by omega) (by omega) (by omega) (by omega)) ?_
 refine r_pcall [_, _] rfl rfl rfl (c_plane_Meet _ _ (Nat.le_trans kn_sz3 (Nat.le_of_ble_eq_true rfl)) (Nat.le_trans kn_sz4 (Nat.le_of_ble_eq_true rfl))) ?_
 refine r_know 10 (Mt (3, ((((2 : Int) : Rat), ((0 : Int) : Rat)), (((4 : Int) : Rat), ((0 : Int) : Rat))))) rfl (congrArg Mt known_2) ?_
 refine r_alloc [_, _, _, _, _, _, _, _, _, _, _, _, _, _, _, _, _] 17 (fun g => [_, ⟨some g, 40, _, 17, true⟩]) rfl rfl z40 rfl rfl (fun _ => rfl) (fun g1 => ?_)
 refine r_store rfl 1 0 [_, ⟨some g1, 40, _, 17, true⟩] [_, _, _, _, _, _, _, _, _, _, _, _, _, _, _, _, _] rfl rfl rfl rfl ti40 rfl rfl rfl rfl rfl ?_
 refine run_nil ?_
 refine at_tn ?_
 refine at_seq ?_
 refine at_region ?_
 refine r_pcall [_, _] rfl rfl rfl (c_ref07_At 0 1 (by omega) (by omega) (by omega) (by omega)) ?_
 refine r_pcall [_, _, _, _] rfl rfl rfl (c_law_segment 0 0 2 1 (by omega) (by omega) (by omega) (by omega) (by omega) (by omega) (by omega) (by omega)) ?_
 refine r_pcall [_, _] rfl rfl rfl (c_plane_Nearest _ _ (Nat.le_trans kn_sz5 (Nat.le_of_ble_eq_true rfl)) (Nat.le_trans kn_sz6 (Nat.le_of_ble_eq_true rfl))) ?_
 refine r_know 14 (.tuple #[Pt (Rat.divInt 2 5, Rat.divInt 1 5), Q (Rat.divInt 1 5)]) rfl (by rw [known_3]) ?_
 refine r_move rfl rfl rfl ?_
 refine r_extract (vs := [_, _]) rfl rfl rfl rfl ?_
 refine r_extract (vs := [_, _]) rfl rfl rfl rfl ?_
 refine r_alloc [_, _, _, _, _, _, _, _] 8 (fun g => [_, _, ⟨some g, 27, _, 8, true⟩]) rfl rfl z27 rfl rfl (fun _ => rfl) (fun g2 => ?_)
 refine r_alloc [_, _, _, _] 4 (fun g => [_, _, _, ⟨some g, 25, _, 4, true⟩]) rfl rfl z25 rfl rfl (fun _ => rfl) (fun g3 => ?_)
 refine r_store rfl 2 0 [_, _, ⟨some g2, 27, _, 8, true⟩, _] [_, _, _, _, _, _, _, _] rfl rfl rfl rfl ti27 rfl rfl rfl rfl rfl ?_
 refine r_store rfl 3 0 [_, _, _, ⟨some g3, 25, _, 4, true⟩] [_, _, _, _] rfl rfl rfl rfl ti25 rfl rfl rfl rfl rfl ?_
 refine run_nil ?_
 refine at_tn ?_
 refine at_seq ?_
 refine at_drawn (l' := (⟨_,_,_,_,_,_⟩ :: ⟨_,_,_,_,_,_⟩ :: ⟨_,_,_,_,_,_⟩ :: ⟨_,_,_,_,_,_⟩ :: ⟨_,_,_,_,_,_⟩ :: ⟨_,_,_,_,_,_⟩ :: ⟨_,_,_,_,_,_⟩ :: ⟨_,_,_,_,_,_⟩ :: ⟨_,_,_,_,_,_⟩ :: ⟨_,_,_,_,_,_⟩ :: ⟨_,_,_,_,_,_⟩ :: ⟨_,_,_,_,_,_⟩ :: ⟨_,_,_,_,_,_⟩ :: ⟨_,_,_,_,_,_⟩ :: ⟨_,_,_,_,_,_⟩ :: ⟨_,_,_,_,_,_⟩ :: ⟨_,_,_,_,_,_⟩ :: ⟨_,_,_,_,_,_⟩ :: ⟨_,_,_,_,_,_⟩ :: ⟨_,_,_,_,_,_⟩ :: ⟨_,_,_,_,_,_⟩ :: ⟨_,_,_,_,_,_⟩ :: ⟨_,_,_,_,_,_⟩ :: ⟨_,_,_,_,_,_⟩ :: ⟨_,_,_,_,_,_⟩ :: ⟨_,_,_,_,_,_⟩ :: ⟨_,_,_,_,_,_⟩ :: ⟨_,_,_,_,_,_⟩ :: ⟨_,_,_,_,_,_⟩ :: ⟨_,_,_,_,_,_⟩ :: ⟨_,_,_,_,_,_⟩ :: ⟨_,_,_,_,_,_⟩ :: ⟨_,_,_,_,_,_⟩ :: ⟨_,_,_,_,_,_⟩ :: [])) [] (0 :: 1 :: 2 :: 3 :: 4 :: 5 :: 6 :: 7 :: 8 :: 9 :: 10 :: 11 :: 12 :: 13 :: 14 :: 15 :: 16 :: 17 :: 18 :: 19 :: 20 :: 21 :: 22 :: 23 :: 24 :: 25 :: 26 :: 27 :: 28 :: 29 :: 30 :: 31 :: 32 :: 33 :: []) mixed (drawnM (0 :: 1 :: 3 :: 7 :: 15 :: 31 :: 63 :: 15 :: 255 :: 511 :: 1023 :: 2047 :: 4095 :: 8191 :: 16383 :: 32767 :: 65535 :: 131071 :: 65535 :: 524287 :: 1048575 :: 2097151 :: 4194303 :: 4194303 :: 12582911 :: 29360127 :: 67108863 :: 134217727 :: 268435455 :: 536870911 :: 536870911 :: 2147483647 :: 4294967295 :: 8589934591 :: []) (by kernel_rfl)) rfl (by kernel_rfl) ?_
 refine r_fieldAddr 0 0 0 rfl rfl rfl rfl rfl ti40 rfl rfl ?_
 refine r_load 0 0 [_] rfl rfl rfl rfl ti3 rfl rfl rfl rfl ?_
 refine r_cmpInt rfl rfl rfl rfl rfl ?_
 refine r_know 19 (.bool true) rfl rfl ?_
 refine r_move rfl rfl rfl ?_
 refine r_fieldAddr 0 0 1 rfl rfl rfl rfl rfl ti40 rfl rfl ?_
 refine r_fieldAddr 0 1 0 rfl rfl rfl rfl rfl ti36 rfl rfl ?_
 refine r_load 0 1 [_, _, _, _, _, _, _, _] rfl rfl rfl rfl ti27 rfl rfl rfl rfl ?_
 refine r_pcall [_, _] rfl rfl rfl (c_ref07_At 2 2 (by omega) (by omega) (by omega) (by omega)) ?_
 refine r_eqlAgg rfl rfl rfl rfl gd27 (eq27 _ _) ?_
 refine r_know 25 (.bool true) rfl (congrArg Value.bool (decide_eq_true rfl)) ?_
 refine r_pickT rfl rfl rfl rfl ?_
 refine r_move rfl rfl rfl ?_
 refine r_fieldAddr 1 0 0 rfl rfl rfl rfl rfl ti40 rfl rfl ?_
 refine r_load 1 0 [_] rfl rfl rfl rfl ti3 rfl rfl rfl rfl ?_
 refine r_cmpInt rfl rfl rfl rfl rfl ?_
 refine r_know 30 (.bool true) rfl rfl ?_
 refine r_pickT rfl rfl rfl rfl ?_
 refine r_move rfl rfl rfl ?_
 refine r_fieldAddr 1 0 1 rfl rfl rfl rfl rfl ti40 rfl rfl ?_
 refine r_load 1 1 [_, _, _, _, _, _, _, _, _, _, _, _, _, _, _, _] rfl rfl rfl rfl ti36 rfl rfl rfl rfl ?_
 refine r_pcall [_, _, _, _] rfl rfl rfl (c_law_segment 2 0 4 0 (by omega) (by omega) (by omega) (by omega) (by omega) (by omega) (by omega) (by omega)) ?_
 refine r_eqlAgg rfl rfl rfl rfl gd36 (eq36 _ _) ?_
 refine r_know 36 (.bool true) rfl (congrArg Value.bool (decide_eq_true rfl)) ?_
 refine r_pickT rfl rfl rfl rfl ?_
 refine r_move rfl rfl rfl ?_
 refine r_load 2 0 [_, _, _, _, _, _, _, _] rfl rfl rfl rfl ti27 rfl rfl rfl rfl ?_
 refine r_pcall [_, _] rfl rfl rfl (c_ref02_Of 2 5 (by omega) (by omega) (by omega) (by omega) (by omega)) ?_
 refine r_pcall [_, _] rfl rfl rfl (c_ref02_Of 1 5 (by omega) (by omega) (by omega) (by omega) (by omega)) ?_
 refine r_build [(0, _), (1, _)] rfl rfl rfl (bd27_2) ?_
 refine r_eqlAgg rfl rfl rfl rfl gd27 (eq27 (Rat.divInt 2 5, Rat.divInt 1 5) (Rat.divInt 2 5, Rat.divInt 1 5)) ?_
 refine r_know 43 (.bool true) rfl (congrArg Value.bool (decide_eq_true rfl)) ?_
 refine r_pickT rfl rfl rfl rfl ?_
 refine r_move rfl rfl rfl ?_
 refine r_load 3 0 [_, _, _, _] rfl rfl rfl rfl ti25 rfl rfl rfl rfl ?_
 refine r_pcall [_, _] rfl rfl rfl (c_ref02_Of 1 5 (by omega) (by omega) (by omega) (by omega) (by omega)) ?_
 refine r_eqlAgg rfl rfl rfl rfl gd25 (eq25 _ _) ?_
 refine r_know 48 (.bool true) rfl (congrArg Value.bool (decide_eq_true rfl)) ?_
 refine r_pickT rfl rfl rfl rfl ?_
 refine r_assign rfl rfl rfl ?_
 refine run_nil ?_
 refine at_tn ?_
 refine at_ret ?_
 refine at_end1 rfl (res_tmp rfl) (fun w hL => ⟨?_, hL.below⟩)
 exact rfl
end Go.Proofs.YthnlafhnpphdhaaGreatDoor
set_option linter.unusedVariables false
namespace Go.Via
open Go Go.RowKit
end Go.Via
set_option linter.unusedVariables false
namespace Go.Via
open Go Go.RowKit
/-! ### the two tests whether a point lies on a segment agree -/
end Go.Via
set_option linter.unusedVariables false
set_option linter.unusedSimpArgs false
namespace Go.Via
open Go Go.RowKit
/-! ### what two segments have in common -/
/-! parallel segments with a common point -/
end Go.Via
set_option linter.unusedVariables false
set_option linter.unusedSimpArgs false
namespace Go.Via
open Go Go.RowKit
/-! what PlaneCommon says -/
end Go.Via
set_option linter.unusedVariables false
set_option linter.unusedSimpArgs false
namespace Go.Via
open Go Go.RowKit
/-! ### bounds, fractions, ends: for the law about common points -/
end Go.Via
set_option linter.unusedVariables false
set_option linter.unusedSimpArgs false
namespace Go.Via
open Go Go.RowKit
/-! ### the reference's answer -/
end Go.Via
namespace Go.Via
/-! rows of points: parts -/
end Go.Via
set_option linter.unusedVariables false
set_option linter.unusedSimpArgs false
namespace Go.Via
open Go Go.RowKit
/-! ### rows of fractions, the least of them -/
def qC (q : Rat) : List Value := [.bool (decide (q.num < 0)), .string (mag q.num.natAbs), .bool false, .string (dm q)]
def QLc : List Rat → List Value
  | [] => []
  | q :: l => qC q ++ QLc l
theorem QLc_length (l : List Rat) : (QLc l).length = l.length * 4 := by
  induction l with
  | nil => rfl
  | cons p l ih => rw [QLc, List.length_append, ih]; simp [qC]; omega
theorem QLc_get {l : List Rat} {i : Nat} {q : Rat} (h : l[i]? = some q) : ((QLc l).drop (i * 4)).take 4 = qC q := by
  induction l generalizing i with
  | nil => simp at h
  | cons p l ih =>
    cases i with
    | zero =>
      simp at h; subst h
      rw [Nat.zero_mul, List.drop_zero, QLc]
      exact List.take_left' (by simp [qC])
    | succ i =>
      rw [List.getElem?_cons_succ] at h
      rw [QLc, Nat.succ_mul, Nat.add_comm, ← List.drop_drop, List.drop_left' (by simp [qC])]
      exact ih h
theorem szQ_min' {a b : Rat} {n : Nat} (h1 : szQ a ≤ n) (h2 : szQ b ≤ n) : szQ (min a b) ≤ n := by
  rw [show min a b = if a ≤ b then a else b from rfl]
  split <;> assumption
end Go.Via
set_option linter.unusedVariables false
set_option linter.unusedSimpArgs false
namespace Go.Via
open Go Go.RowKit
/-! ### least distances -/
end Go.Via
set_option linter.unusedVariables false
set_option linter.unusedSimpArgs false
namespace Go.Via
open Go Go.RowKit
end Go.Via
set_option linter.unusedVariables false
set_option linter.unusedSimpArgs false
namespace Go.Proofs.YthnlafhnpphdhaaGreatDoor
open Go Go.RowKit Go.Via
end Go.Proofs.YthnlafhnpphdhaaGreatDoor
set_option linter.unusedVariables false
set_option linter.unusedSimpArgs false
namespace Go.Via
open Go Go.RowKit
/-! ### boxes -/
def loP (p : P2) (l : List P2) : P2 := l.foldl (fun m q => (min m.1 q.1, min m.2 q.2)) p
def hiP (p : P2) (l : List P2) : P2 := l.foldl (fun m q => (max m.1 q.1, max m.2 q.2)) p
theorem loP_succ {p q : P2} {l : List P2} {i : Nat} (h : l[i]? = some q) : (min (loP p (l.take i)).1 q.1, min (loP p (l.take i)).2 q.2) = loP p (l.take (i + 1)) := by
  unfold loP; rw [List.take_add_one, h, List.foldl_append]; rfl
theorem hiP_succ {p q : P2} {l : List P2} {i : Nat} (h : l[i]? = some q) : (max (hiP p (l.take i)).1 q.1, max (hiP p (l.take i)).2 q.2) = hiP p (l.take (i + 1)) := by
  unfold hiP; rw [List.take_add_one, h, List.foldl_append]; rfl
theorem min_l {a b : Rat} (h : a ≤ b) : min a b = a := by show (if a ≤ b then a else b) = a; rw [if_pos h]
theorem min_r {a b : Rat} (h : b ≤ a) : min a b = b := by
  show (if a ≤ b then a else b) = b
  split
  · rename_i h2; exact Rat.le_antisymm h2 h
  · rfl
theorem max_r {a b : Rat} (h : a ≤ b) : max a b = b := by show (if a ≤ b then b else a) = b; rw [if_pos h]
theorem max_l {a b : Rat} (h : b ≤ a) : max a b = a := by
  show (if a ≤ b then b else a) = a
  split
  · rename_i h2; exact Rat.le_antisymm h h2
  · rfl
theorem szQ_max' {a b : Rat} {n : Nat} (h1 : szQ a ≤ n) (h2 : szQ b ≤ n) : szQ (max a b) ≤ n := by
  rcases Rat.le_total (a := a) (b := b) with h | h
  · rw [max_r h]; exact h2
  · rw [max_l h]; exact h1
theorem loP_sz {n : Nat} : ∀ {l : List P2} {p : P2}, szP p ≤ n → (∀ q ∈ l, szP q ≤ n) → szP (loP p l) ≤ n
  | [], _, hp, _ => hp
  | q :: l, p, hp, hl => loP_sz (l := l) (p := (min p.1 q.1, min p.2 q.2)) (szPm (szQ_min' (szP1 hp) (szP1 (hl q (by simp)))) (szQ_min' (szP2 hp) (szP2 (hl q (by simp))))) (fun r hr => hl r (by simp [hr]))
theorem hiP_sz {n : Nat} : ∀ {l : List P2} {p : P2}, szP p ≤ n → (∀ q ∈ l, szP q ≤ n) → szP (hiP p l) ≤ n
  | [], _, hp, _ => hp
  | q :: l, p, hp, hl => hiP_sz (l := l) (p := (max p.1 q.1, max p.2 q.2)) (szPm (szQ_max' (szP1 hp) (szP1 (hl q (by simp)))) (szQ_max' (szP2 hp) (szP2 (hl q (by simp))))) (fun r hr => hl r (by simp [hr]))
theorem loP_szt {n i : Nat} {l : List P2} {p : P2} (hp : szP p ≤ n) (hl : ∀ q ∈ l, szP q ≤ n) : szP (loP p (l.take i)) ≤ n := loP_sz hp (fun q hq => hl q (List.mem_of_mem_take hq))
theorem hiP_szt {n i : Nat} {l : List P2} {p : P2} (hp : szP p ≤ n) (hl : ∀ q ∈ l, szP q ≤ n) : szP (hiP p (l.take i)) ≤ n := hiP_sz hp (fun q hq => hl q (List.mem_of_mem_take hq))
theorem floor_min (a b : Rat) : (((min a b).floor : Int) : Rat) = min ((a.floor : Int) : Rat) ((b.floor : Int) : Rat) := by
  rcases Rat.le_total (a := a) (b := b) with h | h
  · rw [min_l h, min_l (by have := Rat.floor_monotone h; exact_mod_cast this)]
  · rw [min_r h, min_r (by have := Rat.floor_monotone h; exact_mod_cast this)]
theorem ceil_mono {a b : Rat} (h : a ≤ b) : a.ceil ≤ b.ceil := by
  rw [Rat.ceil_eq_neg_floor_neg, Rat.ceil_eq_neg_floor_neg]
  have := Rat.floor_monotone (Rat.neg_le_neg h)
  omega
theorem ceil_max (a b : Rat) : (((max a b).ceil : Int) : Rat) = max ((a.ceil : Int) : Rat) ((b.ceil : Int) : Rat) := by
  rcases Rat.le_total (a := a) (b := b) with h | h
  · rw [max_r h, max_r (by have := ceil_mono h; exact_mod_cast this)]
  · rw [max_l h, max_l (by have := ceil_mono h; exact_mod_cast this)]
/-! the reference's bounds -/
def bndL (p : P2) (l : List P2) : List Rat := [((loP p l).1.floor : Rat), ((hiP p l).1.ceil : Rat), ((loP p l).2.floor : Rat), ((hiP p l).2.ceil : Rat)]
def ptB (q : P2) : List Rat := [(q.1.floor : Rat), (q.1.ceil : Rat), (q.2.floor : Rat), (q.2.ceil : Rat)]
def mixL (p : P2) (l : List P2) (i k : Nat) : List Rat := (bndL p (l.take (i + 1))).take k ++ (bndL p (l.take i)).drop k
theorem mixL_len (p : P2) (l : List P2) (i k : Nat) (h : k ≤ 4) : (mixL p l i k).length = 4 := by simp [mixL, bndL]; omega
theorem mixL_4 (p : P2) (l : List P2) (i : Nat) : mixL p l i 4 = bndL p (l.take (i + 1)) := rfl
/-- what stands there, what comes, what is to stand there -/
theorem mix_step {p q : P2} {l : List P2} {i k : Nat} (h : l[i]? = some q) (hk : k < 4) : ∃ o x n : Rat, (mixL p l i k)[k]? = some o ∧ (ptB q)[k]? = some x ∧ (mixL p l i k).set k n = mixL p l i (k + 1) ∧ (n = o → mixL p l i k = mixL p l i (k + 1)) ∧
    (k % 2 = 0 → n = min o x) ∧ (k % 2 = 1 → n = max o x) := by
  have e1 := loP_succ (p := p) h
  have e2 := hiP_succ (p := p) h
  match k, hk with
  | 0, _ => exact ⟨_, _, ((loP p (l.take (i + 1))).1.floor : Rat), rfl, rfl, rfl, fun e => (show _ :: _ = _ :: _ by rw [← e]; rfl), fun _ => by rw [← e1]; exact floor_min _ _, fun h => by omega⟩
  | 1, _ => exact ⟨_, _, ((hiP p (l.take (i + 1))).1.ceil : Rat), rfl, rfl, rfl, fun e => (show _ :: _ :: _ = _ :: _ :: _ by rw [← e]; rfl), fun h => by omega, fun _ => by rw [← e2]; exact ceil_max _ _⟩
  | 2, _ => exact ⟨_, _, ((loP p (l.take (i + 1))).2.floor : Rat), rfl, rfl, rfl, fun e => (show _ :: _ :: _ :: _ = _ :: _ :: _ :: _ by rw [← e]; rfl), fun _ => by rw [← e1]; exact floor_min _ _, fun h => by omega⟩
  | 3, _ => exact ⟨_, _, ((hiP p (l.take (i + 1))).2.ceil : Rat), rfl, rfl, rfl, fun e => (show _ :: _ :: _ :: _ :: _ = _ :: _ :: _ :: _ :: _ by rw [← e]; rfl), fun h => by omega, fun _ => by rw [← e2]; exact ceil_max _ _⟩
/-- a fraction of a row is written -/
theorem QLc_set {l : List Rat} {k : Nat} {q : Rat} (hk : k < l.length) : (QLc l).take (k * 4) ++ qC q ++ (QLc l).drop (k * 4 + 4) = QLc (l.set k q) := by
  induction l generalizing k with
  | nil => simp at hk
  | cons a l ih =>
    cases k with
    | zero => simp [QLc, qC]
    | succ k =>
      have h1 : (k + 1) * 4 = (qC a).length + k * 4 := by simp [qC]; omega
      have h2 : (k + 1) * 4 + 4 = (qC a).length + (k * 4 + 4) := by simp [qC]; omega
      have h3 : (QLc (a :: l)).take ((qC a).length + k * 4) = qC a ++ (QLc l).take (k * 4) := by rw [QLc, List.take_length_add_append]
      have h4 : (QLc (a :: l)).drop ((qC a).length + (k * 4 + 4)) = (QLc l).drop (k * 4 + 4) := by rw [QLc, List.drop_length_add_append]
      rw [h2, h1, h3, h4, List.set_cons_succ, QLc, ← ih (k := k) (by simpa using hk)]
      simp [List.append_assoc]
theorem PLc_getX {l : List P2} {i : Nat} {p : P2} (h : l[i]? = some p) : ((PLc l).drop (i * 8 + 0)).take 4 = qC p.1 := by
  have := congrArg (List.take 4) (PLc_get h)
  rw [List.take_take] at this
  exact this
theorem PLc_getY {l : List P2} {i : Nat} {p : P2} (h : l[i]? = some p) : ((PLc l).drop (i * 8 + 4)).take 4 = qC p.2 := by
  have := congrArg (List.drop 4) (PLc_get h)
  rw [List.drop_take, List.drop_drop] at this
  exact this
theorem szQ_floor {q : Rat} {n : Nat} (h : szQ q ≤ n) : szQ ((q.floor : Int) : Rat) ≤ n + 1 := by
  refine Nat.le_trans (szQ_cast _) ?_
  have h1 : q.floor.natAbs ≤ q.num.natAbs := by rw [Rat.floor_def]; exact Int.natAbs_ediv_le_natAbs _ _
  have h2 := nb_mono h1
  have h3 : nb q.num.natAbs ≤ szQ q := by unfold szQ; omega
  omega
theorem szQ_ceil {q : Rat} {n : Nat} (h : szQ q ≤ n) : szQ ((q.ceil : Int) : Rat) ≤ n + 1 := by
  rw [Rat.ceil_eq_neg_floor_neg, Rat.intCast_neg]
  exact szQ_neg (szQ_floor (szQ_neg h))
theorem bndL_sz {n : Nat} {p : P2} {l : List P2} (hp : szP p ≤ n) (hl : ∀ q ∈ l, szP q ≤ n) : ∀ x ∈ bndL p l, szQ x ≤ n + 1 := by
  unfold bndL
  simp only [List.forall_mem_cons]
  exact ⟨szQ_floor (szP1 (loP_sz hp hl)), szQ_ceil (szP1 (hiP_sz hp hl)), szQ_floor (szP2 (loP_sz hp hl)), szQ_ceil (szP2 (hiP_sz hp hl)), fun _ h => by cases h⟩
theorem ptB_sz {n : Nat} {q : P2} (hq : szP q ≤ n) : ∀ x ∈ ptB q, szQ x ≤ n + 1 := bndL_sz (l := []) hq (fun _ h => by cases h)
theorem mixL_sz {n i k : Nat} {p : P2} {l : List P2} (hp : szP p ≤ n) (hl : ∀ q ∈ l, szP q ≤ n) : ∀ x ∈ mixL p l i k, szQ x ≤ n + 1 := fun x hx => by
  unfold mixL at hx
  rcases List.mem_append.1 hx with h | h
  · exact bndL_sz hp (fun q hq => hl q (List.mem_of_mem_take hq)) x (List.mem_of_mem_take h)
  · exact bndL_sz hp (fun q hq => hl q (List.mem_of_mem_take hq)) x (List.mem_of_mem_drop h)
theorem mix_fit {i k : Nat} {p : P2} {l : List P2} (hk : k < 4) : Nat.ble (k * 4 + 4) (QLc (mixL p l i k)).length = true := by
  rw [QLc_length, mixL_len _ _ _ _ (by omega)]
  exact Nat.ble_eq_true_of_le (by omega)
theorem min_lt {o x : Rat} (h : x < o) : min o x = x := min_r (Rat.le_of_lt h)
theorem min_nlt {o x : Rat} (h : ¬ x < o) : min o x = o := min_l (Rat.not_lt.1 h)
theorem max_lt' {o x : Rat} (h : o < x) : max o x = x := max_r (Rat.le_of_lt h)
theorem max_nlt {o x : Rat} (h : ¬ o < x) : max o x = o := max_l (Rat.not_lt.1 h)
theorem row_baseP {b : Option Nat} {pre : List Value} {p : P2} {l : List P2} (h : b = none → pre ++ PLc (p :: l) = []) : ∃ g, b = some g := by
  cases b with
  | none => exact absurd (h rfl) (pre_ne (PLc_ne (by simp)))
  | some g => exact ⟨g, rfl⟩
/-! the box -/
def toI (z : Int) : Int := if -9223372036854775808 ≤ z ∧ z ≤ 9223372036854775807 then z else 0
def badB (z : Int) : Bool := decide (z < -1099511627776) || decide (1099511627776 < z)
theorem badB_no {z : Int} (h : badB z = false) : -1099511627776 ≤ z ∧ z ≤ 1099511627776 := by
  unfold badB at h
  simp only [Bool.or_eq_false_iff, decide_eq_false_iff_not] at h
  omega
theorem toI_ok {z : Int} (h : badB z = false) : toI z = z := by
  have := badB_no h
  unfold toI; rw [if_pos (by omega)]
theorem badB_out {z : Int} (h : (!decide (-9223372036854775808 ≤ z ∧ z ≤ 9223372036854775807)) = true) : badB z = true := by
  have h1 : ¬ (-9223372036854775808 ≤ z ∧ z ≤ 9223372036854775807) := by
    rw [Bool.not_eq_true'] at h; exact of_decide_eq_false h
  unfold badB
  rw [Bool.or_eq_true, decide_eq_true_eq, decide_eq_true_eq]
  omega
theorem toI_in {z : Int} (h : (!decide (-9223372036854775808 ≤ z ∧ z ≤ 9223372036854775807)) = false) : toI z = z := by
  rw [Bool.not_eq_false'] at h
  unfold toI; rw [if_pos (of_decide_eq_true h)]
theorem badB_lo {z : Int} (hok : (!decide (-9223372036854775808 ≤ z ∧ z ≤ 9223372036854775807)) = false) (h : decide (toI z < -1099511627776) = true) : badB z = true := by
  rw [toI_in hok] at h
  unfold badB
  rw [h]; rfl
theorem badB_hi {z : Int} (hok : (!decide (-9223372036854775808 ≤ z ∧ z ≤ 9223372036854775807)) = false) (h : decide (toI z < -1099511627776) = false) : badB z = decide (1099511627776 < toI z) := by
  rw [toI_in hok] at h ⊢
  unfold badB
  rw [h]; rfl
def bz : List P2 → Int × Int × Int × Int
  | [] => (0, 0, 0, 0)
  | p :: l => ((loP p l).1.floor, (hiP p l).1.ceil, (loP p l).2.floor, (hiP p l).2.ceil)
def bbad (l : List P2) : Bool := (((false || badB (bz l).1) || badB (bz l).2.1) || badB (bz l).2.2.1) || badB (bz l).2.2.2
def bx (l : List P2) : Int × Int × Int × Int := if l = [] ∨ bbad l = true then (0, 0, 0, 0) else bz l
def bxE (l : List P2) : Int := if l = [] then 10 else if bbad l = true then 2 else 0
def Bx (b : Int × Int × Int × Int) : Value := .agg #[.int .i64 b.1, .int .i64 b.2.1, .int .i64 b.2.2.1, .int .i64 b.2.2.2, .int .i64 0, .int .i64 0]
theorem bx_nil : bx [] = (0, 0, 0, 0) := rfl
theorem bxE_nil : bxE [] = 10 := rfl
theorem bx_bad {l : List P2} (h : bbad l = true) : bx l = (0, 0, 0, 0) := by unfold bx; rw [if_pos (.inr h)]
theorem bxE_bad {l : List P2} (hl : l ≠ []) (h : bbad l = true) : bxE l = 2 := by unfold bxE; rw [if_neg hl, if_pos h]
theorem bx_ok {l : List P2} (hl : l ≠ []) (h : bbad l = false) : bx l = bz l := by unfold bx; rw [if_neg (by simp [hl, h])]
theorem bxE_ok {l : List P2} (hl : l ≠ []) (h : bbad l = false) : bxE l = 0 := by unfold bxE; rw [if_neg hl, if_neg (by simp [h])]
theorem bbad_no {l : List P2} (h : bbad l = false) : badB (bz l).1 = false ∧ badB (bz l).2.1 = false ∧ badB (bz l).2.2.1 = false ∧ badB (bz l).2.2.2 = false := by
  unfold bbad at h
  simp only [Bool.or_eq_false_iff] at h
  exact ⟨h.1.1.1.2, h.1.1.2, h.1.2, h.2⟩
theorem bz_toI {l : List P2} (h : bbad l = false) : (toI (bz l).1, toI (bz l).2.1, toI (bz l).2.2.1, toI (bz l).2.2.2) = bz l := by
  obtain ⟨h1, h2, h3, h4⟩ := bbad_no h
  rw [toI_ok h1, toI_ok h2, toI_ok h3, toI_ok h4]
/-- what the law compares: the reference's numbers, one by one -/
def bzL (l : List P2) : List Int := [(bz l).1, (bz l).2.1, (bz l).2.2.1, (bz l).2.2.2]
theorem bbad_of {l : List P2} {k : Nat} {z : Int} (h : (bzL l)[k]? = some z) (hb : badB z = true) : bbad l = true := by
  unfold bbad
  match k, h with
  | 0, h => cases h; simp [hb]
  | 1, h => cases h; simp [hb]
  | 2, h => cases h; simp [hb]
  | 3, h => cases h; simp [hb]
  | k + 4, h => simp [bzL] at h
theorem bbad_none {l : List P2} (h : ∀ k z, k < 4 → (bzL l)[k]? = some z → badB z = false) : bbad l = false := by
  unfold bbad
  rw [h 0 _ (by omega) rfl, h 1 _ (by omega) rfl, h 2 _ (by omega) rfl, h 3 _ (by omega) rfl]; rfl
theorem bndL_bz (p : P2) (l : List P2) : bndL p l = (bzL (p :: l)).map fun z => ((z : Int) : Rat) := rfl
theorem lim_eq : Rat.divInt 1099511627776 1 = ((1099511627776 : Int) : Rat) := by show mkRat 1099511627776 1 = _; rw [Rat.mkRat_one]
theorem lim_up {z : Int} : (decide (0 < cmpQ (z : Rat) (Rat.divInt 1099511627776 1)) = true) → badB z = true := fun h => by
  have h1 := of_decide_eq_true h
  have h2 : ¬ cmpQ (z : Rat) (Rat.divInt 1099511627776 1) ≤ 0 := by omega
  rw [cmpQ_le, lim_eq] at h2
  have h3 : ¬ z ≤ 1099511627776 := fun h => h2 (Rat.intCast_le_intCast.2 h)
  unfold badB; rw [Bool.or_eq_true]; exact .inr (decide_eq_true (by omega))
theorem lim_dn {z : Int} : (decide (cmpQ (z : Rat) (-Rat.divInt 1099511627776 1) < 0) = true) → badB z = true := fun h => by
  have h1 := of_decide_eq_true h
  have h2 : ¬ 0 ≤ cmpQ (z : Rat) (-Rat.divInt 1099511627776 1) := by omega
  rw [cmpQ_ge, lim_eq] at h2
  have h3 : ¬ -1099511627776 ≤ z := fun h => h2 (by rw [← Rat.intCast_neg]; exact Rat.intCast_le_intCast.2 h)
  unfold badB; rw [Bool.or_eq_true]; exact .inl (decide_eq_true (by omega))
theorem lim_no {z : Int} (h1 : decide (0 < cmpQ (z : Rat) (Rat.divInt 1099511627776 1)) = false) (h2 : decide (cmpQ (z : Rat) (-Rat.divInt 1099511627776 1) < 0) = false) : badB z = false := by
  have h3 := of_decide_eq_false h1
  have h4 := of_decide_eq_false h2
  have h5 : cmpQ (z : Rat) (Rat.divInt 1099511627776 1) ≤ 0 := by omega
  have h6 : 0 ≤ cmpQ (z : Rat) (-Rat.divInt 1099511627776 1) := by omega
  rw [cmpQ_le, lim_eq] at h5
  rw [cmpQ_ge, lim_eq, ← Rat.intCast_neg] at h6
  have h7 : z ≤ 1099511627776 := Rat.intCast_le_intCast.1 h5
  have h8 : -1099511627776 ≤ z := Rat.intCast_le_intCast.1 h6
  unfold badB; rw [Bool.or_eq_false_iff]; exact ⟨decide_eq_false (by omega), decide_eq_false (by omega)⟩
end Go.Via
set_option linter.unusedVariables false
namespace Go.Proofs.YthnlafhnpphdhaaGreatDoor
open Go Go.RowKit Go.Via
set_option maxRecDepth 20000 in
theorem c_ref07_Ceil (q : Rat) (hq : szQ q ≤ 4000000) : PCall Tryz.prog 91 #[Q q] (Q ((q.ceil : Int) : Rat)) := by
 refine ⟨by kernel_rfl, fun w => ?_⟩
 refine calls_at (args := [Q q]) Tryz.func91 rfl (Nat.le_of_ble_eq_true rfl) (LRel.nil w) ?_
 show At w ⟨7, [(0, Q q)], []⟩ _
 refine at_seq ?_
 refine at_region ?_
 refine r_box [_, _, _, _] 4 (fun g => [⟨some g, 25, _, 4, true⟩]) rfl rfl rfl rfl rfl (fun _ => rfl) (fun g0 => ?_)
 refine r_alloc [_, _, _, _] 4 (fun g => [_, ⟨some g, 25, _, 4, true⟩]) rfl rfl z25 rfl rfl (fun _ => rfl) (fun g1 => ?_)
 refine run_nil ?_
 refine at_tn ?_
 refine at_seq ?_
 refine at_region ?_
 refine r_load 0 0 [_, _, _, _] rfl rfl rfl rfl ti25 rfl rfl rfl rfl ?_
 refine r_pcall [_] rfl rfl rfl (c_ref02_Neg q) ?_
 refine r_pcall [_] rfl rfl rfl (c_ref02_Floor (-q) (Nat.le_trans (szQ_neg hq) (Nat.le_of_ble_eq_true rfl))) ?_
 refine r_pcall [_] rfl rfl rfl (c_ref02_Neg (((-q).floor : Int) : Rat)) ?_
 refine r_know 6 (Q ((q.ceil : Int) : Rat)) rfl (congrArg Q (by rw [Rat.ceil_eq_neg_floor_neg, Rat.intCast_neg])) ?_
 refine r_store rfl 1 0 [_, ⟨some g1, 25, _, 4, true⟩] [_, _, _, _] rfl rfl rfl rfl ti25 rfl rfl rfl rfl rfl ?_
 refine run_nil ?_
 refine at_tn ?_
 refine at_ret ?_
 refine at_end1 rfl (res_cell 1 rfl rfl ti25 (vs := [_, _, _, _]) rfl rfl (Nat.le_of_ble_eq_true rfl) rfl) (fun w hL => ⟨?_, hL.below⟩)
 exact rfl
set_option maxRecDepth 20000 in
theorem c_ref07_Bounds (p0 : P2) (l : List P2) (hp : szP p0 ≤ 1000) (hl : ∀ q ∈ l, szP q ≤ 1000) (hn : l.length ≤ 1000) (gb : Nat) (e0 : TypeId) (pre : List Value) (N cap : Nat) (hc : l.length + 1 ≤ cap) : SCall Tryz.prog 55 [⟨some gb, e0, pre ++ PLc (p0 :: l), N, false⟩] [slv (some gb) pre.length (l.length + 1) cap] Unit (fun _ => .agg (QLc (bndL p0 l)).toArray) (fun _ => []) := by
 refine ⟨by kernel_rfl, fun w hL0 => ?_⟩
 refine calls_at (args := [slv (some gb) pre.length (l.length + 1) cap]) Tryz.func55 rfl (Nat.le_of_ble_eq_true rfl) hL0 ?_
 show At w ⟨95, [(0, slv (some gb) pre.length (l.length + 1) cap)], [⟨some gb, e0, pre ++ PLc (p0 :: l), N, false⟩]⟩ _
 refine at_seq ?_
 refine at_region ?_
 refine r_alloc [_, _, _, _, _, _, _, _, _, _, _, _, _, _, _, _] 16 (fun g => [_, ⟨some g, 66, _, 16, true⟩]) rfl rfl z66 rfl rfl (fun _ => rfl) (fun g0 => ?_)
 refine run_nil ?_
 refine at_tn ?_
 refine at_seq ?_
 refine at_drawnA (l' := [⟨_,_,_,_,_,_⟩, ⟨_,_,_,_,_,_⟩, ⟨_,_,_,_,_,_⟩, ⟨_,_,_,_,_,_⟩, ⟨_,_,_,_,_,_⟩, ⟨_,_,_,_,_,_⟩, ⟨_,_,_,_,_,_⟩, ⟨_,_,_,_,_,_⟩, ⟨_,_,_,_,_,_⟩, ⟨_,_,_,_,_,_⟩, ⟨_,_,_,_,_,_⟩, ⟨_,_,_,_,_,_⟩, ⟨_,_,_,_,_,_⟩, ⟨_,_,_,_,_,_⟩, ⟨_,_,_,_,_,_⟩, ⟨_,_,_,_,_,_⟩, ⟨_,_,_,_,_,_⟩, ⟨_,_,_,_,_,_⟩, ⟨_,_,_,_,_,_⟩, ⟨_,_,_,_,_,_⟩, ⟨_,_,_,_,_,_⟩, ⟨_,_,_,_,_,_⟩, ⟨_,_,_,_,_,_⟩]) [3000000] [0, 1, 2, 3, 5, 6, 7, 8, 10, 11, 12, 13, 15, 16, 17, 18, 4, 9, 14, 19, 20, 21, 22] mixed (drawnMA [0, 1, 3, 7, 15, 0, 32, 96, 224, 511, 0, 1024, 3072, 7168, 16383, 0, 32768, 98304, 229376, 524287, 1048575, 0, 4194303] (by kernel_rfl)) rfl ?_
 refine r_move rfl rfl rfl ?_
 refine r_indexAddr 0 (pre.length + 0 * 8) u61 ti27 rfl rfl rfl rfl rfl (by omega) (by omega) (pre_ne (PLc_ne (by simp))) (by show pre.length + Int.toNat _ * 8 = _; omega) ?_
 refine r_fieldAddr 0 (pre.length + 0 * 8) 0 rfl rfl rfl rfl rfl ti27 rfl rfl ?_
 refine r_load (v := Q p0.1) 0 (pre.length + (0 * 8 + 0)) _ rfl rfl rfl rfl ti25 (pre_get (PLc_getX (l := p0 :: l) (i := 0) rfl) rfl) rfl (by decide) rfl ?_
 refine r_move rfl rfl rfl ?_
 refine r_indexAddr 0 (pre.length + 0 * 8) u61 ti27 rfl rfl rfl rfl rfl (by omega) (by omega) (pre_ne (PLc_ne (by simp))) (by show pre.length + Int.toNat _ * 8 = _; omega) ?_
 refine r_fieldAddr 0 (pre.length + 0 * 8) 0 rfl rfl rfl rfl rfl ti27 rfl rfl ?_
 refine r_load (v := Q p0.1) 0 (pre.length + (0 * 8 + 0)) _ rfl rfl rfl rfl ti25 (pre_get (PLc_getX (l := p0 :: l) (i := 0) rfl) rfl) rfl (by decide) rfl ?_
 refine r_move rfl rfl rfl ?_
 refine r_indexAddr 0 (pre.length + 0 * 8) u61 ti27 rfl rfl rfl rfl rfl (by omega) (by omega) (pre_ne (PLc_ne (by simp))) (by show pre.length + Int.toNat _ * 8 = _; omega) ?_
 refine r_fieldAddr 0 (pre.length + 0 * 8) 4 rfl rfl rfl rfl rfl ti27 rfl rfl ?_
 refine r_load (v := Q p0.2) 0 (pre.length + (0 * 8 + 4)) _ rfl rfl rfl rfl ti25 (pre_get (PLc_getY (l := p0 :: l) (i := 0) rfl) rfl) rfl (by decide) rfl ?_
 refine r_move rfl rfl rfl ?_
 refine r_indexAddr 0 (pre.length + 0 * 8) u61 ti27 rfl rfl rfl rfl rfl (by omega) (by omega) (pre_ne (PLc_ne (by simp))) (by show pre.length + Int.toNat _ * 8 = _; omega) ?_
 refine r_fieldAddr 0 (pre.length + 0 * 8) 4 rfl rfl rfl rfl rfl ti27 rfl rfl ?_
 refine r_load (v := Q p0.2) 0 (pre.length + (0 * 8 + 4)) _ rfl rfl rfl rfl ti25 (pre_get (PLc_getY (l := p0 :: l) (i := 0) rfl) rfl) rfl (by decide) rfl ?_
 refine r_pcall [_] rfl rfl rfl (c_ref02_Floor p0.1 (Nat.le_trans (szP1 hp) (Nat.le_of_ble_eq_true rfl))) ?_
 refine r_pcall [_] rfl rfl rfl (c_ref07_Ceil p0.1 (Nat.le_trans (szP1 hp) (Nat.le_of_ble_eq_true rfl))) ?_
 refine r_pcall [_] rfl rfl rfl (c_ref02_Floor p0.2 (Nat.le_trans (szP2 hp) (Nat.le_of_ble_eq_true rfl))) ?_
 refine r_pcall [_] rfl rfl rfl (c_ref07_Ceil p0.2 (Nat.le_trans (szP2 hp) (Nat.le_of_ble_eq_true rfl))) ?_
 refine r_build [(0, _), (1, _), (2, _), (3, _)] rfl rfl rfl (bd66_4) ?_
 refine r_alloc [_, _, _, _, _, _, _, _, _, _, _, _, _, _, _, _] 16 (fun g => [_, _, ⟨some g, 66, _, 16, true⟩]) rfl rfl z66 rfl rfl (fun _ => rfl) (fun g1 => ?_)
 refine r_store rfl 2 0 [_, _, ⟨some g1, 66, _, 16, true⟩] [_, _, _, _, _, _, _, _, _, _, _, _, _, _, _, _] rfl rfl rfl rfl ti66 rfl rfl rfl rfl rfl ?_
 refine run_nil ?_
 refine at_tn ?_
 refine at_seq ?_
 refine at_seq ?_
 refine at_region ?_
 refine r_assign rfl rfl rfl ?_
 refine run_nil ?_
 refine at_tn ?_
 refine at_block ?_
 refine enterL (nt := 95) (ι := {i : Nat // i ≤ l.length}) (fun ⟨i, hi⟩ => [(0, slv (some gb) pre.length (l.length + 1) cap), (2, .pointer (some ⟨g0, 0, none⟩)), (3, .pointer (some ⟨g1, 0, none⟩)), (4, .int .i64 ((i + 1 : Nat) : Int))]) (fun ⟨i, hi⟩ => [⟨some gb, e0, pre ++ PLc (p0 :: l), N, false⟩, ⟨some g0, 66, [.bool false, .string ⟨#[]⟩, .bool false, .string ⟨#[]⟩, .bool false, .string ⟨#[]⟩, .bool false, .string ⟨#[]⟩, .bool false, .string ⟨#[]⟩, .bool false, .string ⟨#[]⟩, .bool false, .string ⟨#[]⟩, .bool false, .string ⟨#[]⟩], 16, true⟩, ⟨some g1, 66, QLc (bndL p0 (l.take i)), 16, true⟩]) (fun ⟨i, hi⟩ => l.length - i) ⟨0, Nat.zero_le _⟩ ⟨rfl, rfl, rfl, rfl, trivial⟩ (weak_picks [some 0, some 1, some 2] ⟨⟨_, rfl, Blk.le_refl _⟩, ⟨_, rfl, Blk.le_refl _⟩, ⟨_, rfl, Blk.le_refl _⟩, trivial⟩ rfl rfl) ?_
 rintro ⟨i, hi⟩
 show At _ ⟨95, [(0, slv (some gb) pre.length (l.length + 1) cap), (2, .pointer (some ⟨g0, 0, none⟩)), (3, .pointer (some ⟨g1, 0, none⟩)), (4, .int .i64 ((i + 1 : Nat) : Int))], [⟨some gb, e0, pre ++ PLc (p0 :: l), N, false⟩, ⟨some g0, 66, [.bool false, .string ⟨#[]⟩, .bool false, .string ⟨#[]⟩, .bool false, .string ⟨#[]⟩, .bool false, .string ⟨#[]⟩, .bool false, .string ⟨#[]⟩, .bool false, .string ⟨#[]⟩, .bool false, .string ⟨#[]⟩, .bool false, .string ⟨#[]⟩], 16, true⟩, ⟨some g1, 66, QLc (bndL p0 (l.take i)), 16, true⟩]⟩ _
 refine at_seq ?_
 refine at_seq ?_
 refine at_region ?_
 refine r_move rfl rfl rfl ?_
 refine r_move rfl rfl rfl ?_
 refine r_lenS u61 rfl rfl rfl ?_
 refine r_cmpInt rfl rfl rfl rfl rfl ?_
 refine run_nil ?_
 refine at_tn ?_
 refine at_cond rfl (fun hb1 => ?_) (fun hb1 => ?_)
 ·
  have hlt : i < l.length := (by have := of_decide_eq_true hb1; omega)
  obtain ⟨q, hq⟩ : ∃ q, l[i]? = some q := ⟨_, List.getElem?_eq_getElem hlt⟩
  have hzq : szP q ≤ 1000 := hl q (List.mem_of_getElem? hq)
  refine at_skip ?_
  refine at_tn ?_
  refine at_seq ?_
  refine at_block ?_
  refine at_seq ?_
  refine at_drawnA (l' := [⟨_,_,_,_,_,_⟩, ⟨_,_,_,_,_,_⟩, ⟨_,_,_,_,_,_⟩, ⟨_,_,_,_,_,_⟩, ⟨_,_,_,_,_,_⟩, ⟨_,_,_,_,_,_⟩, ⟨_,_,_,_,_,_⟩, ⟨_,_,_,_,_,_⟩, ⟨_,_,_,_,_,_⟩, ⟨_,_,_,_,_,_⟩, ⟨_,_,_,_,_,_⟩, ⟨_,_,_,_,_,_⟩, ⟨_,_,_,_,_,_⟩, ⟨_,_,_,_,_,_⟩, ⟨_,_,_,_,_,_⟩, ⟨_,_,_,_,_,_⟩, ⟨_,_,_,_,_,_⟩, ⟨_,_,_,_,_,_⟩, ⟨_,_,_,_,_,_⟩, ⟨_,_,_,_,_,_⟩, ⟨_,_,_,_,_,_⟩, ⟨_,_,_,_,_,_⟩, ⟨_,_,_,_,_,_⟩, ⟨_,_,_,_,_,_⟩, ⟨_,_,_,_,_,_⟩, ⟨_,_,_,_,_,_⟩, ⟨_,_,_,_,_,_⟩]) [3000000] [0, 1, 2, 3, 4, 6, 7, 8, 9, 10, 12, 13, 14, 15, 16, 18, 19, 20, 21, 22, 5, 11, 17, 23, 24, 25, 26] mixed (drawnMA [0, 0, 3, 7, 15, 31, 0, 0, 192, 448, 960, 2047, 0, 0, 12288, 28672, 61440, 131071, 0, 0, 786432, 1835008, 3932160, 8388607, 16777215, 0, 67108863] (by kernel_rfl)) rfl ?_
  refine r_move rfl rfl rfl ?_
  refine r_move rfl rfl rfl ?_
  refine r_indexAddr 0 (pre.length + (i + 1) * 8) u61 ti27 rfl rfl rfl rfl rfl (by omega) (by omega) (pre_ne (PLc_ne (by simp))) (by show pre.length + Int.toNat _ * 8 = _; omega) ?_
  refine r_fieldAddr 0 (pre.length + (i + 1) * 8) 0 rfl rfl rfl rfl rfl ti27 rfl rfl ?_
  refine r_load (v := Q q.1) 0 (pre.length + ((i + 1) * 8 + 0)) _ rfl rfl rfl rfl ti25 (pre_get (PLc_getX (l := p0 :: l) (i := (i + 1)) hq) rfl) rfl (by decide) rfl ?_
  refine r_move rfl rfl rfl ?_
  refine r_move rfl rfl rfl ?_
  refine r_indexAddr 0 (pre.length + (i + 1) * 8) u61 ti27 rfl rfl rfl rfl rfl (by omega) (by omega) (pre_ne (PLc_ne (by simp))) (by show pre.length + Int.toNat _ * 8 = _; omega) ?_
  refine r_fieldAddr 0 (pre.length + (i + 1) * 8) 0 rfl rfl rfl rfl rfl ti27 rfl rfl ?_
  refine r_load (v := Q q.1) 0 (pre.length + ((i + 1) * 8 + 0)) _ rfl rfl rfl rfl ti25 (pre_get (PLc_getX (l := p0 :: l) (i := (i + 1)) hq) rfl) rfl (by decide) rfl ?_
  refine r_move rfl rfl rfl ?_
  refine r_move rfl rfl rfl ?_
  refine r_indexAddr 0 (pre.length + (i + 1) * 8) u61 ti27 rfl rfl rfl rfl rfl (by omega) (by omega) (pre_ne (PLc_ne (by simp))) (by show pre.length + Int.toNat _ * 8 = _; omega) ?_
  refine r_fieldAddr 0 (pre.length + (i + 1) * 8) 4 rfl rfl rfl rfl rfl ti27 rfl rfl ?_
  refine r_load (v := Q q.2) 0 (pre.length + ((i + 1) * 8 + 4)) _ rfl rfl rfl rfl ti25 (pre_get (PLc_getY (l := p0 :: l) (i := (i + 1)) hq) rfl) rfl (by decide) rfl ?_
  refine r_move rfl rfl rfl ?_
  refine r_move rfl rfl rfl ?_
  refine r_indexAddr 0 (pre.length + (i + 1) * 8) u61 ti27 rfl rfl rfl rfl rfl (by omega) (by omega) (pre_ne (PLc_ne (by simp))) (by show pre.length + Int.toNat _ * 8 = _; omega) ?_
  refine r_fieldAddr 0 (pre.length + (i + 1) * 8) 4 rfl rfl rfl rfl rfl ti27 rfl rfl ?_
  refine r_load (v := Q q.2) 0 (pre.length + ((i + 1) * 8 + 4)) _ rfl rfl rfl rfl ti25 (pre_get (PLc_getY (l := p0 :: l) (i := (i + 1)) hq) rfl) rfl (by decide) rfl ?_
  refine r_pcall [_] rfl rfl rfl (c_ref02_Floor q.1 (Nat.le_trans (szP1 hzq) (Nat.le_of_ble_eq_true rfl))) ?_
  refine r_pcall [_] rfl rfl rfl (c_ref07_Ceil q.1 (Nat.le_trans (szP1 hzq) (Nat.le_of_ble_eq_true rfl))) ?_
  refine r_pcall [_] rfl rfl rfl (c_ref02_Floor q.2 (Nat.le_trans (szP2 hzq) (Nat.le_of_ble_eq_true rfl))) ?_
  refine r_pcall [_] rfl rfl rfl (c_ref07_Ceil q.2 (Nat.le_trans (szP2 hzq) (Nat.le_of_ble_eq_true rfl))) ?_
  refine r_build [(0, _), (1, _), (2, _), (3, _)] rfl rfl rfl (bd66_4) ?_
  refine r_alloc [_, _, _, _, _, _, _, _, _, _, _, _, _, _, _, _] 16 (fun g => [_, _, _, ⟨some g, 66, _, 16, true⟩]) rfl rfl z66 rfl rfl (fun _ => rfl) (fun g2 => ?_)
  refine r_store rfl 3 0 [_, _, _, ⟨some g2, 66, _, 16, true⟩] [_, _, _, _, _, _, _, _, _, _, _, _, _, _, _, _] rfl rfl rfl rfl ti66 rfl rfl rfl rfl rfl ?_
  refine run_nil ?_
  refine at_tn ?_
  refine at_seq ?_
  refine at_region ?_
  refine r_assign rfl rfl rfl ?_
  refine run_nil ?_
  refine at_tn ?_
  refine at_block ?_
  refine enterL (nt := 95) (ι := {k : Nat // k ≤ 4}) (fun ⟨k, hk⟩ => [(0, slv (some gb) pre.length (l.length + 1) cap), (2, .pointer (some ⟨g0, 0, none⟩)), (3, .pointer (some ⟨g1, 0, none⟩)), (4, .int .i64 ((i + 1 : Nat) : Int)), (5, .pointer (some ⟨g2, 0, none⟩)), (6, .int .i64 (k : Nat))]) (fun ⟨k, hk⟩ => [⟨some gb, e0, pre ++ PLc (p0 :: l), N, false⟩, ⟨some g0, 66, [.bool false, .string ⟨#[]⟩, .bool false, .string ⟨#[]⟩, .bool false, .string ⟨#[]⟩, .bool false, .string ⟨#[]⟩, .bool false, .string ⟨#[]⟩, .bool false, .string ⟨#[]⟩, .bool false, .string ⟨#[]⟩, .bool false, .string ⟨#[]⟩], 16, true⟩, ⟨some g1, 66, QLc (mixL p0 l i k), 16, true⟩, ⟨some g2, 66, QLc (ptB q), 16, true⟩]) (fun ⟨k, hk⟩ => 4 - k) ⟨0, Nat.zero_le _⟩ ⟨rfl, rfl, rfl, rfl, rfl, rfl, trivial⟩ (weak_picks [some 0, some 1, some 2, some 3] ⟨⟨_, rfl, Blk.le_refl _⟩, ⟨_, rfl, Blk.le_refl _⟩, ⟨_, rfl, Blk.le_refl _⟩, ⟨_, rfl, Blk.le_refl _⟩, trivial⟩ rfl rfl) ?_
  rintro ⟨k, hk⟩
  show At _ ⟨95, [(0, slv (some gb) pre.length (l.length + 1) cap), (2, .pointer (some ⟨g0, 0, none⟩)), (3, .pointer (some ⟨g1, 0, none⟩)), (4, .int .i64 ((i + 1 : Nat) : Int)), (5, .pointer (some ⟨g2, 0, none⟩)), (6, .int .i64 (k : Nat))], [⟨some gb, e0, pre ++ PLc (p0 :: l), N, false⟩, ⟨some g0, 66, [.bool false, .string ⟨#[]⟩, .bool false, .string ⟨#[]⟩, .bool false, .string ⟨#[]⟩, .bool false, .string ⟨#[]⟩, .bool false, .string ⟨#[]⟩, .bool false, .string ⟨#[]⟩, .bool false, .string ⟨#[]⟩, .bool false, .string ⟨#[]⟩], 16, true⟩, ⟨some g1, 66, QLc (mixL p0 l i k), 16, true⟩, ⟨some g2, 66, QLc (ptB q), 16, true⟩]⟩ _
  refine at_seq ?_
  refine at_seq ?_
  refine at_region ?_
  refine r_move rfl rfl rfl ?_
  refine r_cmpInt rfl rfl rfl rfl rfl ?_
  refine run_nil ?_
  refine at_tn ?_
  refine at_cond rfl (fun hb3 => ?_) (fun hb3 => ?_)
  ·
   have hk4 : k < 4 := (by have := of_decide_eq_true hb3; omega)
   obtain ⟨o, x, n, ho, hx, hst, hsame, hpar⟩ := mix_step (p := p0) hq hk4
   have hzo : szQ o ≤ 1001 := mixL_sz hp hl o (List.mem_of_getElem? ho)
   have hzx : szQ x ≤ 1001 := ptB_sz hzq x (List.mem_of_getElem? hx)
   refine at_skip ?_
   refine at_tn ?_
   refine at_seq ?_
   refine at_block ?_
   refine at_seq ?_
   refine at_drawn (l' := [⟨_,_,_,_,_,_⟩, ⟨_,_,_,_,_,_⟩, ⟨_,_,_,_,_,_⟩, ⟨_,_,_,_,_,_⟩, ⟨_,_,_,_,_,_⟩, ⟨_,_,_,_,_,_⟩, ⟨_,_,_,_,_,_⟩, ⟨_,_,_,_,_,_⟩, ⟨_,_,_,_,_,_⟩, ⟨_,_,_,_,_,_⟩, ⟨_,_,_,_,_,_⟩, ⟨_,_,_,_,_,_⟩, ⟨_,_,_,_,_,_⟩, ⟨_,_,_,_,_,_⟩, ⟨_,_,_,_,_,_⟩, ⟨_,_,_,_,_,_⟩, ⟨_,_,_,_,_,_⟩, ⟨_,_,_,_,_,_⟩, ⟨_,_,_,_,_,_⟩, ⟨_,_,_,_,_,_⟩, ⟨_,_,_,_,_,_⟩, ⟨_,_,_,_,_,_⟩, ⟨_,_,_,_,_,_⟩, ⟨_,_,_,_,_,_⟩, ⟨_,_,_,_,_,_⟩, ⟨_,_,_,_,_,_⟩]) [] [0, 1, 2, 3, 4, 5, 6, 7, 8, 9, 10, 11, 12, 13, 14, 15, 16, 17, 18, 19, 20, 21, 22, 23, 24, 25] mixed (drawnM [0, 1, 3, 7, 15, 31, 63, 15, 143, 399, 1023, 2047, 4095, 8191, 16383, 32767, 65535, 131071, 262143, 524287, 131071, 1179647, 3276799, 8388607, 16777215, 33554431] (by kernel_rfl)) rfl (by kernel_rfl) ?_
   refine r_move rfl rfl rfl ?_
   refine r_div (r := ((k % 2 : Nat) : Int)) rfl rfl rfl rfl (by omega) (congrArg some (rem_n _ 2 rfl rfl)) ?_
   refine r_cmpInt rfl rfl rfl rfl rfl ?_
   refine r_move rfl rfl rfl ?_
   refine r_split 66 rfl (fun hb4 => ?_) (fun hb4 => ?_)
   ·
    have hk2 : k % 2 = 0 := by have := eq_of_beq hb4; omega
    refine r_move rfl rfl rfl ?_
    refine r_indexAddrA (k * 4) u66 ti25 rfl rfl rfl rfl (by omega) (by omega) (by show 0 + Int.toNat _ * 4 = _; omega) ?_
    refine r_load (v := Q x) 3 (k * 4) _ rfl rfl rfl rfl ti25 (QLc_get hx) rfl (by decide) rfl ?_
    refine r_move rfl rfl rfl ?_
    refine r_indexAddrA (k * 4) u66 ti25 rfl rfl rfl rfl (by omega) (by omega) (by show 0 + Int.toNat _ * 4 = _; omega) ?_
    refine r_load (v := Q o) 2 (k * 4) _ rfl rfl rfl rfl ti25 (QLc_get ho) rfl (by decide) rfl ?_
    refine r_pcall [_, _] rfl rfl rfl (c_ref07_less x o (Nat.le_trans hzx (Nat.le_of_ble_eq_true rfl)) (Nat.le_trans hzo (Nat.le_of_ble_eq_true rfl))) ?_
    refine r_pickT rfl rfl rfl rfl ?_
    refine r_move rfl rfl rfl ?_
    refine r_split 75 rfl (fun hb5 => ?_) (fun hb5 => ?_)
    ·
     have hxo : x < o := of_decide_eq_true hb5
     refine r_no rfl rfl rfl ?_
     refine r_no rfl rfl rfl ?_
     refine r_no rfl rfl rfl ?_
     refine r_no rfl rfl rfl ?_
     refine r_no rfl rfl rfl ?_
     refine r_no rfl rfl rfl ?_
     refine r_no rfl rfl rfl ?_
     refine r_no rfl rfl rfl ?_
     refine r_no rfl rfl rfl ?_
     refine r_no rfl rfl rfl ?_
     refine r_no rfl rfl rfl ?_
     refine r_no rfl rfl rfl ?_
     refine r_pickT rfl rfl rfl rfl ?_
     refine run_nil ?_
     refine at_tn ?_
     refine at_condT rfl ?_
     refine at_region ?_
     refine r_move rfl rfl rfl ?_
     refine r_move rfl rfl rfl ?_
     refine r_indexAddrA (k * 4) u66 ti25 rfl rfl rfl rfl (by omega) (by omega) (by show 0 + Int.toNat _ * 4 = _; omega) ?_
     refine r_load (v := Q x) 3 (k * 4) _ rfl rfl rfl rfl ti25 (QLc_get hx) rfl (by decide) rfl ?_
     refine r_indexAddrA (k * 4) u66 ti25 rfl rfl rfl rfl (by omega) (by omega) (by show 0 + Int.toNat _ * 4 = _; omega) ?_
     refine r_store rfl 2 (k * 4) [_, _, ⟨some g1, 66, _, 16, true⟩, _] (QLc ((mixL p0 l i k).set k x)) rfl rfl rfl rfl ti25 rfl (mix_fit hk4) rfl (QLc_set (by rw [mixL_len _ _ _ _ (by omega)]; exact hk4)) rfl ?_
     refine run_nil ?_
     refine at_bn ?_
     refine at_tn ?_
     refine at_region ?_
     refine r_move rfl rfl rfl ?_
     refine r_arith (r := ((k + 1 : Nat) : Int)) rfl rfl rfl rfl (congrArg some (wi (by omega) (by omega) (by omega))) ?_
     refine r_assign rfl rfl rfl ?_
     refine run_nil ?_
     refine at_tn ?_
     exact nextL ⟨k + 1, hk4⟩ (by simp only []; omega) ⟨rfl, rfl, rfl, rfl, rfl, rfl, trivial⟩ (weak_picks [some 0, some 1, some 2, some 3] ⟨⟨_, rfl, Blk.le_refl _⟩, ⟨_, rfl, Blk.le_refl _⟩, ⟨_, rfl, le_same (congrArg (fun c => (⟨some g1, 66, QLc c, 16, true⟩ : Blk)) ((congrArg (fun z => (mixL p0 l i k).set k z) ((hpar.1 hk2).trans (min_lt hxo))).symm.trans hst).symm)⟩, ⟨_, rfl, Blk.le_refl _⟩, trivial⟩ rfl rfl)
    ·
     have hxo : ¬ x < o := of_decide_eq_false hb5
     refine r_move rfl rfl rfl ?_
     refine r_div (r := ((k % 2 : Nat) : Int)) rfl rfl rfl rfl (by omega) (congrArg some (rem_n _ 2 rfl rfl)) ?_
     refine r_cmpInt rfl rfl rfl rfl rfl ?_
     refine r_know 78 (.bool false) rfl (congrArg Value.bool (beq_eq_false_iff_ne.2 (by omega))) ?_
     refine r_move rfl rfl rfl ?_
     refine r_no rfl rfl rfl ?_
     refine r_no rfl rfl rfl ?_
     refine r_no rfl rfl rfl ?_
     refine r_no rfl rfl rfl ?_
     refine r_no rfl rfl rfl ?_
     refine r_no rfl rfl rfl ?_
     refine r_no rfl rfl rfl ?_
     refine r_pickF rfl rfl rfl rfl ?_
     refine r_pickF rfl rfl rfl rfl ?_
     refine run_nil ?_
     refine at_tn ?_
     refine at_condF rfl ?_
     refine at_skip ?_
     refine at_bn ?_
     refine at_tn ?_
     refine at_region ?_
     refine r_move rfl rfl rfl ?_
     refine r_arith (r := ((k + 1 : Nat) : Int)) rfl rfl rfl rfl (congrArg some (wi (by omega) (by omega) (by omega))) ?_
     refine r_assign rfl rfl rfl ?_
     refine run_nil ?_
     refine at_tn ?_
     exact nextL ⟨k + 1, hk4⟩ (by simp only []; omega) ⟨rfl, rfl, rfl, rfl, rfl, rfl, trivial⟩ (weak_picks [some 0, some 1, some 2, some 3] ⟨⟨_, rfl, Blk.le_refl _⟩, ⟨_, rfl, Blk.le_refl _⟩, ⟨_, rfl, le_same (congrArg (fun c => (⟨some g1, 66, QLc c, 16, true⟩ : Blk)) (hsame ((hpar.1 hk2).trans (min_nlt hxo))).symm)⟩, ⟨_, rfl, Blk.le_refl _⟩, trivial⟩ rfl rfl)
   ·
    have hk2 : k % 2 = 1 := by have := ne_of_beq_false hb4; omega
    refine r_no rfl rfl rfl ?_
    refine r_no rfl rfl rfl ?_
    refine r_no rfl rfl rfl ?_
    refine r_no rfl rfl rfl ?_
    refine r_no rfl rfl rfl ?_
    refine r_no rfl rfl rfl ?_
    refine r_no rfl rfl rfl ?_
    refine r_pickF rfl rfl rfl rfl ?_
    refine r_move rfl rfl rfl ?_
    refine r_move rfl rfl rfl ?_
    refine r_div (r := ((k % 2 : Nat) : Int)) rfl rfl rfl rfl (by omega) (congrArg some (rem_n _ 2 rfl rfl)) ?_
    refine r_cmpInt rfl rfl rfl rfl rfl ?_
    refine r_know 78 (.bool true) rfl (congrArg Value.bool (beq_iff_eq.2 (by omega))) ?_
    refine r_move rfl rfl rfl ?_
    refine r_move rfl rfl rfl ?_
    refine r_indexAddrA (k * 4) u66 ti25 rfl rfl rfl rfl (by omega) (by omega) (by show 0 + Int.toNat _ * 4 = _; omega) ?_
    refine r_load (v := Q o) 2 (k * 4) _ rfl rfl rfl rfl ti25 (QLc_get ho) rfl (by decide) rfl ?_
    refine r_move rfl rfl rfl ?_
    refine r_indexAddrA (k * 4) u66 ti25 rfl rfl rfl rfl (by omega) (by omega) (by show 0 + Int.toNat _ * 4 = _; omega) ?_
    refine r_load (v := Q x) 3 (k * 4) _ rfl rfl rfl rfl ti25 (QLc_get hx) rfl (by decide) rfl ?_
    refine r_pcall [_, _] rfl rfl rfl (c_ref07_less o x (Nat.le_trans hzo (Nat.le_of_ble_eq_true rfl)) (Nat.le_trans hzx (Nat.le_of_ble_eq_true rfl))) ?_
    refine r_pickT rfl rfl rfl rfl ?_
    refine r_pickF rfl rfl rfl rfl ?_
    refine run_nil ?_
    refine at_tn ?_
    refine at_cond rfl (fun hb5 => ?_) (fun hb5 => ?_)
    ·
     have hxo : o < x := of_decide_eq_true hb5
     refine at_region ?_
     refine r_move rfl rfl rfl ?_
     refine r_move rfl rfl rfl ?_
     refine r_indexAddrA (k * 4) u66 ti25 rfl rfl rfl rfl (by omega) (by omega) (by show 0 + Int.toNat _ * 4 = _; omega) ?_
     refine r_load (v := Q x) 3 (k * 4) _ rfl rfl rfl rfl ti25 (QLc_get hx) rfl (by decide) rfl ?_
     refine r_indexAddrA (k * 4) u66 ti25 rfl rfl rfl rfl (by omega) (by omega) (by show 0 + Int.toNat _ * 4 = _; omega) ?_
     refine r_store rfl 2 (k * 4) [_, _, ⟨some g1, 66, _, 16, true⟩, _] (QLc ((mixL p0 l i k).set k x)) rfl rfl rfl rfl ti25 rfl (mix_fit hk4) rfl (QLc_set (by rw [mixL_len _ _ _ _ (by omega)]; exact hk4)) rfl ?_
     refine run_nil ?_
     refine at_bn ?_
     refine at_tn ?_
     refine at_region ?_
     refine r_move rfl rfl rfl ?_
     refine r_arith (r := ((k + 1 : Nat) : Int)) rfl rfl rfl rfl (congrArg some (wi (by omega) (by omega) (by omega))) ?_
     refine r_assign rfl rfl rfl ?_
     refine run_nil ?_
     refine at_tn ?_
     exact nextL ⟨k + 1, hk4⟩ (by simp only []; omega) ⟨rfl, rfl, rfl, rfl, rfl, rfl, trivial⟩ (weak_picks [some 0, some 1, some 2, some 3] ⟨⟨_, rfl, Blk.le_refl _⟩, ⟨_, rfl, Blk.le_refl _⟩, ⟨_, rfl, le_same (congrArg (fun c => (⟨some g1, 66, QLc c, 16, true⟩ : Blk)) ((congrArg (fun z => (mixL p0 l i k).set k z) ((hpar.2 hk2).trans (max_lt' hxo))).symm.trans hst).symm)⟩, ⟨_, rfl, Blk.le_refl _⟩, trivial⟩ rfl rfl)
    ·
     have hxo : ¬ o < x := of_decide_eq_false hb5
     refine at_skip ?_
     refine at_bn ?_
     refine at_tn ?_
     refine at_region ?_
     refine r_move rfl rfl rfl ?_
     refine r_arith (r := ((k + 1 : Nat) : Int)) rfl rfl rfl rfl (congrArg some (wi (by omega) (by omega) (by omega))) ?_
     refine r_assign rfl rfl rfl ?_
     refine run_nil ?_
     refine at_tn ?_
     exact nextL ⟨k + 1, hk4⟩ (by simp only []; omega) ⟨rfl, rfl, rfl, rfl, rfl, rfl, trivial⟩ (weak_picks [some 0, some 1, some 2, some 3] ⟨⟨_, rfl, Blk.le_refl _⟩, ⟨_, rfl, Blk.le_refl _⟩, ⟨_, rfl, le_same (congrArg (fun c => (⟨some g1, 66, QLc c, 16, true⟩ : Blk)) (hsame ((hpar.2 hk2).trans (max_nlt hxo))).symm)⟩, ⟨_, rfl, Blk.le_refl _⟩, trivial⟩ rfl rfl)
  ·
   have hge4 : k = 4 := (by have := of_decide_eq_false hb3; omega)
   subst hge4
   refine at_exit ?_
   refine at_te ?_
   refine at_te ?_
   refine at_be ?_
   refine at_bn ?_
   refine at_tn ?_
   refine at_region ?_
   refine r_move rfl rfl rfl ?_
   refine r_arith (r := ((i + 1 + 1 : Nat) : Int)) rfl rfl rfl rfl (congrArg some (wi (by omega) (by omega) (by omega))) ?_
   refine r_assign rfl rfl rfl ?_
   refine run_nil ?_
   refine at_tn ?_
   exact nextL ⟨i + 1, hlt⟩ (by simp only []; omega) ⟨rfl, rfl, rfl, rfl, trivial⟩ (weak_picks [some 0, some 1, some 2] ⟨⟨_, rfl, Blk.le_refl _⟩, ⟨_, rfl, Blk.le_refl _⟩, ⟨_, rfl, le_same (congrArg (fun c => (⟨some g1, 66, QLc c, 16, true⟩ : Blk)) (mixL_4 p0 l i).symm)⟩, trivial⟩ rfl rfl)
 ·
  have hge : i = l.length := (by have := of_decide_eq_false hb1; omega)
  subst hge
  refine at_exit ?_
  refine at_te ?_
  refine at_te ?_
  refine at_be ?_
  refine at_tn ?_
  refine at_seq ?_
  refine at_region ?_
  refine r_load 2 0 [_, _, _, _, _, _, _, _, _, _, _, _, _, _, _, _] rfl rfl rfl rfl ti66 rfl rfl rfl rfl ?_
  refine r_store rfl 1 0 [_, ⟨some g0, 66, _, 16, true⟩, _] [_, _, _, _, _, _, _, _, _, _, _, _, _, _, _, _] rfl rfl rfl rfl ti66 rfl rfl rfl rfl rfl ?_
  refine run_nil ?_
  refine at_tn ?_
  refine at_ret ?_
  refine at_end1 rfl (res_cell 1 rfl rfl ti66 (vs := [_, _, _, _, _, _, _, _, _, _, _, _, _, _, _, _]) rfl rfl (Nat.le_of_ble_eq_true rfl) rfl) (fun w hL => ⟨(), ?_, hL.picks [] trivial rfl rfl⟩)
  exact congrArg (fun m => Ending.returned (Value.agg (QLc (bndL p0 m)).toArray)) List.take_length
end Go.Proofs.YthnlafhnpphdhaaGreatDoor
set_option linter.unusedVariables false
namespace Go.Proofs.YthnlafhnpphdhaaGreatDoor
open Go Go.RowKit Go.Via
set_option maxRecDepth 20000 in
theorem c_box_small (gc : Nat) (bad : Bool) (z : Int) : MCall Tryz.prog 86 ⟨some gc, 4, [.bool bad], 1, true⟩ [I z, .pointer (some ⟨gc, 0, none⟩)] (.int .i64 (toI z)) ⟨some gc, 4, [.bool (bad || badB z)], 1, true⟩ := by
 refine ⟨by kernel_rfl, fun B w R hL0 => ?_⟩
 refine calls_atB (args := [I z, .pointer (some ⟨gc, 0, none⟩)]) Tryz.func86 rfl (Nat.le_of_ble_eq_true rfl) hL0 ?_
 show At B ⟨25, [(0, I z), (1, .pointer (some ⟨gc, 0, none⟩))], (⟨some gc, 4, [.bool bad], 1, true⟩ :: R)⟩ _
 refine at_seq ?_
 refine at_region ?_
 refine r_box [_, _] 2 (fun g0 => ((⟨some gc, 4, [.bool bad], 1, true⟩ : Blk) :: R) ++ [(⟨some g0, 23, _, 2, true⟩ : Blk)]) rfl rfl rfl rfl rfl (fun _ => rfl) (fun g0 => ?_)
 refine r_assign rfl rfl rfl ?_
 refine run_nil ?_
 refine at_tn ?_
 refine at_seq ?_
 refine at_region ?_
 refine r_load (R.length + 1) 0 [_, _] rfl rfl (get_snoc _ R _) rfl ti23 rfl rfl rfl rfl ?_
 refine r_pcall [_] rfl rfl rfl (c_integer_ToInt z) ?_
 refine r_move rfl rfl rfl ?_
 refine r_extract (vs := [_, _]) rfl rfl rfl rfl ?_
 refine r_know 9 (.int .i64 (toI z)) rfl rfl ?_
 refine r_extract (vs := [_, _]) rfl rfl rfl rfl ?_
 refine r_assign rfl rfl rfl ?_
 refine r_assign rfl rfl rfl ?_
 refine run_nil ?_
 refine at_tn ?_
 refine at_seq ?_
 refine at_region ?_
 refine r_load (v := .bool bad) 0 0 [_] rfl rfl rfl rfl ti4 rfl rfl rfl rfl ?_
 refine r_move rfl rfl rfl ?_
 refine r_split 12 rfl (fun hb0 => ?_) (fun hb0 => ?_)
 ·
  refine r_no rfl rfl rfl ?_
  refine r_no rfl rfl rfl ?_
  refine r_pickT rfl rfl rfl rfl ?_
  refine r_move rfl rfl rfl ?_
  refine r_no rfl rfl rfl ?_
  refine r_no rfl rfl rfl ?_
  refine r_pickT rfl rfl rfl rfl ?_
  refine r_move rfl rfl rfl ?_
  refine r_no rfl rfl rfl ?_
  refine r_no rfl rfl rfl ?_
  refine r_pickT rfl rfl rfl rfl ?_
  refine r_store rfl 0 0 (((⟨some gc, 4, _, 1, true⟩ : Blk) :: R) ++ [(⟨some g0, 23, _, 2, true⟩ : Blk)]) [_] rfl rfl rfl rfl ti4 rfl rfl rfl rfl rfl ?_
  refine run_nil ?_
  refine at_tn ?_
  refine at_seq ?_
  refine at_region ?_
  refine r_move rfl rfl rfl ?_
  refine r_assign rfl rfl rfl ?_
  refine run_nil ?_
  refine at_tn ?_
  refine at_ret ?_
  refine at_end1 rfl (res_tmp rfl) (fun w hL => ⟨?_, by have e : (bad || badB z) = true := (by rw [hb0]; rfl); rw [e]; exact LRel.take hL⟩)
  exact rfl
 ·
  refine r_move rfl rfl rfl ?_
  refine r_not rfl rfl rfl ?_
  refine r_pickF rfl rfl rfl rfl ?_
  refine r_move rfl rfl rfl ?_
  refine r_split 16 rfl (fun hb1 => ?_) (fun hb1 => ?_)
  ·
   refine r_no rfl rfl rfl ?_
   refine r_no rfl rfl rfl ?_
   refine r_pickT rfl rfl rfl rfl ?_
   refine r_move rfl rfl rfl ?_
   refine r_no rfl rfl rfl ?_
   refine r_no rfl rfl rfl ?_
   refine r_pickT rfl rfl rfl rfl ?_
   refine r_store rfl 0 0 (((⟨some gc, 4, _, 1, true⟩ : Blk) :: R) ++ [(⟨some g0, 23, _, 2, true⟩ : Blk)]) [_] rfl rfl rfl rfl ti4 rfl rfl rfl rfl rfl ?_
   refine run_nil ?_
   refine at_tn ?_
   refine at_seq ?_
   refine at_region ?_
   refine r_move rfl rfl rfl ?_
   refine r_assign rfl rfl rfl ?_
   refine run_nil ?_
   refine at_tn ?_
   refine at_ret ?_
   refine at_end1 rfl (res_tmp rfl) (fun w hL => ⟨?_, by have e : (bad || badB z) = true := (by rw [hb0, Bool.false_or]; exact badB_out hb1); rw [e]; exact LRel.take hL⟩)
   exact rfl
  ·
   refine r_move rfl rfl rfl ?_
   refine r_cmpInt rfl rfl rfl rfl rfl ?_
   refine r_pickF rfl rfl rfl rfl ?_
   refine r_move rfl rfl rfl ?_
   refine r_split 20 rfl (fun hb2 => ?_) (fun hb2 => ?_)
   ·
    refine r_no rfl rfl rfl ?_
    refine r_no rfl rfl rfl ?_
    refine r_pickT rfl rfl rfl rfl ?_
    refine r_store rfl 0 0 (((⟨some gc, 4, _, 1, true⟩ : Blk) :: R) ++ [(⟨some g0, 23, _, 2, true⟩ : Blk)]) [_] rfl rfl rfl rfl ti4 rfl rfl rfl rfl rfl ?_
    refine run_nil ?_
    refine at_tn ?_
    refine at_seq ?_
    refine at_region ?_
    refine r_move rfl rfl rfl ?_
    refine r_assign rfl rfl rfl ?_
    refine run_nil ?_
    refine at_tn ?_
    refine at_ret ?_
    refine at_end1 rfl (res_tmp rfl) (fun w hL => ⟨?_, by have e : (bad || badB z) = true := (by rw [hb0, Bool.false_or]; exact badB_lo hb1 hb2); rw [e]; exact LRel.take hL⟩)
    exact rfl
   ·
    refine r_move rfl rfl rfl ?_
    refine r_cmpInt rfl rfl rfl rfl rfl ?_
    refine r_pickF rfl rfl rfl rfl ?_
    refine r_store rfl 0 0 (((⟨some gc, 4, _, 1, true⟩ : Blk) :: R) ++ [(⟨some g0, 23, _, 2, true⟩ : Blk)]) [_] rfl rfl rfl rfl ti4 rfl rfl rfl rfl rfl ?_
    refine run_nil ?_
    refine at_tn ?_
    refine at_seq ?_
    refine at_region ?_
    refine r_move rfl rfl rfl ?_
    refine r_assign rfl rfl rfl ?_
    refine run_nil ?_
    refine at_tn ?_
    refine at_ret ?_
    refine at_end1 rfl (res_tmp rfl) (fun w hL => ⟨?_, by have e : (bad || badB z) = decide (1099511627776 < toI z) := (by rw [hb0, Bool.false_or]; exact badB_hi hb1 hb2); rw [e]; exact LRel.take hL⟩)
    exact rfl
end Go.Proofs.YthnlafhnpphdhaaGreatDoor
