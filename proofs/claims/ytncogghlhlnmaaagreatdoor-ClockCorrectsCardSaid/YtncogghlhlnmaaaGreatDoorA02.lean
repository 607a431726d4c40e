/-
  Part 2: lemmas, and walks through the functions that the laws of chapter 26 call. Each theorem states its own conditions.
-/
import Derived.Deep.AppendSrc
import Derived.Laws.BytesArg
import Derived.Laws.CopyRow
import Derived.Laws.AppendOwn
import Derived.Deep.Upon
import Derived.Laws.Small
import Derived.Test.YtncogghlhlnmaaaGreatDoorA01
set_option linter.unusedVariables false
set_option linter.unusedVariables false
set_option linter.unusedSimpArgs false
namespace Go.Via
open Go Go.RowKit
/-! ### rows of numbers -/
def NV (k : IntKind) (l : List Nat) : List Value := l.map fun (d : Nat) => Value.int k (d : Int)
theorem NV_length (k : IntKind) (l : List Nat) : (NV k l).length = l.length := by simp [NV]
theorem NV_get {k : IntKind} {l : List Nat} {i d : Nat} (h : l[i]? = some d) : (NV k l)[i]? = some (.int k (d : Int)) := by simp [NV, h]
theorem NV_set (k : IntKind) (l : List Nat) (i d : Nat) : (NV k l).set i (.int k (d : Int)) = NV k (l.set i d) := by simp [NV, List.map_set]
theorem NV_append (k : IntKind) (l m : List Nat) : NV k l ++ NV k m = NV k (l ++ m) := by simp [NV]
theorem NV_take (k : IntKind) (l : List Nat) (n : Nat) : (NV k l).take n = NV k (l.take n) := by simp [NV, List.map_take]
theorem NV_drop (k : IntKind) (l : List Nat) (n : Nat) : (NV k l).drop n = NV k (l.drop n) := by simp [NV, List.map_drop]
theorem NV_replicate (k : IntKind) (n : Nat) : List.replicate n (Value.int k 0) = NV k (List.replicate n 0) := by simp [NV]
/-- a slice that is handed over: where, how many cells the block has, what room -/
structure SR (len : Nat) where
  b : Option Nat
  n : Nat
  cap : Nat
  h : len ≤ cap
instance {len : Nat} : Nonempty (SR len) := ⟨⟨none, 0, len, Nat.le_refl _⟩⟩
def slv (b : Option Nat) (off len cap : Nat) : Value := .slice (b.map fun g => ⟨g, off, none⟩) len cap
def SR.v {len : Nat} (x : SR len) : Value := slv x.b 0 len x.cap
/-! ### what is known is made less -/
def Blk.le (b' b : Blk) : Prop := b'.base = b.base ∧ b'.e = b.e ∧ b'.n = b.n ∧ (∃ k, b'.cs = b.cs.take k) ∧ (b'.own = true → b.own = true)
theorem Blk.le_refl (b : Blk) : b.le b := ⟨rfl, rfl, rfl, ⟨b.cs.length, by simp⟩, id⟩
theorem BlkAt.le {B w : World} {b b' : Blk} {g : Nat} (h : BlkAt B w b g) (hl : b'.le b) : BlkAt B w b' g := by
  obtain ⟨h0, h4⟩ := h
  obtain ⟨l1, l2, l3, ⟨k, l4⟩, l5⟩ := hl
  refine ⟨?_, fun ho => h4 (l5 ho)⟩
  rcases h0 with ⟨cur, ⟨e', fr, h1, hfr, hlt⟩, h2, h3⟩ | ⟨l, es, c, a1, a2, a3, a4, a5⟩
  · refine .inl ⟨cur, ⟨e', fr, h1, fun ho => ⟨by rw [l2]; exact (hfr (l5 ho)).1, (hfr (l5 ho)).2⟩, by rw [l2]; exact hlt⟩, by rw [l3]; exact h2, ?_⟩
    rw [l4, List.length_take, ← List.take_take, h3]
  · exact .inr ⟨l, es, c, by rw [l2]; exact a1, by rw [l4, a2]; simp, by rw [l3]; exact a3, a4, a5⟩
/-- each block of L' is one of L, or nowhere -/
def Picks (L : List Blk) : List (Option Nat) → List Blk → Prop
  | [], [] => True
  | some k :: ks, b' :: L' => (∃ b, L[k]? = some b ∧ b'.le b) ∧ Picks L ks L'
  | none :: ks, b' :: L' => (b'.base = none ∧ b'.cs = [] ∧ b'.n = 0) ∧ Picks L ks L'
  | _, _ => False
def apartB : List (Option Nat) → List Bool → Bool
  | some k :: ks, true :: os => !ks.contains (some k) && apartB ks os
  | some k :: ks, false :: os => ((ks.zip os).all fun p => !(p.2 && p.1 == some k)) && apartB ks os
  | none :: ks, _ :: os => apartB ks os
  | _, _ => true
theorem Picks.get {L : List Blk} : ∀ {ks : List (Option Nat)} {L' : List Blk}, Picks L ks L' → ∀ (i : Nat) (b' : Blk), L'[i]? = some b' →
    (∃ k b, ks[i]? = some (some k) ∧ L[k]? = some b ∧ b'.le b) ∨ (ks[i]? = some none ∧ b'.base = none ∧ b'.cs = [] ∧ b'.n = 0)
  | [], [], _, i, b', h => by simp at h
  | some k :: ks, c :: L', hp, i, b', h => by
    cases i with
    | zero => simp at h; subst h; obtain ⟨⟨b, h1, h2⟩, _⟩ := hp; exact .inl ⟨k, b, by simp, h1, h2⟩
    | succ i => simp at h; simpa using Picks.get hp.2 i b' h
  | none :: ks, c :: L', hp, i, b', h => by
    cases i with
    | zero => simp at h; subst h; exact .inr ⟨by simp, hp.1⟩
    | succ i => simp at h; simpa using Picks.get hp.2 i b' h
  | some _ :: _, [], hp, i, b', h => by simp at h
  | none :: _, [], hp, i, b', h => by simp at h
  | [], _ :: _, hp, i, b', h => hp.elim
theorem apartB_spec : ∀ {ks : List (Option Nat)} {os : List Bool}, ks.length = os.length → apartB ks os = true → ∀ (i j k : Nat), i ≠ j → ks[i]? = some (some k) → ks[j]? = some (some k) → os[i]? = some true → False
  | [], _, _, _, i, j, k, _, h, _, _ => by simp at h
  | some m :: ks, true :: os, hl, ha, i, j, k, hij, h1, h2, h3 => by
    simp only [apartB, Bool.and_eq_true, Bool.not_eq_true', List.contains_eq_mem, decide_eq_false_iff_not] at ha
    have hl' : ks.length = os.length := by simpa using hl
    cases i with
    | zero =>
      cases j with
      | zero => exact hij rfl
      | succ j =>
        simp at h1 h2; subst h1
        exact ha.1 (List.mem_of_getElem? h2)
    | succ i =>
      cases j with
      | zero => simp at h1 h2; subst h2; exact ha.1 (List.mem_of_getElem? h1)
      | succ j => simp at h1 h2 h3; exact apartB_spec hl' ha.2 i j k (by omega) h1 h2 h3
  | some m :: ks, false :: os, hl, ha, i, j, k, hij, h1, h2, h3 => by
    simp only [apartB, Bool.and_eq_true, List.all_eq_true] at ha
    have hl' : ks.length = os.length := by simpa using hl
    cases i with
    | zero => simp at h3
    | succ i =>
      cases j with
      | zero =>
        simp at h1 h2 h3; subst h2
        have hm : (some m, true) ∈ ks.zip os := List.mem_of_getElem? (i := i) (by rw [List.getElem?_zip_eq_some]; exact ⟨h1, h3⟩)
        have := ha.1 _ hm
        simp at this
      | succ j => simp at h1 h2 h3; exact apartB_spec hl' ha.2 i j k (by omega) h1 h2 h3
  | none :: ks, o :: os, hl, ha, i, j, k, hij, h1, h2, h3 => by
    have hl' : ks.length = os.length := by simpa using hl
    cases i with
    | zero => simp at h1
    | succ i =>
      cases j with
      | zero => simp at h2
      | succ j => simp at h1 h2 h3; exact apartB_spec hl' ha i j k (by omega) h1 h2 h3
  | some _ :: _, [], hl, _, i, j, k, _, _, _, _ => by simp at hl
  | none :: _, [], hl, _, i, j, k, _, _, _, _ => by simp at hl
theorem LRel.picks {B w : World} {L L' : List Blk} (h : LRel B L w) (ks : List (Option Nat)) (hp : Picks L ks L') (hl : ks.length = L'.length) (ha : apartB ks (L'.map (·.own)) = true)
    : LRel B L' w := by
  refine ⟨h.below, fun k b hk => ?_, fun i j g bi bj hij hi hj ho hg hgj => ?_⟩
  · rcases hp.get k b hk with ⟨m, c, _, h2, h3⟩ | ⟨_, h2, h3⟩
    · obtain ⟨a1, a2⟩ := h.blk m c h2
      refine ⟨fun g hg => (a1 g (by rw [← h3.1]; exact hg)).le h3, fun hn => ?_⟩
      obtain ⟨b1, b2⟩ := a2 (by rw [← h3.1]; exact hn)
      obtain ⟨_, _, l3, ⟨q, l4⟩, _⟩ := h3
      exact ⟨by rw [l4, b1]; simp, by rw [l3]; exact b2⟩
    · exact ⟨fun g hg => (by rw [h2] at hg; cases hg), fun _ => h3⟩
  · rcases hp.get i bi hi with ⟨mi, ci, h1, h2, h3⟩ | ⟨_, h2, _⟩
    · rcases hp.get j bj hj with ⟨mj, cj, g1, g2, g3⟩ | ⟨_, g2, _⟩
      · by_cases e : mi = mj
        · subst e
          exact apartB_spec (by simpa using hl) ha i j mi hij h1 g1 (by rw [List.getElem?_map, hi]; simp [ho])
        · exact h.apart mi mj g ci cj e h2 g2 (h3.2.2.2.2 ho) (by rw [← h3.1]; exact hg) (by rw [← g3.1]; exact hgj)
      · rw [g2] at hgj; cases hgj
    · rw [h2] at hg; cases hg
def Weak (L L' : List Blk) : Prop := ∀ B w, LRel B L w → LRel B L' w
theorem Weak.refl (L : List Blk) : Weak L L := fun _ _ h => h
theorem weak_picks {L L' : List Blk} (ks : List (Option Nat)) (hp : Picks L ks L') (hl : ks.length = L'.length) (ha : apartB ks (L'.map (·.own)) = true) : Weak L L' := fun _ _ h => h.picks ks hp hl ha
theorem le_same {b : Blk} {b' : Blk} (h : b' = b) : b'.le b := h ▸ b.le_refl
theorem le_share {base : Option Nat} {e : TypeId} {cs : List Value} {n : Nat} {o : Bool} : Blk.le ⟨base, e, cs, n, false⟩ ⟨base, e, cs, n, o⟩ := ⟨rfl, rfl, rfl, ⟨cs.length, by simp⟩, fun h => by cases h⟩
/-- what is known is made less, between two statements -/
theorem at_weak {B : World} {X : Act → World → Prop} {nt : Nat} {t : List (Nat × Value)} {L : List Blk} (L' : List Blk) (hw : Weak L L') (h : At B ⟨nt, t, L'⟩ X) : At B ⟨nt, t, L⟩ X := fun a w hr => h a w ⟨hr.df, hr.size, hr.tmp, hw _ _ hr.mem⟩
theorem at_know {B : World} {X : Act → World → Prop} {nt : Nat} {t : List (Nat × Value)} {L : List Blk} {v : Value} (d : Nat) (v' : Value) (hx : look t d = some v) (hv : v = v') (h : At B ⟨nt, (d, v') :: t, L⟩ X) : At B ⟨nt, t, L⟩ X := fun a w hr =>
  h a w ⟨hr.df, hr.size, fun k u hk => by
    by_cases e : d = k
    · subst e; rw [look_cons_eq] at hk; cases hk; rw [← hv]; exact hr.tmp d v hx
    · rw [look_cons_ne e] at hk; exact hr.tmp k u hk, hr.mem⟩
theorem at_next' {B : World} {nt : Nat} {t : List (Nat × Value)} {L : List Blk} {ι : Type} {inv : ι → St} {μ : ι → Nat} {i : ι} (j : ι) (t' : List (Nat × Value)) (L' : List Blk) (hj : inv j = ⟨nt, t', L'⟩) (hμ : μ j < μ i) (ht : ∀ p ∈ t', look t p.1 = some p.2) (hL : Weak L L') :
    At B ⟨nt, t, L⟩ (fun a' w' => ∃ j, μ j < μ i ∧ Rel B (inv j) a' w') := fun a w hr => by
  refine ⟨j, hμ, ?_⟩
  rw [hj]
  exact (⟨hr.df, hr.size, hr.tmp, hL _ _ hr.mem⟩ : Rel B ⟨nt, t, L'⟩ a w).sub fun d v hd => ht (d, v) (look_mem hd)
theorem at_enter' {P : Program} {B : World} {Q : Exit → Act → World → Prop} {nt : Nat} {t : List (Nat × Value)} {L : List Blk} {ι : Type} {c : Code} (inv : ι → St) (μ : ι → Nat) (i₀ : ι) (t' : List (Nat × Value)) (L' : List Blk) (h₀ : inv i₀ = ⟨nt, t', L'⟩) (ht : ∀ p ∈ t', look t p.1 = some p.2) (hL : Weak L L')
    (round : ∀ i, At B (inv i) (c.wp P (Exit.then (fun a' w' => ∃ j, μ j < μ i ∧ Rel B (inv j) a' w') Q))) : At B ⟨nt, t, L⟩ ((Code.loop c).wp P Q) :=
  at_loop inv μ i₀ (fun a w hr => by rw [h₀]; exact (⟨hr.df, hr.size, hr.tmp, hL _ _ hr.mem⟩ : Rel B ⟨nt, t, L'⟩ a w).sub fun d v hd => ht (d, v) (look_mem hd)) round
/-! ### calls with slices -/
/-- A CALL THAT READS SOME BLOCKS and hands back a value, with some blocks. -/
def SCall (P : Program) (f : Nat) (L : List Blk) (args : List Value) (X : Type) (res : X → Value) (new : X → List Blk) : Prop :=
  plainF P f = true ∧ ∀ w, LRel w L w → Calls P f args.toArray w fun e w' => ∃ x, e = .returned (res x) ∧ LRel w (new x) w'
theorem LRel.asArgs {B w : World} {L L' : List Blk} (h : LRel B L w) (ks : List Nat) (hp : Picks L (ks.map some) L') (ho : ∀ b ∈ L', b.own = false) : LRel w L' w := by
  have hlen : ∀ {ks : List Nat} {L' : List Blk}, Picks L (ks.map some) L' → ks.length = L'.length := by
    intro ks
    induction ks with
    | nil => intro L' hp; cases L' with
      | nil => rfl
      | cons c L' => exact hp.elim
    | cons k ks ih => intro L' hp; cases L' with
      | nil => exact hp.elim
      | cons c L' => simp [ih hp.2]
  refine ⟨Below.refl _ _, fun k b hk => ?_, fun i j g bi bj hij hi hj ho' hg hgj => ?_⟩
  · rcases hp.get k b hk with ⟨m, c, _, h2, h3⟩ | ⟨_, h2, h3⟩
    · obtain ⟨a1, a2⟩ := h.blk m c h2
      refine ⟨fun g hg => ⟨((a1 g (by rw [← h3.1]; exact hg)).le h3).1, fun e => ?_⟩, fun hn => ?_⟩
      · rw [ho b (List.mem_of_getElem? hk)] at e; cases e
      · obtain ⟨b1, b2⟩ := a2 (by rw [← h3.1]; exact hn)
        obtain ⟨_, _, l3, ⟨q, l4⟩, _⟩ := h3
        exact ⟨by rw [l4, b1]; simp, by rw [l3]; exact b2⟩
    · exact ⟨fun g hg => (by rw [h2] at hg; cases hg), fun _ => h3⟩
  · rw [ho bi (List.mem_of_getElem? hi)] at ho'; cases ho'
section
variable {P : Program} {bl : List Nat} {ops : Array Oper} {K : St → Prop} {rest : List Oper} {nt : Nat} {t : List (Nat × Value)} {L : List Blk} {d : Nat} {ty : TypeId} {pos : String} {af : Array Edge} {g : Option (Nat × Bool)}
/-- a call that reads slices -/
theorem r_scall {f : Nat} {args : List Operand} {ts : Array TypeId} (vs : List Value) {L0 : List Blk} {X : Type} [hX : Nonempty X] {res : X → Value} {new : X → List Blk} (ks : List Nat) (hd : Nat.blt d nt = true) (hg : wantedS ops ⟨some d, .call { callee := .value (.func f), args := args.toArray, argTypes := ts }, ty, pos, af, g⟩ t = some true)
    (hv : args.map (ev t) = vs.map some) (hc : SCall P f L0 vs X res new) (hp : Picks L (ks.map some) L0) (ho : (L0.all fun b => !b.own) = true) (hn : False ∨ ∀ x, ∀ b ∈ new x, b.own = true)
    (h : ∀ x, Run P bl ops rest ⟨nt, (d, res x) :: t, L ++ new x⟩ K) :
    Run P bl ops (⟨some d, .call { callee := .value (.func f), args := args.toArray, argTypes := ts }, ty, pos, af, g⟩ :: rest) ⟨nt, t, L⟩ K :=
  run_call hd hg rfl (X := X) (res := res) (new := new) (c_gen (s := ⟨nt, t, L⟩) rfl hv hc.1 fun B w hL => (hc.2 w (hL.asArgs ks hp (fun b hb => by simpa using List.all_eq_true.1 ho b hb))).mono (by
    rintro e w' ⟨x, rfl, hx⟩
    exact ⟨x, rfl, hL.joinF hx (hn.resolve_left id x)⟩)) (fun _ => ⟨cF_gen (s := ⟨nt, t, L⟩) rfl hv hc.1 fun B w hL => (hc.2 w (hL.asArgs ks hp (fun b hb => by simpa using List.all_eq_true.1 ho b hb))).mono (by
    rintro e w' ⟨x, rfl, hx⟩
    exact ⟨x, rfl, hx, hn.resolve_left id x⟩), hX⟩) fun x => h x
/-- a call that reads slices and makes no blocks -/
theorem r_scall0 {f : Nat} {args : List Operand} {ts : Array TypeId} (vs : List Value) {L0 : List Blk} {v : Value} (ks : List Nat) (hd : Nat.blt d nt = true) (hg : wantedS ops ⟨some d, .call { callee := .value (.func f), args := args.toArray, argTypes := ts }, ty, pos, af, g⟩ t = some true)
    (hv : args.map (ev t) = vs.map some) (hc : SCall P f L0 vs Unit (fun _ => v) (fun _ => [])) (hp : Picks L (ks.map some) L0) (ho : (L0.all fun b => !b.own) = true)
    (h : Run P bl ops rest ⟨nt, (d, v) :: t, L⟩ K) :
    Run P bl ops (⟨some d, .call { callee := .value (.func f), args := args.toArray, argTypes := ts }, ty, pos, af, g⟩ :: rest) ⟨nt, t, L⟩ K :=
  r_scall vs ks hd hg hv hc hp ho (.inr fun x b hb => by cases hb) fun x => by
    have : L ++ ([] : List Blk) = L := List.append_nil L
    show Run P bl ops rest ⟨nt, (d, v) :: t, L ++ []⟩ K
    rw [this]; exact h
end
end Go.Via
set_option linter.unusedVariables false
set_option linter.unusedSimpArgs false
namespace Go.Via
open Go Go.RowKit
/-! ### numbers -/
theorem wi {n r : Int} (h0 : -9223372036854775808 ≤ n) (h1 : n ≤ 9223372036854775807) (e : n = r) : IntKind.i64.wrap n = r := by rw [IntKind.wrap_i64]; omega
theorem wu {n r : Int} (h0 : 0 ≤ n) (h1 : n < 18446744073709551616) (e : n = r) : IntKind.u64.wrap n = r := by
  subst e
  simp [IntKind.wrap, IntKind.bits, IntKind.signed]; omega
theorem wu64 (n : Int) : IntKind.u64.wrap n = n % 18446744073709551616 := by simp [IntKind.wrap, IntKind.bits, IntKind.signed]
theorem wu32 (n : Int) : IntKind.u32.wrap n = n % 4294967296 := by simp [IntKind.wrap, IntKind.bits, IntKind.signed]
theorem wu8 (n : Int) : IntKind.u8.wrap n = n % 256 := by simp [IntKind.wrap, IntKind.bits, IntKind.signed]
theorem bits64 : IntKind.u64.bits = 64 := rfl
theorem bits32 : IntKind.u32.bits = 32 := rfl
theorem or_nat (b m n : Nat) (hm : m < 2 ^ b) (hn : n < 2 ^ b) : ((BitVec.ofInt b (m : Int) ||| BitVec.ofInt b (n : Int)).toNat : Int) = ((m ||| n : Nat) : Int) := by
  rw [BitVec.toNat_or, BitVec.ofInt_natCast, BitVec.ofInt_natCast, BitVec.toNat_ofNat, BitVec.toNat_ofNat, Nat.mod_eq_of_lt hm, Nat.mod_eq_of_lt hn]
theorem or_add {m n : Nat} (i : Nat) (hn : n < 2 ^ i) : (2 ^ i * m ||| n) = 2 ^ i * m + n := (Nat.two_pow_add_eq_or_of_lt hn m).symm
/-- the bits of a number and of one above it -/
theorem or_u32 {m n r : Nat} (i : Nat) (hn : n < 2 ^ i) (hr : 2 ^ i * m + n = r) (hb : r < 4294967296) {x y : Int} (hx : x = ((2 ^ i * m : Nat) : Int)) (hy : y = (n : Int)) :
    IntKind.u32.wrap ((BitVec.ofInt IntKind.u32.bits x ||| BitVec.ofInt IntKind.u32.bits y).toNat) = (r : Int) := by
  subst hx; subst hy; rw [bits32, or_nat 32 _ _ (by omega) (by omega), or_add i hn, wu32]; omega
theorem or_u64 {m n r : Nat} (i : Nat) (hn : n < 2 ^ i) (hr : 2 ^ i * m + n = r) (hb : r < 18446744073709551616) {x y : Int} (hx : x = ((2 ^ i * m : Nat) : Int)) (hy : y = (n : Int)) :
    IntKind.u64.wrap ((BitVec.ofInt IntKind.u64.bits x ||| BitVec.ofInt IntKind.u64.bits y).toNat) = (r : Int) := by
  subst hx; subst hy; rw [bits64, or_nat 64 _ _ (by omega) (by omega), or_add i hn, wu64]; omega
section
variable {P : Program} {bl : List Nat} {ops : Array Oper} {K : St → Prop} {rest : List Oper} {nt : Nat} {t : List (Nat × Value)} {L : List Blk} {d : Nat} {ty : TypeId} {pos : String} {af : Array Edge} {g : Option (Nat × Bool)} {x y : Operand}
theorem r_div {op : BinOp} {T U : Nat} {k : IntKind} {m n r : Int} (hd : Nat.blt d nt = true) (hg : wantedS ops ⟨some d, .binOp op T x y U, ty, pos, af, g⟩ t = some true) (hx : ev t x = some (.int k m)) (hy : ev t y = some (.int k n)) (hn : n ≠ 0)
    (hr : (match op with | .quo => some (k.wrap (m.tdiv n)) | .rem => some (m.tmod n) | _ => none) = some r) (h : Run P bl ops rest ⟨nt, (d, .int k r) :: t, L⟩ K) :
    Run P bl ops (⟨some d, .binOp op T x y U, ty, pos, af, g⟩ :: rest) ⟨nt, t, L⟩ K :=
  run_q hd hg rfl (fun B a w hrel => by
    have h1 := hrel.ev hx
    have h2 := hrel.ev hy
    cases op <;> simp at hr <;> subst hr <;> simp [execOp, h1, h2, eqGuard, binOp, Op.intDiv, hn]) h
theorem r_or {T U : Nat} {k : IntKind} {m n r : Int} (hd : Nat.blt d nt = true) (hg : wantedS ops ⟨some d, .binOp .or T x y U, ty, pos, af, g⟩ t = some true) (hx : ev t x = some (.int k m)) (hy : ev t y = some (.int k n))
    (hr : k.wrap ((BitVec.ofInt k.bits m ||| BitVec.ofInt k.bits n).toNat) = r) (h : Run P bl ops rest ⟨nt, (d, .int k r) :: t, L⟩ K) :
    Run P bl ops (⟨some d, .binOp .or T x y U, ty, pos, af, g⟩ :: rest) ⟨nt, t, L⟩ K :=
  run_q hd hg rfl (fun B a w hrel => by
    have h1 := hrel.ev hx
    have h2 := hrel.ev hy
    subst hr
    simp [execOp, h1, h2, eqGuard, binOp, Op.intBits]) h
theorem r_shift {op : BinOp} {T U : Nat} {k k' : IntKind} {m n r : Int} (hd : Nat.blt d nt = true) (hg : wantedS ops ⟨some d, .binOp op T x y U, ty, pos, af, g⟩ t = some true) (hx : ev t x = some (.int k m)) (hy : ev t y = some (.int k' n)) (hn : ¬ n < 0)
    (hr : (match op with | .shl => some (k.wrap (m * 2 ^ (min n.toNat k.bits))) | .shr => some (m.fdiv (2 ^ (min n.toNat k.bits))) | _ => none) = some r) (h : Run P bl ops rest ⟨nt, (d, .int k r) :: t, L⟩ K) :
    Run P bl ops (⟨some d, .binOp op T x y U, ty, pos, af, g⟩ :: rest) ⟨nt, t, L⟩ K :=
  run_q hd hg rfl (fun B a w hrel => by
    have h1 := hrel.ev hx
    have h2 := hrel.ev hy
    cases op <;> simp at hr <;> subst hr <;> simp [execOp, h1, h2, eqGuard, binOp, Op.shift, hn]) h
theorem r_conv {S D : Nat} {k k' : IntKind} {n r : Int} (hS : P.underlying S = some (.int k)) (hD : P.underlying D = some (.int k')) (hd : Nat.blt d nt = true) (hg : wantedS ops ⟨some d, .convert S D x, ty, pos, af, g⟩ t = some true) (hx : ev t x = some (.int k n)) (hr : k'.wrap n = r)
    (h : Run P bl ops rest ⟨nt, (d, .int k' r) :: t, L⟩ K) : Run P bl ops (⟨some d, .convert S D x, ty, pos, af, g⟩ :: rest) ⟨nt, t, L⟩ K :=
  run_q hd hg rfl (fun B a w hrel => by
    have h1 : P.intKind D = k' := by simp [Program.intKind, hD]
    have h2 := run_convert_int (P := P) w S D k n (by rw [hS]; rfl) (by rw [h1]; exact hD)
    rw [h1, hr] at h2
    simp [execOp, hrel.ev hx, h2]) h
/-- a byte of a string -/
theorem r_idxS {T : Nat} {s : ByteArray} {k : IntKind} {i : Int} {b : UInt8} {r : Int} (hT : P.underlying T = some .string) (hd : Nat.blt d nt = true) (hg : wantedS ops ⟨some d, .index T x y, ty, pos, af, g⟩ t = some true) (hx : ev t x = some (.string s)) (hy : ev t y = some (.int k i)) (hi : 0 ≤ i)
    (hb : s.data.toList[i.toNat]? = some b) (hr : (b.toNat : Int) = r) (h : Run P bl ops rest ⟨nt, (d, .int .u8 r) :: t, L⟩ K) : Run P bl ops (⟨some d, .index T x y, ty, pos, af, g⟩ :: rest) ⟨nt, t, L⟩ K :=
  run_q hd hg rfl (fun B a w hrel => by
    have h1 := run_index_string (P := P) w T s k i hT
    obtain ⟨hlt, he⟩ := List.getElem?_eq_some_iff.1 hb
    have hlt' : i.toNat < s.size := by simpa using hlt
    rw [dif_pos ⟨hi, by omega⟩] at h1
    have h2 : s[i.toNat]'hlt' = b := he
    rw [h2, hr] at h1
    simp [execOp, hrel.ev hx, hrel.ev hy, h1]) h
/-! ### slices -/
theorem r_lenS {T e : Nat} {b : Option Nat} {off len cap : Nat} (hT : P.underlying T = some (.slice e)) (hd : Nat.blt d nt = true) (hg : wantedS ops ⟨some d, .call { callee := .builtin .len, args := #[x], argTypes := #[T] }, ty, pos, af, g⟩ t = some true) (hx : ev t x = some (slv b off len cap)) (h : Run P bl ops rest ⟨nt, (d, .int .i64 len) :: t, L⟩ K) :
    Run P bl ops (⟨some d, .call { callee := .builtin .len, args := #[x], argTypes := #[T] }, ty, pos, af, g⟩ :: rest) ⟨nt, t, L⟩ K :=
  run_q hd hg rfl (fun B a w hrel => by
    have he : P.elem T = e := by simp [Program.elem, hT]
    have := run_len_slice (P := P) w T ty (b.map fun g => ⟨g, off, none⟩) len cap (by rw [he]; exact hT)
    have h2 := hrel.ev hx
    unfold slv at h2
    simp [execOp, resolve, invoke, builtin, h2, this, goInt]) h
/-- the place of an element -/
theorem r_indexAddr {T e : Nat} {k : IntKind} {i : Int} {b : Blk} {off len cap : Nat} {inf : TI} (kk off' : Nat) (hT : P.underlying T = some (.slice e)) (hinf : tiOK P e inf = true) (hd : Nat.blt d nt = true) (hg : wantedS ops ⟨some d, .indexAddr T x y, ty, pos, af, g⟩ t = some true)
    (hk : (blank bl L)[kk]? = some b) (hx : ev t x = some (slv b.base off len cap)) (hy : ev t y = some (.int k i)) (h0 : 0 ≤ i) (h1 : i < len) (hb : b.cs ≠ []) (ho : off + i.toNat * inf.size = off')
    (h : Run P bl ops rest ⟨nt, (d, b.at off') :: t, L⟩ K) : Run P bl ops (⟨some d, .indexAddr T x y, ty, pos, af, g⟩ :: rest) ⟨nt, t, L⟩ K :=
  run_q hd hg rfl (fun B a w hrel => by
    have he : P.elem T = e := by simp [Program.elem, hT]
    have h2 := hrel.ev hx
    have h3 := hrel.ev hy
    cases hbb : b.base with
    | none => exact absurd ((hrel.mem.blk kk b hk).2 hbb).1 hb
    | some gg =>
      rw [hbb] at h2
      have := run_indexAt_slice (P := P) w T ⟨gg, off, none⟩ len cap k i (by rw [he]; exact hT)
      rw [if_pos ⟨h0, h1⟩, he, ti_sizeOf hinf w] at this
      simp only [Result.andThen_ok, add_lit, ho] at this
      unfold slv at h2
      simp only [Option.map_some] at h2
      unfold Blk.at
      rw [hbb]
      simp [execOp, h2, h3, this]) h
/-- the place in an array that a pointer points to -/
theorem r_indexAddrA {T e N : Nat} {k : IntKind} {i : Int} {gg : Nat} {off : Nat} {inf : TI} (off' : Nat) (hT : P.underlying T = some (.array N e)) (hinf : tiOK P e inf = true) (hd : Nat.blt d nt = true) (hg : wantedS ops ⟨some d, .indexAddr T x y, ty, pos, af, g⟩ t = some true)
    (hx : ev t x = some (.pointer (some ⟨gg, off, none⟩))) (hy : ev t y = some (.int k i)) (h0 : 0 ≤ i) (h1 : i < N) (ho : off + i.toNat * inf.size = off')
    (h : Run P bl ops rest ⟨nt, (d, .pointer (some ⟨gg, off', none⟩)) :: t, L⟩ K) : Run P bl ops (⟨some d, .indexAddr T x y, ty, pos, af, g⟩ :: rest) ⟨nt, t, L⟩ K :=
  run_q hd hg rfl (fun B a w hrel => by
    have he : P.elem T = e := by simp [Program.elem, hT]
    have hN : P.arrayLen T = N := by simp [Program.arrayLen, hT]
    have h2 := hrel.ev hx
    have h3 := hrel.ev hy
    have := run_indexAt_array (P := P) w T ⟨gg, off, none⟩ k i (by rw [he, hN]; exact hT)
    rw [hN, if_pos ⟨h0, h1⟩, he, ti_sizeOf hinf w] at this
    simp only [Result.andThen_ok, add_lit, ho] at this
    simp [execOp, h2, h3, this]) h
/-- the load of one cell -/
theorem r_load1 {T : Nat} {b : Blk} {v : Value} (k off : Nat) (hi : tiOK P T ⟨false, 1, []⟩ = true) (hd : Nat.blt d nt = true) (hg : wantedS ops ⟨some d, .load T x, ty, pos, af, g⟩ t = some true) (hk : (blank bl L)[k]? = some b) (hx : ev t x = some (b.at off))
    (hv : b.cs[off]? = some v) (h : Run P bl ops rest ⟨nt, (d, v) :: t, L⟩ K) :
    Run P bl ops (⟨some d, .load T x, ty, pos, af, g⟩ :: rest) ⟨nt, t, L⟩ K := by
  obtain ⟨h1, h2⟩ := List.getElem?_eq_some_iff.1 hv
  refine run_q hd hg rfl (q_load (s := St.bk ⟨nt, t, L⟩ bl) (vs := [v]) rfl k hk hx hi ?_ rfl (by simp) rfl) h
  rw [List.drop_eq_getElem_cons h1, h2]; rfl
theorem set_take_drop {l : List Value} {i : Nat} {v : Value} (h : i < l.length) : l.take i ++ [v] ++ l.drop (i + 1) = l.set i v := by
  rw [List.set_eq_take_append_cons_drop, if_pos h]; simp
/-- the store into one cell -/
theorem r_store1 (hbl : blS bl = false) {T : Nat} {b : Blk} {v : Value} (k off : Nat) (L' : List Blk) (cs' : List Value) (hi : tiOK P T ⟨false, 1, []⟩ = true) (hg : wantedS ops ⟨none, .store T x y, ty, pos, af, g⟩ t = some true) (hk : L[k]? = some b) (ho : b.own = true) (hbb : b.base.isSome = true) (hx : ev t x = some (b.at off))
    (hy : ev t y = some v) (hv : v.cells = #[v]) (h1 : v.oneCell' = true) (hfit : off < b.cs.length) (hcs : b.cs.set off v = cs') (hL : L.set k { b with cs := cs' } = L')
    (h : Run P bl ops rest ⟨nt, t, L'⟩ K) : Run P bl ops (⟨none, .store T x y, ty, pos, af, g⟩ :: rest) ⟨nt, t, L⟩ K :=
  run_s hg rfl rfl (by
    have h4 := set_take_drop (v := v) hfit
    rw [hcs] at h4
    have h5 := e_storeS (P := P) (o := ⟨none, .store T x y, ty, pos, af, g⟩) (s := ⟨nt, t, L⟩) rfl k hk ho hx hbb hy hi (by rw [hv]; rfl) (by decide) hfit (by rw [hv]; simp [h1])
    rw [hv] at h5
    have h6 : EffS P ⟨none, .store T x y, ty, pos, af, g⟩ ⟨nt, t, L⟩ (L.set k { b with cs := b.cs.take off ++ [v] ++ b.cs.drop (off + 1) }) := h5
    rw [h4, hL] at h6
    exact h6) (fun h2 => by rw [hbl] at h2; cases h2) h
theorem r_store1E {T : Nat} {b : Blk} {v : Value} (k off : Nat) (L' : List Blk) (cs' : List Value) (hi : tiOK P T ⟨false, 1, []⟩ = true) (hg : wantedS ops ⟨none, .store T x y, ty, pos, af, g⟩ t = some true) (hk : L[k]? = some b) (ho : b.own = true) (hbb : b.base.isSome = true) (hx : ev t x = some (b.at off))
    (hy : ev t y = some v) (hv : v.cells = #[v]) (h1 : v.oneCell' = true) (hfit : off < b.cs.length) (hcs : b.cs.set off v = cs') (hL : L.set k { b with cs := cs' } = L') (hbl : blank bl L' = blank bl L)
    (h : Run P bl ops rest ⟨nt, t, L'⟩ K) : Run P bl ops (⟨none, .store T x y, ty, pos, af, g⟩ :: rest) ⟨nt, t, L⟩ K :=
  run_s hg rfl rfl (by
    have h4 := set_take_drop (v := v) hfit
    rw [hcs] at h4
    have h5 := e_storeS (P := P) (o := ⟨none, .store T x y, ty, pos, af, g⟩) (s := ⟨nt, t, L⟩) rfl k hk ho hx hbb hy hi (by rw [hv]; rfl) (by decide) hfit (by rw [hv]; simp [h1])
    rw [hv] at h5
    have h6 : EffS P ⟨none, .store T x y, ty, pos, af, g⟩ ⟨nt, t, L⟩ (L.set k { b with cs := b.cs.take off ++ [v] ++ b.cs.drop (off + 1) }) := h5
    rw [h4, hL] at h6
    exact h6) (fun _ => hbl) h
/-- the place of an element; where the row lies is known -/
theorem r_indexAddrG {T e gg : Nat} {k : IntKind} {i : Int} {off len cap : Nat} {inf : TI} (off' : Nat) (hT : P.underlying T = some (.slice e)) (hinf : tiOK P e inf = true) (hd : Nat.blt d nt = true) (hg : wantedS ops ⟨some d, .indexAddr T x y, ty, pos, af, g⟩ t = some true)
    (hx : ev t x = some (slv (some gg) off len cap)) (hy : ev t y = some (.int k i)) (h0 : 0 ≤ i) (h1 : i < len) (ho : off + i.toNat * inf.size = off')
    (h : Run P bl ops rest ⟨nt, (d, .pointer (some ⟨gg, off', none⟩)) :: t, L⟩ K) : Run P bl ops (⟨some d, .indexAddr T x y, ty, pos, af, g⟩ :: rest) ⟨nt, t, L⟩ K :=
  run_q hd hg rfl (fun B a w hrel => by
    have he : P.elem T = e := by simp [Program.elem, hT]
    have h2 := hrel.ev hx
    have h3 := hrel.ev hy
    have := run_indexAt_slice (P := P) w T ⟨gg, off, none⟩ len cap k i (by rw [he]; exact hT)
    rw [if_pos ⟨h0, h1⟩, he, ti_sizeOf hinf w] at this
    simp only [Result.andThen_ok, add_lit, ho] at this
    unfold slv at h2
    simp only [Option.map_some] at h2
    simp [execOp, h2, h3, this]) h
end
end Go.Via
set_option linter.unusedVariables false
set_option linter.unusedSimpArgs false
namespace Go.Via
open Go Go.RowKit
theorem setCells_row : ∀ (vs : List Value) (w : World) (g o : Nat) (cur : Array Value) (t : TypeId), w.heap[g]? = some (.cells cur t (0, 0)) → o + vs.length ≤ cur.size →
    w.setCells g o vs = w.setRow g (cur.toList.take o ++ vs ++ cur.toList.drop (o + vs.length)).toArray
  | [], w, g, o, cur, t, hg, hl => by
    have e : (cur.toList.take o ++ [] ++ cur.toList.drop (o + ([] : List Value).length)).toArray = cur := by simp
    rw [e, World.setCells]
    have hlt : g < w.heap.size := (Array.getElem?_eq_some_iff.1 hg).1
    have hv : w.heap[g] = .cells cur t (0, 0) := (Array.getElem?_eq_some_iff.1 hg).2
    have key : w.heap = (w.setRow g cur).heap := by
      apply Array.ext
      · simp [World.setRow]
      · intro i h1 h2
        have : (w.setRow g cur).heap[i]? = w.heap[i]? := by
          by_cases e : i = g
          · subst e; rw [setRow_heap w i cur cur t (0, 0) hg, hg]
          · exact setRow_other w g i cur e
        rw [Array.getElem?_eq_getElem h1, Array.getElem?_eq_getElem h2] at this
        exact (Option.some.inj this).symm
    show w = { w with heap := (w.setRow g cur).heap }
    rw [← key]
  | v :: r, w, g, o, cur, t, hg, hl => by
    simp only [List.length_cons] at hl
    rw [World.setCells, setCell_eq_setRow w g o cur t (0, 0) v hg, setCells_row r _ g (o + 1) (cur.setIfInBounds o v) t (setRow_heap w g cur _ t (0, 0) hg) (by simp; omega), setRow_setRow]
    congr 1
    have e := list_seg_step cur.toList o v r (by simp at hl ⊢; omega)
    simpa [Array.toList_setIfInBounds, Nat.add_assoc] using e
/-- a new block takes the place of an old one -/
theorem LRel.swapIn {B w : World} {L : List Blk} {b : Blk} (h : LRel B (L ++ [b]) w) (k : Nat) : LRel B (L.set k b) w := by
  by_cases hkl : k < L.length
  · have hb : ∀ (m : Nat) (c : Blk), (L.set k b)[m]? = some c → m < L.length ∧ (L ++ [b])[if m = k then L.length else m]? = some c := fun m c hm => by
      have hml : m < L.length := by have := (List.getElem?_eq_some_iff.1 hm).1; simpa using this
      refine ⟨hml, ?_⟩
      by_cases e : m = k
      · subst e; rw [List.getElem?_set_self hkl] at hm; cases hm; simp
      · rw [List.getElem?_set_ne (Ne.symm e)] at hm
        rw [if_neg e, List.getElem?_append_left hml]; exact hm
    refine ⟨h.below, fun m c hm => h.blk _ c (hb m c hm).2, fun i j g bi bj hij hi hj ho hg hgj => ?_⟩
    obtain ⟨hi1, hi2⟩ := hb i bi hi
    obtain ⟨hj1, hj2⟩ := hb j bj hj
    refine h.apart _ _ g bi bj ?_ hi2 hj2 ho hg hgj
    split <;> split <;> omega
  · rw [List.set_eq_of_length_le (by omega)]; exact h.take
theorem LRel.mono {B w : World} {L L' : List Blk} (h : LRel B L w) (hl : ∀ (k : Nat) (b' : Blk), L'[k]? = some b' → ∃ b, L[k]? = some b ∧ b'.le b) : LRel B L' w := by
  refine ⟨h.below, fun k b hk => ?_, fun i j g bi bj hij hi hj ho hg hgj => ?_⟩
  · obtain ⟨c, h2, h3⟩ := hl k b hk
    obtain ⟨a1, a2⟩ := h.blk k c h2
    refine ⟨fun g hg => (a1 g (by rw [← h3.1]; exact hg)).le h3, fun hn => ?_⟩
    obtain ⟨b1, b2⟩ := a2 (by rw [← h3.1]; exact hn)
    obtain ⟨_, _, l3, ⟨q, l4⟩, _⟩ := h3
    exact ⟨by rw [l4, b1]; simp, by rw [l3]; exact b2⟩
  · obtain ⟨ci, h2, h3⟩ := hl i bi hi
    obtain ⟨cj, g2, g3⟩ := hl j bj hj
    exact h.apart i j g ci cj hij h2 g2 (h3.2.2.2.2 ho) (by rw [← h3.1]; exact hg) (by rw [← g3.1]; exact hgj)
theorem LRel.last {B w : World} {L : List Blk} {b b' : Blk} (h : LRel B (L ++ [b]) w) (hl : b'.le b) : LRel B (L ++ [b']) w := h.mono fun k c hk => by
  rw [List.getElem?_append] at hk ⊢
  split at hk
  · rename_i h1; rw [if_pos h1]; exact ⟨c, hk, c.le_refl⟩
  · rename_i h1
    rw [if_neg h1]
    cases hq : k - L.length with
    | zero => rw [hq] at hk; simp at hk; subst hk; exact ⟨b, by simp, hl⟩
    | succ q => rw [hq] at hk; simp at hk
structure AR (need s : Nat) where
  g : Nat
  n : Nat
  cap : Nat
  h : need ≤ cap
  hn : cap * s ≤ n
section
variable {P : Program} {bl : List Nat} {ops : Array Oper} {K : St → Prop} {rest : List Oper} {nt : Nat} {t : List (Nat × Value)} {L : List Blk} {d : Nat} {ty : TypeId} {pos : String} {af : Array Edge} {g : Option (Nat × Bool)} {x y : Operand}
theorem r_sliceH {T e : Nat} {b : Option Nat} {len cap : Nat} {k : IntKind} {h' : Int} {inf : TI} (len' : Nat) (hT : P.underlying T = some (.slice e)) (hinf : tiOK P e inf = true) (hd : Nat.blt d nt = true) (hg : wantedS ops ⟨some d, .slice T x none (some y) none, ty, pos, af, g⟩ t = some true) (hx : ev t x = some (slv b 0 len cap)) (hy : ev t y = some (.int k h')) (h0 : 0 ≤ h') (h1 : h' ≤ cap) (hl : h'.toNat = len')
    (h : Run P bl ops rest ⟨nt, (d, slv b 0 len' cap) :: t, L⟩ K) : Run P bl ops (⟨some d, .slice T x none (some y) none, ty, pos, af, g⟩ :: rest) ⟨nt, t, L⟩ K :=
  run_q hd hg rfl (fun B a w hrel => by
    have he : P.elem T = e := by simp [Program.elem, hT]
    have hT' : P.underlying T = some (.slice (P.elem T)) := by rw [he]; exact hT
    have h2 := hrel.ev hx
    have h3 := hrel.ev hy
    unfold slv at h2
    have r1 := run_sliceAt_slice (P := P) w T (.slice (b.map fun g => ⟨g, 0, none⟩) len cap) none (some (.int k h')) none hT'
    rw [run_slice_h (P := P) w T (b.map fun g => ⟨g, 0, none⟩) len cap hT' k h' h0 h1, he, ti_sizeOf hinf w] at r1
    simp only [Result.andThen_ok] at r1
    have e1 : sliced (b.map fun g => (⟨g, 0, none⟩ : Addr)) 0 h'.toNat cap inf.size = slv b 0 len' cap := by
      unfold sliced slv
      rw [hl]
      cases b <;> simp [add_lit]
    rw [e1] at r1
    simp [execOp, h2, h3, r1]) h
theorem r_makeSlice {T e : Nat} {k : IntKind} {c : Nat} {inf : TypeInfo} {z : Value} {m : Int} (hem : e < mapMark) (cs : List Value) (mk : Nat → List Blk) (hT : P.underlying T = some (.slice e)) (hi : P.info? e = some inf) (hz : inf.zero = some z) (hs : inf.size = 1) (hz1 : z.cells = #[z]) (hd : Nat.blt d nt = true)
    (hg : wantedS ops ⟨some d, .makeSlice T x y, ty, pos, af, g⟩ t = some true) (hx : ev t x = some (.int k m)) (hy : ev t y = some (.int k m)) (hm : m = (c : Int)) (hb : inf.bytes ≤ 512) (hc : c ≤ 137438953472) (hcs : List.replicate c z = cs) (hL : ∀ b, L ++ [⟨some b, e, cs, c, true⟩] = mk b)
    (h : ∀ b, Run P bl ops rest ⟨nt, (d, slv (some b) 0 c c) :: t, mk b⟩ K) : Run P bl ops (⟨some d, .makeSlice T x y, ty, pos, af, g⟩ :: rest) ⟨nt, t, L⟩ K :=
  run_e hd hg rfl rfl (X := Nat) (nx := fun b => ⟨nt, (d, slv (some b) 0 c c) :: t, mk b⟩) (fun hd' => eff_of fun B a w hr => by
    subst hm
    have hbb : inf.bytes * c ≤ 512 * 137438953472 := Nat.mul_le_mul hb hc
    have r1 := run_make (P := P) w T e inf z hT hi hz k k (c : Int) (c : Int) (by omega) (Int.le_refl _) (by
      have : ((inf.bytes * c : Nat) : Int) ≤ 281474976710656 := by omega
      rwa [Int.natCast_mul] at this) (by omega)
    simp only [Int.toNat_natCast, hs, Nat.mul_one, hz1] at r1
    have e1 : madeCells #[z] c = (List.replicate c z).toArray := by
      unfold madeCells
      apply Array.ext
      · simp
      · intro i h1 h2
        simp [Nat.mod_one]
    rw [e1] at r1
    refine ⟨slv (some w.heap.size) 0 c c, w.alloc (.cells (List.replicate c z).toArray e), w.heap.size, by
      have r2 : (execOp a.eval ⟨some d, .makeSlice T x y, ty, pos, af, g⟩).run P w = ((Instr.makeSlice T (.int k (c : Int)) (.int k (c : Int))).run P w).andThen fun v w => .ok (.value v) w := by
        simp [execOp, hr.ev hx, hr.ev hy, Sem.run_bind]
      rw [r2, r1]; rfl, ?_⟩
    have h1 := hr.mem.alloc e (List.replicate c z).toArray hem
    simp only [List.size_toArray, List.length_replicate] at h1
    rw [← hL, ← hcs]
    exact hr.put hd' h1) fun b => h b
/-- append to a row of the call's own -/
theorem r_append {T e : Nat} {inf : TypeInfo} {z : Value} {b : Blk} {len cap b2o n2 c2 : Nat} {b2 : Blk} (hem : e < mapMark) (k k2 : Nat) (mk : AR (len + n2) inf.size → List Blk) (hT : P.underlying T = some (.slice e)) (hi : P.info? e = some inf) (hz : inf.zero = some z) (hs : 0 < inf.size) (hzs : z.cells.size = inf.size) (hbytes : inf.bytes ≤ 1024) (hd : Nat.blt d nt = true)
    (hg : wantedS ops ⟨some d, .call { callee := .builtin .append, args := #[x, y], argTypes := #[T, T] }, ty, pos, af, g⟩ t = some true)
    (hk : L[k]? = some b) (ho : b.own = true) (he : b.e = e) (hlen : b.cs.length = len * inf.size) (hcap : len ≤ cap) (hn : cap * inf.size ≤ b.n) (hx : ev t x = some (slv b.base 0 len cap))
    (hk2 : L[k2]? = some b2) (hlen2 : b2.cs.length = n2 * inf.size) (hpos : 0 < n2) (hb2 : b2.base = some b2o) (hy : ev t y = some (slv (some b2o) 0 n2 c2)) (h1 : ∀ v ∈ b2.cs, v.oneCell' = true) (hmax : len + n2 ≤ 17179869184)
    (hL : ∀ r, L.set k ⟨some r.g, e, b.cs ++ b2.cs, r.n, true⟩ = mk r)
    (h : ∀ r : AR (len + n2) inf.size, Run P bl ops rest ⟨nt, (d, slv (some r.g) 0 (len + n2) r.cap) :: t, mk r⟩ K) :
    Run P bl ops (⟨some d, .call { callee := .builtin .append, args := #[x, y], argTypes := #[T, T] }, ty, pos, af, g⟩ :: rest) ⟨nt, t, L⟩ K :=
  run_e hd hg rfl rfl (X := AR (len + n2) inf.size) (nx := fun r => ⟨nt, (d, slv (some r.g) 0 (len + n2) r.cap) :: t, mk r⟩) (fun hd' => eff_of fun B a w hr => by
    have hx' := hr.ev hx
    have hy' := hr.ev hy
    -- the new ones
    have hnews : ∀ j u, b2.cs[j]? = some u → w.cell? ((⟨b2o, 0, none⟩ : Addr).add j) = some u := fun j u hj => by
      obtain ⟨g', hg', h2⟩ := hr.mem.cell hk2 hj
      rw [hb2] at hg'; cases hg'
      rw [add_lit, Nat.zero_add]; exact h2
    have hsrc := Src.ofSlice (P := P) w (size := inf.size) hT ⟨b2o, 0, none⟩ n2 c2 b2.cs hlen2 hnews h1
    have fin : ∀ v w', (Builtin.append_ #[T, T] ty #[slv b.base 0 len cap, slv (some b2o) 0 n2 c2]).run P w = .ok v w' → (execOp a.eval ⟨some d, .call { callee := .builtin .append, args := #[x, y], argTypes := #[T, T] }, ty, pos, af, g⟩).run P w = .ok (.value v) w' := fun v w' hv => by
      simp [execOp, resolve, invoke, builtin, hx', hy', hv]
    by_cases hroom : len + n2 ≤ cap
    · -- there is room
      obtain ⟨gg, hgg⟩ : ∃ gg, b.base = some gg := by
        cases hbb : b.base with
        | some gg => exact ⟨gg, rfl⟩
        | none =>
          have := ((hr.mem.blk k b hk).2 hbb).2
          have h3 : 1 * 1 ≤ cap * inf.size := Nat.mul_le_mul (by omega) hs
          omega
      obtain ⟨cur, ⟨e', fr, c1, cfr, _⟩, c2', c3⟩ := ((hr.mem.blk k b hk).1 gg hgg).cells (.inl (by
        have h3 : 1 * 1 ≤ cap * inf.size := Nat.mul_le_mul (by omega) hs
        omega))
      obtain ⟨rfl, rfl⟩ := cfr ho
      have hroomc : (len + n2) * inf.size ≤ cap * inf.size := Nat.mul_le_mul_right _ hroom
      have hsum : (len + n2) * inf.size = len * inf.size + n2 * inf.size := Nat.add_mul ..
      have hfit : 0 + len * inf.size + b2.cs.length ≤ cur.size := by rw [hlen2]; omega
      have r1 := run_append_room_src (P := P) w T T ty e inf hT hi gg 0 len cap (slv (some b2o) 0 n2 c2) n2 b2.cs hsrc hroom
        (fun j hj => by
          rw [cell_of_row w gg _ cur b.e (0, 0) c1]
          rw [Array.getElem?_eq_getElem (by omega)]; rfl)
        (fun j hj => by simp [World.frozen?, c1])
      rw [setCells_row b2.cs w gg _ cur b.e c1 hfit] at r1
      refine ⟨_, _, (⟨gg, b.n, cap, hroom, hn⟩ : AR (len + n2) inf.size), fin _ _ (by unfold slv at r1 ⊢; rw [hgg]; exact r1), ?_⟩
      refine hr.put hd' ?_
      rw [← hL]
      have hcur : cur.toList.take (0 + len * inf.size) = b.cs := by rw [Nat.zero_add, ← hlen]; exact c3
      have h5 := hr.mem.set hk ho hgg (cur.toList.take (0 + len * inf.size) ++ b2.cs ++ cur.toList.drop (0 + len * inf.size + b2.cs.length)).toArray (b.cs ++ b2.cs)
        (by simp only [List.size_toArray, List.length_append, List.length_take, List.length_drop, Array.length_toList]; omega)
        (by
          rw [hcur]
          simp only [List.append_assoc]
          rw [List.length_append, ← List.append_assoc, ← List.length_append]
          exact List.take_left)
      rw [hgg] at h5
      rw [ho] at h5
      rw [he] at h5
      exact h5
    · -- there is none
      have hold : (Builtin.firstCells inf.size len (slv b.base 0 len cap)).run P w.drew = .ok b.cs.toArray w.drew := by
        cases hbb : b.base with
        | none =>
          have := ((hr.mem.blk k b hk).2 hbb).1
          rw [this]
          exact run_firstCells_none w.drew inf.size len len cap
        | some gg =>
          refine run_firstCells_some (P := P) w.drew inf.size len ⟨gg, 0, none⟩ len cap b.cs hlen (fun j v hj => ?_)
          obtain ⟨g', hg', h2⟩ := hr.mem.cell hk hj
          rw [hbb] at hg'; cases hg'
          rw [add_lit, Nat.zero_add]
          exact h2
      have hge := grownCap_ge w (len + n2) cap e
      have hbb : (len + n2) * inf.bytes ≤ 17179869184 * 1024 := Nat.mul_le_mul hmax hbytes
      have hfit : Builtin.nextslicecap (len + n2) cap * inf.bytes ≤ 281474976710656 := growslice_fits (by omega) (by omega)
      have r1 := run_append_grow_src (P := P) w T T ty e inf z hT hi hz (b.base.map fun g => ⟨g, 0, none⟩) len cap b.cs hold (slv (some b2o) 0 n2 c2) n2 b2.cs hsrc (by omega) (by omega) hfit
      refine ⟨_, _, (⟨w.heap.size, (((b.cs ++ b2.cs).toArray ++ Builtin.zeroCells z.cells (grownCap w (len + n2) cap e - (len + n2))) : Array Value).size, grownCap w (len + n2) cap e, hge, ?_⟩ : AR (len + n2) inf.size), fin _ _ r1, ?_⟩
      · have hz' : (Builtin.zeroCells z.cells (grownCap w (len + n2) cap e - (len + n2))).size = (grownCap w (len + n2) cap e - (len + n2)) * inf.size := by
          unfold Builtin.zeroCells; simp [hzs]
        have hm : (grownCap w (len + n2) cap e - (len + n2)) * inf.size + (len + n2) * inf.size = grownCap w (len + n2) cap e * inf.size := by
          rw [← Nat.add_mul, Nat.sub_add_cancel hge]
        have hsum : (len + n2) * inf.size = len * inf.size + n2 * inf.size := Nat.add_mul ..
        rw [Array.size_append, hz']
        simp only [List.size_toArray, List.length_append]
        omega
      · refine hr.put hd' ?_
        rw [← hL]
        have h5 := (hr.mem.drew.alloc e ((b.cs ++ b2.cs).toArray ++ Builtin.zeroCells z.cells (grownCap w (len + n2) cap e - (len + n2))) hem)
        refine (h5.last (b' := ⟨some w.heap.size, e, b.cs ++ b2.cs, ((b.cs ++ b2.cs).toArray ++ Builtin.zeroCells z.cells (grownCap w (len + n2) cap e - (len + n2)) : Array Value).size, true⟩) ⟨rfl, rfl, rfl, ⟨(b.cs ++ b2.cs).length, ?_⟩, fun _ => rfl⟩).swapIn k
        rw [Array.toList_append]
        exact (List.take_left (l₁ := b.cs ++ b2.cs)).symm) fun r => h r
end
end Go.Via
set_option linter.unusedVariables false
set_option linter.unusedSimpArgs false
namespace Go.Via
open Go Go.RowKit
/-- the string of some bytes -/
def strN (l : List Nat) : ByteArray := ⟨(l.map UInt8.ofNat).toArray⟩
theorem strN_nums (l : List Nat) : strOfNums (l.map fun (n : Nat) => (n : Int)) = strN l := by simp [strOfNums, strN]
section
variable {P : Program} {bl : List Nat} {ops : Array Oper} {K : St → Prop} {rest : List Oper} {nt : Nat} {t : List (Nat × Value)} {L : List Blk} {d : Nat} {ty : TypeId} {pos : String} {af : Array Edge} {g : Option (Nat × Bool)} {x y : Operand}
theorem r_buildSlice {T n nn : Nat} {parts : List (Nat × Operand)} (ps : List (Nat × Value)) {e : Nat} {cs : List Value} (mk : Nat → List Blk) (hd : Nat.blt d nt = true) (hg : wantedS ops ⟨some d, .buildSlice T n parts.toArray, ty, pos, af, g⟩ t = some true) (hx : parts.map (fun p => (p.1, ev t p.2)) = ps.map (fun p => (p.1, some p.2)))
    (hb : ∀ w, (Instr.buildSlice T n ps.toArray).run P w = .ok (.slice (some ⟨w.heap.size, 0, none⟩) n n) (w.alloc (.cells cs.toArray e))) (hnn : cs.length = nn) (hL : ∀ b, L ++ [⟨some b, e, cs, nn, true⟩] = mk b) (h : ∀ b, Run P bl ops rest ⟨nt, (d, slv (some b) 0 n n) :: t, mk b⟩ K) (hem : Nat.blt e mapMark = true := by rfl) :
    Run P bl ops (⟨some d, .buildSlice T n parts.toArray, ty, pos, af, g⟩ :: rest) ⟨nt, t, L⟩ K :=
  run_e hd hg rfl rfl (X := Nat) (nx := fun b => ⟨nt, (d, slv (some b) 0 n n) :: t, mk b⟩) (fun hd' => eff_of fun B a w hr => by
    subst hnn
    have : (parts.map fun p => (p.1, a.eval p.2)) = ps := by
      clear h hb hg
      induction parts generalizing ps with
      | nil => cases ps <;> simp_all
      | cons p parts ih =>
        cases ps with
        | nil => simp at hx
        | cons q ps =>
          simp only [List.map_cons, List.cons.injEq, Prod.mk.injEq] at hx
          rw [List.map_cons, hr.ev hx.1.2, ih ps hx.2 hd', hx.1.1]
    refine ⟨slv (some w.heap.size) 0 n n, w.alloc (.cells cs.toArray e), w.heap.size, by simp [execOp, this, hb w, slv], ?_⟩
    rw [← hL]
    have h5 := hr.mem.alloc e cs.toArray (by simpa using hem)
    simp only [List.size_toArray] at h5
    exact hr.put hd' h5) fun b => h b
theorem r_sliceA {T e N gg : Nat} {k : IntKind} {h' : Int} {inf : TI} (len' : Nat) (hT : P.underlying T = some (.array N e)) (hinf : tiOK P e inf = true) (hd : Nat.blt d nt = true) (hg : wantedS ops ⟨some d, .slice T x none (some y) none, ty, pos, af, g⟩ t = some true) (hx : ev t x = some (.pointer (some ⟨gg, 0, none⟩))) (hy : ev t y = some (.int k h')) (h0 : 0 ≤ h') (h1 : h' ≤ N) (hl : h'.toNat = len')
    (h : Run P bl ops rest ⟨nt, (d, slv (some gg) 0 len' N) :: t, L⟩ K) : Run P bl ops (⟨some d, .slice T x none (some y) none, ty, pos, af, g⟩ :: rest) ⟨nt, t, L⟩ K :=
  run_q hd hg rfl (fun B a w hrel => by
    have he : P.elem T = e := by simp [Program.elem, hT]
    have hN : P.arrayLen T = N := by simp [Program.arrayLen, hT]
    have h2 := hrel.ev hx
    have h3 := hrel.ev hy
    have r1 := run_sliceAt_array_h (P := P) w T ⟨gg, 0, none⟩ (by rw [he, hN]; exact hT) k h' h0 (by rw [hN]; exact h1)
    rw [he, ti_sizeOf hinf w] at r1
    simp only [Result.andThen_ok] at r1
    have e1 : slicedAt (⟨gg, 0, none⟩ : Addr) 0 h'.toNat (P.arrayLen T) inf.size = slv (some gg) 0 len' N := by
      unfold slicedAt slv
      rw [hl, hN]
      simp [add_lit]
    rw [e1] at r1
    simp [execOp, h2, h3, r1]) h
theorem r_sliceStr {T : Nat} {s : ByteArray} {k : IntKind} {l : Int} {r : ByteArray} (hT : P.underlying T = some .string) (hd : Nat.blt d nt = true) (hg : wantedS ops ⟨some d, .slice T x (some y) none none, ty, pos, af, g⟩ t = some true) (hx : ev t x = some (.string s)) (hy : ev t y = some (.int k l)) (h0 : 0 ≤ l) (h1 : l ≤ s.size) (hr : s.extract l.toNat s.size = r)
    (h : Run P bl ops rest ⟨nt, (d, .string r) :: t, L⟩ K) : Run P bl ops (⟨some d, .slice T x (some y) none none, ty, pos, af, g⟩ :: rest) ⟨nt, t, L⟩ K :=
  run_q hd hg rfl (fun B a w hrel => by
    have h2 := hrel.ev hx
    have h3 := hrel.ev hy
    have r1 := run_sliceAt_string (P := P) w T (.string s) (some (.int k l)) none none hT
    rw [run_slice_string_l (P := P) w T s hT k l h0 h1, hr] at r1
    simp [execOp, h2, h3, r1]) h
/-- bytes become a string -/
theorem r_convBS {S e D : Nat} {b : Blk} {gg len cap : Nat} {l : List Nat} {r : ByteArray} (k : Nat) (hS : P.underlying S = some (.slice e)) (he : P.underlying e = some (.int .u8)) (hD : P.underlying D = some .string) (hd : Nat.blt d nt = true) (hg : wantedS ops ⟨some d, .convert S D x, ty, pos, af, g⟩ t = some true)
    (hk : (blank bl L)[k]? = some b) (hb : b.base = some gg) (hx : ev t x = some (slv (some gg) 0 len cap)) (hcs : b.cs.take len = NV .u8 l) (hl : l.length = len) (hr : strN l = r)
    (h : Run P bl ops rest ⟨nt, (d, .string r) :: t, L⟩ K) : Run P bl ops (⟨some d, .convert S D x, ty, pos, af, g⟩ :: rest) ⟨nt, t, L⟩ K :=
  run_q hd hg rfl (fun B a w hrel => by
    have h1 := run_convert_bytes_arg (P := P) w S e hS he gg 0 len cap (l.map fun (n : Nat) => (n : Int)) (by simpa using hl) (fun i hi => by
      have hc : b.cs[i]? = some (.int .u8 ((l.map fun (n : Nat) => (n : Int)).getD i 0)) := by
        have h2 : (b.cs.take len)[i]? = (NV .u8 l)[i]? := by rw [hcs]
        rw [List.getElem?_take, if_pos hi] at h2
        rw [h2]
        have hil : i < l.length := by omega
        simp [NV, List.getElem?_eq_getElem hil]
      obtain ⟨g', hg', h2⟩ := hrel.mem.cell hk hc
      rw [hb] at hg'; cases hg'
      rw [Nat.zero_add]; exact h2) D hD
    rw [strN_nums, hr] at h1
    have h2 := hrel.ev hx
    unfold slv at h2
    simp only [Option.map_some] at h2
    simp [execOp, h2, h1]) h
/-- copy into the beginning of a row of the call's own -/
theorem r_copy {T e : Nat} {b b2 : Blk} {gg len cap len2 cap2 : Nat} {inf : TypeInfo} (k k2 : Nat) (L' : List Blk) (cs' : List Value) (hT : P.underlying T = some (.slice e)) (hi : P.info? e = some inf) (hs : inf.size = 1) (hd : Nat.blt d nt = true)
    (hg : wantedS ops ⟨some d, .call { callee := .builtin .copy, args := #[x, y], argTypes := #[T, T] }, ty, pos, af, g⟩ t = some true) (hk : L[k]? = some b) (ho : b.own = true) (hb : b.base = some gg) (hx : ev t x = some (slv (some gg) 0 len cap))
    (hk2 : L[k2]? = some b2) (hy : ev t y = some (slv b2.base 0 len2 cap2)) (hl2 : b2.cs.length = len2) (hle : len2 ≤ len) (hfit : len2 ≤ b.cs.length) (h1 : ∀ v ∈ b2.cs, v.oneCell' = true) (hcs : b2.cs ++ b.cs.drop len2 = cs') (hL : L.set k { b with cs := cs' } = L')
    (h : Run P bl ops rest ⟨nt, (d, .int .i64 len2) :: t, L'⟩ K) : Run P bl ops (⟨some d, .call { callee := .builtin .copy, args := #[x, y], argTypes := #[T, T] }, ty, pos, af, g⟩ :: rest) ⟨nt, t, L⟩ K :=
  run_e hd hg rfl rfl (X := Unit) (nx := fun _ => ⟨nt, (d, .int .i64 len2) :: t, L'⟩) (fun hd' => eff_of fun B a w hr => by
    have hx' := hr.ev hx
    have hy' := hr.ev hy
    have fin : ∀ v w', (Builtin.copy_ #[T, T] ty #[slv (some gg) 0 len cap, slv b2.base 0 len2 cap2]).run P w = .ok v w' → (execOp a.eval ⟨some d, .call { callee := .builtin .copy, args := #[x, y], argTypes := #[T, T] }, ty, pos, af, g⟩).run P w = .ok (.value v) w' := fun v w' hv => by
      simp [execOp, resolve, invoke, builtin, hx', hy', hv]
    by_cases hz : b.n ≠ 0 ∨ b.cs ≠ []
    case neg =>
      have hz2 : b.cs = [] := by
        by_cases h0 : b.cs = []
        · exact h0
        · exact absurd (.inr h0) hz
      have hl0 : len2 = 0 := by rw [hz2] at hfit; simpa using hfit
      subst hl0
      have h0 : b2.cs = [] := List.eq_nil_of_length_eq_zero hl2
      refine ⟨goInt 0, w, (), fin _ _ (by
        unfold slv
        have hl : ∀ v : Nat, (loadCells ⟨v, 0, none⟩ 0).run P w = .ok #[] w := fun v => run_loadCells_list w ⟨v, 0, none⟩ [] (fun j u hj => by simp at hj)
        cases b2.base <;> simp [Builtin.copy_, run_underlying hT, Builtin.lenOf, Builtin.firstCells, sizeOf, typeInfo, hi, storeCells, goInt, hl]), ?_⟩
      have e1 : L' = L := by
        rw [← hL, ← hcs, h0]
        simp only [List.nil_append, List.drop_zero]
        obtain ⟨q1, q2⟩ := List.getElem?_eq_some_iff.1 hk
        have : ({ b with cs := b.cs } : Blk) = b := rfl
        rw [this, ← q2]; exact List.set_getElem_self q1
      rw [e1]
      exact hr.put hd' hr.mem
    obtain ⟨cur, ⟨e', fr, c1, cfr, _⟩, c2, c3⟩ := ((hr.mem.blk k b hk).1 gg hb).cells hz
    obtain ⟨rfl, rfl⟩ := cfr ho
    have hcl : b.cs.length ≤ cur.size := by
      have := congrArg List.length c3
      simp only [List.length_take, Array.length_toList] at this
      omega
    cases hb2 : b2.base with
    | none =>
      have h0 := ((hr.mem.blk k2 b2 hk2).2 hb2).1
      have hl0 : len2 = 0 := by rw [← hl2, h0]; rfl
      subst hl0
      refine ⟨goInt 0, w, (), fin _ _ (by
        rw [hb2]
        unfold slv
        simp [Builtin.copy_, run_underlying hT, Builtin.lenOf, Builtin.firstCells, sizeOf, typeInfo, hi, storeCells, goInt]), ?_⟩
      have e1 : L' = L := by
        rw [← hL, ← hcs, h0]
        simp only [List.nil_append, List.drop_zero]
        obtain ⟨q1, q2⟩ := List.getElem?_eq_some_iff.1 hk
        have : ({ b with cs := b.cs } : Blk) = b := rfl
        rw [this, ← q2]; exact List.set_getElem_self q1
      rw [e1]
      exact hr.put hd' hr.mem
    | some g2 =>
      have hsrc : ∀ j v, b2.cs[j]? = some v → w.cell? ((⟨g2, 0, none⟩ : Addr).add j) = some v := fun j u hj => by
        obtain ⟨g', hg', h2⟩ := hr.mem.cell hk2 hj
        rw [hb2] at hg'; cases hg'
        rw [add_lit, Nat.zero_add]; exact h2
      have r1 := run_copy_row (P := P) w T T ty e gg 0 len cap ⟨g2, 0, none⟩ len2 cap2 cur b.e b2.cs hT (by simp [hi, hs]) c1 (by rw [hl2]; exact (Nat.min_eq_left hle).symm) hsrc (by omega) h1
      refine ⟨goInt b2.cs.length, _, (), fin _ _ (by rw [hb2]; exact r1), ?_⟩
      rw [hl2]
      have h5 := hr.mem.set hk ho hb (cur.toList.take 0 ++ b2.cs ++ cur.toList.drop (0 + b2.cs.length)).toArray cs'
        (by simp only [List.size_toArray, List.length_append, List.length_take, List.length_drop, Array.length_toList]; omega)
        (by
          rw [← hcs]
          simp only [List.take_zero, List.nil_append, Nat.zero_add, hl2]
          rw [List.length_append, List.length_drop, hl2]
          rw [List.take_append, hl2]
          rw [List.take_of_length_le (by omega)]
          congr 1
          rw [← c3]
          simp only [List.length_take, Array.length_toList]
          rw [List.drop_take]
          congr 1
          omega)
      rw [← hL]
      rw [hl2] at h5
      exact hr.put hd' h5) fun _ => h
/-- an element type: how many cells, its zero -/
def elB (P : Program) (e : Nat) (s : Nat) (z : Value) : Prop := ((P.info? e).map fun inf => (inf.size, Nat.ble inf.bytes 512, inf.zero)) = some (s, true, some z) ∧ e < mapMark
theorem elB_spec {e s : Nat} {z : Value} (h : elB P e s z) : ∃ inf, P.info? e = some inf ∧ inf.zero = some z ∧ inf.size = s ∧ inf.bytes ≤ 512 := by
  unfold elB at h
  replace h := h.1
  cases hq : P.info? e with
  | none => rw [hq] at h; cases h
  | some inf =>
    rw [hq] at h
    simp only [Option.map_some, Option.some.injEq, Prod.mk.injEq] at h
    obtain ⟨h1, h2, h3⟩ := h
    exact ⟨inf, rfl, h3, h1, Nat.le_of_ble_eq_true h2⟩
theorem q_makeSlice {T e : Nat} {k : IntKind} {c : Nat} {z : Value} {m : Int} (cs : List Value) (mk : Nat → List Blk) (hT : P.underlying T = some (.slice e)) (he : elB P e 1 z) (hd : Nat.blt d nt = true)
    (hg : wantedS ops ⟨some d, .makeSlice T x y, ty, pos, af, g⟩ t = some true) (hx : ev t x = some (.int k m)) (hy : ev t y = some (.int k m)) (hz1 : z.cells = #[z]) (hm : m = (c : Int)) (hc : c ≤ 137438953472) (hcs : List.replicate c z = cs) (hL : ∀ b, L ++ [⟨some b, e, cs, c, true⟩] = mk b)
    (h : ∀ b, Run P bl ops rest ⟨nt, (d, slv (some b) 0 c c) :: t, mk b⟩ K) : Run P bl ops (⟨some d, .makeSlice T x y, ty, pos, af, g⟩ :: rest) ⟨nt, t, L⟩ K := by
  obtain ⟨inf, h1, h2, h3, h5⟩ := elB_spec he
  exact r_makeSlice he.2 cs mk hT h1 h2 h3 hz1 hd hg hx hy hm h5 hc hcs hL h
theorem q_append {T e s : Nat} {z : Value} {b : Blk} {len cap b2o n2 c2 : Nat} {b2 : Blk} (k k2 : Nat) (mk : AR (len + n2) s → List Blk) (hT : P.underlying T = some (.slice e)) (hi : elB P e s z) (hd : Nat.blt d nt = true)
    (hg : wantedS ops ⟨some d, .call { callee := .builtin .append, args := #[x, y], argTypes := #[T, T] }, ty, pos, af, g⟩ t = some true)
    (hk : L[k]? = some b) (ho : b.own = true) (he : b.e = e) (hx : ev t x = some (slv b.base 0 len cap)) (hk2 : L[k2]? = some b2) (hb2 : b2.base = some b2o) (hy : ev t y = some (slv (some b2o) 0 n2 c2)) (hs : Nat.blt 0 s = true) (hzs : z.cells.size = s) (hpos : Nat.blt 0 n2 = true)
    (hlen : b.cs.length = len * s) (hcap : len ≤ cap) (hn : cap * s ≤ b.n) (hlen2 : b2.cs.length = n2 * s) (h1 : ∀ v ∈ b2.cs, v.oneCell' = true) (hmax : len + n2 ≤ 17179869184)
    (hL : ∀ r, L.set k ⟨some r.g, e, b.cs ++ b2.cs, r.n, true⟩ = mk r)
    (h : ∀ r : AR (len + n2) s, Run P bl ops rest ⟨nt, (d, slv (some r.g) 0 (len + n2) r.cap) :: t, mk r⟩ K) :
    Run P bl ops (⟨some d, .call { callee := .builtin .append, args := #[x, y], argTypes := #[T, T] }, ty, pos, af, g⟩ :: rest) ⟨nt, t, L⟩ K := by
  obtain ⟨inf, i1, i2, i3, i5⟩ := elB_spec hi
  subst i3
  exact r_append hi.2 k k2 mk hT i1 i2 (by simpa using hs) hzs (by omega) hd hg hk ho he hlen hcap hn hx hk2 hlen2 (by simpa using hpos) hb2 hy h1 hmax hL h
theorem q_copy {T e : Nat} {z : Value} {b b2 : Blk} {gg len cap len2 cap2 : Nat} (k k2 : Nat) (L' : List Blk) (cs' : List Value) (hT : P.underlying T = some (.slice e)) (hi : elB P e 1 z) (hd : Nat.blt d nt = true)
    (hg : wantedS ops ⟨some d, .call { callee := .builtin .copy, args := #[x, y], argTypes := #[T, T] }, ty, pos, af, g⟩ t = some true) (hk : L[k]? = some b) (ho : b.own = true) (hb : b.base = some gg) (hx : ev t x = some (slv (some gg) 0 len cap))
    (hk2 : L[k2]? = some b2) (hy : ev t y = some (slv b2.base 0 len2 cap2)) (hl2 : b2.cs.length = len2) (hle : len2 ≤ len) (hfit : len2 ≤ b.cs.length) (h1 : ∀ v ∈ b2.cs, v.oneCell' = true) (hcs : b2.cs ++ b.cs.drop len2 = cs') (hL : L.set k { b with cs := cs' } = L')
    (h : Run P bl ops rest ⟨nt, (d, .int .i64 len2) :: t, L'⟩ K) : Run P bl ops (⟨some d, .call { callee := .builtin .copy, args := #[x, y], argTypes := #[T, T] }, ty, pos, af, g⟩ :: rest) ⟨nt, t, L⟩ K := by
  obtain ⟨inf, i1, i2, i3, i5⟩ := elB_spec hi
  exact r_copy k k2 L' cs' hT i1 i3 hd hg hk ho hb hx hk2 hy hl2 hle hfit h1 hcs hL h
end
/-! ### a call that writes into one block -/
theorem LRel.toFront {B w : World} {L : List Blk} {k : Nat} {b : Blk} (h : LRel B L w) (hk : L[k]? = some b) : LRel B (b :: L.eraseIdx k) w := by
  refine h.reindex (fun i => if i = 0 then k else if i - 1 < k then i - 1 else i) (fun i c hc => ?_) (fun i j _ _ e => ?_)
  · cases i with
    | zero => simp at hc; subst hc; simpa using hk
    | succ i =>
      simp only [List.getElem?_cons_succ, List.getElem?_eraseIdx] at hc
      by_cases c1 : i < k
      · rw [if_pos c1] at hc; simpa [c1] using hc
      · rw [if_neg c1] at hc; simpa [c1] using hc
  · skip
    split at e <;> split at e <;> (try split at e) <;> (try split at e) <;> omega
theorem LRel.fromFront {B w : World} {L : List Blk} {k : Nat} {b b' : Blk} (hk : L[k]? = some b) (h : LRel B (b' :: L.eraseIdx k) w) : LRel B (L.set k b') w := by
  have hkl := (List.getElem?_eq_some_iff.1 hk).1
  refine h.reindex (fun i => if i = k then 0 else if i < k then i + 1 else i) (fun i c hc => ?_) (fun i j _ _ e => ?_)
  · by_cases e : i = k
    · subst e; rw [List.getElem?_set_self hkl] at hc; simpa using hc
    · rw [List.getElem?_set_ne (Ne.symm e)] at hc
      by_cases c1 : i < k
      · simp [e, c1, List.getElem?_eraseIdx, hc]
      · obtain ⟨m, rfl⟩ : ∃ m, i = m + 1 := ⟨i - 1, by omega⟩
        simp only [if_neg e, if_neg c1, List.getElem?_cons_succ, List.getElem?_eraseIdx]
        rw [if_neg (by omega)]; exact hc
  · skip
    split at e <;> split at e <;> (try split at e) <;> (try split at e) <;> omega
def MCall (P : Program) (f : Nat) (b : Blk) (args : List Value) (v : Value) (b' : Blk) : Prop :=
  plainF P f = true ∧ ∀ B w R, LRel B (b :: R) w → Calls P f args.toArray w fun e w' => e = .returned v ∧ LRel B (b' :: R) w'
section
variable {P : Program} {bl : List Nat} {ops : Array Oper} {K : St → Prop} {rest : List Oper} {nt : Nat} {t : List (Nat × Value)} {L : List Blk} {d : Nat} {ty : TypeId} {pos : String} {af : Array Edge} {g : Option (Nat × Bool)} {x y : Operand}
theorem r_mcall {f : Nat} {args : List Operand} {ts : Array TypeId} (vs : List Value) {v : Value} {b b' : Blk} (k : Nat) (L' : List Blk) (hM : isM bl = true) (hd : Nat.blt d nt = true) (hg : wantedS ops ⟨some d, .call { callee := .value (.func f), args := args.toArray, argTypes := ts }, ty, pos, af, g⟩ t = some true)
    (hv : args.map (ev t) = vs.map some) (hc : MCall P f b vs v b') (hk : L[k]? = some b) (hL : L.set k b' = L') (h : Run P bl ops rest ⟨nt, (d, v) :: t, L'⟩ K) :
    Run P bl ops (⟨some d, .call { callee := .value (.func f), args := args.toArray, argTypes := ts }, ty, pos, af, g⟩ :: rest) ⟨nt, t, L⟩ K :=
  run_m hd hg hM (X := Unit) (nx := fun _ => ⟨nt, (d, v) :: t, L'⟩) (fun hd' B a w hr => by
    unfold Oper.wp
    rw [run_callee hc.1 a rfl rfl (vs := vs.toArray) (by simp [evs_spec hr hv]) w]
    refine (hc.2 B w _ (hr.mem.toFront hk)).mono ?_
    rintro e w' ⟨rfl, hw⟩
    refine ⟨(), ?_⟩
    rw [← hL]
    exact hr.put hd' (LRel.fromFront hk hw)) fun _ => h
end
end Go.Via
set_option linter.unusedVariables false
namespace Go.Via
open Go
theorem quo_i {x y : Int} (m n : Nat) (hx : x = (m : Int)) (hy : y = (n : Int)) (h : m / n ≤ 9223372036854775807) : IntKind.i64.wrap (x.tdiv y) = ((m / n : Nat) : Int) := by
  subst hx; subst hy; rw [← Int.ofNat_tdiv]; generalize m / n = q at *; exact wi (by omega) (by omega) rfl
theorem quo_u {x y : Int} (m n : Nat) (hx : x = (m : Int)) (hy : y = (n : Int)) (h : m / n < 18446744073709551616) : IntKind.u64.wrap (x.tdiv y) = ((m / n : Nat) : Int) := by
  subst hx; subst hy; rw [← Int.ofNat_tdiv]; generalize m / n = q at *; exact wu (by omega) (by omega) rfl
theorem rem_n {x y : Int} (m n : Nat) (hx : x = (m : Int)) (hy : y = (n : Int)) : x.tmod y = ((m % n : Nat) : Int) := by
  subst hx; subst hy; exact (Int.ofNat_tmod m n).symm
theorem shl_u {x s : Int} (m k : Nat) (hx : x = (m : Int)) (hs : s = (k : Int)) (hk : k ≤ 64) (h : m * 2 ^ k < 18446744073709551616) : IntKind.u64.wrap (x * 2 ^ (min s.toNat IntKind.u64.bits)) = ((m * 2 ^ k : Nat) : Int) := by
  subst hx; subst hs
  have : min (k : Int).toNat IntKind.u64.bits = k := by rw [bits64]; omega
  rw [this]
  exact wu (Int.mul_nonneg (by omega) (Int.pow_nonneg (by omega))) (by have : ((m * 2 ^ k : Nat) : Int) < 18446744073709551616 := by omega
                                                                       simpa using this) (by simp)
theorem shl_u32 {x s : Int} (m k : Nat) (hx : x = (m : Int)) (hs : s = (k : Int)) (hk : k ≤ 32) (h : m * 2 ^ k < 4294967296) : IntKind.u32.wrap (x * 2 ^ (min s.toNat IntKind.u32.bits)) = ((m * 2 ^ k : Nat) : Int) := by
  subst hx; subst hs
  have : min (k : Int).toNat IntKind.u32.bits = k := by rw [bits32]; omega
  rw [this, wu32]
  have e : ((m : Int) * 2 ^ k) = ((m * 2 ^ k : Nat) : Int) := by simp
  rw [e]; omega
theorem shr_u {x s : Int} (m k : Nat) (hx : x = (m : Int)) (hs : s = (k : Int)) (hk : k ≤ 64) : x.fdiv (2 ^ (min s.toNat IntKind.u64.bits)) = ((m / 2 ^ k : Nat) : Int) := by
  subst hx; subst hs
  have : min (k : Int).toNat IntKind.u64.bits = k := by rw [bits64]; omega
  rw [this, Int.fdiv_eq_ediv_of_nonneg _ (Int.pow_nonneg (by omega))]
  simp
theorem c64 {x : Int} (m : Nat) (hx : x = (m : Int)) (h : m < 18446744073709551616) : IntKind.u64.wrap x = (m : Int) := by subst hx; exact wu (by omega) (by omega) rfl
theorem c32 {x : Int} (m : Nat) (hx : x = (m : Int)) : IntKind.u32.wrap x = ((m % 4294967296 : Nat) : Int) := by subst hx; rw [wu32]; omega
theorem c8 {x : Int} (m : Nat) (hx : x = (m : Int)) : IntKind.u8.wrap x = ((m % 256 : Nat) : Int) := by subst hx; rw [wu8]; omega
theorem NV_ne {k : IntKind} {l : List Nat} (h : 0 < l.length) : NV k l ≠ [] := by
  intro e; have := congrArg List.length e; rw [NV_length] at this; simp at this; subst this; simp at h
theorem NV_one (k : IntKind) (l : List Nat) : ∀ v ∈ NV k l, v.oneCell' = true := by
  intro v hv; obtain ⟨n, _, rfl⟩ := List.mem_map.1 hv; rfl
def LookAll (t : List (Nat × Value)) : List (Nat × Value) → Prop
  | [] => True
  | p :: l => look t p.1 = some p.2 ∧ LookAll t l
theorem LookAll.mem {t : List (Nat × Value)} : ∀ {t' : List (Nat × Value)}, LookAll t t' → ∀ p ∈ t', look t p.1 = some p.2
  | [], _, p, hp => by cases hp
  | q :: l, h, p, hp => by
    rcases List.mem_cons.1 hp with rfl | hp
    · exact h.1
    · exact LookAll.mem h.2 p hp
theorem look_val {t : List (Nat × Value)} {d : Nat} {v v' : Value} (h : look t d = some v) (e : v = v') : look t d = some v' := e ▸ h
/-- what a round of a loop ends in -/
def Nxt {ι : Type} (B : World) (nt : Nat) (T : ι → List (Nat × Value)) (LL : ι → List Blk) (μ : ι → Nat) (i : ι) (a' : Act) (w' : World) : Prop := ∃ j, μ j < μ i ∧ Rel B ⟨nt, T j, LL j⟩ a' w'
theorem enterL {P : Program} {B : World} {Q : Exit → Act → World → Prop} {nt : Nat} {t : List (Nat × Value)} {L : List Blk} {ι : Type} {c : Code} (T : ι → List (Nat × Value)) (LL : ι → List Blk) (μ : ι → Nat) (i₀ : ι) (ht : LookAll t (T i₀)) (hL : Weak L (LL i₀))
    (round : ∀ i, At B ⟨nt, T i, LL i⟩ (c.wp P (Exit.then (Nxt B nt T LL μ i) Q))) : At B ⟨nt, t, L⟩ ((Code.loop c).wp P Q) :=
  at_enter' (fun i => ⟨nt, T i, LL i⟩) μ i₀ (T i₀) (LL i₀) rfl ht.mem hL round
theorem nextL {B : World} {nt : Nat} {t : List (Nat × Value)} {L : List Blk} {ι : Type} {T : ι → List (Nat × Value)} {LL : ι → List Blk} {μ : ι → Nat} {i : ι} (j : ι) (hμ : μ j < μ i) (ht : LookAll t (T j)) (hL : Weak L (LL j)) :
    At B ⟨nt, t, L⟩ (Nxt B nt T LL μ i) :=
  at_next' (inv := fun i => ⟨nt, T i, LL i⟩) j (T j) (LL j) rfl hμ ht.mem hL
end Go.Via
set_option linter.unusedVariables false
set_option linter.unusedSimpArgs false
namespace Go.Via
open Go Go.RowKit
def ForR (Q : Nat → Prop) : List Nat → Prop
  | [] => True
  | i :: l => Q i ∧ ForR Q l
theorem ForR.mem {Q : Nat → Prop} : ∀ {l : List Nat}, ForR Q l → ∀ i ∈ l, Q i
  | [], _, i, h => by cases h
  | j :: l, hh, i, h => by
    rcases List.mem_cons.1 h with rfl | h
    · exact hh.1
    · exact ForR.mem hh.2 i h
/-- all orders, one by one -/
def Tree (P : Program) (ops : Array Oper) (K : St → Prop) : Nat → Array Bool → St → Prop
  | 0, listed, s => Region.ready .any ops listed = [] ∧ K s
  | n + 1, listed, s => ∃ l : List Nat, Region.ready .any ops listed = l ∧ l.isEmpty = false ∧ ForR (fun i => ∃ o, ops[i]? = some o ∧ Run P [1000000] ops [o] s (fun s' => Tree P ops K n (listed.setIfInBounds i true) s')) l
theorem wp_tree {P : Program} {ops : Array Oper} {Q : Exit → Act → World → Prop} {K : St → Prop} {B : World} (hpost : ∀ s' a' w', K s' → Rel B s' a' w' → Q .normal a' w') :
    ∀ (n : Nat) (listed : Array Bool) (s : St) (a : Act) (w : World), Tree P ops K n listed s → Rel B s a w → wpAny P .any ops Q n listed a w
  | 0, listed, s, a, w, h, hr => ⟨h.1, hpost _ _ _ h.2 hr⟩
  | n + 1, listed, s, a, w, h, hr => by
    obtain ⟨l, h1, h2, h3⟩ := h
    refine ⟨fun h0 => ?_, fun i hi => ?_⟩
    · rw [h1] at h0; subst h0; cases h2
    · rw [h1] at hi
      obtain ⟨o, ho, hs⟩ := h3.mem i hi
      have := Step.sound (K' := fun a' w' => wpAny P .any ops Q n (listed.setIfInBounds i true) a' w') (Q := Q) hs hr (fun s' a' w' hk hr' => wp_tree hpost n _ s' a' w' hk hr')
      unfold wpOp
      rw [ho]
      dsimp only
      split
      · rename_i hw; rw [if_pos hw] at this; exact .inl this
      · rename_i hw; rw [if_neg hw] at this; exact this
theorem at_tree {P : Program} {B : World} {Q : Exit → Act → World → Prop} {nt : Nat} {t : List (Nat × Value)} {L : List Blk} {id : Nat} {l : List Oper} (T : List (Nat × Value)) (L' : List Blk) (hm : P.follows .mixedOrders = true)
    (h : Tree P l.toArray (fun s' => s'.nt = nt ∧ LookAll s'.t T ∧ s'.L = L') l.toArray.size (Array.replicate l.toArray.size false) ⟨nt, t, L⟩) (hk : At B ⟨nt, T, L'⟩ (Q .normal)) :
    At B ⟨nt, t, L⟩ ((Code.region id l.toArray true).wp P Q) := fun a w hr => by
  refine wp_region_any hm ?_
  refine wp_tree (K := fun s' => s'.nt = nt ∧ LookAll s'.t T ∧ s'.L = L') (B := B) (fun s' a' w' hK hrel => ?_) _ _ ⟨nt, t, L⟩ a _ h hr.drew
  obtain ⟨h1, h2, h3⟩ := hK
  refine hk a' w' ?_
  have := hrel.sub (t := T) fun d v hd => h2.mem (d, v) (look_mem hd)
  rw [h1, h3] at this
  exact this
theorem t_node {P : Program} {ops : Array Oper} {K : St → Prop} {n : Nat} {listed : Array Bool} {s : St} (l : List Nat) (h1 : Region.ready .any ops listed = l) (h2 : l.isEmpty = false)
    (h : ForR (fun i => ∃ o, ops[i]? = some o ∧ Run P [1000000] ops [o] s (fun s' => Tree P ops K n (listed.setIfInBounds i true) s')) l) : Tree P ops K (n + 1) listed s := ⟨l, h1, h2, h⟩
end Go.Via
set_option linter.unusedVariables false
set_option linter.unusedSimpArgs false
namespace Go.Via
open Go Go.RowKit
section
variable {P : Program} {bl : List Nat} {ops : Array Oper} {K : St → Prop} {rest : List Oper} {nt : Nat} {t : List (Nat × Value)} {L : List Blk} {d : Nat} {ty : TypeId} {pos : String} {af : Array Edge} {g : Option (Nat × Bool)} {x y : Operand}
/-- append nothing to a row -/
theorem r_append0 {T e : Nat} {inf : TypeInfo} {bb : Option Nat} {len cap c2 : Nat} {b2 : Option Nat} (hT : P.underlying T = some (.slice e)) (hi : P.info? e = some inf) (hd : Nat.blt d nt = true)
    (hg : wantedS ops ⟨some d, .call { callee := .builtin .append, args := #[x, y], argTypes := #[T, T] }, ty, pos, af, g⟩ t = some true)
    (hx : ev t x = some (slv bb 0 len cap)) (hcap : len ≤ cap) (hy : ev t y = some (slv b2 0 0 c2)) (h : Run P bl ops rest ⟨nt, (d, slv bb 0 len cap) :: t, L⟩ K) :
    Run P bl ops (⟨some d, .call { callee := .builtin .append, args := #[x, y], argTypes := #[T, T] }, ty, pos, af, g⟩ :: rest) ⟨nt, t, L⟩ K :=
  run_q hd hg rfl (fun B a w hr => by
    have hx' := hr.ev hx
    have hy' := hr.ev hy
    have hs : Src P inf.size T (slv b2 0 0 c2) 0 [] w := by
      cases b2 with
      | none => exact Src.ofNil (P := P) w hT c2
      | some g2 => exact Src.ofSlice (P := P) w hT ⟨g2, 0, none⟩ 0 c2 [] (by simp) (fun j u hj => by simp at hj) (fun u hu => by cases hu)
    have r1 := run_append_nothing (P := P) w T T ty e inf hT hi (bb.map fun g => ⟨g, 0, none⟩) len cap hcap (slv b2 0 0 c2) hs
    have r2 : (execOp a.eval ⟨some d, .call { callee := .builtin .append, args := #[x, y], argTypes := #[T, T] }, ty, pos, af, g⟩).run P w = ((Builtin.append_ #[T, T] ty #[slv bb 0 len cap, slv b2 0 0 c2]).run P w).andThen fun v w => .ok (.value v) w := by
      simp [execOp, resolve, invoke, builtin, hx', hy']
    rw [r2]
    unfold slv at r1 ⊢
    rw [r1]; rfl) h
end
end Go.Via
set_option linter.unusedVariables false
set_option linter.unusedSimpArgs false
namespace Go.Via
open Go Go.RowKit
/-! ### a region that draws its order, the last operations of which (those of T) do not change places: they are walked in each order -/
def TreeT (P : Program) (bl : List Nat) (ops : Array Oper) (K : St → Prop) : Nat → List Nat → St → Prop
  | 0, Ts, s => Ts = [] ∧ K s
  | n + 1, Ts, s => ForR (fun i => ∃ o, ops[i]? = some o ∧ Run P bl ops [o] s (fun s' => TreeT P bl ops K n (Ts.filter (· != i)) s')) (Ts.filter fun i => !Ts.any fun j => waitsF ops ops.size i j)
theorem ForR.mono {Q Q' : Nat → Prop} (h : ∀ i, Q i → Q' i) : ∀ {l : List Nat}, ForR Q l → ForR Q' l
  | [], _ => trivial
  | _ :: _, hh => ⟨h _ hh.1, ForR.mono h hh.2⟩
theorem TreeT.kc {P : Program} {bl : List Nat} {ops : Array Oper} {K : St → Prop} (hK : KC K) : ∀ (n : Nat) (Ts : List Nat), KC (TreeT P bl ops K n Ts)
  | 0, Ts => fun s1 s2 he h => ⟨h.1, hK s1 s2 he h.2⟩
  | n + 1, Ts => fun s1 s2 he h => ForR.mono (fun i ⟨o, h1, h2⟩ => ⟨o, h1, Run.kc (TreeT.kc hK n _) [o] s1 s2 he h2⟩) h
theorem TreeT.mono {P : Program} {bl : List Nat} {ops : Array Oper} {K K' : St → Prop} (hK : ∀ s, K s → K' s) : ∀ (n : Nat) (Ts : List Nat) (s : St), TreeT P bl ops K n Ts s → TreeT P bl ops K' n Ts s
  | 0, Ts, s, h => ⟨h.1, hK s h.2⟩
  | n + 1, Ts, s, h => ForR.mono (fun i ⟨o, h1, h2⟩ => ⟨o, h1, h2.mono (fun s' => TreeT.mono hK n _ s')⟩) h
theorem Run.append {P : Program} {bl : List Nat} {ops : Array Oper} {K : St → Prop} : ∀ {l l2 : List Oper} {s : St}, Run P bl ops l s (fun s' => Run P bl ops l2 s' K) → Run P bl ops (l ++ l2) s K
  | [], _, _, h => h
  | _ :: l, l2, _, h => Step.mono (fun _ h1 => Run.append (l := l) h1) h
structure Ord1 (ops : Array Oper) (l : List Nat) : Prop where
  lt : ∀ i ∈ l, i < ops.size
  nw : l.Pairwise (fun p i => noWait ops p i = true)
  self : ∀ i ∈ l, noWait ops i i = true
  ed : ∀ i ∈ l, edgesIn ops i = true
  nodup : l.Nodup
theorem Ord1.sub {ops : Array Oper} {l l' : List Nat} (h : Ord1 ops l) (hs : l'.Sublist l) : Ord1 ops l' :=
  ⟨fun i hi => h.lt i (hs.subset hi), h.nw.sublist hs, fun i hi => h.self i (hs.subset hi), fun i hi => h.ed i (hs.subset hi), h.nodup.sublist hs⟩
end Go.Via
namespace Go.Via
end Go.Via
set_option linter.unusedVariables false
set_option linter.unusedSimpArgs false
namespace Go.Via
open Go Go.RowKit
/-- A CALL THAT READS BLOCKS and hands back blocks: each is new, or one of those that it got. -/
def SCallA (P : Program) (f : Nat) (L : List Blk) (args : List Value) (X : Type) (res : X → Value) (new : X → List Blk) : Prop :=
  plainF P f = true ∧ ∀ w, LRel w L w → Calls P f args.toArray w fun e w' => ∃ x, e = .returned (res x) ∧ LRel w (new x) w' ∧ ∀ b ∈ new x, ∀ g, b.base = some g → w.heap.size ≤ g ∨ ∃ b0 ∈ L, b0.base = some g
theorem own_new {B w : World} {L : List Blk} (h : LRel B L w) (k : Nat) {b : Blk} (hk : L[k]? = some b) (ho : b.own = true) : ∀ g, b.base = some g → B.heap.size ≤ g := fun g hg => ((h.blk k b hk).1 g hg).2 ho
def Blk.un (b : Blk) : Blk := { b with own := false }
theorem LRel.un {B w : World} {L : List Blk} (h : LRel B L w) : LRel B (L.map Blk.un) w := h.mono fun k b' hk => by
  rw [List.getElem?_map, Option.map_eq_some_iff] at hk
  obtain ⟨b, h1, rfl⟩ := hk
  exact ⟨b, h1, ⟨rfl, rfl, rfl, ⟨b.cs.length, by simp [Blk.un]⟩, fun h => by cases h⟩⟩
theorem SCallA.mono {P : Program} {f : Nat} {L : List Blk} {args : List Value} {X Y : Type} {res : X → Value} {new : X → List Blk} {res' : Y → Value} {new' : Y → List Blk} (h : SCallA P f L args X res new) (m : ∀ x, ∃ y, res x = res' y ∧ new x = new' y) :
    SCallA P f L args Y res' new' := by
  refine ⟨h.1, fun w hL => (h.2 w hL).mono ?_⟩
  rintro e w' ⟨x, rfl, hx, hf⟩
  obtain ⟨y, h1, h2⟩ := m x
  exact ⟨y, by rw [h1], by rw [← h2]; exact hx, by rw [← h2]; exact hf⟩
theorem LRel.joinA {B w w' : World} {L L0 new : List Blk} (h : LRel B L w) (h' : LRel w new w') (hc : ∀ b0 ∈ L0, ∀ g, b0.base = some g → ∃ (k : Nat) (b : Blk), L[k]? = some b ∧ b.base = some g ∧ b.own = false)
    (hf : ∀ b ∈ new, ∀ g, b.base = some g → w.heap.size ≤ g ∨ ∃ b0 ∈ L0, b0.base = some g) : LRel B (L ++ new) w' := by
  have hs := h.same h'.below
  refine ⟨hs.below, fun k b hk => ?_, fun i j g bi bj hij hi hj ho hg hgj => ?_⟩
  · rw [List.getElem?_append] at hk
    split at hk
    · exact hs.blk k b hk
    · obtain ⟨a1, a2⟩ := h'.blk _ b hk
      exact ⟨fun g hg => ⟨(a1 g hg).1, fun ho => Nat.le_trans h.below.size ((a1 g hg).2 ho)⟩, a2⟩
  · rw [List.getElem?_append] at hi hj
    split at hi <;> split at hj
    · exact hs.apart i j g bi bj hij hi hj ho hg hgj
    · have h1 := h.lt hi hg
      rcases hf bj (List.mem_of_getElem? hj) g hgj with h2 | ⟨b0, h2, h3⟩
      · omega
      · obtain ⟨k, b, h4, h5, h6⟩ := hc b0 h2 g h3
        by_cases e : i = k
        · subst e
          rw [hi] at h4; cases h4
          rw [ho] at h6; cases h6
        · exact h.apart i k g bi b e hi h4 ho hg h5
    · have h1 := h.lt hj hgj
      have h2 := ((h'.blk _ bi hi).1 g hg).2 ho
      omega
    · exact h'.apart _ _ g bi bj (by omega) hi hj ho hg hgj
def notOwn (L : List Blk) (k : Nat) : Bool := match L[k]? with
  | some b => !b.own
  | none => false
theorem picks_base {L : List Blk} : ∀ {ks : List Nat} {L0 : List Blk}, Picks L (ks.map some) L0 → ks.all (notOwn L) = true → ∀ b0 ∈ L0, ∀ g, b0.base = some g → ∃ (k : Nat) (b : Blk), L[k]? = some b ∧ b.base = some g ∧ b.own = false
  | [], [], _, _, b0, h, _, _ => by cases h
  | [], _ :: _, hp, _, _, _, _, _ => hp.elim
  | _ :: _, [], hp, _, _, _, _, _ => hp.elim
  | k :: ks, c :: L0, hp, ho, b0, h, g, hg => by
    rw [List.all_cons, Bool.and_eq_true] at ho
    rcases List.mem_cons.1 h with rfl | h
    · obtain ⟨b, h1, h2⟩ := hp.1
      have h3 := ho.1
      unfold notOwn at h3
      rw [h1] at h3
      exact ⟨k, b, h1, by rw [← h2.1]; exact hg, by simpa using h3⟩
    · exact picks_base hp.2 ho.2 b0 h g hg
section
variable {P : Program} {bl : List Nat} {ops : Array Oper} {K : St → Prop} {rest : List Oper} {nt : Nat} {t : List (Nat × Value)} {L : List Blk} {d : Nat} {ty : TypeId} {pos : String} {af : Array Edge} {g : Option (Nat × Bool)} {x y : Operand}
/-- a call that may hand back what it got -/
theorem r_scallA {f : Nat} {args : List Operand} {ts : Array TypeId} (vs : List Value) {L0 : List Blk} {X : Type} {res : X → Value} {new : X → List Blk} (ks : List Nat) (hd : Nat.blt d nt = true) (hg : wantedS ops ⟨some d, .call { callee := .value (.func f), args := args.toArray, argTypes := ts }, ty, pos, af, g⟩ t = some true)
    (hv : args.map (ev t) = vs.map some) (hc : SCallA P f L0 vs X res new) (hp : Picks L (ks.map some) L0) (ho : (L0.all fun b => !b.own) = true) (hn : ks.all (notOwn L) = true)
    (h : ∀ x, Run P bl ops rest ⟨nt, (d, res x) :: t, L ++ new x⟩ K) (hA : blA bl = false := by rfl) :
    Run P bl ops (⟨some d, .call { callee := .value (.func f), args := args.toArray, argTypes := ts }, ty, pos, af, g⟩ :: rest) ⟨nt, t, L⟩ K :=
  run_call hd hg rfl (X := X) (res := res) (new := new) (c_gen (s := ⟨nt, t, L⟩) rfl hv hc.1 fun B w hL => (hc.2 w (hL.asArgs ks hp (fun b hb => by simpa using List.all_eq_true.1 ho b hb))).mono (by
    rintro e w' ⟨x, rfl, hx, hf⟩
    exact ⟨x, rfl, hL.joinA hx (picks_base hp hn) hf⟩)) (fun h1 => by rw [hA] at h1; cases h1) fun x => h x
end
end Go.Via
set_option linter.unusedVariables false
set_option linter.unusedSimpArgs false
namespace Go.Via
open Go Go.RowKit
/-! ### a region in which new variables may be made at any time (mark 3000000) -/
theorem LRel.perm {B w : World} {L L' : List Blk} (hp : List.Perm L L') (h : LRel B L w) : LRel B L' w := by
  have key : L.Pairwise (fun bi bj => (bi.own = true ∨ bj.own = true) → ∀ g, bi.base = some g → bj.base ≠ some g) := by
    rw [List.pairwise_iff_getElem]
    intro i j hi hj hij ho g hg hgj
    rcases ho with ho | ho
    · exact h.apart i j g _ _ (by omega) (List.getElem?_eq_getElem hi) (List.getElem?_eq_getElem hj) ho hg hgj
    · exact h.apart j i g _ _ (by omega) (List.getElem?_eq_getElem hj) (List.getElem?_eq_getElem hi) ho hgj hg
  have key' := (hp.pairwise_iff (fun {x y} hxy ho g hy hx => hxy ho.symm g hx hy)).1 key
  rw [List.pairwise_iff_getElem] at key'
  refine ⟨h.below, fun k b hk => ?_, fun i j g bi bj hij hi hj ho hg hgj => ?_⟩
  · have hm := hp.symm.subset (List.mem_of_getElem? hk)
    obtain ⟨m, hm⟩ := List.mem_iff_getElem?.1 hm
    exact h.blk m b hm
  · obtain ⟨hi1, rfl⟩ := List.getElem?_eq_some_iff.1 hi
    obtain ⟨hj1, rfl⟩ := List.getElem?_eq_some_iff.1 hj
    rcases Nat.lt_or_gt_of_ne hij with c | c
    · exact key' i j hi1 hj1 c (.inl ho) g hg hgj
    · exact key' j i hj1 hi1 c (.inr ho) g hgj hg
theorem put_L (s : St) (dst : Option Nat) (v : Value) : (s.put dst v).L = s.L := by cases dst <;> rfl
/-- the same state, the blocks in another order -/
structure EqvP (s s' : St) : Prop where
  nt : s.nt = s'.nt
  L : List.Perm s.L s'.L
  look : ∀ d, look s.t d = look s'.t d
theorem EqvP.rel {s s' : St} (h : EqvP s s') {B w : World} {a : Act} (r : Rel B s' a w) : Rel B s a w :=
  ⟨r.df, r.size.trans h.nt.symm, fun d v hd => r.tmp d v (by rw [← h.look d]; exact hd), r.mem.perm h.L.symm⟩
theorem EqvP.refl (s : St) : EqvP s s := ⟨rfl, List.Perm.refl _, fun _ => rfl⟩
theorem EqvP.symm {s s' : St} (h : EqvP s s') : EqvP s' s := ⟨h.nt.symm, h.L.symm, fun d => (h.look d).symm⟩
theorem EqvP.trans {s s' s'' : St} (h : EqvP s s') (k : EqvP s' s'') : EqvP s s'' := ⟨h.nt.trans k.nt, h.L.trans k.L, fun d => (h.look d).trans (k.look d)⟩
theorem EqvP.put {s s' : St} (h : EqvP s s') (dst : Option Nat) (sv : Value) (new : List Blk) : EqvP (({ s with L := s.L ++ new } : St).put dst sv) (({ s' with L := s'.L ++ new } : St).put dst sv) := by
  cases dst with
  | none => exact ⟨h.nt, h.L.append_right _, h.look⟩
  | some d =>
    refine ⟨h.nt, h.L.append_right _, fun k => ?_⟩
    by_cases e : d = k
    · subst e; simp [St.put, look_cons_eq]
    · simp [St.put, look_cons_ne e, h.look k]
theorem EqvP.put0 {s s' : St} (h : EqvP s s') (dst : Option Nat) (sv : Value) : EqvP (s.put dst sv) (s'.put dst sv) := by
  have := h.put dst sv []
  simpa using this
theorem EqvP.wanted {s s' : St} (h : EqvP s s') (ops : Array Oper) (o : Oper) : wantedS ops o s.t = wantedS ops o s'.t := by
  unfold wantedS
  split
  · rfl
  · split
    · rw [h.look]
    · rfl
def KCP (K : St → Prop) : Prop := ∀ s s', EqvP s s' → K s → K s'
theorem KCP.kc {K : St → Prop} (h : KCP K) : KC K := fun s s' he => h s s' ⟨he.nt, he.L ▸ List.Perm.refl _, he.look⟩
theorem blank_of_S : ∀ {bl : List Nat} {L : List Blk}, blS bl = false → blank bl L = L
  | [], L, _ => rfl
  | k :: bl, L, h => by
    unfold blS at h
    rw [List.any_cons, Bool.or_eq_false_iff] at h
    unfold blank
    rw [h.1]
    exact blank_of_S (bl := bl) h.2
theorem bk_of_S {bl : List Nat} {s : St} (h : blS bl = false) : s.bk bl = s := by show St.mk s.nt s.t (blank bl s.L) = s; rw [blank_of_S h]
theorem Step.congrP {P : Program} {bl : List Nat} {ops : Array Oper} {o : Oper} {s s' : St} {K : St → Prop} (hA : blA bl = true) (hS : blS bl = false) (hK : KCP K) (h : EqvP s s') (hs : Step P bl ops o s K) : Step P bl ops o s' K := by
  obtain ⟨h0, g, hg, hh⟩ := hs
  refine ⟨by rw [← h.nt]; exact h0, g, by rw [← h.wanted]; exact hg, ?_⟩
  rcases hh with ⟨h1, h2⟩ | ⟨h1, ⟨h2, sv, h3, h4⟩ | ⟨h2, X, res, new, h3, hF, h4⟩ | ⟨hm, hA', hm', X, nx, h3, h4⟩ | ⟨hm, hd, L', h3, h5, h4⟩ | ⟨hA', e, cs, h3, h4⟩ | ⟨hC, hbS, X, res, nL, h3, h5, h4⟩⟩
  · exact .inl ⟨h1, hK _ _ (h.put0 _ _) h2⟩
  · refine .inr ⟨h1, .inl ⟨h2, sv, ⟨fun B a w hr => ?_, fun h5 h6 => by rw [← pureV_congr h.look]; exact h3.2 h5 h6⟩, hK _ _ (h.put0 _ _) h4⟩⟩
    have h3 := h3.1
    rw [bk_of_S hS] at hr h3
    exact h3 B a w (h.rel hr)
  · obtain ⟨hF1, hX⟩ := hF hA
    refine .inr ⟨h1, .inr (.inl ⟨h2, X, res, new, fun B a w hr => ?_, fun hb => ⟨fun B a w hr => hF1 B a w (h.rel hr), hX⟩, fun x => hK _ _ (h.put _ _ _) (h4 x)⟩)⟩
    obtain ⟨f, args, r1, r2⟩ := hF1 B a w (h.rel hr)
    refine ⟨f, args, r1, r2.mono ?_⟩
    rintro e w' ⟨x, rfl, hx, hown⟩
    exact ⟨x, rfl, hr.mem.joinF hx hown⟩
  · exact .inr ⟨h1, .inr (.inr (.inl ⟨hm, hA', hm', X, nx, fun B a w hr => h3 B a w (h.rel hr), h4⟩))⟩
  · exact .inr ⟨h1, .inr (.inr (.inr (.inl ⟨hm, hd, L', fun B a w hr => h3 B a w (h.rel hr), (fun hb => by rw [hS] at hb; cases hb), hK { s with L := L' } { s' with L := L' } ⟨h.nt, List.Perm.refl _, h.look⟩ h4⟩)))⟩
  · exact .inr ⟨h1, .inr (.inr (.inr (.inr (.inl ⟨hA', e, cs, h3, fun g => hK _ _ (h.put _ _ _) (h4 g)⟩))))⟩
  · rw [hS] at hbS; cases hbS
theorem Run.kcP {P : Program} {bl : List Nat} {ops : Array Oper} {K : St → Prop} (hA : blA bl = true) (hS : blS bl = false) (hK : KCP K) : ∀ l : List Oper, KCP (fun s => Run P bl ops l s K)
  | [] => hK
  | o :: l => fun _ _ h hs => Step.congrP hA hS (Run.kcP hA hS hK l) h hs
theorem noSto {o : Oper} (h : isMov o = true ∨ isAl o = true) : isSto o = false := by
  unfold isSto
  split <;> first | rfl | (rename_i heq
                           rcases h with h | h
                           · unfold isMov at h; rw [heq] at h; cases h
                           · unfold isAl at h; rw [heq] at h; cases h)
/-- what is new is behind: a step that does not look at it -/
theorem Step.laterA {P : Program} {bl : List Nat} {ops : Array Oper} {p : Oper} {s : St} {K : St → Prop} {dst : Option Nat} {u : Value} {E : List Blk} (hA : blA bl = true) (hS : blS bl = false) (hp : isMov p = true ∨ isAl p = true) (hM : isM bl = false)
    (hd : ∀ d, dst = some d → d < s.nt) (hl : ∀ d, dst = some d → d ∉ p.looksAt ops) (hne : ∀ d, p.dst = some d → dst ≠ some d)
    (h : Step P bl ops p s (fun s1 => ∀ s2, EqvP (({ s1 with L := s1.L ++ E } : St).put dst u) s2 → K s2)) : Step P bl ops p (({ s with L := s.L ++ E } : St).put dst u) K := by
  have hns : ∀ cs b, p.op ≠ .select cs b := fun cs b e => by
    rcases hp with hp | hp
    · unfold isMov at hp; rw [e] at hp; cases hp
    · unfold isAl at hp; rw [e] at hp; cases hp
  have hn : (({ s with L := s.L ++ E } : St).put dst u).nt = s.nt := by cases dst <;> rfl
  have hLL : (({ s with L := s.L ++ E } : St).put dst u).L = s.L ++ E := by cases dst <;> rfl
  have comm : ∀ (x : Value) (new : List Blk), EqvP (({ (({ s with L := s.L ++ new } : St).put p.dst x) with L := (({ s with L := s.L ++ new } : St).put p.dst x).L ++ E } : St).put dst u)
      (({ (({ s with L := s.L ++ E } : St).put dst u) with L := (({ s with L := s.L ++ E } : St).put dst u).L ++ new } : St).put p.dst x) := by
    intro x new
    have e1 : (({ s with L := s.L ++ new } : St).put p.dst x).L = s.L ++ new := by cases p.dst <;> rfl
    refine ⟨?_, ?_, ?_⟩
    · cases p.dst <;> cases dst <;> rfl
    · have a1 := (put_L ({ (({ s with L := s.L ++ new } : St).put p.dst x) with L := (({ s with L := s.L ++ new } : St).put p.dst x).L ++ E } : St) dst u).trans (congrArg (· ++ E) (put_L ({ s with L := s.L ++ new } : St) p.dst x))
      have a2 := (put_L ({ (({ s with L := s.L ++ E } : St).put dst u) with L := (({ s with L := s.L ++ E } : St).put dst u).L ++ new } : St) p.dst x).trans (congrArg (· ++ new) (put_L ({ s with L := s.L ++ E } : St) dst u))
      have a3 : List.Perm (s.L ++ new ++ E) (s.L ++ E ++ new) := by
        rw [List.append_assoc, List.append_assoc]
        exact List.Perm.append_left _ List.perm_append_comm
      exact (List.Perm.of_eq a1).trans (a3.trans (List.Perm.of_eq a2.symm))
    · intro d
      cases hp : p.dst with
      | none => cases dst <;> simp [St.put]
      | some dp =>
        cases dst with
        | none => simp [St.put]
        | some di =>
          have hne' : di ≠ dp := fun e => hne dp hp (by rw [e])
          simp only [St.put]
          by_cases e1 : di = d
          · subst e1; rw [look_cons_eq, look_cons_ne (Ne.symm hne'), look_cons_eq]
          · rw [look_cons_ne e1]
            by_cases e2 : dp = d
            · subst e2; rw [look_cons_eq, look_cons_eq]
            · rw [look_cons_ne e2, look_cons_ne e2, look_cons_ne e1]
  obtain ⟨h0, g, hg, hh⟩ := h
  refine ⟨by rw [hn]; exact h0, g, ?_, ?_⟩
  · have := wantedS_put (ops := ops) (o := p) (s := { s with L := s.L ++ E }) (dst := dst) (v := u) hl
    rw [this]; exact hg
  have c0 : ∀ (x : Value), (({ s with L := s.L ++ [] } : St).put p.dst x) = s.put p.dst x := fun x => by simp
  have c1 : ∀ (x : Value), ({ (({ s with L := s.L ++ E } : St).put dst u) with L := (({ s with L := s.L ++ E } : St).put dst u).L ++ [] } : St).put p.dst x = (({ s with L := s.L ++ E } : St).put dst u).put p.dst x := fun x => by simp
  have comm0 : ∀ (x : Value), EqvP (({ s.put p.dst x with L := (s.put p.dst x).L ++ E } : St).put dst u) ((({ s with L := s.L ++ E } : St).put dst u).put p.dst x) := fun x => by
    have := comm x []
    rw [c0, c1] at this
    exact this
  have back : ∀ (B : World) (a : Act) (w : World), Rel B (({ s with L := s.L ++ E } : St).put dst u) a w → ∃ v, Rel B s (a.put dst v) w ∧ execOp (a.put dst v).eval p = execOp a.eval p := fun B a w hr => by
    obtain ⟨v, hv⟩ := Rel.putBack (s := s) (new := E) hd hr
    exact ⟨v, hv, execOp_put p hns a dst v hl⟩
  rcases hh with ⟨h1, h2⟩ | ⟨h1, ⟨h2, sv, h3, h4⟩ | ⟨h2, X, res, new, h3, hF, h4⟩ | ⟨hm, hA', hm', X, nx, h3, h4⟩ | ⟨hm, hd', L', h3, h5, h4⟩ | ⟨hA', e, cs, h3, h4⟩ | ⟨hC, hbS, X, res, nL, h3, h5, h4⟩⟩
  · exact .inl ⟨h1, h2 _ (comm0 _)⟩
  · refine .inr ⟨h1, .inl ⟨h2, sv, ⟨fun B a w hr => ?_, fun h5 h6 => by rw [pureV_put (s := { s with L := s.L ++ E }) hl]; exact h3.2 h5 h6⟩, h4 _ (comm0 _)⟩⟩
    have h3 := h3.1
    rw [bk_of_S hS] at hr h3
    obtain ⟨v, hv, he⟩ := back B a w hr
    have := h3 B _ w hv
    rwa [he] at this
  · obtain ⟨hF1, hX⟩ := hF hA
    have hFl : CalledF P p (({ s with L := s.L ++ E } : St).put dst u) X res new := fun B a w hr => by
      obtain ⟨v, hv, he⟩ := back B a w hr
      have := hF1 B _ w hv
      rwa [he] at this
    refine .inr ⟨h1, .inr (.inl ⟨h2, X, res, new, fun B a w hr => ?_, fun _ => ⟨hFl, hX⟩, fun x => h4 x _ (comm _ _)⟩)⟩
    obtain ⟨f, args, r1, r2⟩ := hFl B a w hr
    refine ⟨f, args, r1, r2.mono ?_⟩
    rintro e w' ⟨x, rfl, hx, hown⟩
    exact ⟨x, rfl, hr.mem.joinF hx hown⟩
  · exfalso
    rcases hp with hp | hp
    · rw [hM, show mvS bl p = true by simp [mvS, hp]] at hm; cases hm
    · rw [hA, hp] at hA'; cases hA'
  · rw [noSto hp] at hm; cases hm
  · exact .inr ⟨h1, .inr (.inr (.inr (.inr (.inl ⟨hA', e, cs, h3, fun g => h4 g _ (comm _ _)⟩))))⟩
  · rw [hS] at hbS; cases hbS
/-- some state comes behind a step -/
theorem Step.some {P : Program} {bl : List Nat} {ops : Array Oper} {p : Oper} {s : St} {K : St → Prop} (hS : blS bl = false) (hA : blA bl = true) (hp : isMov p = true ∨ isAl p = true) (hM : isM bl = false) (h : Step P bl ops p s K) :
    ∃ x new, K (({ s with L := s.L ++ new } : St).put p.dst x) := by
  obtain ⟨h0, g, hg, hh⟩ := h
  rcases hh with ⟨h1, h2⟩ | ⟨h1, ⟨h2, sv, h3, h4⟩ | ⟨h2, X, res, new, h3, hF, h4⟩ | ⟨hm, hA', hm', X, nx, h3, h4⟩ | ⟨hm, hd', L', h3, h5, h4⟩ | ⟨hA', e, cs, h3, h4⟩ | ⟨hC, hbS, X, res, nL, h3, h5, h4⟩⟩
  · exact ⟨undef, [], by simpa using h2⟩
  · exact ⟨sv, [], by simpa using h4⟩
  · obtain ⟨_, ⟨x⟩⟩ := hF hA
    exact ⟨_, _, h4 x⟩
  · exfalso
    rcases hp with hp | hp
    · rw [hM, show mvS bl p = true by simp [mvS, hp]] at hm; cases hm
    · rw [hA, hp] at hA'; cases hA'
  · rw [noSto hp] at hm; cases hm
  · exact ⟨_, _, h4 0⟩
  · rw [hS] at hbS; cases hbS
theorem Step.form {P : Program} {bl : List Nat} {ops : Array Oper} {p : Oper} {s : St} {K : St → Prop} (hS : blS bl = false) (hA : blA bl = true) (hp : isMov p = true ∨ isAl p = true) (hM : isM bl = false) (h : Step P bl ops p s K) :
    Step P bl ops p s (fun s1 => K s1 ∧ ∃ x new, s1 = (({ s with L := s.L ++ new } : St).put p.dst x)) := by
  obtain ⟨h0, g, hg, hh⟩ := h
  refine ⟨h0, g, hg, ?_⟩
  rcases hh with ⟨h1, h2⟩ | ⟨h1, ⟨h2, sv, h3, h4⟩ | ⟨h2, X, res, new, h3, hF, h4⟩ | ⟨hm, hA', hm', X, nx, h3, h4⟩ | ⟨hm, hd', L', h3, h5, h4⟩ | ⟨hA', e, cs, h3, h4⟩ | ⟨hC, hbS, X, res, nL, h3, h5, h4⟩⟩
  · exact .inl ⟨h1, h2, undef, [], by simp⟩
  · exact .inr ⟨h1, .inl ⟨h2, sv, h3, h4, sv, [], by simp⟩⟩
  · exact .inr ⟨h1, .inr (.inl ⟨h2, X, res, new, h3, hF, fun x => ⟨h4 x, _, _, rfl⟩⟩)⟩
  · exfalso
    rcases hp with hp | hp
    · rw [hM, show mvS bl p = true by simp [mvS, hp]] at hm; cases hm
    · rw [hA, hp] at hA'; cases hA'
  · rw [noSto hp] at hm; cases hm
  · exact .inr ⟨h1, .inr (.inr (.inr (.inr (.inl ⟨hA', e, cs, h3, fun g => ⟨h4 g, _, _, rfl⟩⟩))))⟩
  · rw [hS] at hbS; cases hbS
/-- **A NEW VARIABLE IS MADE BEFORE**: whatever came ahead of it. -/
theorem Run.swapA {P : Program} {bl : List Nat} {ops : Array Oper} {p i : Oper} {rest : List Oper} {s : St} {K : St → Prop} (hA : blA bl = true) (hS : blS bl = false) (hM : isM bl = false) (hK : KCP K) (hp : isMov p = true ∨ isAl p = true) (hi : isAl i = true)
    (hap : p.apart ops i = true) (h : Run P bl ops (p :: i :: rest) s K) : Run P bl ops (i :: p :: rest) s K := by
  obtain ⟨ap1, ap2, ap3⟩ := Oper.apart_spec hap
  have h' : Step P bl ops p s (fun s' => Step P bl ops i s' (fun s2 => Run P bl ops rest s2 K)) := h
  have hne : ∀ d, p.dst = some d → i.dst ≠ some d := ap2
  have hw : ∀ (x : Value) (new : List Blk), wantedS ops i (({ s with L := s.L ++ new } : St).put p.dst x).t = wantedS ops i s.t := fun x new => wantedS_put (s := { s with L := s.L ++ new }) ap1
  have hci : isCall i = false := by
    unfold isAl at hi; unfold isCall
    split at hi
    · rename_i heq; rw [heq]
    · cases hi
  -- what the second one does, behind the first one
  have what : ∀ {s1 : St}, Step P bl ops i s1 (fun s2 => Run P bl ops rest s2 K) → (∃ x new, s1 = (({ s with L := s.L ++ new } : St).put p.dst x)) →
      (∀ d, i.dst = some d → d < s.nt) ∧ ((wantedS ops i s.t = some false ∧ Run P bl ops rest (s1.put i.dst undef) K) ∨
        (wantedS ops i s.t = some true ∧ ∃ e cs, alTy P i = some (e, cs) ∧ ∀ g, Run P bl ops rest (({ s1 with L := s1.L ++ [alB g e cs] } : St).put i.dst (.pointer (some ⟨g, 0, none⟩))) K)) := by
    rintro s1 ⟨k0, g, hk, hh⟩ ⟨x, new, rfl⟩
    rw [hw] at hk
    refine ⟨fun d hd => by have := k0 d hd; rwa [show (({ s with L := s.L ++ new } : St).put p.dst x).nt = s.nt by cases p.dst <;> rfl] at this, ?_⟩
    rcases hh with ⟨rfl, h2⟩ | ⟨rfl, ⟨h2, sv, h3, h4⟩ | ⟨h2, X, res, new, h3, hF, h4⟩ | ⟨hm, hA', hm', X, nx, h3, h4⟩ | ⟨hm, hd', L', h3, h5, h4⟩ | ⟨hA', e, cs, h3, h4⟩ | ⟨hC, hbS, X, res, nL, h3, h5, h4⟩⟩
    · exact .inl ⟨hk, h2⟩
    · rw [hA, hi] at h2; cases h2
    · rw [hci] at h2; cases h2
    · rw [hA, hi] at hA'; cases hA'
    · rw [noSto (.inr hi)] at hm; cases hm
    · exact .inr ⟨hk, e, cs, h3, h4⟩
    · rw [hS] at hbS; cases hbS
  have hf := h'.form hS hA hp hM
  obtain ⟨x0, new0, k0, kf⟩ := hf.some hS hA hp hM
  obtain ⟨hb, hcase⟩ := what k0 kf
  rcases hcase with ⟨hk, _⟩ | ⟨hk, e, cs, hal, _⟩
  · refine ⟨hb, false, hk, .inl ⟨rfl, ?_⟩⟩
    have e : s.put i.dst undef = ({ s with L := s.L ++ [] } : St).put i.dst undef := by simp
    rw [e]
    refine Step.laterA hA hS hp hM hb ap3 hne (hf.mono ?_)
    rintro s1 ⟨hs1, hform⟩ s2 he
    rcases (what hs1 hform).2 with ⟨_, h2⟩ | ⟨h2, _⟩
    · refine Run.kcP hA hS hK rest _ _ he ?_
      have e : s1.put i.dst undef = ({ s1 with L := s1.L ++ [] } : St).put i.dst undef := by simp
      rw [← e]; exact h2
    · rw [hk] at h2; cases h2
  · refine ⟨hb, true, hk, .inr ⟨rfl, .inr (.inr (.inr (.inr (.inl ⟨hi, e, cs, hal, fun gg => ?_⟩))))⟩⟩
    refine Step.laterA hA hS hp hM hb ap3 hne (hf.mono ?_)
    rintro s1 ⟨hs1, hform⟩ s2 he
    rcases (what hs1 hform).2 with ⟨h2, _⟩ | ⟨_, e', cs', hal', h2⟩
    · rw [hk] at h2; cases h2
    · rw [hal] at hal'
      cases hal'
      exact Run.kcP hA hS hK rest _ _ he (h2 gg)
theorem pure_kind {o : Oper} (hi : isPure o = true) : isMov o = true ∧ isCall o = false ∧ isAl o = false ∧ isSto o = false := by
  unfold isPure at hi
  split at hi
  · rename_i heq; exact ⟨by unfold isMov; rw [heq], by unfold isCall; rw [heq], by unfold isAl; rw [heq], by unfold isSto; rw [heq]⟩
  · rename_i heq; exact ⟨by unfold isMov; rw [heq], by unfold isCall; rw [heq], by unfold isAl; rw [heq], by unfold isSto; rw [heq]⟩
  · cases hi
/-- **WHAT LOOKS AT SLOTS ALONE COMES BEFORE** a store, or a new variable -/
theorem Run.swapQ {P : Program} {bl : List Nat} {ops : Array Oper} {p i : Oper} {rest : List Oper} {s : St} {K : St → Prop} (hA : blA bl = true) (hS : blS bl = false) (hM : isM bl = false) (hK : KCP K) (hp : isSto p = true ∨ isAl p = true) (hpg : p.guard = none) (hi : isPure i = true)
    (hap : p.apart ops i = true) (h : Run P bl ops (p :: i :: rest) s K) : Run P bl ops (i :: p :: rest) s K := by
  obtain ⟨ap1, ap2, ap3⟩ := Oper.apart_spec hap
  have h' : Step P bl ops p s (fun s' => Step P bl ops i s' (fun s2 => Run P bl ops rest s2 K)) := h
  obtain ⟨h0, g, hg, hh⟩ := h'
  have hg1 : g = true := by
    unfold wantedS at hg; rw [hpg] at hg; simpa using hg.symm
  subst hg1
  have hnp : (blA bl && (isAl p || isSto p)) = false → False := fun h1 => by rcases hp with hp | hp <;> rw [hA, hp] at h1 <;> simp at h1
  have hcp : isCall p = false := by
    rcases hp with hp | hp
    · unfold isSto at hp
      split at hp <;> first | (cases hp; done) | (rename_i heq; unfold isCall; rw [heq])
    · unfold isAl at hp
      split at hp
      · rename_i heq; unfold isCall; rw [heq]
      · cases hp
  obtain ⟨m1, m2, m3, m4⟩ := pure_kind hi
  have hns : ∀ cs b, p.op ≠ .select cs b := fun cs b e => by
    rcases hp with hp | hp
    · unfold isSto at hp; rw [e] at hp; cases hp
    · unfold isAl at hp; rw [e] at hp; cases hp
  have hwp : ∀ s' : St, wantedS ops p s'.t = some true := fun s' => by unfold wantedS; rw [hpg]
  -- what the second one yields
  have what : ∀ {s1 : St}, Step P bl ops i s1 (fun s2 => Run P bl ops rest s2 K) → s1.nt = s.nt → (wantedS ops i s1.t = wantedS ops i s.t) → pureV s1.t i = pureV s.t i →
      (∀ d, i.dst = some d → d < s.nt) ∧ ((wantedS ops i s.t = some false ∧ Run P bl ops rest (s1.put i.dst undef) K) ∨ (wantedS ops i s.t = some true ∧ ∃ v, pureV s.t i = some v ∧ Run P bl ops rest (s1.put i.dst v) K)) := by
    rintro s1 ⟨k0, gi, hgi, kk⟩ e1 e2 e3
    rw [e2] at hgi
    refine ⟨fun d hd => by rw [← e1]; exact k0 d hd, ?_⟩
    rcases kk with ⟨h1, h2⟩ | ⟨h1, ⟨h2, sv, q3, q4⟩ | ⟨h2, X, res, new, q3, hF, q4⟩ | ⟨qm, hA', qm', X, nx, q3, q4⟩ | ⟨qm, qd, L'', q3, q5, q4⟩ | ⟨hA', e, cs, q3, q4⟩ | ⟨hC, hbS, X, res, nL, q3, q5, q4⟩⟩
    · exact .inl ⟨by rw [hgi, h1], h2⟩
    · exact .inr ⟨by rw [hgi, h1], sv, by rw [← e3]; exact q3.2 hA hi, q4⟩
    · rw [m2] at h2; cases h2
    · rw [hM, show mvS bl i = true by simp [mvS, m1]] at qm; cases qm
    · rw [m4] at qm; cases qm
    · rw [m3] at hA'; cases hA'
    · rw [hS] at hbS; cases hbS
  -- the second one, ahead
  have ahead : ∀ (v : Value), (wantedS ops i s.t = some false ∧ v = undef ∨ wantedS ops i s.t = some true ∧ pureV s.t i = some v) → (∀ d, i.dst = some d → d < s.nt) → Run P bl ops (p :: rest) (s.put i.dst v) K → Run P bl ops (i :: p :: rest) s K := by
    intro v hv hb hr
    rcases hv with ⟨h1, rfl⟩ | ⟨h1, h2⟩
    · exact ⟨hb, false, h1, .inl ⟨rfl, hr⟩⟩
    · exact ⟨hb, true, h1, .inr ⟨rfl, .inl ⟨by rw [m3, m4]; simp, v, ⟨by rw [bk_of_S hS]; exact pureV_quiet h2, fun _ _ => h2⟩, hr⟩⟩⟩
  rcases hh with ⟨h1, _⟩ | ⟨_, ⟨h2, sv, h3, h4⟩ | ⟨h2, X, res, new, h3, hF, h4⟩ | ⟨hm, hA', hm', X, nx, h3, h4⟩ | ⟨hm, hd, L', h3, h5, h4⟩ | ⟨hA', e, cs, h3, h4⟩ | ⟨hC, hbS, X, res, nL, h3, h5, h4⟩⟩
  · cases h1
  · exact (hnp h2).elim
  · rw [hcp] at h2; cases h2
  · exact (hnp hA').elim
  · -- a store
    obtain ⟨hb, hc⟩ := what h4 rfl rfl rfl
    have behind : ∀ (v : Value), Run P bl ops rest ((({ s with L := L' } : St)).put i.dst v) K → Run P bl ops (p :: rest) (s.put i.dst v) K := by
      intro v hr
      refine ⟨fun d hd' => (by rw [hd] at hd'; cases hd'), true, hwp _, .inr ⟨rfl, .inr (.inr (.inr (.inl ⟨hm, hd, L', fun B a w hrel => ?_, (fun hb => by rw [hS] at hb; cases hb), ?_⟩)))⟩⟩
      · have hrel' : Rel B (({ s with L := s.L ++ [] } : St).put i.dst v) a w := by simpa using hrel
        obtain ⟨u, hu⟩ := Rel.putBack (s := s) (new := []) hb hrel'
        have := h3 B _ w hu
        rwa [execOp_put p hns a i.dst u ap3] at this
      · have e : ({ s.put i.dst v with L := L' } : St) = (({ s with L := L' } : St)).put i.dst v := by cases i.dst <;> rfl
        rw [e]; exact hr
    rcases hc with ⟨c1, c2⟩ | ⟨c1, v, c2, c3⟩
    · exact ahead undef (.inl ⟨c1, rfl⟩) hb (behind _ c2)
    · exact ahead v (.inr ⟨c1, c2⟩) hb (behind _ c3)
  · -- a new variable
    have hs1 : ∀ gg, (({ s with L := s.L ++ [alB gg e cs] } : St).put p.dst (.pointer (some ⟨gg, 0, none⟩))).nt = s.nt := fun gg => by cases p.dst <;> rfl
    have hw1 : ∀ gg, wantedS ops i (({ s with L := s.L ++ [alB gg e cs] } : St).put p.dst (.pointer (some ⟨gg, 0, none⟩))).t = wantedS ops i s.t := fun gg => wantedS_put (s := { s with L := s.L ++ [alB gg e cs] }) ap1
    have hv1 : ∀ gg, pureV (({ s with L := s.L ++ [alB gg e cs] } : St).put p.dst (.pointer (some ⟨gg, 0, none⟩))).t i = pureV s.t i := fun gg => pureV_put (s := { s with L := s.L ++ [alB gg e cs] }) ap1
    have hp2 : isMov p = true ∨ isAl p = true := .inr hA'
    have hpi : ∀ d, p.dst = some d → i.dst ≠ some d := ap2
    have behind : ∀ (v : Value), (∀ d, i.dst = some d → d < s.nt) → (∀ gg, Run P bl ops rest ((({ s with L := s.L ++ [alB gg e cs] } : St).put p.dst (.pointer (some ⟨gg, 0, none⟩))).put i.dst v) K) → Run P bl ops (p :: rest) (s.put i.dst v) K := by
      intro v hb hr
      have e : s.put i.dst v = ({ s with L := s.L ++ [] } : St).put i.dst v := by simp
      rw [e]
      refine Step.laterA (K := fun s2 => Run P bl ops rest s2 K) hA hS hp2 hM hb ap3 hpi ⟨h0, true, hg, .inr ⟨rfl, .inr (.inr (.inr (.inr (.inl ⟨hA', _, cs, h3, fun gg s2 he => ?_⟩))))⟩⟩
      refine Run.kcP hA hS hK rest _ _ he ?_
      have := hr gg
      simpa using this
    obtain ⟨hb, hc⟩ := what (h4 0) (hs1 0) (hw1 0) (hv1 0)
    rcases hc with ⟨c1, _⟩ | ⟨c1, v, c2, _⟩
    · refine ahead undef (.inl ⟨c1, rfl⟩) hb (behind _ hb fun gg => ?_)
      rcases (what (h4 gg) (hs1 gg) (hw1 gg) (hv1 gg)).2 with ⟨_, d2⟩ | ⟨d1, _⟩
      · exact d2
      · rw [c1] at d1; cases d1
    · refine ahead v (.inr ⟨c1, c2⟩) hb (behind _ hb fun gg => ?_)
      rcases (what (h4 gg) (hs1 gg) (hw1 gg) (hv1 gg)).2 with ⟨d1, _⟩ | ⟨_, v', d2, d3⟩
      · rw [c1] at d1; cases d1
      · rw [c2] at d2; cases d2; exact d3
  · rw [hS] at hbS; cases hbS
/-- may p be passed over by i? -/
def passOk (bl : List Nat) (ops : Array Oper) (op oi : Oper) : Bool :=
  op.apart ops oi && (((isMov op && isFr bl oi && !isCall op) || (isAl oi && (isMov op || isAl op))) || ((isSto op || isAl op) && isPure oi && op.guard.isNone))
theorem Run.frontA {P : Program} {bl : List Nat} {ops : Array Oper} {i : Oper} {post : List Oper} {K : St → Prop} (hA : blA bl = true) (hS : blS bl = false) (hM : isM bl = false) (hK : KCP K) : ∀ {pre : List Oper} {s : St},
    (∀ p ∈ pre, passOk bl ops p i = true) → Run P bl ops (pre ++ i :: post) s K → Run P bl ops (i :: (pre ++ post)) s K
  | [], s, _, h => h
  | p :: pre, s, hp, h => by
    have h1 : Step P bl ops p s (fun s' => Run P bl ops (pre ++ i :: post) s' K) := h
    have h2 : Run P bl ops (p :: i :: (pre ++ post)) s K := by
      refine Step.mono ?_ h1
      intro s' hr
      exact Run.frontA hA hS hM hK (fun q hq => hp q (by simp [hq])) hr
    have hpp := hp p (by simp)
    simp only [passOk, Bool.and_eq_true, Bool.or_eq_true, Bool.not_eq_true'] at hpp
    obtain ⟨ha, (⟨⟨hm, hf⟩, hc⟩ | ⟨hi, hm⟩) | ⟨⟨hs, hi⟩, hg⟩⟩ := hpp
    · exact Run.swap (hK.kc) hm hf hc ha h2
    · exact Run.swapA hA hS hM hK hm hi ha h2
    · exact Run.swapQ hA hS hM hK hs (by simpa using hg) hi ha h2
def pairOkA (bl : List Nat) (ops : Array Oper) (p i : Nat) : Bool :=
  waitsF ops ops.size i p ||
  match ops[p]?, ops[i]? with
  | some op, some oi => passOk bl ops op oi
  | _, _ => false
def drawnAOk (bl : List Nat) (ops : Array Oper) (perm : List Nat) : Bool :=
  decide (perm.length = ops.size) && perm.all (fun i => decide (i < ops.size)) && (List.range ops.size).all (fun i => perm.contains i) &&
  pairsB (pairOkA bl ops) perm && pairsB (noWait ops) perm && perm.all (fun i => noWait ops i i) && perm.all (fun i => edgesIn ops i) && pairsB (fun i j => i != j) perm && blA bl && !blS bl && !isM bl
theorem wpAny_of_runA {P : Program} {bl : List Nat} {ops : Array Oper} {Q : Exit → Act → World → Prop} {K : St → Prop} {B : World} (hA : blA bl = true) (hS : blS bl = false) (hM : isM bl = false) (hK : KCP K) (hpost : ∀ s' a' w', K s' → Rel B s' a' w' → Q .normal a' w') :
    ∀ (n : Nat) (l : List Nat) (listed : Array Bool) (s : St) (a : Act) (w : World), l.length = n → Ord1 ops l → l.Pairwise (fun p i => pairOkA bl ops p i = true) → listed.size = ops.size →
      (∀ j, j < ops.size → (listed.getD j true = false ↔ j ∈ l)) → Closed ops listed → Run P bl ops (l.map fun i => ops.getD i default) s K → Rel B s a w →
      wpAny P .any ops Q n listed a w := by
  intro n
  induction n with
  | zero =>
    intro l listed s a w hn ho hok hsz hl hc hr h
    have : l = [] := List.eq_nil_of_length_eq_zero hn
    subst this
    refine ⟨?_, hpost _ _ _ hr h⟩
    rcases hh : Region.ready .any ops listed with _ | ⟨i, r⟩
    · rfl
    · exfalso
      obtain ⟨h1, o, ho', _⟩ := mem_ready.1 (show i ∈ Region.ready .any ops listed by rw [hh]; simp)
      have := (hl i (Array.getElem?_eq_some_iff.1 ho').1).1 h1
      simp at this
  | succ n ih =>
    intro l listed s a w hn ho hok hsz hl hc hr h
    refine ⟨fun h0 => ?_, fun i hi => ?_⟩
    · exfalso
      cases l with
      | nil => simp at hn
      | cons i0 rest =>
        have hi0 := ho.lt i0 (by simp)
        have : i0 ∈ Region.ready .any ops listed := by
          refine mem_ready.2 ⟨(hl i0 hi0).2 (by simp), ops[i0], Array.getElem?_eq_getElem hi0, fun e he hb => ?_⟩
          rcases hx : listed.getD e.on false with _ | _
          · exfalso
            have hself := ho.self i0 (by simp)
            have hnw : ∀ j, j ∈ rest → noWait ops i0 j = true := fun j hj => (List.pairwise_cons.1 ho.nw).1 j hj
            have key : ∀ j, noWait ops i0 j = true → e.on ≠ j := fun j hj e' => by
              unfold noWait at hj
              rw [Array.getElem?_eq_getElem hi0] at hj
              have := (Array.all_eq_true'.1 hj) e he
              simp [hb, e'] at this
            rcases Nat.lt_or_ge e.on ops.size with hlt | hge
            · have hun : listed.getD e.on true = false := by
                have : e.on < listed.size := by rw [hsz]; exact hlt
                simp [this] at hx ⊢; exact hx
              have := (hl e.on hlt).1 hun
              rcases List.mem_cons.1 this with h1 | h1
              · exact key i0 hself h1
              · exact key e.on (hnw _ h1) rfl
            · have hj := ho.ed i0 (by simp)
              unfold edgesIn at hj
              rw [Array.getElem?_eq_getElem hi0] at hj
              have := (Array.all_eq_true'.1 hj) e he
              simp [hb] at this
              omega
          · rfl
        rw [h0] at this; cases this
    · obtain ⟨hun, oi, hoi, hall⟩ := mem_ready.1 hi
      have hilt := (Array.getElem?_eq_some_iff.1 hoi).1
      have hil : i ∈ l := (hl i hilt).1 hun
      obtain ⟨pre, post, rfl⟩ := List.append_of_mem hil
      have hoid : ops.getD i default = oi := by simp [hoi]
      have hpre : ∀ p ∈ pre, ∃ op, ops[p]? = some op ∧ passOk bl ops op oi = true := by
        intro p hp
        have hpo : pairOkA bl ops p i = true := (List.pairwise_append.1 hok).2.2 p hp i (by simp)
        unfold pairOkA at hpo
        rw [Bool.or_eq_true] at hpo
        rcases hpo with hpo | hpo
        · exfalso
          have h1 := waitsF_listed hc hpo (fun o ho' e he hb => by rw [hoi] at ho'; cases ho'; exact hall e he hb)
          have hplt := ho.lt p (by simp [hp])
          have h2 := (hl p hplt).2 (by simp [hp])
          rw [getD_tf h2] at h1; cases h1
        · rw [hoi] at hpo
          cases hop : ops[p]? with
          | none => rw [hop] at hpo; cases hpo
          | some op => rw [hop] at hpo; exact ⟨op, rfl, hpo⟩
      have hrun : Run P bl ops (oi :: ((pre ++ post).map fun i => ops.getD i default)) s K := by
        rw [List.map_append] at hr ⊢
        rw [List.map_cons, hoid] at hr
        refine Run.frontA hA hS hM hK ?_ hr
        intro q hq
        obtain ⟨p, hp, rfl⟩ := List.mem_map.1 hq
        obtain ⟨op, hop, h1⟩ := hpre p hp
        have : ops.getD p default = op := by simp [hop]
        rw [this]; exact h1
      have hsub : (pre ++ post).Sublist (pre ++ i :: post) := List.Sublist.append (List.Sublist.refl _) (List.sublist_cons_self _ _)
      have hnd := ho.nodup
      have hinot : i ∉ pre ++ post := by
        intro hm
        have := List.nodup_append.1 hnd
        rcases List.mem_append.1 hm with h1 | h1
        · exact this.2.2 i h1 i (by simp) rfl
        · exact (List.nodup_cons.1 this.2.1).1 h1
      unfold wpOp
      rw [hoi]
      dsimp only
      have hS' := Step.sound (K' := wpAny P .any ops Q n (listed.setIfInBounds i true)) (Q := Q) hrun h (fun s' a' w' hk hrel => by
        refine ih (pre ++ post) (listed.setIfInBounds i true) s' a' w' ?_ (ho.sub hsub) (hok.sublist hsub) (by simpa using hsz) ?_ ?_ hk hrel
        · simp at hn ⊢; omega
        · intro j hj
          by_cases hij : i = j
          · subst hij
            have : i < listed.size := by rw [hsz]; exact hilt
            simp [this]
            simpa using hinot
          · rw [getD_set_ne true hij, hl j hj]
            simp [Ne.symm hij]
        · intro j hj o hoj e he hb
          by_cases hij : i = j
          · subst hij
            rw [hoi] at hoj; cases hoj
            exact getD_set_true (hall e he hb)
          · rw [getD_set_ne false hij] at hj
            exact getD_set_true (hc j hj o hoj e he hb))
      split
      · rename_i hw; rw [if_pos hw] at hS'; exact .inl hS'
      · rename_i hw; rw [if_neg hw] at hS'; exact hS'
theorem At.kcp {B : World} {X : Act → World → Prop} : KCP (fun s => At B s X) := fun s s' he h a w hr => h a w (he.rel hr)
theorem at_drawnA {P : Program} {B : World} {Q : Exit → Act → World → Prop} {s : St} {id : Nat} {l l' : List Oper} (bl perm : List Nat) (hm : P.follows .mixedOrders = true) (hc : drawnAOk bl l.toArray perm = true) (hl : perm.map (fun i => l.toArray.getD i default) = l')
    (h : Run P bl l.toArray l' s (fun s' => At B s' (Q .normal))) : At B s ((Code.region id l.toArray true).wp P Q) := fun a w hr => by
  simp only [drawnAOk, Bool.and_eq_true, decide_eq_true_eq, Bool.not_eq_true'] at hc
  obtain ⟨⟨⟨⟨⟨⟨⟨⟨⟨⟨hlen, hlt⟩, hall⟩, hpo⟩, hnw⟩, hself⟩, hed⟩, hnd⟩, hA⟩, hS⟩, hM⟩ := hc
  have hOrd : Ord1 l.toArray perm := ⟨fun i hi => of_decide_eq_true (List.all_eq_true.1 hlt i hi), pairsB_spec hnw, fun i hi => List.all_eq_true.1 hself i hi, fun i hi => List.all_eq_true.1 hed i hi, (pairsB_spec hnd).imp (fun h => by simpa using h)⟩
  subst hl
  refine wp_region_any hm ?_
  refine wpAny_of_runA hA hS hM At.kcp (B := B) (fun s' a' w' h1 h2 => h1 a' w' h2) l.toArray.size perm _ s a _ hlen hOrd (pairsB_spec hpo) (by simp) ?_ ?_ h hr.drew
  · intro j hj
    have : j ∈ perm := by
      have := List.all_eq_true.1 hall j (List.mem_range.2 hj)
      simpa using this
    have hj' : j < l.length := by simpa using hj
    simp [hj', this]
  · intro j hj
    exfalso
    rcases Nat.lt_or_ge j l.length with h1 | h1
    · simp [h1] at hj
    · simp [h1] at hj
end Go.Via
set_option linter.unusedVariables false
set_option linter.unusedSimpArgs false
namespace Go.Via
open Go Go.RowKit
/-! ### functions without results, functions that are values -/
section
variable {P : Program} {bl : List Nat} {ops : Array Oper} {K : St → Prop} {rest : List Oper} {nt : Nat} {t : List (Nat × Value)} {L : List Blk} {d : Nat} {ty : TypeId} {pos : String} {af : Array Edge} {g : Option (Nat × Bool)} {x y : Operand}
end
end Go.Via
set_option linter.unusedVariables false
set_option linter.unusedSimpArgs false
namespace Go.Via
open Go Go.RowKit
/-! ### the look at a region by numbers whose bits are the operations that one waits for -/
def bitsOf (ms : List Nat) (l : List Edge) : Nat := l.foldl (fun m e => if Region.binds .any e then m ||| ((1 <<< e.on) ||| ms.getD e.on 0) else m) 0
def maskOK (ops : Array Oper) (ms : List Nat) : Bool := (List.range ops.size).all fun i => match ops[i]? with
  | some o => (o.after.toList.all fun e => !Region.binds .any e || decide (e.on < i)) && ms.getD i 0 == bitsOf ms o.after.toList
  | none => true
theorem bits_fold {ms : List Nat} {j : Nat} : ∀ {l : List Edge} {m : Nat}, Nat.testBit (l.foldl (fun m e => if Region.binds .any e then m ||| ((1 <<< e.on) ||| ms.getD e.on 0) else m) m) j = true →
    Nat.testBit m j = true ∨ ∃ e ∈ l, Region.binds .any e = true ∧ (e.on = j ∨ Nat.testBit (ms.getD e.on 0) j = true)
  | [], m, h => .inl h
  | e :: l, m, h => by
    rw [List.foldl_cons] at h
    rcases bits_fold h with h | ⟨e', h1, h2⟩
    · split at h
      · rename_i hb
        rw [Nat.testBit_or, Nat.testBit_or, Bool.or_eq_true, Bool.or_eq_true] at h
        rcases h with h | h | h
        · exact .inl h
        · refine .inr ⟨e, by simp, hb, .inl ?_⟩
          rw [Nat.testBit_shiftLeft] at h
          simp only [Bool.and_eq_true, decide_eq_true_eq] at h
          have h3 := h.2
          by_cases c : j - e.on = 0
          · omega
          · exfalso
            obtain ⟨k, hk⟩ : ∃ k, j - e.on = k + 1 := ⟨j - e.on - 1, by omega⟩
            rw [hk, Nat.testBit_succ] at h3
            simp at h3
        · exact .inr ⟨e, by simp, hb, .inr h⟩
      · exact .inl h
    · exact .inr ⟨e', by simp [h1], h2⟩
theorem mask_waits {ops : Array Oper} {ms : List Nat} (hm : maskOK ops ms = true) : ∀ (f i j : Nat), i < f → i < ops.size → Nat.testBit (ms.getD i 0) j = true → waitsF ops f i j = true
  | 0, i, j, h, _, _ => by omega
  | f + 1, i, j, h, hi, hb => by
    have h1 := List.all_eq_true.1 hm i (List.mem_range.2 hi)
    rw [Array.getElem?_eq_getElem hi] at h1
    simp only [Bool.and_eq_true, beq_iff_eq] at h1
    obtain ⟨h2, h3⟩ := h1
    rw [h3] at hb
    unfold waitsF
    rw [Array.getElem?_eq_getElem hi]
    rcases bits_fold hb with hb | ⟨e, he, hbe, hj⟩
    · simp at hb
    · have hlt : e.on < i := by
        have := List.all_eq_true.1 h2 e he
        rw [hbe] at this
        simpa using this
      refine Array.any_eq_true'.2 ⟨e, by simpa using he, ?_⟩
      rw [hbe, Bool.true_and, Bool.or_eq_true]
      rcases hj with hj | hj
      · exact .inl (by simpa using hj)
      · exact .inr (mask_waits hm f e.on j (by omega) (by omega) hj)
def pairM (bl : List Nat) (ops : Array Oper) (ms : List Nat) (p i : Nat) : Bool :=
  Nat.testBit (ms.getD i 0) p ||
  match ops[p]?, ops[i]? with
  | some op, some oi => isMov op && isFr bl oi && !isCall op && op.apart ops oi
  | _, _ => false
theorem pairsB_mono {f g : Nat → Nat → Bool} : ∀ {l : List Nat}, (∀ p ∈ l, ∀ i ∈ l, f p i = true → g p i = true) → pairsB f l = true → pairsB g l = true
  | [], _, _ => rfl
  | p :: l, h, hf => by
    simp only [pairsB, Bool.and_eq_true] at hf ⊢
    exact ⟨List.all_eq_true.2 fun i hi => h p (by simp) i (by simp [hi]) (List.all_eq_true.1 hf.1 i hi), pairsB_mono (fun p hp i hi => h p (by simp [hp]) i (by simp [hi])) hf.2⟩
def drawnMOk (bl : List Nat) (ops : Array Oper) (perm : List Nat) (ms : List Nat) : Bool :=
  maskOK ops ms && (decide (perm.length = ops.size) && perm.all (fun i => decide (i < ops.size)) && (List.range ops.size).all (fun i => perm.contains i) &&
  pairsB (pairM bl ops ms) perm && pairsB (noWait ops) perm && perm.all (fun i => noWait ops i i) && perm.all (fun i => edgesIn ops i) && pairsB (dstApart bl ops) perm && pairsB (movFirst bl ops) perm && pairsB (fun i j => i != j) perm)
theorem drawnM {bl : List Nat} {ops : Array Oper} {perm : List Nat} (ms : List Nat) (h : drawnMOk bl ops perm ms = true) : drawnOk bl ops perm = true := by
  unfold drawnMOk at h
  rw [Bool.and_eq_true] at h
  obtain ⟨hm, h⟩ := h
  unfold drawnOk
  simp only [Bool.and_eq_true] at h ⊢
  obtain ⟨⟨⟨⟨⟨⟨⟨⟨⟨h1, h2⟩, h3⟩, h4⟩, h5⟩, h6⟩, h7⟩, h8⟩, h9⟩, h10⟩ := h
  refine ⟨⟨⟨⟨⟨⟨⟨⟨⟨h1, h2⟩, h3⟩, pairsB_mono (fun p hp i hi hpi => ?_) h4⟩, h5⟩, h6⟩, h7⟩, h8⟩, h9⟩, h10⟩
  have hil : i < ops.size := of_decide_eq_true (List.all_eq_true.1 h2 i hi)
  unfold pairM at hpi
  unfold pairOk
  rw [Bool.or_eq_true] at hpi ⊢
  exact hpi.imp (mask_waits hm _ i p hil hil) id
end Go.Via
set_option linter.unusedVariables false
set_option linter.unusedSimpArgs false
namespace Go.Via
open Go Go.RowKit
/-! ### the lesser and the greater of two integers -/
section
variable {P : Program} {bl : List Nat} {ops : Array Oper} {K : St → Prop} {rest : List Oper} {nt : Nat} {t : List (Nat × Value)} {L : List Blk} {d : Nat} {ty : TypeId} {pos : String} {af : Array Edge} {g : Option (Nat × Bool)} {x y : Operand}
theorem r_minI {ts : Array TypeId} {k k' : IntKind} {m n : Int} (hd : Nat.blt d nt = true) (hg : wantedS ops ⟨some d, .call { callee := .builtin .min, args := #[x, y], argTypes := ts }, ty, pos, af, g⟩ t = some true) (hx : ev t x = some (.int k m)) (hy : ev t y = some (.int k' n))
    (h : Run P bl ops rest ⟨nt, (d, .int k (min m n)) :: t, L⟩ K) : Run P bl ops (⟨some d, .call { callee := .builtin .min, args := #[x, y], argTypes := ts }, ty, pos, af, g⟩ :: rest) ⟨nt, t, L⟩ K :=
  run_q hd hg rfl (fun B a w hrel => by
    have e : min m n = if n < m then n else m := by split <;> omega
    simp [execOp, resolve, invoke, builtin, hrel.ev hx, hrel.ev hy, run_min_int2, e]) h
end
end Go.Via
set_option linter.unusedVariables false
set_option linter.unusedSimpArgs false
namespace Go.Via
open Go Go.RowKit
/-! ### a field of a struct that is a value -/
section
variable {P : Program} {bl : List Nat} {ops : Array Oper} {K : St → Prop} {rest : List Oper} {nt : Nat} {t : List (Nat × Value)} {L : List Blk} {d : Nat} {ty : TypeId} {pos : String} {af : Array Edge} {g : Option (Nat × Bool)} {x y : Operand}
end
end Go.Via
set_option linter.unusedVariables false
set_option linter.unusedSimpArgs false
namespace Go.Via
open Go Go.RowKit
section
variable {P : Program} {bl : List Nat} {ops : Array Oper} {K : St → Prop} {rest : List Oper} {nt : Nat} {t : List (Nat × Value)} {L : List Blk} {d : Nat} {ty : TypeId} {pos : String} {af : Array Edge} {g : Option (Nat × Bool)} {x y z : Operand}
/-- x[l:] -/
theorem r_sliceL {T e : Nat} {b : Option Nat} {len cap : Nat} {ki : IntKind} {inf : TI} (l : Nat) (hT : P.underlying T = some (.slice e)) (hinf : tiOK P e inf = true) (hd : Nat.blt d nt = true) (hg : wantedS ops ⟨some d, .slice T x (some y) none none, ty, pos, af, g⟩ t = some true) (hx : ev t x = some (slv b 0 len cap)) (hy : ev t y = some (.int ki (l : Nat))) (h1 : l ≤ len)
    (h : Run P bl ops rest ⟨nt, (d, slv b (if cap = l then 0 else l * inf.size) (len - l) (cap - l)) :: t, L⟩ K) : Run P bl ops (⟨some d, .slice T x (some y) none none, ty, pos, af, g⟩ :: rest) ⟨nt, t, L⟩ K :=
  run_q hd hg rfl (fun B a w hrel => by
    have he : P.elem T = e := by simp [Program.elem, hT]
    have hT' : P.underlying T = some (.slice (P.elem T)) := by rw [he]; exact hT
    have h2 := hrel.ev hx
    have h3 := hrel.ev hy
    unfold slv at h2
    have r1 := run_sliceAt_slice (P := P) w T (.slice (b.map fun g => ⟨g, 0, none⟩) len cap) (some (.int ki (l : Nat))) none none hT'
    rw [run_slice_l (P := P) w T (b.map fun g => ⟨g, 0, none⟩) len cap hT' ki (l : Nat) (by omega) (by omega), he, ti_sizeOf hinf w] at r1
    simp only [Result.andThen_ok] at r1
    have e1 : sliced (b.map fun g => (⟨g, 0, none⟩ : Addr)) ((l : Nat) : Int).toNat len cap inf.size = slv b (if cap = l then 0 else l * inf.size) (len - l) (cap - l) := by
      unfold sliced slv
      rw [Int.toNat_natCast]
      by_cases hc : cap = l
      · rw [if_pos hc, if_pos hc]
      · rw [if_neg hc, if_neg hc]; cases b <;> simp [add_lit]
    rw [e1] at r1
    simp [execOp, h2, h3, r1]) h
/-- x[l:], with the place and the lengths said -/
theorem r_sliceM {T e : Nat} {b : Option Nat} {len cap off' n' c' : Nat} {ki : IntKind} {inf : TI} (l : Nat) (hT : P.underlying T = some (.slice e)) (hinf : tiOK P e inf = true) (hd : Nat.blt d nt = true) (hg : wantedS ops ⟨some d, .slice T x (some y) none none, ty, pos, af, g⟩ t = some true) (hx : ev t x = some (slv b 0 len cap)) (hy : ev t y = some (.int ki (l : Nat))) (h1 : l ≤ len) (e1 : (if cap = l then 0 else l * inf.size) = off') (e2 : len - l = n') (e3 : cap - l = c')
    (h : Run P bl ops rest ⟨nt, (d, slv b off' n' c') :: t, L⟩ K) : Run P bl ops (⟨some d, .slice T x (some y) none none, ty, pos, af, g⟩ :: rest) ⟨nt, t, L⟩ K := by
  subst e1; subst e2; subst e3
  exact r_sliceL l hT hinf hd hg hx hy h1 h
/-- append nothing to a row (a source with an offset) -/
theorem r_append0O {T e off2 : Nat} {inf : TypeInfo} {bb : Option Nat} {len cap c2 : Nat} {b2 : Option Nat} (hT : P.underlying T = some (.slice e)) (hi : P.info? e = some inf) (hd : Nat.blt d nt = true)
    (hg : wantedS ops ⟨some d, .call { callee := .builtin .append, args := #[x, y], argTypes := #[T, T] }, ty, pos, af, g⟩ t = some true)
    (hx : ev t x = some (slv bb 0 len cap)) (hcap : len ≤ cap) (hy : ev t y = some (slv b2 off2 0 c2)) (h : Run P bl ops rest ⟨nt, (d, slv bb 0 len cap) :: t, L⟩ K) :
    Run P bl ops (⟨some d, .call { callee := .builtin .append, args := #[x, y], argTypes := #[T, T] }, ty, pos, af, g⟩ :: rest) ⟨nt, t, L⟩ K :=
  run_q hd hg rfl (fun B a w hr => by
    have hx' := hr.ev hx
    have hy' := hr.ev hy
    have hs : Src P inf.size T (slv b2 off2 0 c2) 0 [] w := by
      cases b2 with
      | none => exact Src.ofNil (P := P) w hT c2
      | some g2 => exact Src.ofSlice (P := P) w hT ⟨g2, off2, none⟩ 0 c2 [] (by simp) (fun j u hj => by simp at hj) (fun u hu => by cases hu)
    have r1 := run_append_nothing (P := P) w T T ty e inf hT hi (bb.map fun g => ⟨g, 0, none⟩) len cap hcap (slv b2 off2 0 c2) hs
    have r2 : (execOp a.eval ⟨some d, .call { callee := .builtin .append, args := #[x, y], argTypes := #[T, T] }, ty, pos, af, g⟩).run P w = ((Builtin.append_ #[T, T] ty #[slv bb 0 len cap, slv b2 off2 0 c2]).run P w).andThen fun v w => .ok (.value v) w := by
      simp [execOp, resolve, invoke, builtin, hx', hy']
    rw [r2]
    unfold slv at r1 ⊢
    rw [r1]; rfl) h
end
end Go.Via
set_option linter.unusedVariables false
set_option linter.unusedSimpArgs false
namespace Go.Via
open Go Go.RowKit
/-! ### a region that draws its order: first what looks at slots alone, then each order of the others -/
theorem Oper.wp_monoQ {P : Program} {o : Oper} {a : Act} {w : World} {K K' : Act → World → Prop} {Q Q' : Exit → Act → World → Prop} (h : ∀ a w, K a w → K' a w)
    (hp : ∀ c a w, Q (.panic c) a w → Q' (.panic c) a w) (hl : LetsOut Q → LetsOut Q') (hh : o.wp P a w K Q) : o.wp P a w K' Q' := by
  unfold Oper.wp at *
  generalize (execOp a.eval o).run P w = r at *
  cases r with
  | ok n w' =>
    cases n <;> simp only [Oper.upon] at hh ⊢ <;>
      first
        | exact h _ _ hh
        | exact Calls.mono hh (fun e w'' he => by cases e <;> first | exact h _ _ he | exact hp _ _ _ he | exact hl he)
        | exact Rows.mono hh (fun _ _ he => h _ _ he)
  | halt x w' => cases x <;> simp only [Oper.upon] at hh ⊢ <;> first | exact hp _ _ _ hh | exact hh
theorem wpAny_monoQ {P : Program} {md : Region.Mode} {ops : Array Oper} {Q Q' : Exit → Act → World → Prop} (hn : ∀ a w, Q .normal a w → Q' .normal a w)
    (hp : ∀ c a w, Q (.panic c) a w → Q' (.panic c) a w) (hl : LetsOut Q → LetsOut Q') : ∀ (n : Nat) (listed : Array Bool) (a : Act) (w : World), wpAny P md ops Q n listed a w → wpAny P md ops Q' n listed a w
  | 0, _, _, _, h => ⟨h.1, hn _ _ h.2⟩
  | n + 1, listed, a, w, h => ⟨fun h0 => hn _ _ (h.1 h0), fun i hi => by
      have h1 := h.2 i hi
      unfold wpOp at h1 ⊢
      split
      · rename_i ho; rw [ho] at h1; exact wpAny_monoQ hn hp hl n _ _ _ h1
      · rename_i o ho
        rw [ho] at h1
        dsimp only at h1
        split
        · rename_i hw
          rw [if_pos hw] at h1
          exact h1.imp (Oper.wp_monoQ (wpAny_monoQ hn hp hl n _) hp hl) (fun h2 => ⟨h2.1, hl h2.2⟩)
        · rename_i hw
          rw [if_neg hw] at h1
          exact wpAny_monoQ hn hp hl n _ _ _ h1⟩
/-- what may be taken first, one after another -/
def takesOk (ops : Array Oper) : Array Bool → List Nat → Bool
  | _, [] => true
  | listed, i :: E => (match ops[i]? with
    | some o => isMov o && !isCall o
    | none => false) && Region.free .any ops listed i && (Region.ready .any ops listed).contains i && takesOk ops (listed.setIfInBounds i true) E
/-- an end in which no panic is -/
def noPanic (X : Act → World → Prop) : Exit → Act → World → Prop
  | .normal, a, w => X a w
  | _, _, _ => False
theorem wpAny_takes {P : Program} {ops : Array Oper} {X : Act → World → Prop} {B : World} {w : World} {nt : Nat} {L : List Blk} {n : Nat} (hsel : Region.noSelect ops = true) {G : List (Nat × Value) → Array Bool → Prop}
    (hG : ∀ (t : List (Nat × Value)) (listed : Array Bool) (a : Act), G t listed → Rel B ⟨nt, t, L⟩ a w → wpAny P .any ops (noPanic X) n listed a w) :
    ∀ (E : List Nat) (listed : Array Bool) (t : List (Nat × Value)) (a : Act), takesOk ops listed E = true →
      Run P [] ops (E.map fun i => ops.getD i default) ⟨nt, t, []⟩ (fun s' => G s'.t (E.foldl (fun (x : Array Bool) i => x.setIfInBounds i true) listed)) → Rel B ⟨nt, t, L⟩ a w → wpAny P .any ops (noPanic X) (E.length + n) listed a w
  | [], listed, t, a, _, hr, h => by rw [show ([] : List Nat).length + n = n by simp]; exact hG t listed a hr h
  | i :: E, listed, t, a, hc, hr, h => by
    simp only [takesOk, Bool.and_eq_true, Bool.not_eq_true'] at hc
    obtain ⟨⟨⟨hk, hf⟩, hrd⟩, hE⟩ := hc
    cases ho : ops[i]? with
    | none => rw [ho] at hk; cases hk
    | some o =>
      rw [ho] at hk
      simp only [Bool.and_eq_true, Bool.not_eq_true'] at hk
      obtain ⟨hmv, hcl⟩ := hk
      have hoid : ops.getD i default = o := by simp [ho]
      have hr1 : Step P [] ops (ops.getD i default) ⟨nt, t, []⟩ (fun s' => Run P [] ops (E.map fun i => ops.getD i default) s' (fun s' => G s'.t (E.foldl (fun (x : Array Bool) i => x.setIfInBounds i true) (listed.setIfInBounds i true)))) := hr
      rw [hoid] at hr1
      obtain ⟨h0, g, hg, hh⟩ := hr1
      have hw := wantedS_spec h hg
      have hrel0 : ∀ w', Rel w' ⟨nt, t, []⟩ a w' := fun w' => ⟨h.df, h.size, h.tmp, ⟨Below.refl _ _, fun k b hk => by simp at hk, fun i j g bi bj hij hi => by simp at hi⟩⟩
      have hnsto : isSto o = false := by
        unfold isSto; unfold isMov at hmv
        split <;> first | rfl | (rename_i heq; rw [heq] at hmv; cases hmv)
      have hnal : isAl o = false := by
        unfold isAl; unfold isMov at hmv
        split
        · rename_i heq; rw [heq] at hmv; cases hmv
        · rfl
      obtain ⟨v, hy, hk⟩ : ∃ v, Go.Yields P ops o v a ∧ Run P [] ops (E.map fun i => ops.getD i default) ((⟨nt, t, []⟩ : St).put o.dst v) (fun s' => G s'.t (E.foldl (fun (x : Array Bool) i => x.setIfInBounds i true) (listed.setIfInBounds i true))) := by
        rcases hh with ⟨h1, h2⟩ | ⟨h1, ⟨h2, v, h3, h4⟩ | ⟨h2, _⟩ | ⟨hm, _⟩ | ⟨hm, _⟩ | ⟨hm, _⟩ | ⟨_, hm, _⟩⟩
        · exact ⟨undef, .inr ⟨by rw [hw, h1], rfl⟩, h2⟩
        · exact ⟨v, .inl ⟨by rw [hw, h1], fun w' => h3.1 w' a w' (hrel0 w')⟩, h4⟩
        · rw [hcl] at h2; cases h2
        · simp [isM, mvS, hmv] at hm
        · rw [hnsto] at hm; cases hm
        · rw [hnal] at hm; cases hm
        · cases hm
      rw [show (i :: E).length + n = (E.length + n) + 1 by simp; omega]
      refine wpAny_take ho hsel hf hrd (fun c a w hq => hq.elim) hy ?_
      have hput : (⟨nt, t, []⟩ : St).put o.dst v = ⟨nt, ((⟨nt, t, []⟩ : St).put o.dst v).t, []⟩ := by cases o.dst <;> rfl
      rw [hput] at hk
      refine wpAny_takes hsel hG E _ _ _ hE hk ?_
      have h5 := h.put0 (dst := o.dst) (v := v) h0
      have h6 : (⟨nt, t, L⟩ : St).put o.dst v = ⟨nt, ((⟨nt, t, []⟩ : St).put o.dst v).t, L⟩ := by cases o.dst <;> rfl
      rw [← h6]; exact h5
theorem at_drawnE {P : Program} {B : World} {Q : Exit → Act → World → Prop} {nt : Nat} {t : List (Nat × Value)} {L : List Blk} {id : Nat} {l l' : List Oper} (E : List Nat) (n : Nat) (hm : P.follows .mixedOrders = true)
    (hc : (Region.noSelect l.toArray && takesOk l.toArray (Array.replicate l.toArray.size false) E && decide (E.length + n = l.toArray.size)) = true) (hl : E.map (fun i => l.toArray.getD i default) = l')
    (h : Run P [] l.toArray l' ⟨nt, t, []⟩ (fun s' => Tree P l.toArray (fun s' => At B s' (Q .normal)) n (E.foldl (fun (x : Array Bool) i => x.setIfInBounds i true) (Array.replicate l.toArray.size false)) ⟨nt, s'.t, L⟩)) :
    At B ⟨nt, t, L⟩ ((Code.region id l.toArray true).wp P Q) := fun a w hr => by
  simp only [Bool.and_eq_true, decide_eq_true_eq] at hc
  obtain ⟨⟨h1, h2⟩, h3⟩ := hc
  subst hl
  refine wp_region_any hm ?_
  suffices hs : wpAny P .any l.toArray Q (E.length + n) (Array.replicate l.toArray.size false) a { w with drawn := w.drawn + 1 } by rw [h3] at hs; exact hs
  refine wpAny_monoQ (Q := noPanic (Q .normal)) (Q' := Q) (fun _ _ h => h) (fun _ _ _ h => h.elim) (fun ⟨_, _, h⟩ => h.elim) _ _ _ _ ?_
  refine wpAny_takes (B := B) (G := fun t listed => Tree P l.toArray (fun s' => At B s' (Q .normal)) n listed ⟨nt, t, L⟩) h1 (fun t listed a hG hrel => wp_tree (Q := noPanic (Q .normal)) (fun s' a' w' hk hr' => hk a' w' hr') _ _ _ _ _ hG hrel) E _ t a h2 h hr.drew
theorem tr_nil {P : Program} {ops : Array Oper} {K : St → Prop} {listed : Array Bool} {s : St} (h : Region.ready .any ops listed = []) (hk : K s) : Tree P ops K 0 listed s := ⟨h, hk⟩
end Go.Via
