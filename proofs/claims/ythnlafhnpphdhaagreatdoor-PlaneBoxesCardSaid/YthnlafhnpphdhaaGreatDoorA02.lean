/-
  Part 2: lemmas, and walks through the functions that the laws of chapter 07 call. Each theorem states its own conditions.
-/
import Derived.Deep.AppendSrc
import Derived.Laws.BytesArg
import Derived.Laws.CopyRow
import Derived.Laws.AppendOwn
import Derived.Test.YthnlafhnpphdhaaGreatDoorProg
import Derived.Shelf.Small.Bits
import Derived.Shelf.Small.Strs
import Derived.Shelf.Strconv.Itoa0
import Derived.Shelf.Bits.Mul64
import Derived.Laws.Externs
import Derived.Lib.ItoaNum
import Derived.Test.YthnlafhnpphdhaaGreatDoorA01
set_option linter.unusedVariables false
set_option linter.unusedVariables false
set_option linter.unusedSimpArgs false
namespace Go.Via
open Go Go.RowKit
theorem kc_at {B : World} {X : Act → World → Prop} : KC (fun s' => At B s' X) := fun _ _ he h a w hr => h a w (he.symm.rel hr)
/-- the two values of a test that a guard asks -/
theorem r_split {P : Program} {bl : List Nat} {ops : Array Oper} {nt : Nat} {t : List (Nat × Value)} {L : List Blk} {B : World} {X : Act → World → Prop} {l : List Oper} {b : Bool} (d : Nat) (hx : look t d = some (.bool b))
    (hT : b = true → Run P bl ops l ⟨nt, (d, .bool true) :: t, L⟩ (fun s' => At B s' X)) (hF : b = false → Run P bl ops l ⟨nt, (d, .bool false) :: t, L⟩ (fun s' => At B s' X)) : Run P bl ops l ⟨nt, t, L⟩ (fun s' => At B s' X) := by
  have key : ∀ c : Bool, b = c → Eqv ⟨nt, (d, .bool c) :: t, L⟩ ⟨nt, t, L⟩ := fun c hc => ⟨rfl, rfl, fun k => by
    by_cases e : d = k
    · subst e; rw [look_cons_eq, ← hc]; exact hx.symm
    · rw [look_cons_ne e]⟩
  cases hb : b
  · exact Run.kc kc_at l _ _ (key false hb) (hF hb)
  · exact Run.kc kc_at l _ _ (key true hb) (hT hb)
/-- a value is known better -/
theorem r_know {P : Program} {bl : List Nat} {ops : Array Oper} {nt : Nat} {t : List (Nat × Value)} {L : List Blk} {B : World} {X : Act → World → Prop} {l : List Oper} {v : Value} (d : Nat) (v' : Value) (hx : look t d = some v) (hv : v = v')
    (h : Run P bl ops l ⟨nt, (d, v') :: t, L⟩ (fun s' => At B s' X)) : Run P bl ops l ⟨nt, t, L⟩ (fun s' => At B s' X) := by
  refine Run.kc kc_at l ⟨nt, (d, v') :: t, L⟩ _ ⟨rfl, rfl, fun k => ?_⟩ h
  by_cases e : d = k
  · subst e; rw [look_cons_eq, ← hv]; exact hx.symm
  · rw [look_cons_ne e]
section
variable {B : World} {s : St} {k : Act → World → Prop} {Q : Exit → Act → World → Prop} {id id' : Nat}
theorem at_tn (h : At B s k) : At B s (Exit.then k Q .normal) := h
theorem at_tr (h : At B s (Q .ret)) : At B s (Exit.then k Q .ret) := h
theorem at_te (h : At B s (Q (.exit id))) : At B s (Exit.then k Q (.exit id)) := h
theorem at_bn (h : At B s (Q .normal)) : At B s (Exit.inBlock id Q .normal) := h
theorem at_br (h : At B s (Q .ret)) : At B s (Exit.inBlock id Q .ret) := h
theorem at_be (h : At B s (Q .normal)) : At B s (Exit.inBlock id Q (.exit id)) := fun a w hr => by
  show if id = id then _ else _
  rw [if_pos rfl]; exact h a w hr
theorem at_bne (hne : (id' == id) = false) (h : At B s (Q (.exit id'))) : At B s (Exit.inBlock id Q (.exit id')) := fun a w hr => by
  show if id' = id then _ else _
  rw [if_neg (by simpa using hne)]; exact h a w hr
end
end Go.Via
set_option linter.unusedVariables false
set_option linter.unusedSimpArgs false
namespace Go.Via
open Go Go.RowKit
/-! ### rows of numbers -/
def NV (k : IntKind) (l : List Nat) : List Value := l.map fun (d : Nat) => Value.int k (d : Int)
theorem NV_length (k : IntKind) (l : List Nat) : (NV k l).length = l.length := by simp [NV]
theorem NV_get {k : IntKind} {l : List Nat} {i d : Nat} (h : l[i]? = some d) : (NV k l)[i]? = some (.int k (d : Int)) := by simp [NV, h]
theorem NV_set (k : IntKind) (l : List Nat) (i d : Nat) : (NV k l).set i (.int k (d : Int)) = NV k (l.set i d) := by simp [NV, List.map_set]
theorem NV_append (k : IntKind) (l m : List Nat) : NV k l ++ NV k m = NV k (l ++ m) := by simp [NV]
theorem NV_take (k : IntKind) (l : List Nat) (n : Nat) : (NV k l).take n = NV k (l.take n) := by simp [NV, List.map_take]
theorem NV_drop (k : IntKind) (l : List Nat) (n : Nat) : (NV k l).drop n = NV k (l.drop n) := by simp [NV, List.map_drop]
theorem NV_replicate (k : IntKind) (n : Nat) : List.replicate n (Value.int k 0) = NV k (List.replicate n 0) := by simp [NV]
/-- a slice that is handed over: where, how many cells the block has, what room -/
structure SR (len : Nat) where
  b : Option Nat
  n : Nat
  cap : Nat
  h : len ≤ cap
instance {len : Nat} : Nonempty (SR len) := ⟨⟨none, 0, len, Nat.le_refl _⟩⟩
def slv (b : Option Nat) (off len cap : Nat) : Value := .slice (b.map fun g => ⟨g, off, none⟩) len cap
def SR.v {len : Nat} (x : SR len) : Value := slv x.b 0 len x.cap
/-! ### what is known is made less -/
def Blk.le (b' b : Blk) : Prop := b'.base = b.base ∧ b'.e = b.e ∧ b'.n = b.n ∧ (∃ k, b'.cs = b.cs.take k) ∧ (b'.own = true → b.own = true)
theorem Blk.le_refl (b : Blk) : b.le b := ⟨rfl, rfl, rfl, ⟨b.cs.length, by simp⟩, id⟩
theorem BlkAt.le {B w : World} {b b' : Blk} {g : Nat} (h : BlkAt B w b g) (hl : b'.le b) : BlkAt B w b' g := by
  obtain ⟨⟨cur, h1, h2, h3⟩, h4⟩ := h
  obtain ⟨l1, l2, l3, ⟨k, l4⟩, l5⟩ := hl
  obtain ⟨fr, h1, hfr⟩ := h1
  refine ⟨⟨cur, ⟨fr, by rw [l2]; exact h1, fun ho => hfr (l5 ho)⟩, by rw [l3]; exact h2, ?_⟩, fun ho => h4 (l5 ho)⟩
  rw [l4, List.length_take, ← List.take_take, h3]
/-- each block of L' is one of L, or nowhere -/
def Picks (L : List Blk) : List (Option Nat) → List Blk → Prop
  | [], [] => True
  | some k :: ks, b' :: L' => (∃ b, L[k]? = some b ∧ b'.le b) ∧ Picks L ks L'
  | none :: ks, b' :: L' => (b'.base = none ∧ b'.cs = [] ∧ b'.n = 0) ∧ Picks L ks L'
  | _, _ => False
def apartB : List (Option Nat) → List Bool → Bool
  | some k :: ks, true :: os => !ks.contains (some k) && apartB ks os
  | some k :: ks, false :: os => ((ks.zip os).all fun p => !(p.2 && p.1 == some k)) && apartB ks os
  | none :: ks, _ :: os => apartB ks os
  | _, _ => true
theorem Picks.get {L : List Blk} : ∀ {ks : List (Option Nat)} {L' : List Blk}, Picks L ks L' → ∀ (i : Nat) (b' : Blk), L'[i]? = some b' →
    (∃ k b, ks[i]? = some (some k) ∧ L[k]? = some b ∧ b'.le b) ∨ (ks[i]? = some none ∧ b'.base = none ∧ b'.cs = [] ∧ b'.n = 0)
  | [], [], _, i, b', h => by simp at h
  | some k :: ks, c :: L', hp, i, b', h => by
    cases i with
    | zero => simp at h; subst h; obtain ⟨⟨b, h1, h2⟩, _⟩ := hp; exact .inl ⟨k, b, by simp, h1, h2⟩
    | succ i => simp at h; simpa using Picks.get hp.2 i b' h
  | none :: ks, c :: L', hp, i, b', h => by
    cases i with
    | zero => simp at h; subst h; exact .inr ⟨by simp, hp.1⟩
    | succ i => simp at h; simpa using Picks.get hp.2 i b' h
  | some _ :: _, [], hp, i, b', h => by simp at h
  | none :: _, [], hp, i, b', h => by simp at h
  | [], _ :: _, hp, i, b', h => hp.elim
theorem apartB_spec : ∀ {ks : List (Option Nat)} {os : List Bool}, ks.length = os.length → apartB ks os = true → ∀ (i j k : Nat), i ≠ j → ks[i]? = some (some k) → ks[j]? = some (some k) → os[i]? = some true → False
  | [], _, _, _, i, j, k, _, h, _, _ => by simp at h
  | some m :: ks, true :: os, hl, ha, i, j, k, hij, h1, h2, h3 => by
    simp only [apartB, Bool.and_eq_true, Bool.not_eq_true', List.contains_eq_mem, decide_eq_false_iff_not] at ha
    have hl' : ks.length = os.length := by simpa using hl
    cases i with
    | zero =>
      cases j with
      | zero => exact hij rfl
      | succ j =>
        simp at h1 h2; subst h1
        exact ha.1 (List.mem_of_getElem? h2)
    | succ i =>
      cases j with
      | zero => simp at h1 h2; subst h2; exact ha.1 (List.mem_of_getElem? h1)
      | succ j => simp at h1 h2 h3; exact apartB_spec hl' ha.2 i j k (by omega) h1 h2 h3
  | some m :: ks, false :: os, hl, ha, i, j, k, hij, h1, h2, h3 => by
    simp only [apartB, Bool.and_eq_true, List.all_eq_true] at ha
    have hl' : ks.length = os.length := by simpa using hl
    cases i with
    | zero => simp at h3
    | succ i =>
      cases j with
      | zero =>
        simp at h1 h2 h3; subst h2
        have hm : (some m, true) ∈ ks.zip os := List.mem_of_getElem? (i := i) (by rw [List.getElem?_zip_eq_some]; exact ⟨h1, h3⟩)
        have := ha.1 _ hm
        simp at this
      | succ j => simp at h1 h2 h3; exact apartB_spec hl' ha.2 i j k (by omega) h1 h2 h3
  | none :: ks, o :: os, hl, ha, i, j, k, hij, h1, h2, h3 => by
    have hl' : ks.length = os.length := by simpa using hl
    cases i with
    | zero => simp at h1
    | succ i =>
      cases j with
      | zero => simp at h2
      | succ j => simp at h1 h2 h3; exact apartB_spec hl' ha i j k (by omega) h1 h2 h3
  | some _ :: _, [], hl, _, i, j, k, _, _, _, _ => by simp at hl
  | none :: _, [], hl, _, i, j, k, _, _, _, _ => by simp at hl
theorem LRel.picks {B w : World} {L L' : List Blk} (h : LRel B L w) (ks : List (Option Nat)) (hp : Picks L ks L') (hl : ks.length = L'.length) (ha : apartB ks (L'.map (·.own)) = true)
    : LRel B L' w := by
  refine ⟨h.below, fun k b hk => ?_, fun i j g bi bj hij hi hj ho hg hgj => ?_⟩
  · rcases hp.get k b hk with ⟨m, c, _, h2, h3⟩ | ⟨_, h2, h3⟩
    · obtain ⟨a1, a2⟩ := h.blk m c h2
      refine ⟨fun g hg => (a1 g (by rw [← h3.1]; exact hg)).le h3, fun hn => ?_⟩
      obtain ⟨b1, b2⟩ := a2 (by rw [← h3.1]; exact hn)
      obtain ⟨_, _, l3, ⟨q, l4⟩, _⟩ := h3
      exact ⟨by rw [l4, b1]; simp, by rw [l3]; exact b2⟩
    · exact ⟨fun g hg => (by rw [h2] at hg; cases hg), fun _ => h3⟩
  · rcases hp.get i bi hi with ⟨mi, ci, h1, h2, h3⟩ | ⟨_, h2, _⟩
    · rcases hp.get j bj hj with ⟨mj, cj, g1, g2, g3⟩ | ⟨_, g2, _⟩
      · by_cases e : mi = mj
        · subst e
          exact apartB_spec (by simpa using hl) ha i j mi hij h1 g1 (by rw [List.getElem?_map, hi]; simp [ho])
        · exact h.apart mi mj g ci cj e h2 g2 (h3.2.2.2.2 ho) (by rw [← h3.1]; exact hg) (by rw [← g3.1]; exact hgj)
      · rw [g2] at hgj; cases hgj
    · rw [h2] at hg; cases hg
def Weak (L L' : List Blk) : Prop := ∀ B w, LRel B L w → LRel B L' w
theorem Weak.refl (L : List Blk) : Weak L L := fun _ _ h => h
theorem weak_picks {L L' : List Blk} (ks : List (Option Nat)) (hp : Picks L ks L') (hl : ks.length = L'.length) (ha : apartB ks (L'.map (·.own)) = true) : Weak L L' := fun _ _ h => h.picks ks hp hl ha
theorem le_same {b : Blk} {b' : Blk} (h : b' = b) : b'.le b := h ▸ b.le_refl
theorem le_share {base : Option Nat} {e : TypeId} {cs : List Value} {n : Nat} {o : Bool} : Blk.le ⟨base, e, cs, n, false⟩ ⟨base, e, cs, n, o⟩ := ⟨rfl, rfl, rfl, ⟨cs.length, by simp⟩, fun h => by cases h⟩
/-- what is known is made less, between two statements -/
theorem at_weak {B : World} {X : Act → World → Prop} {nt : Nat} {t : List (Nat × Value)} {L : List Blk} (L' : List Blk) (hw : Weak L L') (h : At B ⟨nt, t, L'⟩ X) : At B ⟨nt, t, L⟩ X := fun a w hr => h a w ⟨hr.df, hr.size, hr.tmp, hw _ _ hr.mem⟩
theorem at_know {B : World} {X : Act → World → Prop} {nt : Nat} {t : List (Nat × Value)} {L : List Blk} {v : Value} (d : Nat) (v' : Value) (hx : look t d = some v) (hv : v = v') (h : At B ⟨nt, (d, v') :: t, L⟩ X) : At B ⟨nt, t, L⟩ X := fun a w hr =>
  h a w ⟨hr.df, hr.size, fun k u hk => by
    by_cases e : d = k
    · subst e; rw [look_cons_eq] at hk; cases hk; rw [← hv]; exact hr.tmp d v hx
    · rw [look_cons_ne e] at hk; exact hr.tmp k u hk, hr.mem⟩
theorem at_next' {B : World} {nt : Nat} {t : List (Nat × Value)} {L : List Blk} {ι : Type} {inv : ι → St} {μ : ι → Nat} {i : ι} (j : ι) (t' : List (Nat × Value)) (L' : List Blk) (hj : inv j = ⟨nt, t', L'⟩) (hμ : μ j < μ i) (ht : ∀ p ∈ t', look t p.1 = some p.2) (hL : Weak L L') :
    At B ⟨nt, t, L⟩ (fun a' w' => ∃ j, μ j < μ i ∧ Rel B (inv j) a' w') := fun a w hr => by
  refine ⟨j, hμ, ?_⟩
  rw [hj]
  exact (⟨hr.df, hr.size, hr.tmp, hL _ _ hr.mem⟩ : Rel B ⟨nt, t, L'⟩ a w).sub fun d v hd => ht (d, v) (look_mem hd)
theorem at_enter' {P : Program} {B : World} {Q : Exit → Act → World → Prop} {nt : Nat} {t : List (Nat × Value)} {L : List Blk} {ι : Type} {c : Code} (inv : ι → St) (μ : ι → Nat) (i₀ : ι) (t' : List (Nat × Value)) (L' : List Blk) (h₀ : inv i₀ = ⟨nt, t', L'⟩) (ht : ∀ p ∈ t', look t p.1 = some p.2) (hL : Weak L L')
    (round : ∀ i, At B (inv i) (c.wp P (Exit.then (fun a' w' => ∃ j, μ j < μ i ∧ Rel B (inv j) a' w') Q))) : At B ⟨nt, t, L⟩ ((Code.loop c).wp P Q) :=
  at_loop inv μ i₀ (fun a w hr => by rw [h₀]; exact (⟨hr.df, hr.size, hr.tmp, hL _ _ hr.mem⟩ : Rel B ⟨nt, t, L'⟩ a w).sub fun d v hd => ht (d, v) (look_mem hd)) round
/-! ### calls with slices -/
/-- A CALL THAT READS SOME BLOCKS and hands back a value, with some blocks. -/
def SCall (P : Program) (f : Nat) (L : List Blk) (args : List Value) (X : Type) (res : X → Value) (new : X → List Blk) : Prop :=
  plainF P f = true ∧ ∀ w, LRel w L w → Calls P f args.toArray w fun e w' => ∃ x, e = .returned (res x) ∧ LRel w (new x) w'
theorem LRel.asArgs {B w : World} {L L' : List Blk} (h : LRel B L w) (ks : List Nat) (hp : Picks L (ks.map some) L') (ho : ∀ b ∈ L', b.own = false) : LRel w L' w := by
  have hlen : ∀ {ks : List Nat} {L' : List Blk}, Picks L (ks.map some) L' → ks.length = L'.length := by
    intro ks
    induction ks with
    | nil => intro L' hp; cases L' with
      | nil => rfl
      | cons c L' => exact hp.elim
    | cons k ks ih => intro L' hp; cases L' with
      | nil => exact hp.elim
      | cons c L' => simp [ih hp.2]
  refine ⟨Below.refl _ _, fun k b hk => ?_, fun i j g bi bj hij hi hj ho' hg hgj => ?_⟩
  · rcases hp.get k b hk with ⟨m, c, _, h2, h3⟩ | ⟨_, h2, h3⟩
    · obtain ⟨a1, a2⟩ := h.blk m c h2
      refine ⟨fun g hg => ⟨((a1 g (by rw [← h3.1]; exact hg)).le h3).1, fun e => ?_⟩, fun hn => ?_⟩
      · rw [ho b (List.mem_of_getElem? hk)] at e; cases e
      · obtain ⟨b1, b2⟩ := a2 (by rw [← h3.1]; exact hn)
        obtain ⟨_, _, l3, ⟨q, l4⟩, _⟩ := h3
        exact ⟨by rw [l4, b1]; simp, by rw [l3]; exact b2⟩
    · exact ⟨fun g hg => (by rw [h2] at hg; cases hg), fun _ => h3⟩
  · rw [ho bi (List.mem_of_getElem? hi)] at ho'; cases ho'
section
variable {P : Program} {bl : List Nat} {ops : Array Oper} {K : St → Prop} {rest : List Oper} {nt : Nat} {t : List (Nat × Value)} {L : List Blk} {d : Nat} {ty : TypeId} {pos : String} {af : Array Edge} {g : Option (Nat × Bool)}
/-- a call that reads slices -/
theorem r_scall {f : Nat} {args : List Operand} {ts : Array TypeId} (vs : List Value) {L0 : List Blk} {X : Type} [hX : Nonempty X] {res : X → Value} {new : X → List Blk} (ks : List Nat) (hd : Nat.blt d nt = true) (hg : wantedS ops ⟨some d, .call { callee := .value (.func f), args := args.toArray, argTypes := ts }, ty, pos, af, g⟩ t = some true)
    (hv : args.map (ev t) = vs.map some) (hc : SCall P f L0 vs X res new) (hp : Picks L (ks.map some) L0) (ho : (L0.all fun b => !b.own) = true) (hn : False ∨ ∀ x, ∀ b ∈ new x, b.own = true)
    (h : ∀ x, Run P bl ops rest ⟨nt, (d, res x) :: t, L ++ new x⟩ K) :
    Run P bl ops (⟨some d, .call { callee := .value (.func f), args := args.toArray, argTypes := ts }, ty, pos, af, g⟩ :: rest) ⟨nt, t, L⟩ K :=
  run_call hd hg rfl (X := X) (res := res) (new := new) (c_gen (s := ⟨nt, t, L⟩) rfl hv hc.1 fun B w hL => (hc.2 w (hL.asArgs ks hp (fun b hb => by simpa using List.all_eq_true.1 ho b hb))).mono (by
    rintro e w' ⟨x, rfl, hx⟩
    exact ⟨x, rfl, hL.joinF hx (hn.resolve_left id x)⟩)) (fun _ => ⟨cF_gen (s := ⟨nt, t, L⟩) rfl hv hc.1 fun B w hL => (hc.2 w (hL.asArgs ks hp (fun b hb => by simpa using List.all_eq_true.1 ho b hb))).mono (by
    rintro e w' ⟨x, rfl, hx⟩
    exact ⟨x, rfl, hx, hn.resolve_left id x⟩), hX⟩) fun x => h x
/-- a call that reads slices and makes no blocks -/
theorem r_scall0 {f : Nat} {args : List Operand} {ts : Array TypeId} (vs : List Value) {L0 : List Blk} {v : Value} (ks : List Nat) (hd : Nat.blt d nt = true) (hg : wantedS ops ⟨some d, .call { callee := .value (.func f), args := args.toArray, argTypes := ts }, ty, pos, af, g⟩ t = some true)
    (hv : args.map (ev t) = vs.map some) (hc : SCall P f L0 vs Unit (fun _ => v) (fun _ => [])) (hp : Picks L (ks.map some) L0) (ho : (L0.all fun b => !b.own) = true)
    (h : Run P bl ops rest ⟨nt, (d, v) :: t, L⟩ K) :
    Run P bl ops (⟨some d, .call { callee := .value (.func f), args := args.toArray, argTypes := ts }, ty, pos, af, g⟩ :: rest) ⟨nt, t, L⟩ K :=
  r_scall vs ks hd hg hv hc hp ho (.inr fun x b hb => by cases hb) fun x => by
    have : L ++ ([] : List Blk) = L := List.append_nil L
    show Run P bl ops rest ⟨nt, (d, v) :: t, L ++ []⟩ K
    rw [this]; exact h
end
end Go.Via
set_option linter.unusedVariables false
set_option linter.unusedSimpArgs false
namespace Go.Via
open Go Go.RowKit
/-! ### numbers -/
theorem wi {n r : Int} (h0 : -9223372036854775808 ≤ n) (h1 : n ≤ 9223372036854775807) (e : n = r) : IntKind.i64.wrap n = r := by rw [IntKind.wrap_i64]; omega
theorem wu {n r : Int} (h0 : 0 ≤ n) (h1 : n < 18446744073709551616) (e : n = r) : IntKind.u64.wrap n = r := by
  subst e
  simp [IntKind.wrap, IntKind.bits, IntKind.signed]; omega
theorem wu64 (n : Int) : IntKind.u64.wrap n = n % 18446744073709551616 := by simp [IntKind.wrap, IntKind.bits, IntKind.signed]
theorem wu32 (n : Int) : IntKind.u32.wrap n = n % 4294967296 := by simp [IntKind.wrap, IntKind.bits, IntKind.signed]
theorem wu8 (n : Int) : IntKind.u8.wrap n = n % 256 := by simp [IntKind.wrap, IntKind.bits, IntKind.signed]
theorem bits64 : IntKind.u64.bits = 64 := rfl
theorem bits32 : IntKind.u32.bits = 32 := rfl
theorem or_nat (b m n : Nat) (hm : m < 2 ^ b) (hn : n < 2 ^ b) : ((BitVec.ofInt b (m : Int) ||| BitVec.ofInt b (n : Int)).toNat : Int) = ((m ||| n : Nat) : Int) := by
  rw [BitVec.toNat_or, BitVec.ofInt_natCast, BitVec.ofInt_natCast, BitVec.toNat_ofNat, BitVec.toNat_ofNat, Nat.mod_eq_of_lt hm, Nat.mod_eq_of_lt hn]
theorem or_add {m n : Nat} (i : Nat) (hn : n < 2 ^ i) : (2 ^ i * m ||| n) = 2 ^ i * m + n := (Nat.two_pow_add_eq_or_of_lt hn m).symm
/-- the bits of a number and of one above it -/
theorem or_u32 {m n r : Nat} (i : Nat) (hn : n < 2 ^ i) (hr : 2 ^ i * m + n = r) (hb : r < 4294967296) {x y : Int} (hx : x = ((2 ^ i * m : Nat) : Int)) (hy : y = (n : Int)) :
    IntKind.u32.wrap ((BitVec.ofInt IntKind.u32.bits x ||| BitVec.ofInt IntKind.u32.bits y).toNat) = (r : Int) := by
  subst hx; subst hy; rw [bits32, or_nat 32 _ _ (by omega) (by omega), or_add i hn, wu32]; omega
theorem or_u64 {m n r : Nat} (i : Nat) (hn : n < 2 ^ i) (hr : 2 ^ i * m + n = r) (hb : r < 18446744073709551616) {x y : Int} (hx : x = ((2 ^ i * m : Nat) : Int)) (hy : y = (n : Int)) :
    IntKind.u64.wrap ((BitVec.ofInt IntKind.u64.bits x ||| BitVec.ofInt IntKind.u64.bits y).toNat) = (r : Int) := by
  subst hx; subst hy; rw [bits64, or_nat 64 _ _ (by omega) (by omega), or_add i hn, wu64]; omega
section
variable {P : Program} {bl : List Nat} {ops : Array Oper} {K : St → Prop} {rest : List Oper} {nt : Nat} {t : List (Nat × Value)} {L : List Blk} {d : Nat} {ty : TypeId} {pos : String} {af : Array Edge} {g : Option (Nat × Bool)} {x y : Operand}
theorem r_div {op : BinOp} {T U : Nat} {k : IntKind} {m n r : Int} (hd : Nat.blt d nt = true) (hg : wantedS ops ⟨some d, .binOp op T x y U, ty, pos, af, g⟩ t = some true) (hx : ev t x = some (.int k m)) (hy : ev t y = some (.int k n)) (hn : n ≠ 0)
    (hr : (match op with | .quo => some (k.wrap (m.tdiv n)) | .rem => some (m.tmod n) | _ => none) = some r) (h : Run P bl ops rest ⟨nt, (d, .int k r) :: t, L⟩ K) :
    Run P bl ops (⟨some d, .binOp op T x y U, ty, pos, af, g⟩ :: rest) ⟨nt, t, L⟩ K :=
  run_q hd hg rfl (fun B a w hrel => by
    have h1 := hrel.ev hx
    have h2 := hrel.ev hy
    cases op <;> simp at hr <;> subst hr <;> simp [execOp, h1, h2, eqGuard, binOp, Op.intDiv, hn]) h
theorem r_or {T U : Nat} {k : IntKind} {m n r : Int} (hd : Nat.blt d nt = true) (hg : wantedS ops ⟨some d, .binOp .or T x y U, ty, pos, af, g⟩ t = some true) (hx : ev t x = some (.int k m)) (hy : ev t y = some (.int k n))
    (hr : k.wrap ((BitVec.ofInt k.bits m ||| BitVec.ofInt k.bits n).toNat) = r) (h : Run P bl ops rest ⟨nt, (d, .int k r) :: t, L⟩ K) :
    Run P bl ops (⟨some d, .binOp .or T x y U, ty, pos, af, g⟩ :: rest) ⟨nt, t, L⟩ K :=
  run_q hd hg rfl (fun B a w hrel => by
    have h1 := hrel.ev hx
    have h2 := hrel.ev hy
    subst hr
    simp [execOp, h1, h2, eqGuard, binOp, Op.intBits]) h
theorem r_shift {op : BinOp} {T U : Nat} {k k' : IntKind} {m n r : Int} (hd : Nat.blt d nt = true) (hg : wantedS ops ⟨some d, .binOp op T x y U, ty, pos, af, g⟩ t = some true) (hx : ev t x = some (.int k m)) (hy : ev t y = some (.int k' n)) (hn : ¬ n < 0)
    (hr : (match op with | .shl => some (k.wrap (m * 2 ^ (min n.toNat k.bits))) | .shr => some (m.fdiv (2 ^ (min n.toNat k.bits))) | _ => none) = some r) (h : Run P bl ops rest ⟨nt, (d, .int k r) :: t, L⟩ K) :
    Run P bl ops (⟨some d, .binOp op T x y U, ty, pos, af, g⟩ :: rest) ⟨nt, t, L⟩ K :=
  run_q hd hg rfl (fun B a w hrel => by
    have h1 := hrel.ev hx
    have h2 := hrel.ev hy
    cases op <;> simp at hr <;> subst hr <;> simp [execOp, h1, h2, eqGuard, binOp, Op.shift, hn]) h
theorem r_conv {S D : Nat} {k k' : IntKind} {n r : Int} (hS : P.underlying S = some (.int k)) (hD : P.underlying D = some (.int k')) (hd : Nat.blt d nt = true) (hg : wantedS ops ⟨some d, .convert S D x, ty, pos, af, g⟩ t = some true) (hx : ev t x = some (.int k n)) (hr : k'.wrap n = r)
    (h : Run P bl ops rest ⟨nt, (d, .int k' r) :: t, L⟩ K) : Run P bl ops (⟨some d, .convert S D x, ty, pos, af, g⟩ :: rest) ⟨nt, t, L⟩ K :=
  run_q hd hg rfl (fun B a w hrel => by
    have h1 : P.intKind D = k' := by simp [Program.intKind, hD]
    have h2 := run_convert_int (P := P) w S D k n (by rw [hS]; rfl) (by rw [h1]; exact hD)
    rw [h1, hr] at h2
    simp [execOp, hrel.ev hx, h2]) h
/-- a byte of a string -/
theorem r_idxS {T : Nat} {s : ByteArray} {k : IntKind} {i : Int} {b : UInt8} {r : Int} (hT : P.underlying T = some .string) (hd : Nat.blt d nt = true) (hg : wantedS ops ⟨some d, .index T x y, ty, pos, af, g⟩ t = some true) (hx : ev t x = some (.string s)) (hy : ev t y = some (.int k i)) (hi : 0 ≤ i)
    (hb : s.data.toList[i.toNat]? = some b) (hr : (b.toNat : Int) = r) (h : Run P bl ops rest ⟨nt, (d, .int .u8 r) :: t, L⟩ K) : Run P bl ops (⟨some d, .index T x y, ty, pos, af, g⟩ :: rest) ⟨nt, t, L⟩ K :=
  run_q hd hg rfl (fun B a w hrel => by
    have h1 := run_index_string (P := P) w T s k i hT
    obtain ⟨hlt, he⟩ := List.getElem?_eq_some_iff.1 hb
    have hlt' : i.toNat < s.size := by simpa using hlt
    rw [dif_pos ⟨hi, by omega⟩] at h1
    have h2 : s[i.toNat]'hlt' = b := he
    rw [h2, hr] at h1
    simp [execOp, hrel.ev hx, hrel.ev hy, h1]) h
/-! ### slices -/
theorem r_lenS {T e : Nat} {b : Option Nat} {off len cap : Nat} (hT : P.underlying T = some (.slice e)) (hd : Nat.blt d nt = true) (hg : wantedS ops ⟨some d, .call { callee := .builtin .len, args := #[x], argTypes := #[T] }, ty, pos, af, g⟩ t = some true) (hx : ev t x = some (slv b off len cap)) (h : Run P bl ops rest ⟨nt, (d, .int .i64 len) :: t, L⟩ K) :
    Run P bl ops (⟨some d, .call { callee := .builtin .len, args := #[x], argTypes := #[T] }, ty, pos, af, g⟩ :: rest) ⟨nt, t, L⟩ K :=
  run_q hd hg rfl (fun B a w hrel => by
    have he : P.elem T = e := by simp [Program.elem, hT]
    have := run_len_slice (P := P) w T ty (b.map fun g => ⟨g, off, none⟩) len cap (by rw [he]; exact hT)
    have h2 := hrel.ev hx
    unfold slv at h2
    simp [execOp, resolve, invoke, builtin, h2, this, goInt]) h
/-- the place of an element -/
theorem r_indexAddr {T e : Nat} {k : IntKind} {i : Int} {b : Blk} {off len cap : Nat} {inf : TI} (kk off' : Nat) (hT : P.underlying T = some (.slice e)) (hinf : tiOK P e inf = true) (hd : Nat.blt d nt = true) (hg : wantedS ops ⟨some d, .indexAddr T x y, ty, pos, af, g⟩ t = some true)
    (hk : (blank bl L)[kk]? = some b) (hx : ev t x = some (slv b.base off len cap)) (hy : ev t y = some (.int k i)) (h0 : 0 ≤ i) (h1 : i < len) (hb : b.cs ≠ []) (ho : off + i.toNat * inf.size = off')
    (h : Run P bl ops rest ⟨nt, (d, b.at off') :: t, L⟩ K) : Run P bl ops (⟨some d, .indexAddr T x y, ty, pos, af, g⟩ :: rest) ⟨nt, t, L⟩ K :=
  run_q hd hg rfl (fun B a w hrel => by
    have he : P.elem T = e := by simp [Program.elem, hT]
    have h2 := hrel.ev hx
    have h3 := hrel.ev hy
    cases hbb : b.base with
    | none => exact absurd ((hrel.mem.blk kk b hk).2 hbb).1 hb
    | some gg =>
      rw [hbb] at h2
      have := run_indexAt_slice (P := P) w T ⟨gg, off, none⟩ len cap k i (by rw [he]; exact hT)
      rw [if_pos ⟨h0, h1⟩, he, ti_sizeOf hinf w] at this
      simp only [Result.andThen_ok, add_lit, ho] at this
      unfold slv at h2
      simp only [Option.map_some] at h2
      unfold Blk.at
      rw [hbb]
      simp [execOp, h2, h3, this]) h
/-- the place in an array that a pointer points to -/
theorem r_indexAddrA {T e N : Nat} {k : IntKind} {i : Int} {gg : Nat} {off : Nat} {inf : TI} (off' : Nat) (hT : P.underlying T = some (.array N e)) (hinf : tiOK P e inf = true) (hd : Nat.blt d nt = true) (hg : wantedS ops ⟨some d, .indexAddr T x y, ty, pos, af, g⟩ t = some true)
    (hx : ev t x = some (.pointer (some ⟨gg, off, none⟩))) (hy : ev t y = some (.int k i)) (h0 : 0 ≤ i) (h1 : i < N) (ho : off + i.toNat * inf.size = off')
    (h : Run P bl ops rest ⟨nt, (d, .pointer (some ⟨gg, off', none⟩)) :: t, L⟩ K) : Run P bl ops (⟨some d, .indexAddr T x y, ty, pos, af, g⟩ :: rest) ⟨nt, t, L⟩ K :=
  run_q hd hg rfl (fun B a w hrel => by
    have he : P.elem T = e := by simp [Program.elem, hT]
    have hN : P.arrayLen T = N := by simp [Program.arrayLen, hT]
    have h2 := hrel.ev hx
    have h3 := hrel.ev hy
    have := run_indexAt_array (P := P) w T ⟨gg, off, none⟩ k i (by rw [he, hN]; exact hT)
    rw [hN, if_pos ⟨h0, h1⟩, he, ti_sizeOf hinf w] at this
    simp only [Result.andThen_ok, add_lit, ho] at this
    simp [execOp, h2, h3, this]) h
/-- the load of one cell -/
theorem r_load1 {T : Nat} {b : Blk} {v : Value} (k off : Nat) (hi : tiOK P T ⟨false, 1, []⟩ = true) (hd : Nat.blt d nt = true) (hg : wantedS ops ⟨some d, .load T x, ty, pos, af, g⟩ t = some true) (hk : (blank bl L)[k]? = some b) (hx : ev t x = some (b.at off))
    (hv : b.cs[off]? = some v) (h : Run P bl ops rest ⟨nt, (d, v) :: t, L⟩ K) :
    Run P bl ops (⟨some d, .load T x, ty, pos, af, g⟩ :: rest) ⟨nt, t, L⟩ K := by
  obtain ⟨h1, h2⟩ := List.getElem?_eq_some_iff.1 hv
  refine run_q hd hg rfl (q_load (s := St.bk ⟨nt, t, L⟩ bl) (vs := [v]) rfl k hk hx hi ?_ rfl (by simp) rfl) h
  rw [List.drop_eq_getElem_cons h1, h2]; rfl
theorem set_take_drop {l : List Value} {i : Nat} {v : Value} (h : i < l.length) : l.take i ++ [v] ++ l.drop (i + 1) = l.set i v := by
  rw [List.set_eq_take_append_cons_drop, if_pos h]; simp
/-- the store into one cell -/
theorem r_store1 (hbl : blS bl = false) {T : Nat} {b : Blk} {v : Value} (k off : Nat) (L' : List Blk) (cs' : List Value) (hi : tiOK P T ⟨false, 1, []⟩ = true) (hg : wantedS ops ⟨none, .store T x y, ty, pos, af, g⟩ t = some true) (hk : L[k]? = some b) (ho : b.own = true) (hbb : b.base.isSome = true) (hx : ev t x = some (b.at off))
    (hy : ev t y = some v) (hv : v.cells = #[v]) (h1 : v.oneCell' = true) (hfit : off < b.cs.length) (hcs : b.cs.set off v = cs') (hL : L.set k { b with cs := cs' } = L')
    (h : Run P bl ops rest ⟨nt, t, L'⟩ K) : Run P bl ops (⟨none, .store T x y, ty, pos, af, g⟩ :: rest) ⟨nt, t, L⟩ K :=
  run_s hg rfl rfl (by
    have h4 := set_take_drop (v := v) hfit
    rw [hcs] at h4
    have h5 := e_storeS (P := P) (o := ⟨none, .store T x y, ty, pos, af, g⟩) (s := ⟨nt, t, L⟩) rfl k hk ho hx hbb hy hi (by rw [hv]; rfl) hfit (by rw [hv]; simp [h1])
    rw [hv] at h5
    have h6 : EffS P ⟨none, .store T x y, ty, pos, af, g⟩ ⟨nt, t, L⟩ (L.set k { b with cs := b.cs.take off ++ [v] ++ b.cs.drop (off + 1) }) := h5
    rw [h4, hL] at h6
    exact h6) (fun h2 => by rw [hbl] at h2; cases h2) h
theorem r_store1E {T : Nat} {b : Blk} {v : Value} (k off : Nat) (L' : List Blk) (cs' : List Value) (hi : tiOK P T ⟨false, 1, []⟩ = true) (hg : wantedS ops ⟨none, .store T x y, ty, pos, af, g⟩ t = some true) (hk : L[k]? = some b) (ho : b.own = true) (hbb : b.base.isSome = true) (hx : ev t x = some (b.at off))
    (hy : ev t y = some v) (hv : v.cells = #[v]) (h1 : v.oneCell' = true) (hfit : off < b.cs.length) (hcs : b.cs.set off v = cs') (hL : L.set k { b with cs := cs' } = L') (hbl : blank bl L' = blank bl L)
    (h : Run P bl ops rest ⟨nt, t, L'⟩ K) : Run P bl ops (⟨none, .store T x y, ty, pos, af, g⟩ :: rest) ⟨nt, t, L⟩ K :=
  run_s hg rfl rfl (by
    have h4 := set_take_drop (v := v) hfit
    rw [hcs] at h4
    have h5 := e_storeS (P := P) (o := ⟨none, .store T x y, ty, pos, af, g⟩) (s := ⟨nt, t, L⟩) rfl k hk ho hx hbb hy hi (by rw [hv]; rfl) hfit (by rw [hv]; simp [h1])
    rw [hv] at h5
    have h6 : EffS P ⟨none, .store T x y, ty, pos, af, g⟩ ⟨nt, t, L⟩ (L.set k { b with cs := b.cs.take off ++ [v] ++ b.cs.drop (off + 1) }) := h5
    rw [h4, hL] at h6
    exact h6) (fun _ => hbl) h
/-- the place of an element; where the row lies is known -/
theorem r_indexAddrG {T e gg : Nat} {k : IntKind} {i : Int} {off len cap : Nat} {inf : TI} (off' : Nat) (hT : P.underlying T = some (.slice e)) (hinf : tiOK P e inf = true) (hd : Nat.blt d nt = true) (hg : wantedS ops ⟨some d, .indexAddr T x y, ty, pos, af, g⟩ t = some true)
    (hx : ev t x = some (slv (some gg) off len cap)) (hy : ev t y = some (.int k i)) (h0 : 0 ≤ i) (h1 : i < len) (ho : off + i.toNat * inf.size = off')
    (h : Run P bl ops rest ⟨nt, (d, .pointer (some ⟨gg, off', none⟩)) :: t, L⟩ K) : Run P bl ops (⟨some d, .indexAddr T x y, ty, pos, af, g⟩ :: rest) ⟨nt, t, L⟩ K :=
  run_q hd hg rfl (fun B a w hrel => by
    have he : P.elem T = e := by simp [Program.elem, hT]
    have h2 := hrel.ev hx
    have h3 := hrel.ev hy
    have := run_indexAt_slice (P := P) w T ⟨gg, off, none⟩ len cap k i (by rw [he]; exact hT)
    rw [if_pos ⟨h0, h1⟩, he, ti_sizeOf hinf w] at this
    simp only [Result.andThen_ok, add_lit, ho] at this
    unfold slv at h2
    simp only [Option.map_some] at h2
    simp [execOp, h2, h3, this]) h
end
end Go.Via
set_option linter.unusedVariables false
set_option linter.unusedSimpArgs false
namespace Go.Via
open Go Go.RowKit
theorem setCells_row : ∀ (vs : List Value) (w : World) (g o : Nat) (cur : Array Value) (t : TypeId), w.heap[g]? = some (.cells cur t (0, 0)) → o + vs.length ≤ cur.size →
    w.setCells g o vs = w.setRow g (cur.toList.take o ++ vs ++ cur.toList.drop (o + vs.length)).toArray
  | [], w, g, o, cur, t, hg, hl => by
    have e : (cur.toList.take o ++ [] ++ cur.toList.drop (o + ([] : List Value).length)).toArray = cur := by simp
    rw [e, World.setCells]
    have hlt : g < w.heap.size := (Array.getElem?_eq_some_iff.1 hg).1
    have hv : w.heap[g] = .cells cur t (0, 0) := (Array.getElem?_eq_some_iff.1 hg).2
    have key : w.heap = (w.setRow g cur).heap := by
      apply Array.ext
      · simp [World.setRow]
      · intro i h1 h2
        have : (w.setRow g cur).heap[i]? = w.heap[i]? := by
          by_cases e : i = g
          · subst e; rw [setRow_heap w i cur cur t (0, 0) hg, hg]
          · exact setRow_other w g i cur e
        rw [Array.getElem?_eq_getElem h1, Array.getElem?_eq_getElem h2] at this
        exact (Option.some.inj this).symm
    show w = { w with heap := (w.setRow g cur).heap }
    rw [← key]
  | v :: r, w, g, o, cur, t, hg, hl => by
    simp only [List.length_cons] at hl
    rw [World.setCells, setCell_eq_setRow w g o cur t (0, 0) v hg, setCells_row r _ g (o + 1) (cur.setIfInBounds o v) t (setRow_heap w g cur _ t (0, 0) hg) (by simp; omega), setRow_setRow]
    congr 1
    have e := list_seg_step cur.toList o v r (by simp at hl ⊢; omega)
    simpa [Array.toList_setIfInBounds, Nat.add_assoc] using e
/-- a new block takes the place of an old one -/
theorem LRel.swapIn {B w : World} {L : List Blk} {b : Blk} (h : LRel B (L ++ [b]) w) (k : Nat) : LRel B (L.set k b) w := by
  by_cases hkl : k < L.length
  · have hb : ∀ (m : Nat) (c : Blk), (L.set k b)[m]? = some c → m < L.length ∧ (L ++ [b])[if m = k then L.length else m]? = some c := fun m c hm => by
      have hml : m < L.length := by have := (List.getElem?_eq_some_iff.1 hm).1; simpa using this
      refine ⟨hml, ?_⟩
      by_cases e : m = k
      · subst e; rw [List.getElem?_set_self hkl] at hm; cases hm; simp
      · rw [List.getElem?_set_ne (Ne.symm e)] at hm
        rw [if_neg e, List.getElem?_append_left hml]; exact hm
    refine ⟨h.below, fun m c hm => h.blk _ c (hb m c hm).2, fun i j g bi bj hij hi hj ho hg hgj => ?_⟩
    obtain ⟨hi1, hi2⟩ := hb i bi hi
    obtain ⟨hj1, hj2⟩ := hb j bj hj
    refine h.apart _ _ g bi bj ?_ hi2 hj2 ho hg hgj
    split <;> split <;> omega
  · rw [List.set_eq_of_length_le (by omega)]; exact h.take
theorem LRel.mono {B w : World} {L L' : List Blk} (h : LRel B L w) (hl : ∀ (k : Nat) (b' : Blk), L'[k]? = some b' → ∃ b, L[k]? = some b ∧ b'.le b) : LRel B L' w := by
  refine ⟨h.below, fun k b hk => ?_, fun i j g bi bj hij hi hj ho hg hgj => ?_⟩
  · obtain ⟨c, h2, h3⟩ := hl k b hk
    obtain ⟨a1, a2⟩ := h.blk k c h2
    refine ⟨fun g hg => (a1 g (by rw [← h3.1]; exact hg)).le h3, fun hn => ?_⟩
    obtain ⟨b1, b2⟩ := a2 (by rw [← h3.1]; exact hn)
    obtain ⟨_, _, l3, ⟨q, l4⟩, _⟩ := h3
    exact ⟨by rw [l4, b1]; simp, by rw [l3]; exact b2⟩
  · obtain ⟨ci, h2, h3⟩ := hl i bi hi
    obtain ⟨cj, g2, g3⟩ := hl j bj hj
    exact h.apart i j g ci cj hij h2 g2 (h3.2.2.2.2 ho) (by rw [← h3.1]; exact hg) (by rw [← g3.1]; exact hgj)
theorem LRel.last {B w : World} {L : List Blk} {b b' : Blk} (h : LRel B (L ++ [b]) w) (hl : b'.le b) : LRel B (L ++ [b']) w := h.mono fun k c hk => by
  rw [List.getElem?_append] at hk ⊢
  split at hk
  · rename_i h1; rw [if_pos h1]; exact ⟨c, hk, c.le_refl⟩
  · rename_i h1
    rw [if_neg h1]
    cases hq : k - L.length with
    | zero => rw [hq] at hk; simp at hk; subst hk; exact ⟨b, by simp, hl⟩
    | succ q => rw [hq] at hk; simp at hk
structure AR (need s : Nat) where
  g : Nat
  n : Nat
  cap : Nat
  h : need ≤ cap
  hn : cap * s ≤ n
section
variable {P : Program} {bl : List Nat} {ops : Array Oper} {K : St → Prop} {rest : List Oper} {nt : Nat} {t : List (Nat × Value)} {L : List Blk} {d : Nat} {ty : TypeId} {pos : String} {af : Array Edge} {g : Option (Nat × Bool)} {x y : Operand}
theorem r_sliceH {T e : Nat} {b : Option Nat} {len cap : Nat} {k : IntKind} {h' : Int} {inf : TI} (len' : Nat) (hT : P.underlying T = some (.slice e)) (hinf : tiOK P e inf = true) (hd : Nat.blt d nt = true) (hg : wantedS ops ⟨some d, .slice T x none (some y) none, ty, pos, af, g⟩ t = some true) (hx : ev t x = some (slv b 0 len cap)) (hy : ev t y = some (.int k h')) (h0 : 0 ≤ h') (h1 : h' ≤ cap) (hl : h'.toNat = len')
    (h : Run P bl ops rest ⟨nt, (d, slv b 0 len' cap) :: t, L⟩ K) : Run P bl ops (⟨some d, .slice T x none (some y) none, ty, pos, af, g⟩ :: rest) ⟨nt, t, L⟩ K :=
  run_q hd hg rfl (fun B a w hrel => by
    have he : P.elem T = e := by simp [Program.elem, hT]
    have hT' : P.underlying T = some (.slice (P.elem T)) := by rw [he]; exact hT
    have h2 := hrel.ev hx
    have h3 := hrel.ev hy
    unfold slv at h2
    have r1 := run_sliceAt_slice (P := P) w T (.slice (b.map fun g => ⟨g, 0, none⟩) len cap) none (some (.int k h')) none hT'
    rw [run_slice_h (P := P) w T (b.map fun g => ⟨g, 0, none⟩) len cap hT' k h' h0 h1, he, ti_sizeOf hinf w] at r1
    simp only [Result.andThen_ok] at r1
    have e1 : sliced (b.map fun g => (⟨g, 0, none⟩ : Addr)) 0 h'.toNat cap inf.size = slv b 0 len' cap := by
      unfold sliced slv
      rw [hl]
      cases b <;> simp [add_lit]
    rw [e1] at r1
    simp [execOp, h2, h3, r1]) h
theorem r_makeSlice {T e : Nat} {k : IntKind} {c : Nat} {inf : TypeInfo} {z : Value} {m : Int} (cs : List Value) (mk : Nat → List Blk) (hT : P.underlying T = some (.slice e)) (hi : P.info? e = some inf) (hz : inf.zero = some z) (hs : inf.size = 1) (hz1 : z.cells = #[z]) (hd : Nat.blt d nt = true)
    (hg : wantedS ops ⟨some d, .makeSlice T x y, ty, pos, af, g⟩ t = some true) (hx : ev t x = some (.int k m)) (hy : ev t y = some (.int k m)) (hm : m = (c : Int)) (hb : inf.bytes ≤ 512) (hc : c ≤ 137438953472) (hcs : List.replicate c z = cs) (hL : ∀ b, L ++ [⟨some b, e, cs, c, true⟩] = mk b)
    (h : ∀ b, Run P bl ops rest ⟨nt, (d, slv (some b) 0 c c) :: t, mk b⟩ K) : Run P bl ops (⟨some d, .makeSlice T x y, ty, pos, af, g⟩ :: rest) ⟨nt, t, L⟩ K :=
  run_e hd hg rfl rfl (X := Nat) (nx := fun b => ⟨nt, (d, slv (some b) 0 c c) :: t, mk b⟩) (fun hd' => eff_of fun B a w hr => by
    subst hm
    have hbb : inf.bytes * c ≤ 512 * 137438953472 := Nat.mul_le_mul hb hc
    have r1 := run_make (P := P) w T e inf z hT hi hz k k (c : Int) (c : Int) (by omega) (Int.le_refl _) (by
      have : ((inf.bytes * c : Nat) : Int) ≤ 281474976710656 := by omega
      rwa [Int.natCast_mul] at this) (by omega)
    simp only [Int.toNat_natCast, hs, Nat.mul_one, hz1] at r1
    have e1 : madeCells #[z] c = (List.replicate c z).toArray := by
      unfold madeCells
      apply Array.ext
      · simp
      · intro i h1 h2
        simp [Nat.mod_one]
    rw [e1] at r1
    refine ⟨slv (some w.heap.size) 0 c c, w.alloc (.cells (List.replicate c z).toArray e), w.heap.size, by
      have r2 : (execOp a.eval ⟨some d, .makeSlice T x y, ty, pos, af, g⟩).run P w = ((Instr.makeSlice T (.int k (c : Int)) (.int k (c : Int))).run P w).andThen fun v w => .ok (.value v) w := by
        simp [execOp, hr.ev hx, hr.ev hy, Sem.run_bind]
      rw [r2, r1]; rfl, ?_⟩
    have h1 := hr.mem.alloc e (List.replicate c z).toArray
    simp only [List.size_toArray, List.length_replicate] at h1
    rw [← hL, ← hcs]
    exact hr.put hd' h1) fun b => h b
/-- append to a row of the call's own -/
theorem r_append {T e : Nat} {inf : TypeInfo} {z : Value} {b : Blk} {len cap b2o n2 c2 : Nat} {b2 : Blk} (k k2 : Nat) (mk : AR (len + n2) inf.size → List Blk) (hT : P.underlying T = some (.slice e)) (hi : P.info? e = some inf) (hz : inf.zero = some z) (hs : 0 < inf.size) (hzs : z.cells.size = inf.size) (hbytes : inf.bytes ≤ 1024) (hd : Nat.blt d nt = true)
    (hg : wantedS ops ⟨some d, .call { callee := .builtin .append, args := #[x, y], argTypes := #[T, T] }, ty, pos, af, g⟩ t = some true)
    (hk : L[k]? = some b) (ho : b.own = true) (he : b.e = e) (hlen : b.cs.length = len * inf.size) (hcap : len ≤ cap) (hn : cap * inf.size ≤ b.n) (hx : ev t x = some (slv b.base 0 len cap))
    (hk2 : L[k2]? = some b2) (hlen2 : b2.cs.length = n2 * inf.size) (hpos : 0 < n2) (hb2 : b2.base = some b2o) (hy : ev t y = some (slv (some b2o) 0 n2 c2)) (h1 : ∀ v ∈ b2.cs, v.oneCell' = true) (hmax : len + n2 ≤ 17179869184)
    (hL : ∀ r, L.set k ⟨some r.g, e, b.cs ++ b2.cs, r.n, true⟩ = mk r)
    (h : ∀ r : AR (len + n2) inf.size, Run P bl ops rest ⟨nt, (d, slv (some r.g) 0 (len + n2) r.cap) :: t, mk r⟩ K) :
    Run P bl ops (⟨some d, .call { callee := .builtin .append, args := #[x, y], argTypes := #[T, T] }, ty, pos, af, g⟩ :: rest) ⟨nt, t, L⟩ K :=
  run_e hd hg rfl rfl (X := AR (len + n2) inf.size) (nx := fun r => ⟨nt, (d, slv (some r.g) 0 (len + n2) r.cap) :: t, mk r⟩) (fun hd' => eff_of fun B a w hr => by
    have hx' := hr.ev hx
    have hy' := hr.ev hy
    -- the new ones
    have hnews : ∀ j u, b2.cs[j]? = some u → w.cell? ((⟨b2o, 0, none⟩ : Addr).add j) = some u := fun j u hj => by
      obtain ⟨g', hg', h2⟩ := hr.mem.cell hk2 hj
      rw [hb2] at hg'; cases hg'
      rw [add_lit, Nat.zero_add]; exact h2
    have hsrc := Src.ofSlice (P := P) w (size := inf.size) hT ⟨b2o, 0, none⟩ n2 c2 b2.cs hlen2 hnews h1
    have fin : ∀ v w', (Builtin.append_ #[T, T] ty #[slv b.base 0 len cap, slv (some b2o) 0 n2 c2]).run P w = .ok v w' → (execOp a.eval ⟨some d, .call { callee := .builtin .append, args := #[x, y], argTypes := #[T, T] }, ty, pos, af, g⟩).run P w = .ok (.value v) w' := fun v w' hv => by
      simp [execOp, resolve, invoke, builtin, hx', hy', hv]
    by_cases hroom : len + n2 ≤ cap
    · -- there is room
      obtain ⟨gg, hgg⟩ : ∃ gg, b.base = some gg := by
        cases hbb : b.base with
        | some gg => exact ⟨gg, rfl⟩
        | none =>
          have := ((hr.mem.blk k b hk).2 hbb).2
          have h3 : 1 * 1 ≤ cap * inf.size := Nat.mul_le_mul (by omega) hs
          omega
      obtain ⟨⟨cur, ⟨fr, c1, cfr⟩, c2', c3⟩, c4⟩ := (hr.mem.blk k b hk).1 gg hgg
      obtain rfl := cfr ho
      have hroomc : (len + n2) * inf.size ≤ cap * inf.size := Nat.mul_le_mul_right _ hroom
      have hsum : (len + n2) * inf.size = len * inf.size + n2 * inf.size := Nat.add_mul ..
      have hfit : 0 + len * inf.size + b2.cs.length ≤ cur.size := by rw [hlen2]; omega
      have r1 := run_append_room_src (P := P) w T T ty e inf hT hi gg 0 len cap (slv (some b2o) 0 n2 c2) n2 b2.cs hsrc hroom
        (fun j hj => by
          rw [cell_of_row w gg _ cur b.e (0, 0) c1]
          rw [Array.getElem?_eq_getElem (by omega)]; rfl)
        (fun j hj => by simp [World.frozen?, c1])
      rw [setCells_row b2.cs w gg _ cur b.e c1 hfit] at r1
      refine ⟨_, _, (⟨gg, b.n, cap, hroom, hn⟩ : AR (len + n2) inf.size), fin _ _ (by unfold slv at r1 ⊢; rw [hgg]; exact r1), ?_⟩
      refine hr.put hd' ?_
      rw [← hL]
      have hcur : cur.toList.take (0 + len * inf.size) = b.cs := by rw [Nat.zero_add, ← hlen]; exact c3
      have h5 := hr.mem.set hk ho hgg (cur.toList.take (0 + len * inf.size) ++ b2.cs ++ cur.toList.drop (0 + len * inf.size + b2.cs.length)).toArray (b.cs ++ b2.cs)
        (by simp only [List.size_toArray, List.length_append, List.length_take, List.length_drop, Array.length_toList]; omega)
        (by
          rw [hcur]
          simp only [List.append_assoc]
          rw [List.length_append, ← List.append_assoc, ← List.length_append]
          exact List.take_left)
      rw [hgg] at h5
      rw [ho] at h5
      rw [he] at h5
      exact h5
    · -- there is none
      have hold : (Builtin.firstCells inf.size len (slv b.base 0 len cap)).run P w.drew = .ok b.cs.toArray w.drew := by
        cases hbb : b.base with
        | none =>
          have := ((hr.mem.blk k b hk).2 hbb).1
          rw [this]
          exact run_firstCells_none w.drew inf.size len len cap
        | some gg =>
          refine run_firstCells_some (P := P) w.drew inf.size len ⟨gg, 0, none⟩ len cap b.cs hlen (fun j v hj => ?_)
          obtain ⟨g', hg', h2⟩ := hr.mem.cell hk hj
          rw [hbb] at hg'; cases hg'
          rw [add_lit, Nat.zero_add]
          exact h2
      have hge := grownCap_ge w (len + n2) cap e
      have hbb : (len + n2) * inf.bytes ≤ 17179869184 * 1024 := Nat.mul_le_mul hmax hbytes
      have hfit : Builtin.nextslicecap (len + n2) cap * inf.bytes ≤ 281474976710656 := growslice_fits (by omega) (by omega)
      have r1 := run_append_grow_src (P := P) w T T ty e inf z hT hi hz (b.base.map fun g => ⟨g, 0, none⟩) len cap b.cs hold (slv (some b2o) 0 n2 c2) n2 b2.cs hsrc (by omega) (by omega) hfit
      refine ⟨_, _, (⟨w.heap.size, (((b.cs ++ b2.cs).toArray ++ Builtin.zeroCells z.cells (grownCap w (len + n2) cap e - (len + n2))) : Array Value).size, grownCap w (len + n2) cap e, hge, ?_⟩ : AR (len + n2) inf.size), fin _ _ r1, ?_⟩
      · have hz' : (Builtin.zeroCells z.cells (grownCap w (len + n2) cap e - (len + n2))).size = (grownCap w (len + n2) cap e - (len + n2)) * inf.size := by
          unfold Builtin.zeroCells; simp [hzs]
        have hm : (grownCap w (len + n2) cap e - (len + n2)) * inf.size + (len + n2) * inf.size = grownCap w (len + n2) cap e * inf.size := by
          rw [← Nat.add_mul, Nat.sub_add_cancel hge]
        have hsum : (len + n2) * inf.size = len * inf.size + n2 * inf.size := Nat.add_mul ..
        rw [Array.size_append, hz']
        simp only [List.size_toArray, List.length_append]
        omega
      · refine hr.put hd' ?_
        rw [← hL]
        have h5 := (hr.mem.drew.alloc e ((b.cs ++ b2.cs).toArray ++ Builtin.zeroCells z.cells (grownCap w (len + n2) cap e - (len + n2))))
        refine (h5.last (b' := ⟨some w.heap.size, e, b.cs ++ b2.cs, ((b.cs ++ b2.cs).toArray ++ Builtin.zeroCells z.cells (grownCap w (len + n2) cap e - (len + n2)) : Array Value).size, true⟩) ⟨rfl, rfl, rfl, ⟨(b.cs ++ b2.cs).length, ?_⟩, fun _ => rfl⟩).swapIn k
        rw [Array.toList_append]
        exact (List.take_left (l₁ := b.cs ++ b2.cs)).symm) fun r => h r
end
end Go.Via
set_option linter.unusedVariables false
set_option linter.unusedSimpArgs false
namespace Go.Via
open Go Go.RowKit
/-- the string of some bytes -/
def strN (l : List Nat) : ByteArray := ⟨(l.map UInt8.ofNat).toArray⟩
theorem strN_nums (l : List Nat) : strOfNums (l.map fun (n : Nat) => (n : Int)) = strN l := by simp [strOfNums, strN]
section
variable {P : Program} {bl : List Nat} {ops : Array Oper} {K : St → Prop} {rest : List Oper} {nt : Nat} {t : List (Nat × Value)} {L : List Blk} {d : Nat} {ty : TypeId} {pos : String} {af : Array Edge} {g : Option (Nat × Bool)} {x y : Operand}
theorem r_buildSlice {T n nn : Nat} {parts : List (Nat × Operand)} (ps : List (Nat × Value)) {e : Nat} {cs : List Value} (mk : Nat → List Blk) (hd : Nat.blt d nt = true) (hg : wantedS ops ⟨some d, .buildSlice T n parts.toArray, ty, pos, af, g⟩ t = some true) (hx : parts.map (fun p => (p.1, ev t p.2)) = ps.map (fun p => (p.1, some p.2)))
    (hb : ∀ w, (Instr.buildSlice T n ps.toArray).run P w = .ok (.slice (some ⟨w.heap.size, 0, none⟩) n n) (w.alloc (.cells cs.toArray e))) (hnn : cs.length = nn) (hL : ∀ b, L ++ [⟨some b, e, cs, nn, true⟩] = mk b) (h : ∀ b, Run P bl ops rest ⟨nt, (d, slv (some b) 0 n n) :: t, mk b⟩ K) :
    Run P bl ops (⟨some d, .buildSlice T n parts.toArray, ty, pos, af, g⟩ :: rest) ⟨nt, t, L⟩ K :=
  run_e hd hg rfl rfl (X := Nat) (nx := fun b => ⟨nt, (d, slv (some b) 0 n n) :: t, mk b⟩) (fun hd' => eff_of fun B a w hr => by
    subst hnn
    have : (parts.map fun p => (p.1, a.eval p.2)) = ps := by
      clear h hb hg
      induction parts generalizing ps with
      | nil => cases ps <;> simp_all
      | cons p parts ih =>
        cases ps with
        | nil => simp at hx
        | cons q ps =>
          simp only [List.map_cons, List.cons.injEq, Prod.mk.injEq] at hx
          rw [List.map_cons, hr.ev hx.1.2, ih ps hx.2 hd', hx.1.1]
    refine ⟨slv (some w.heap.size) 0 n n, w.alloc (.cells cs.toArray e), w.heap.size, by simp [execOp, this, hb w, slv], ?_⟩
    rw [← hL]
    have h5 := hr.mem.alloc e cs.toArray
    simp only [List.size_toArray] at h5
    exact hr.put hd' h5) fun b => h b
theorem r_sliceA {T e N gg : Nat} {k : IntKind} {h' : Int} {inf : TI} (len' : Nat) (hT : P.underlying T = some (.array N e)) (hinf : tiOK P e inf = true) (hd : Nat.blt d nt = true) (hg : wantedS ops ⟨some d, .slice T x none (some y) none, ty, pos, af, g⟩ t = some true) (hx : ev t x = some (.pointer (some ⟨gg, 0, none⟩))) (hy : ev t y = some (.int k h')) (h0 : 0 ≤ h') (h1 : h' ≤ N) (hl : h'.toNat = len')
    (h : Run P bl ops rest ⟨nt, (d, slv (some gg) 0 len' N) :: t, L⟩ K) : Run P bl ops (⟨some d, .slice T x none (some y) none, ty, pos, af, g⟩ :: rest) ⟨nt, t, L⟩ K :=
  run_q hd hg rfl (fun B a w hrel => by
    have he : P.elem T = e := by simp [Program.elem, hT]
    have hN : P.arrayLen T = N := by simp [Program.arrayLen, hT]
    have h2 := hrel.ev hx
    have h3 := hrel.ev hy
    have r1 := run_sliceAt_array_h (P := P) w T ⟨gg, 0, none⟩ (by rw [he, hN]; exact hT) k h' h0 (by rw [hN]; exact h1)
    rw [he, ti_sizeOf hinf w] at r1
    simp only [Result.andThen_ok] at r1
    have e1 : slicedAt (⟨gg, 0, none⟩ : Addr) 0 h'.toNat (P.arrayLen T) inf.size = slv (some gg) 0 len' N := by
      unfold slicedAt slv
      rw [hl, hN]
      simp [add_lit]
    rw [e1] at r1
    simp [execOp, h2, h3, r1]) h
theorem r_sliceStr {T : Nat} {s : ByteArray} {k : IntKind} {l : Int} {r : ByteArray} (hT : P.underlying T = some .string) (hd : Nat.blt d nt = true) (hg : wantedS ops ⟨some d, .slice T x (some y) none none, ty, pos, af, g⟩ t = some true) (hx : ev t x = some (.string s)) (hy : ev t y = some (.int k l)) (h0 : 0 ≤ l) (h1 : l ≤ s.size) (hr : s.extract l.toNat s.size = r)
    (h : Run P bl ops rest ⟨nt, (d, .string r) :: t, L⟩ K) : Run P bl ops (⟨some d, .slice T x (some y) none none, ty, pos, af, g⟩ :: rest) ⟨nt, t, L⟩ K :=
  run_q hd hg rfl (fun B a w hrel => by
    have h2 := hrel.ev hx
    have h3 := hrel.ev hy
    have r1 := run_sliceAt_string (P := P) w T (.string s) (some (.int k l)) none none hT
    rw [run_slice_string_l (P := P) w T s hT k l h0 h1, hr] at r1
    simp [execOp, h2, h3, r1]) h
/-- bytes become a string -/
theorem r_convBS {S e D : Nat} {b : Blk} {gg len cap : Nat} {l : List Nat} {r : ByteArray} (k : Nat) (hS : P.underlying S = some (.slice e)) (he : P.underlying e = some (.int .u8)) (hD : P.underlying D = some .string) (hd : Nat.blt d nt = true) (hg : wantedS ops ⟨some d, .convert S D x, ty, pos, af, g⟩ t = some true)
    (hk : (blank bl L)[k]? = some b) (hb : b.base = some gg) (hx : ev t x = some (slv (some gg) 0 len cap)) (hcs : b.cs.take len = NV .u8 l) (hl : l.length = len) (hr : strN l = r)
    (h : Run P bl ops rest ⟨nt, (d, .string r) :: t, L⟩ K) : Run P bl ops (⟨some d, .convert S D x, ty, pos, af, g⟩ :: rest) ⟨nt, t, L⟩ K :=
  run_q hd hg rfl (fun B a w hrel => by
    have h1 := run_convert_bytes_arg (P := P) w S e hS he gg 0 len cap (l.map fun (n : Nat) => (n : Int)) (by simpa using hl) (fun i hi => by
      have hc : b.cs[i]? = some (.int .u8 ((l.map fun (n : Nat) => (n : Int)).getD i 0)) := by
        have h2 : (b.cs.take len)[i]? = (NV .u8 l)[i]? := by rw [hcs]
        rw [List.getElem?_take, if_pos hi] at h2
        rw [h2]
        have hil : i < l.length := by omega
        simp [NV, List.getElem?_eq_getElem hil]
      obtain ⟨g', hg', h2⟩ := hrel.mem.cell hk hc
      rw [hb] at hg'; cases hg'
      rw [Nat.zero_add]; exact h2) D hD
    rw [strN_nums, hr] at h1
    have h2 := hrel.ev hx
    unfold slv at h2
    simp only [Option.map_some] at h2
    simp [execOp, h2, h1]) h
/-- copy into the beginning of a row of the call's own -/
theorem r_copy {T e : Nat} {b b2 : Blk} {gg len cap len2 cap2 : Nat} {inf : TypeInfo} (k k2 : Nat) (L' : List Blk) (cs' : List Value) (hT : P.underlying T = some (.slice e)) (hi : P.info? e = some inf) (hs : inf.size = 1) (hd : Nat.blt d nt = true)
    (hg : wantedS ops ⟨some d, .call { callee := .builtin .copy, args := #[x, y], argTypes := #[T, T] }, ty, pos, af, g⟩ t = some true) (hk : L[k]? = some b) (ho : b.own = true) (hb : b.base = some gg) (hx : ev t x = some (slv (some gg) 0 len cap))
    (hk2 : L[k2]? = some b2) (hy : ev t y = some (slv b2.base 0 len2 cap2)) (hl2 : b2.cs.length = len2) (hle : len2 ≤ len) (hfit : len2 ≤ b.cs.length) (h1 : ∀ v ∈ b2.cs, v.oneCell' = true) (hcs : b2.cs ++ b.cs.drop len2 = cs') (hL : L.set k { b with cs := cs' } = L')
    (h : Run P bl ops rest ⟨nt, (d, .int .i64 len2) :: t, L'⟩ K) : Run P bl ops (⟨some d, .call { callee := .builtin .copy, args := #[x, y], argTypes := #[T, T] }, ty, pos, af, g⟩ :: rest) ⟨nt, t, L⟩ K :=
  run_e hd hg rfl rfl (X := Unit) (nx := fun _ => ⟨nt, (d, .int .i64 len2) :: t, L'⟩) (fun hd' => eff_of fun B a w hr => by
    have hx' := hr.ev hx
    have hy' := hr.ev hy
    obtain ⟨⟨cur, ⟨fr, c1, cfr⟩, c2, c3⟩, c4⟩ := (hr.mem.blk k b hk).1 gg hb
    obtain rfl := cfr ho
    have hcl : b.cs.length ≤ cur.size := by
      have := congrArg List.length c3
      simp only [List.length_take, Array.length_toList] at this
      omega
    have fin : ∀ v w', (Builtin.copy_ #[T, T] ty #[slv (some gg) 0 len cap, slv b2.base 0 len2 cap2]).run P w = .ok v w' → (execOp a.eval ⟨some d, .call { callee := .builtin .copy, args := #[x, y], argTypes := #[T, T] }, ty, pos, af, g⟩).run P w = .ok (.value v) w' := fun v w' hv => by
      simp [execOp, resolve, invoke, builtin, hx', hy', hv]
    cases hb2 : b2.base with
    | none =>
      have h0 := ((hr.mem.blk k2 b2 hk2).2 hb2).1
      have hl0 : len2 = 0 := by rw [← hl2, h0]; rfl
      subst hl0
      refine ⟨goInt 0, w, (), fin _ _ (by
        rw [hb2]
        unfold slv
        simp [Builtin.copy_, run_underlying hT, Builtin.lenOf, Builtin.firstCells, sizeOf, typeInfo, hi, storeCells, goInt]), ?_⟩
      have e1 : L' = L := by
        rw [← hL, ← hcs, h0]
        simp only [List.nil_append, List.drop_zero]
        obtain ⟨q1, q2⟩ := List.getElem?_eq_some_iff.1 hk
        have : ({ b with cs := b.cs } : Blk) = b := rfl
        rw [this, ← q2]; exact List.set_getElem_self q1
      rw [e1]
      exact hr.put hd' hr.mem
    | some g2 =>
      have hsrc : ∀ j v, b2.cs[j]? = some v → w.cell? ((⟨g2, 0, none⟩ : Addr).add j) = some v := fun j u hj => by
        obtain ⟨g', hg', h2⟩ := hr.mem.cell hk2 hj
        rw [hb2] at hg'; cases hg'
        rw [add_lit, Nat.zero_add]; exact h2
      have r1 := run_copy_row (P := P) w T T ty e gg 0 len cap ⟨g2, 0, none⟩ len2 cap2 cur b.e b2.cs hT (by simp [hi, hs]) c1 (by rw [hl2]; exact (Nat.min_eq_left hle).symm) hsrc (by omega) h1
      refine ⟨goInt b2.cs.length, _, (), fin _ _ (by rw [hb2]; exact r1), ?_⟩
      rw [hl2]
      have h5 := hr.mem.set hk ho hb (cur.toList.take 0 ++ b2.cs ++ cur.toList.drop (0 + b2.cs.length)).toArray cs'
        (by simp only [List.size_toArray, List.length_append, List.length_take, List.length_drop, Array.length_toList]; omega)
        (by
          rw [← hcs]
          simp only [List.take_zero, List.nil_append, Nat.zero_add, hl2]
          rw [List.length_append, List.length_drop, hl2]
          rw [List.take_append, hl2]
          rw [List.take_of_length_le (by omega)]
          congr 1
          rw [← c3]
          simp only [List.length_take, Array.length_toList]
          rw [List.drop_take]
          congr 1
          omega)
      rw [← hL]
      rw [hl2] at h5
      exact hr.put hd' h5) fun _ => h
/-- an element type: how many cells, its zero -/
def elB (P : Program) (e : Nat) (s : Nat) (z : Value) : Prop := ((P.info? e).map fun inf => (inf.size, Nat.ble inf.bytes 512, inf.zero)) = some (s, true, some z)
theorem elB_spec {e s : Nat} {z : Value} (h : elB P e s z) : ∃ inf, P.info? e = some inf ∧ inf.zero = some z ∧ inf.size = s ∧ inf.bytes ≤ 512 := by
  unfold elB at h
  cases hq : P.info? e with
  | none => rw [hq] at h; cases h
  | some inf =>
    rw [hq] at h
    simp only [Option.map_some, Option.some.injEq, Prod.mk.injEq] at h
    obtain ⟨h1, h2, h3⟩ := h
    exact ⟨inf, rfl, h3, h1, Nat.le_of_ble_eq_true h2⟩
theorem q_makeSlice {T e : Nat} {k : IntKind} {c : Nat} {z : Value} {m : Int} (cs : List Value) (mk : Nat → List Blk) (hT : P.underlying T = some (.slice e)) (he : elB P e 1 z) (hd : Nat.blt d nt = true)
    (hg : wantedS ops ⟨some d, .makeSlice T x y, ty, pos, af, g⟩ t = some true) (hx : ev t x = some (.int k m)) (hy : ev t y = some (.int k m)) (hz1 : z.cells = #[z]) (hm : m = (c : Int)) (hc : c ≤ 137438953472) (hcs : List.replicate c z = cs) (hL : ∀ b, L ++ [⟨some b, e, cs, c, true⟩] = mk b)
    (h : ∀ b, Run P bl ops rest ⟨nt, (d, slv (some b) 0 c c) :: t, mk b⟩ K) : Run P bl ops (⟨some d, .makeSlice T x y, ty, pos, af, g⟩ :: rest) ⟨nt, t, L⟩ K := by
  obtain ⟨inf, h1, h2, h3, h5⟩ := elB_spec he
  exact r_makeSlice cs mk hT h1 h2 h3 hz1 hd hg hx hy hm h5 hc hcs hL h
theorem q_append {T e s : Nat} {z : Value} {b : Blk} {len cap b2o n2 c2 : Nat} {b2 : Blk} (k k2 : Nat) (mk : AR (len + n2) s → List Blk) (hT : P.underlying T = some (.slice e)) (hi : elB P e s z) (hd : Nat.blt d nt = true)
    (hg : wantedS ops ⟨some d, .call { callee := .builtin .append, args := #[x, y], argTypes := #[T, T] }, ty, pos, af, g⟩ t = some true)
    (hk : L[k]? = some b) (ho : b.own = true) (he : b.e = e) (hx : ev t x = some (slv b.base 0 len cap)) (hk2 : L[k2]? = some b2) (hb2 : b2.base = some b2o) (hy : ev t y = some (slv (some b2o) 0 n2 c2)) (hs : Nat.blt 0 s = true) (hzs : z.cells.size = s) (hpos : Nat.blt 0 n2 = true)
    (hlen : b.cs.length = len * s) (hcap : len ≤ cap) (hn : cap * s ≤ b.n) (hlen2 : b2.cs.length = n2 * s) (h1 : ∀ v ∈ b2.cs, v.oneCell' = true) (hmax : len + n2 ≤ 17179869184)
    (hL : ∀ r, L.set k ⟨some r.g, e, b.cs ++ b2.cs, r.n, true⟩ = mk r)
    (h : ∀ r : AR (len + n2) s, Run P bl ops rest ⟨nt, (d, slv (some r.g) 0 (len + n2) r.cap) :: t, mk r⟩ K) :
    Run P bl ops (⟨some d, .call { callee := .builtin .append, args := #[x, y], argTypes := #[T, T] }, ty, pos, af, g⟩ :: rest) ⟨nt, t, L⟩ K := by
  obtain ⟨inf, i1, i2, i3, i5⟩ := elB_spec hi
  subst i3
  exact r_append k k2 mk hT i1 i2 (by simpa using hs) hzs (by omega) hd hg hk ho he hlen hcap hn hx hk2 hlen2 (by simpa using hpos) hb2 hy h1 hmax hL h
theorem q_copy {T e : Nat} {z : Value} {b b2 : Blk} {gg len cap len2 cap2 : Nat} (k k2 : Nat) (L' : List Blk) (cs' : List Value) (hT : P.underlying T = some (.slice e)) (hi : elB P e 1 z) (hd : Nat.blt d nt = true)
    (hg : wantedS ops ⟨some d, .call { callee := .builtin .copy, args := #[x, y], argTypes := #[T, T] }, ty, pos, af, g⟩ t = some true) (hk : L[k]? = some b) (ho : b.own = true) (hb : b.base = some gg) (hx : ev t x = some (slv (some gg) 0 len cap))
    (hk2 : L[k2]? = some b2) (hy : ev t y = some (slv b2.base 0 len2 cap2)) (hl2 : b2.cs.length = len2) (hle : len2 ≤ len) (hfit : len2 ≤ b.cs.length) (h1 : ∀ v ∈ b2.cs, v.oneCell' = true) (hcs : b2.cs ++ b.cs.drop len2 = cs') (hL : L.set k { b with cs := cs' } = L')
    (h : Run P bl ops rest ⟨nt, (d, .int .i64 len2) :: t, L'⟩ K) : Run P bl ops (⟨some d, .call { callee := .builtin .copy, args := #[x, y], argTypes := #[T, T] }, ty, pos, af, g⟩ :: rest) ⟨nt, t, L⟩ K := by
  obtain ⟨inf, i1, i2, i3, i5⟩ := elB_spec hi
  exact r_copy k k2 L' cs' hT i1 i3 hd hg hk ho hb hx hk2 hy hl2 hle hfit h1 hcs hL h
end
/-! ### a call that writes into one block -/
theorem LRel.toFront {B w : World} {L : List Blk} {k : Nat} {b : Blk} (h : LRel B L w) (hk : L[k]? = some b) : LRel B (b :: L.eraseIdx k) w := by
  refine h.reindex (fun i => if i = 0 then k else if i - 1 < k then i - 1 else i) (fun i c hc => ?_) (fun i j _ _ e => ?_)
  · cases i with
    | zero => simp at hc; subst hc; simpa using hk
    | succ i =>
      simp only [List.getElem?_cons_succ, List.getElem?_eraseIdx] at hc
      by_cases c1 : i < k
      · rw [if_pos c1] at hc; simpa [c1] using hc
      · rw [if_neg c1] at hc; simpa [c1] using hc
  · skip
    split at e <;> split at e <;> (try split at e) <;> (try split at e) <;> omega
theorem LRel.fromFront {B w : World} {L : List Blk} {k : Nat} {b b' : Blk} (hk : L[k]? = some b) (h : LRel B (b' :: L.eraseIdx k) w) : LRel B (L.set k b') w := by
  have hkl := (List.getElem?_eq_some_iff.1 hk).1
  refine h.reindex (fun i => if i = k then 0 else if i < k then i + 1 else i) (fun i c hc => ?_) (fun i j _ _ e => ?_)
  · by_cases e : i = k
    · subst e; rw [List.getElem?_set_self hkl] at hc; simpa using hc
    · rw [List.getElem?_set_ne (Ne.symm e)] at hc
      by_cases c1 : i < k
      · simp [e, c1, List.getElem?_eraseIdx, hc]
      · obtain ⟨m, rfl⟩ : ∃ m, i = m + 1 := ⟨i - 1, by omega⟩
        simp only [if_neg e, if_neg c1, List.getElem?_cons_succ, List.getElem?_eraseIdx]
        rw [if_neg (by omega)]; exact hc
  · skip
    split at e <;> split at e <;> (try split at e) <;> (try split at e) <;> omega
def MCall (P : Program) (f : Nat) (b : Blk) (args : List Value) (v : Value) (b' : Blk) : Prop :=
  plainF P f = true ∧ ∀ B w R, LRel B (b :: R) w → Calls P f args.toArray w fun e w' => e = .returned v ∧ LRel B (b' :: R) w'
section
variable {P : Program} {bl : List Nat} {ops : Array Oper} {K : St → Prop} {rest : List Oper} {nt : Nat} {t : List (Nat × Value)} {L : List Blk} {d : Nat} {ty : TypeId} {pos : String} {af : Array Edge} {g : Option (Nat × Bool)} {x y : Operand}
theorem r_mcall {f : Nat} {args : List Operand} {ts : Array TypeId} (vs : List Value) {v : Value} {b b' : Blk} (k : Nat) (L' : List Blk) (hM : isM bl = true) (hd : Nat.blt d nt = true) (hg : wantedS ops ⟨some d, .call { callee := .value (.func f), args := args.toArray, argTypes := ts }, ty, pos, af, g⟩ t = some true)
    (hv : args.map (ev t) = vs.map some) (hc : MCall P f b vs v b') (hk : L[k]? = some b) (hL : L.set k b' = L') (h : Run P bl ops rest ⟨nt, (d, v) :: t, L'⟩ K) :
    Run P bl ops (⟨some d, .call { callee := .value (.func f), args := args.toArray, argTypes := ts }, ty, pos, af, g⟩ :: rest) ⟨nt, t, L⟩ K :=
  run_m hd hg hM (X := Unit) (nx := fun _ => ⟨nt, (d, v) :: t, L'⟩) (fun hd' B a w hr => by
    unfold Oper.wp
    rw [run_callee hc.1 a rfl rfl (vs := vs.toArray) (by simp [evs_spec hr hv]) w]
    refine (hc.2 B w _ (hr.mem.toFront hk)).mono ?_
    rintro e w' ⟨rfl, hw⟩
    refine ⟨(), ?_⟩
    rw [← hL]
    exact hr.put hd' (LRel.fromFront hk hw)) fun _ => h
end
end Go.Via
set_option linter.unusedVariables false
namespace Go.Via
open Go
theorem quo_i {x y : Int} (m n : Nat) (hx : x = (m : Int)) (hy : y = (n : Int)) (h : m / n ≤ 9223372036854775807) : IntKind.i64.wrap (x.tdiv y) = ((m / n : Nat) : Int) := by
  subst hx; subst hy; rw [← Int.ofNat_tdiv]; generalize m / n = q at *; exact wi (by omega) (by omega) rfl
theorem quo_u {x y : Int} (m n : Nat) (hx : x = (m : Int)) (hy : y = (n : Int)) (h : m / n < 18446744073709551616) : IntKind.u64.wrap (x.tdiv y) = ((m / n : Nat) : Int) := by
  subst hx; subst hy; rw [← Int.ofNat_tdiv]; generalize m / n = q at *; exact wu (by omega) (by omega) rfl
theorem rem_n {x y : Int} (m n : Nat) (hx : x = (m : Int)) (hy : y = (n : Int)) : x.tmod y = ((m % n : Nat) : Int) := by
  subst hx; subst hy; exact (Int.ofNat_tmod m n).symm
theorem shl_u {x s : Int} (m k : Nat) (hx : x = (m : Int)) (hs : s = (k : Int)) (hk : k ≤ 64) (h : m * 2 ^ k < 18446744073709551616) : IntKind.u64.wrap (x * 2 ^ (min s.toNat IntKind.u64.bits)) = ((m * 2 ^ k : Nat) : Int) := by
  subst hx; subst hs
  have : min (k : Int).toNat IntKind.u64.bits = k := by rw [bits64]; omega
  rw [this]
  exact wu (Int.mul_nonneg (by omega) (Int.pow_nonneg (by omega))) (by have : ((m * 2 ^ k : Nat) : Int) < 18446744073709551616 := by omega
                                                                       simpa using this) (by simp)
theorem shl_u32 {x s : Int} (m k : Nat) (hx : x = (m : Int)) (hs : s = (k : Int)) (hk : k ≤ 32) (h : m * 2 ^ k < 4294967296) : IntKind.u32.wrap (x * 2 ^ (min s.toNat IntKind.u32.bits)) = ((m * 2 ^ k : Nat) : Int) := by
  subst hx; subst hs
  have : min (k : Int).toNat IntKind.u32.bits = k := by rw [bits32]; omega
  rw [this, wu32]
  have e : ((m : Int) * 2 ^ k) = ((m * 2 ^ k : Nat) : Int) := by simp
  rw [e]; omega
theorem shr_u {x s : Int} (m k : Nat) (hx : x = (m : Int)) (hs : s = (k : Int)) (hk : k ≤ 64) : x.fdiv (2 ^ (min s.toNat IntKind.u64.bits)) = ((m / 2 ^ k : Nat) : Int) := by
  subst hx; subst hs
  have : min (k : Int).toNat IntKind.u64.bits = k := by rw [bits64]; omega
  rw [this, Int.fdiv_eq_ediv_of_nonneg _ (Int.pow_nonneg (by omega))]
  simp
theorem c64 {x : Int} (m : Nat) (hx : x = (m : Int)) (h : m < 18446744073709551616) : IntKind.u64.wrap x = (m : Int) := by subst hx; exact wu (by omega) (by omega) rfl
theorem c32 {x : Int} (m : Nat) (hx : x = (m : Int)) : IntKind.u32.wrap x = ((m % 4294967296 : Nat) : Int) := by subst hx; rw [wu32]; omega
theorem c8 {x : Int} (m : Nat) (hx : x = (m : Int)) : IntKind.u8.wrap x = ((m % 256 : Nat) : Int) := by subst hx; rw [wu8]; omega
theorem NV_ne {k : IntKind} {l : List Nat} (h : 0 < l.length) : NV k l ≠ [] := by
  intro e; have := congrArg List.length e; rw [NV_length] at this; simp at this; subst this; simp at h
theorem NV_one (k : IntKind) (l : List Nat) : ∀ v ∈ NV k l, v.oneCell' = true := by
  intro v hv; obtain ⟨n, _, rfl⟩ := List.mem_map.1 hv; rfl
def LookAll (t : List (Nat × Value)) : List (Nat × Value) → Prop
  | [] => True
  | p :: l => look t p.1 = some p.2 ∧ LookAll t l
theorem LookAll.mem {t : List (Nat × Value)} : ∀ {t' : List (Nat × Value)}, LookAll t t' → ∀ p ∈ t', look t p.1 = some p.2
  | [], _, p, hp => by cases hp
  | q :: l, h, p, hp => by
    rcases List.mem_cons.1 hp with rfl | hp
    · exact h.1
    · exact LookAll.mem h.2 p hp
theorem look_val {t : List (Nat × Value)} {d : Nat} {v v' : Value} (h : look t d = some v) (e : v = v') : look t d = some v' := e ▸ h
/-- what a round of a loop ends in -/
def Nxt {ι : Type} (B : World) (nt : Nat) (T : ι → List (Nat × Value)) (LL : ι → List Blk) (μ : ι → Nat) (i : ι) (a' : Act) (w' : World) : Prop := ∃ j, μ j < μ i ∧ Rel B ⟨nt, T j, LL j⟩ a' w'
theorem enterL {P : Program} {B : World} {Q : Exit → Act → World → Prop} {nt : Nat} {t : List (Nat × Value)} {L : List Blk} {ι : Type} {c : Code} (T : ι → List (Nat × Value)) (LL : ι → List Blk) (μ : ι → Nat) (i₀ : ι) (ht : LookAll t (T i₀)) (hL : Weak L (LL i₀))
    (round : ∀ i, At B ⟨nt, T i, LL i⟩ (c.wp P (Exit.then (Nxt B nt T LL μ i) Q))) : At B ⟨nt, t, L⟩ ((Code.loop c).wp P Q) :=
  at_enter' (fun i => ⟨nt, T i, LL i⟩) μ i₀ (T i₀) (LL i₀) rfl ht.mem hL round
theorem nextL {B : World} {nt : Nat} {t : List (Nat × Value)} {L : List Blk} {ι : Type} {T : ι → List (Nat × Value)} {LL : ι → List Blk} {μ : ι → Nat} {i : ι} (j : ι) (hμ : μ j < μ i) (ht : LookAll t (T j)) (hL : Weak L (LL j)) :
    At B ⟨nt, t, L⟩ (Nxt B nt T LL μ i) :=
  at_next' (inv := fun i => ⟨nt, T i, LL i⟩) j (T j) (LL j) rfl hμ ht.mem hL
end Go.Via
set_option linter.unusedVariables false
set_option linter.unusedSimpArgs false
namespace Go.Via
open Go Go.RowKit
def ForR (Q : Nat → Prop) : List Nat → Prop
  | [] => True
  | i :: l => Q i ∧ ForR Q l
theorem ForR.mem {Q : Nat → Prop} : ∀ {l : List Nat}, ForR Q l → ∀ i ∈ l, Q i
  | [], _, i, h => by cases h
  | j :: l, hh, i, h => by
    rcases List.mem_cons.1 h with rfl | h
    · exact hh.1
    · exact ForR.mem hh.2 i h
/-- all orders, one by one -/
def Tree (P : Program) (ops : Array Oper) (K : St → Prop) : Nat → Array Bool → St → Prop
  | 0, listed, s => Region.ready .any ops listed = [] ∧ K s
  | n + 1, listed, s => ∃ l : List Nat, Region.ready .any ops listed = l ∧ l.isEmpty = false ∧ ForR (fun i => ∃ o, ops[i]? = some o ∧ Run P [1000000] ops [o] s (fun s' => Tree P ops K n (listed.setIfInBounds i true) s')) l
theorem wp_tree {P : Program} {ops : Array Oper} {Q : Exit → Act → World → Prop} {K : St → Prop} {B : World} (hpost : ∀ s' a' w', K s' → Rel B s' a' w' → Q .normal a' w') :
    ∀ (n : Nat) (listed : Array Bool) (s : St) (a : Act) (w : World), Tree P ops K n listed s → Rel B s a w → wpAny P .any ops Q n listed a w
  | 0, listed, s, a, w, h, hr => ⟨h.1, hpost _ _ _ h.2 hr⟩
  | n + 1, listed, s, a, w, h, hr => by
    obtain ⟨l, h1, h2, h3⟩ := h
    refine ⟨fun h0 => ?_, fun i hi => ?_⟩
    · rw [h1] at h0; subst h0; cases h2
    · rw [h1] at hi
      obtain ⟨o, ho, hs⟩ := h3.mem i hi
      have := Step.sound (K' := fun a' w' => wpAny P .any ops Q n (listed.setIfInBounds i true) a' w') (Q := Q) hs hr (fun s' a' w' hk hr' => wp_tree hpost n _ s' a' w' hk hr')
      unfold wpOp
      rw [ho]
      dsimp only
      split
      · rename_i hw; rw [if_pos hw] at this; exact .inl this
      · rename_i hw; rw [if_neg hw] at this; exact this
theorem at_tree {P : Program} {B : World} {Q : Exit → Act → World → Prop} {nt : Nat} {t : List (Nat × Value)} {L : List Blk} {id : Nat} {l : List Oper} (T : List (Nat × Value)) (L' : List Blk) (hm : P.follows .mixedOrders = true)
    (h : Tree P l.toArray (fun s' => s'.nt = nt ∧ LookAll s'.t T ∧ s'.L = L') l.toArray.size (Array.replicate l.toArray.size false) ⟨nt, t, L⟩) (hk : At B ⟨nt, T, L'⟩ (Q .normal)) :
    At B ⟨nt, t, L⟩ ((Code.region id l.toArray true).wp P Q) := fun a w hr => by
  refine wp_region_any hm ?_
  refine wp_tree (K := fun s' => s'.nt = nt ∧ LookAll s'.t T ∧ s'.L = L') (B := B) (fun s' a' w' hK hrel => ?_) _ _ ⟨nt, t, L⟩ a _ h hr.drew
  obtain ⟨h1, h2, h3⟩ := hK
  refine hk a' w' ?_
  have := hrel.sub (t := T) fun d v hd => h2.mem (d, v) (look_mem hd)
  rw [h1, h3] at this
  exact this
theorem t_node {P : Program} {ops : Array Oper} {K : St → Prop} {n : Nat} {listed : Array Bool} {s : St} (l : List Nat) (h1 : Region.ready .any ops listed = l) (h2 : l.isEmpty = false)
    (h : ForR (fun i => ∃ o, ops[i]? = some o ∧ Run P [1000000] ops [o] s (fun s' => Tree P ops K n (listed.setIfInBounds i true) s')) l) : Tree P ops K (n + 1) listed s := ⟨l, h1, h2, h⟩
end Go.Via
set_option linter.unusedVariables false
set_option linter.unusedSimpArgs false
set_option maxRecDepth 20000
namespace Go.Proofs.YthnlafhnpphdhaaGreatDoor
open Go Go.RowKit Go.Via
theorem mixed : Tryz.prog.follows .mixedOrders = true := by kernel_rfl
theorem ti3 : tiOK Tryz.prog 3 ⟨false, 1, []⟩ = true := by kernel_rfl
theorem ti4 : tiOK Tryz.prog 4 ⟨false, 1, []⟩ = true := by kernel_rfl
theorem ti5 : tiOK Tryz.prog 5 ⟨false, 1, []⟩ = true := by kernel_rfl
theorem ti9 : tiOK Tryz.prog 9 ⟨false, 1, []⟩ = true := by kernel_rfl
theorem ti23 : tiOK Tryz.prog 23 ⟨true, 2, [(0, 1), (1, 1)]⟩ = true := by kernel_rfl
theorem ti25 : tiOK Tryz.prog 25 ⟨true, 4, [(0, 2), (2, 2)]⟩ = true := by kernel_rfl
theorem ti27 : tiOK Tryz.prog 27 ⟨true, 8, [(0, 4), (4, 4)]⟩ = true := by kernel_rfl
theorem ti36 : tiOK Tryz.prog 36 ⟨true, 16, [(0, 8), (8, 8)]⟩ = true := by kernel_rfl
theorem ti40 : tiOK Tryz.prog 40 ⟨true, 17, [(0, 1), (1, 16)]⟩ = true := by kernel_rfl
theorem ti61 : tiOK Tryz.prog 61 ⟨false, 1, []⟩ = true := by kernel_rfl
theorem ti63 : tiOK Tryz.prog 63 ⟨true, 6, [(0, 1), (1, 1), (2, 1), (3, 1), (4, 1), (5, 1)]⟩ = true := by kernel_rfl
theorem ti66 : tiOK Tryz.prog 66 ⟨true, 16, []⟩ = true := by kernel_rfl
theorem ti85 : tiOK Tryz.prog 85 ⟨false, 1, []⟩ = true := by kernel_rfl
theorem ti97 : tiOK Tryz.prog 97 ⟨true, 3, [(0, 1), (1, 1), (2, 1)]⟩ = true := by kernel_rfl
theorem ti133 : tiOK Tryz.prog 133 ⟨false, 1, []⟩ = true := by kernel_rfl
theorem z4 : (Tryz.prog.info? 4).bind (·.zero) = some (.bool false) := by kernel_rfl
theorem z23 : (Tryz.prog.info? 23).bind (·.zero) = some (.agg #[.bool false, .string ⟨#[]⟩]) := by kernel_rfl
theorem z25 : (Tryz.prog.info? 25).bind (·.zero) = some (.agg #[.bool false, .string ⟨#[]⟩, .bool false, .string ⟨#[]⟩]) := by kernel_rfl
theorem z27 : (Tryz.prog.info? 27).bind (·.zero) = some (.agg #[.bool false, .string ⟨#[]⟩, .bool false, .string ⟨#[]⟩, .bool false, .string ⟨#[]⟩, .bool false, .string ⟨#[]⟩]) := by kernel_rfl
theorem z36 : (Tryz.prog.info? 36).bind (·.zero) = some (.agg #[.bool false, .string ⟨#[]⟩, .bool false, .string ⟨#[]⟩, .bool false, .string ⟨#[]⟩, .bool false, .string ⟨#[]⟩, .bool false, .string ⟨#[]⟩, .bool false, .string ⟨#[]⟩, .bool false, .string ⟨#[]⟩, .bool false, .string ⟨#[]⟩]) := by kernel_rfl
theorem z40 : (Tryz.prog.info? 40).bind (·.zero) = some (.agg #[.int .i64 0, .bool false, .string ⟨#[]⟩, .bool false, .string ⟨#[]⟩, .bool false, .string ⟨#[]⟩, .bool false, .string ⟨#[]⟩, .bool false, .string ⟨#[]⟩, .bool false, .string ⟨#[]⟩, .bool false, .string ⟨#[]⟩, .bool false, .string ⟨#[]⟩]) := by kernel_rfl
theorem z61 : (Tryz.prog.info? 61).bind (·.zero) = some (.slice none 0 0) := by kernel_rfl
theorem z63 : (Tryz.prog.info? 63).bind (·.zero) = some (.agg #[.int .i64 0, .int .i64 0, .int .i64 0, .int .i64 0, .int .i64 0, .int .i64 0]) := by kernel_rfl
theorem z66 : (Tryz.prog.info? 66).bind (·.zero) = some (.agg #[.bool false, .string ⟨#[]⟩, .bool false, .string ⟨#[]⟩, .bool false, .string ⟨#[]⟩, .bool false, .string ⟨#[]⟩, .bool false, .string ⟨#[]⟩, .bool false, .string ⟨#[]⟩, .bool false, .string ⟨#[]⟩, .bool false, .string ⟨#[]⟩]) := by kernel_rfl
theorem z97 : (Tryz.prog.info? 97).bind (·.zero) = some (.agg #[.bool false, .slice none 0 0, .slice none 0 0]) := by kernel_rfl
theorem z139 : (Tryz.prog.info? 139).bind (·.zero) = some (.agg #[.int .u8 0, .int .u8 0, .int .u8 0, .int .u8 0, .int .u8 0, .int .u8 0, .int .u8 0, .int .u8 0]) := by kernel_rfl
theorem bd23_0  (w : World) : (Instr.build 23 [].toArray).run Tryz.prog w = .ok (.agg #[.bool false, .string ⟨#[]⟩]) w := by kernel_rfl
theorem bd23_2 {a0 : Bool} {b0 : ByteArray} (w : World) : (Instr.build 23 [(0, .bool a0), (1, .string b0)].toArray).run Tryz.prog w = .ok (.agg #[.bool a0, .string b0]) w := by kernel_rfl
theorem bd25_0  (w : World) : (Instr.build 25 [].toArray).run Tryz.prog w = .ok (.agg #[.bool false, .string ⟨#[]⟩, .bool false, .string ⟨#[]⟩]) w := by kernel_rfl
theorem bd25_1 {a0 : Bool} {a1 : ByteArray} (w : World) : (Instr.build 25 [(0, .agg #[.bool a0, .string a1])].toArray).run Tryz.prog w = .ok (.agg #[.bool a0, .string a1, .bool false, .string ⟨#[]⟩]) w := by kernel_rfl
theorem bd25_2 {a0 : Bool} {a1 : ByteArray} {b0 : Bool} {b1 : ByteArray} (w : World) : (Instr.build 25 [(0, .agg #[.bool a0, .string a1]), (1, .agg #[.bool b0, .string b1])].toArray).run Tryz.prog w = .ok (.agg #[.bool a0, .string a1, .bool b0, .string b1]) w := by kernel_rfl
theorem bd27_2 {a0 : Bool} {a1 : ByteArray} {a2 : Bool} {a3 : ByteArray} {b0 : Bool} {b1 : ByteArray} {b2 : Bool} {b3 : ByteArray} (w : World) : (Instr.build 27 [(0, .agg #[.bool a0, .string a1, .bool a2, .string a3]), (1, .agg #[.bool b0, .string b1, .bool b2, .string b3])].toArray).run Tryz.prog w = .ok (.agg #[.bool a0, .string a1, .bool a2, .string a3, .bool b0, .string b1, .bool b2, .string b3]) w := by kernel_rfl
theorem bd36_2 {a0 : Bool} {a1 : ByteArray} {a2 : Bool} {a3 : ByteArray} {a4 : Bool} {a5 : ByteArray} {a6 : Bool} {a7 : ByteArray} {b0 : Bool} {b1 : ByteArray} {b2 : Bool} {b3 : ByteArray} {b4 : Bool} {b5 : ByteArray} {b6 : Bool} {b7 : ByteArray} (w : World) : (Instr.build 36 [(0, .agg #[.bool a0, .string a1, .bool a2, .string a3, .bool a4, .string a5, .bool a6, .string a7]), (1, .agg #[.bool b0, .string b1, .bool b2, .string b3, .bool b4, .string b5, .bool b6, .string b7])].toArray).run Tryz.prog w = .ok (.agg #[.bool a0, .string a1, .bool a2, .string a3, .bool a4, .string a5, .bool a6, .string a7, .bool b0, .string b1, .bool b2, .string b3, .bool b4, .string b5, .bool b6, .string b7]) w := by kernel_rfl
theorem bd40_0  (w : World) : (Instr.build 40 [].toArray).run Tryz.prog w = .ok (.agg #[.int .i64 0, .bool false, .string ⟨#[]⟩, .bool false, .string ⟨#[]⟩, .bool false, .string ⟨#[]⟩, .bool false, .string ⟨#[]⟩, .bool false, .string ⟨#[]⟩, .bool false, .string ⟨#[]⟩, .bool false, .string ⟨#[]⟩, .bool false, .string ⟨#[]⟩]) w := by kernel_rfl
theorem bd40_2 {a0 : Int} {b0 : Bool} {b1 : ByteArray} {b2 : Bool} {b3 : ByteArray} {b4 : Bool} {b5 : ByteArray} {b6 : Bool} {b7 : ByteArray} {b8 : Bool} {b9 : ByteArray} {b10 : Bool} {b11 : ByteArray} {b12 : Bool} {b13 : ByteArray} {b14 : Bool} {b15 : ByteArray} (w : World) : (Instr.build 40 [(0, .int .i64 a0), (1, .agg #[.bool b0, .string b1, .bool b2, .string b3, .bool b4, .string b5, .bool b6, .string b7, .bool b8, .string b9, .bool b10, .string b11, .bool b12, .string b13, .bool b14, .string b15])].toArray).run Tryz.prog w = .ok (.agg #[.int .i64 a0, .bool b0, .string b1, .bool b2, .string b3, .bool b4, .string b5, .bool b6, .string b7, .bool b8, .string b9, .bool b10, .string b11, .bool b12, .string b13, .bool b14, .string b15]) w := by kernel_rfl
theorem bd63_0  (w : World) : (Instr.build 63 [].toArray).run Tryz.prog w = .ok (.agg #[.int .i64 0, .int .i64 0, .int .i64 0, .int .i64 0, .int .i64 0, .int .i64 0]) w := by kernel_rfl
theorem bd63_4 {a0 : Int} {b0 : Int} {c0 : Int} {d0 : Int} (w : World) : (Instr.build 63 [(0, .int .i64 a0), (1, .int .i64 b0), (2, .int .i64 c0), (3, .int .i64 d0)].toArray).run Tryz.prog w = .ok (.agg #[.int .i64 a0, .int .i64 b0, .int .i64 c0, .int .i64 d0, .int .i64 0, .int .i64 0]) w := by kernel_rfl
theorem bd66_4 {a0 : Bool} {a1 : ByteArray} {a2 : Bool} {a3 : ByteArray} {b0 : Bool} {b1 : ByteArray} {b2 : Bool} {b3 : ByteArray} {c0 : Bool} {c1 : ByteArray} {c2 : Bool} {c3 : ByteArray} {d0 : Bool} {d1 : ByteArray} {d2 : Bool} {d3 : ByteArray} (w : World) : (Instr.build 66 [(0, .agg #[.bool a0, .string a1, .bool a2, .string a3]), (1, .agg #[.bool b0, .string b1, .bool b2, .string b3]), (2, .agg #[.bool c0, .string c1, .bool c2, .string c3]), (3, .agg #[.bool d0, .string d1, .bool d2, .string d3])].toArray).run Tryz.prog w = .ok (.agg #[.bool a0, .string a1, .bool a2, .string a3, .bool b0, .string b1, .bool b2, .string b3, .bool c0, .string c1, .bool c2, .string c3, .bool d0, .string d1, .bool d2, .string d3]) w := by kernel_rfl
theorem bd97_3 {a0 : Bool} {b0 : Option Addr} {b0n b0c : Nat} {c0 : Option Addr} {c0n c0c : Nat} (w : World) : (Instr.build 97 [(0, .bool a0), (1, .slice b0 b0n b0c), (2, .slice c0 c0n c0c)].toArray).run Tryz.prog w = .ok (.agg #[.bool a0, .slice b0 b0n b0c, .slice c0 c0n c0c]) w := by kernel_rfl
theorem bs61_1 {a0 : Bool} {a1 : ByteArray} {a2 : Bool} {a3 : ByteArray} {a4 : Bool} {a5 : ByteArray} {a6 : Bool} {a7 : ByteArray} (w : World) : (Instr.buildSlice 61 1 [(0, .agg #[.bool a0, .string a1, .bool a2, .string a3, .bool a4, .string a5, .bool a6, .string a7])].toArray).run Tryz.prog w = .ok (.slice (some ⟨w.heap.size, 0, none⟩) 1 1) (w.alloc (.cells [.bool a0, .string a1, .bool a2, .string a3, .bool a4, .string a5, .bool a6, .string a7].toArray 27)) := by kernel_rfl
theorem bs85_1 {a0 : Int} (w : World) : (Instr.buildSlice 85 1 [(0, .int .i64 a0)].toArray).run Tryz.prog w = .ok (.slice (some ⟨w.heap.size, 0, none⟩) 1 1) (w.alloc (.cells [.int .i64 a0].toArray 3)) := by kernel_rfl
theorem bs85_2 {a0 : Int} {b0 : Int} (w : World) : (Instr.buildSlice 85 2 [(0, .int .i64 a0), (1, .int .i64 b0)].toArray).run Tryz.prog w = .ok (.slice (some ⟨w.heap.size, 0, none⟩) 2 2) (w.alloc (.cells [.int .i64 a0, .int .i64 b0].toArray 3)) := by kernel_rfl
theorem el27 : elB Tryz.prog 27 8 (.agg #[.bool false, .string ⟨#[]⟩, .bool false, .string ⟨#[]⟩, .bool false, .string ⟨#[]⟩, .bool false, .string ⟨#[]⟩]) := by unfold elB; kernel_rfl
theorem el3 : elB Tryz.prog 3 1 (.int .i64 0) := by unfold elB; kernel_rfl
theorem el5 : elB Tryz.prog 5 1 (.int .u8 0) := by unfold elB; kernel_rfl
theorem el133 : elB Tryz.prog 133 1 (.int .u32 0) := by unfold elB; kernel_rfl
theorem gd23 : Tryz.prog.eqGuardType Tryz.prog.depth 23 = false := by kernel_rfl
theorem gd25 : Tryz.prog.eqGuardType Tryz.prog.depth 25 = false := by kernel_rfl
theorem gd27 : Tryz.prog.eqGuardType Tryz.prog.depth 27 = false := by kernel_rfl
theorem gd36 : Tryz.prog.eqGuardType Tryz.prog.depth 36 = false := by kernel_rfl
theorem gd63 : Tryz.prog.eqGuardType Tryz.prog.depth 63 = false := by kernel_rfl
theorem gd66 : Tryz.prog.eqGuardType Tryz.prog.depth 66 = false := by kernel_rfl
theorem u2 : Tryz.prog.underlying 2 = some (.int .i64) := by kernel_rfl
theorem u3 : Tryz.prog.underlying 3 = some (.int .i64) := by kernel_rfl
theorem u4 : Tryz.prog.underlying 4 = some .bool := by kernel_rfl
theorem u5 : Tryz.prog.underlying 5 = some (.int .u8) := by kernel_rfl
theorem u9 : Tryz.prog.underlying 9 = some .string := by kernel_rfl
theorem u61 : Tryz.prog.underlying 61 = some (.slice 27) := by kernel_rfl
theorem u66 : Tryz.prog.underlying 66 = some (.array 4 25) := by kernel_rfl
theorem u85 : Tryz.prog.underlying 85 = some (.slice 3) := by kernel_rfl
theorem u109 : Tryz.prog.underlying 109 = some (.int .u64) := by kernel_rfl
theorem u116 : Tryz.prog.underlying 116 = some (.slice 5) := by kernel_rfl
theorem u131 : Tryz.prog.underlying 131 = some (.slice 133) := by kernel_rfl
theorem u133 : Tryz.prog.underlying 133 = some (.int .u32) := by kernel_rfl
theorem u139 : Tryz.prog.underlying 139 = some (.array 8 5) := by kernel_rfl
theorem eq23r (a a' : Bool) (b b' : ByteArray) (w : World) : (Op.equalIn 10000 23 (.agg #[.bool a, .string b]) (.agg #[.bool a', .string b'])).run Tryz.prog w = .ok ((a == a') && (b == b')) w := by
  simp only [beq_toListBytes]
  simp [go_sem]
  (repeat' split) <;> simp_all
theorem eq25r (a a' c c' : Bool) (b b' d d' : ByteArray) (w : World) : (Op.equalIn 10000 25 (.agg #[.bool a, .string b, .bool c, .string d]) (.agg #[.bool a', .string b', .bool c', .string d'])).run Tryz.prog w =
    .ok ((a == a') && ((b == b') && ((c == c') && (d == d')))) w := by
  simp only [beq_toListBytes]
  simp [go_sem]
  (repeat' split) <;> simp_all
theorem eq23 (x y : Int) (w : World) : (Op.equalIn 10000 23 (I x) (I y)).run Tryz.prog w = .ok (decide (x = y)) w := by
  rw [← I_eq]; exact eq23r _ _ _ _ w
theorem eq25 (p q : Rat) (w : World) : (Op.equalIn 10000 25 (Q p) (Q q)).run Tryz.prog w = .ok (decide (p = q)) w := by
  refine (eq25r _ _ _ _ _ _ _ _ w).trans ?_
  rw [← Q_eq]
  congr 1
  simp [Bool.and_assoc]
theorem eqPart {P : Program} {d : Nat} {T : TypeId} {xs ys : Array Value} {f : Field} {fs : List Field} {x y : Value} {r r' : Bool} {w : World} (hn : f.name ≠ "_") (hx : (part f.type xs f.offset).run P w = .ok x w) (hy : (part f.type ys f.offset).run P w = .ok y w)
    (h : (Op.equalIn d f.type x y).run P w = .ok r w) (h' : (Op.eqFields d xs ys fs).run P w = .ok r' w) : (Op.eqFields d xs ys (f :: fs)).run P w = .ok (r && r') w := by
  simp only [Op.eqFields, hn, ne_eq, not_false_eq_true, if_true, Sem.run_bind, hx, hy, h, Result.andThen_ok]
  cases r <;> simp [h']
theorem eq27d (d : Nat) (p q : Rat × Rat) (w : World) : (Op.equalIn (d + 4) 27 (Pt p) (Pt q)).run Tryz.prog w = .ok (decide (p = q)) w := by
  have h1 := Q_eq p.1 q.1
  have h2 := Q_eq p.2 q.2
  have e : decide (p = q) = (decide (p.1 = q.1) && decide (p.2 = q.2)) := by
    rw [Bool.eq_iff_iff]; simp [Prod.ext_iff]
  rw [e, ← h1, ← h2]
  clear h1 h2 e
  unfold Pt
  generalize decide (p.1.num < 0) = a1, decide (p.2.num < 0) = a2, mag p.1.num.natAbs = a3, mag p.2.num.natAbs = a4, dm p.1 = a5, dm p.2 = a6
  generalize decide (q.1.num < 0) = b1, decide (q.2.num < 0) = b2, mag q.1.num.natAbs = b3, mag q.2.num.natAbs = b4, dm q.1 = b5, dm q.2 = b6
  simp only [beq_toListBytes]
  simp [go_sem]
  (repeat' split) <;> simp_all
theorem eq36 (p q : (Rat × Rat) × (Rat × Rat)) (w : World) : (Op.equalIn 10000 36 (Sg p) (Sg q)).run Tryz.prog w = .ok (decide (p = q)) w := by
  have e : decide (p = q) = (decide (p.1 = q.1) && (decide (p.2 = q.2) && true)) := by
    rw [Bool.eq_iff_iff]; simp [Prod.ext_iff]
  rw [e]
  have hf : ∃ f1 f2 : Field, (Tryz.prog.fieldsOf 36).toList = [f1, f2] ∧ f1.name ≠ "_" ∧ f2.name ≠ "_" ∧ f1.type = 27 ∧ f2.type = 27 ∧ f1.offset = 0 ∧ f2.offset = 8 := ⟨⟨"A", 27, 0, false, "", "", 0⟩, ⟨"B", 27, 8, false, "", "", 96⟩, by kernel_rfl, by decide, by decide, rfl, rfl, rfl, rfl⟩
  obtain ⟨f1, f2, h0, h1, h2, h3, h4, h5, h6⟩ := hf
  unfold Sg
  rw [run_equalIn_struct w 9999 36 _ _ (by kernel_rfl) (by kernel_rfl), h0]
  have ti27 : (Tryz.prog.info? 27).map (·.size) = some 8 := by kernel_rfl
  have ia : (isAgg 27).run Tryz.prog w = .ok true w := by kernel_rfl
  have so : (sizeOf 27).run Tryz.prog w = .ok 8 w := by kernel_rfl
  refine eqPart (T := 27) h1 (x := Pt p.1) (y := Pt q.1) ?_ ?_ ?_ (eqPart (T := 27) h2 (x := Pt p.2) (y := Pt q.2) ?_ ?_ ?_ rfl)
  · rw [h3, h5]; simp [part, ia, so]; rfl
  · rw [h3, h5]; simp [part, ia, so]; rfl
  · rw [h3]; exact eq27d 9995 _ _ w
  · rw [h4, h6]; simp [part, ia, so]; rfl
  · rw [h4, h6]; simp [part, ia, so]; rfl
  · rw [h4]; exact eq27d 9995 _ _ w
end Go.Proofs.YthnlafhnpphdhaaGreatDoor
set_option linter.unusedVariables false
namespace Go.Via
open Go
theorem made_T (n : Nat) : Value.agg #[.bool (mag n != ⟨#[]⟩), .string (mag n)] = I (-(n : Int)) := by
  unfold I
  rw [bne_empty]
  congr 4
  · rw [Bool.eq_iff_iff]; simp; omega
  · simp
theorem made_F (n : Nat) : Value.agg #[.bool false, .string (mag n)] = I (n : Int) := by
  unfold I
  congr 4
theorem negate_val (z : Int) : (if (!decide (z < 0)) = true then -(z.natAbs : Int) else (z.natAbs : Int)) = -z := by
  by_cases h : z < 0 <;> simp [h] <;> omega
theorem add_same (a b : Int) (h : (decide (a < 0) == decide (b < 0)) = true) : (if decide (a < 0) = true then -((a.natAbs + b.natAbs : Nat) : Int) else ((a.natAbs + b.natAbs : Nat) : Int)) = a + b := by
  by_cases h1 : a < 0 <;> by_cases h2 : b < 0 <;> simp_all <;> omega
theorem add_diff1 (a b : Int) (h : (decide (a < 0) == decide (b < 0)) = false) (hle : b.natAbs ≤ a.natAbs) : (if decide (a < 0) = true then -((a.natAbs - b.natAbs : Nat) : Int) else ((a.natAbs - b.natAbs : Nat) : Int)) = a + b := by
  by_cases h1 : a < 0 <;> by_cases h2 : b < 0 <;> simp_all <;> omega
theorem add_diff2 (a b : Int) (h : (decide (a < 0) == decide (b < 0)) = false) (hle : a.natAbs ≤ b.natAbs) : (if decide (b < 0) = true then -((b.natAbs - a.natAbs : Nat) : Int) else ((b.natAbs - a.natAbs : Nat) : Int)) = a + b := by
  by_cases h1 : a < 0 <;> by_cases h2 : b < 0 <;> simp_all <;> omega
theorem cmpN_ge (m n : Nat) (h : decide ((0 : Int) ≤ (if m < n then -1 else if n < m then 1 else 0)) = true) : n ≤ m := by
  by_cases h1 : m < n
  · simp [h1] at h
  · omega
theorem cmpN_lt (m n : Nat) (h : decide ((0 : Int) ≤ (if m < n then -1 else if n < m then 1 else 0)) = false) : m ≤ n := by
  by_cases h1 : m < n
  · omega
  · by_cases h2 : n < m <;> simp [h1, h2] at h
theorem mul_val (a b : Int) : (if (decide (a < 0) != decide (b < 0)) = true then -((a.natAbs * b.natAbs : Nat) : Int) else ((a.natAbs * b.natAbs : Nat) : Int)) = a * b := by
  have h : ((a.natAbs * b.natAbs : Nat) : Int) = (a.natAbs : Int) * (b.natAbs : Int) := Int.natCast_mul _ _
  rw [h]
  by_cases h1 : a < 0 <;> by_cases h2 : b < 0
  · rw [show (a.natAbs : Int) = -a by omega, show (b.natAbs : Int) = -b by omega]; simp [h1, h2, Int.neg_mul_neg]
  · rw [show (a.natAbs : Int) = -a by omega, show (b.natAbs : Int) = b by omega]; simp [h1, h2, Int.neg_mul]
  · rw [show (a.natAbs : Int) = a by omega, show (b.natAbs : Int) = -b by omega]; simp [h1, h2, Int.mul_neg]
  · rw [show (a.natAbs : Int) = a by omega, show (b.natAbs : Int) = b by omega]; simp [h1, h2]
theorem sign_zero (z : Int) (h : (mag z.natAbs == ⟨#[]⟩) = true) : (0 : Int) = z.sign := by
  rw [beq_empty] at h; simp at h; subst h; rfl
theorem sign_neg (z : Int) (h : decide (z < 0) = true) : (-1 : Int) = z.sign := by
  simp at h; rw [Int.sign_eq_neg_one_of_neg h]
theorem sign_pos (z : Int) (h0 : (mag z.natAbs == ⟨#[]⟩) = false) (h : decide (z < 0) = false) : (1 : Int) = z.sign := by
  rw [beq_empty] at h0; simp at h h0; rw [Int.sign_eq_one_of_pos (by omega)]
/-- -1, 0, 1 -/
def cmpI (a b : Int) : Int := if a < b then -1 else if b < a then 1 else 0
def cmpN (a b : Nat) : Int := if a < b then -1 else if b < a then 1 else 0
def cmpQ (a b : Rat) : Int := if a < b then -1 else if b < a then 1 else 0
end Go.Via
set_option linter.unusedVariables false
namespace Go.Via
open Go
theorem szI_gcd {a b : Int} {m n : Nat} (ha : szI a ≤ m) (hb : szI b ≤ n) : szI (Int.gcd a b : Int) ≤ m + n := by
  unfold szI at *
  simp only [Int.natAbs_natCast]
  rw [Int.gcd_eq_natAbs_gcd_natAbs]
  by_cases h : a.natAbs = 0
  · rw [h, Nat.gcd_zero_left]; omega
  · have := nb_gcd_left a.natAbs b.natAbs h; omega
/-- quotient and remainder out of those of the magnitudes -/
theorem divmod_core {a b q r : Int} (hb : b ≠ 0) (h : r + b * q = a) (h0 : 0 ≤ r) (h1 : r < b.natAbs) : q = a / b ∧ r = a % b := by
  rcases Int.lt_or_lt_of_ne hb with hb' | hb'
  · have := (Int.ediv_emod_unique' hb').2 ⟨h, h0, by omega⟩; exact ⟨this.1.symm, this.2.symm⟩
  · have := (Int.ediv_emod_unique hb').2 ⟨h, h0, by omega⟩; exact ⟨this.1.symm, this.2.symm⟩
theorem nat_dm (a b : Int) : (a.natAbs : Int) = (b.natAbs : Int) * ((a.natAbs / b.natAbs : Nat) : Int) + ((a.natAbs % b.natAbs : Nat) : Int) := by
  rw [← Int.natCast_mul, ← Int.natCast_add, Nat.div_add_mod]
/-- a is not negative, or nothing is left -/
theorem divmod_F {a b : Int} (hb : b ≠ 0) (h : ¬ a < 0 ∨ a.natAbs % b.natAbs = 0) :
    (if (decide (a < 0) != decide (b < 0)) = true then -((a.natAbs / b.natAbs : Nat) : Int) else ((a.natAbs / b.natAbs : Nat) : Int)) = a / b ∧ ((a.natAbs % b.natAbs : Nat) : Int) = a % b := by
  have hd := nat_dm a b
  have hlt : a.natAbs % b.natAbs < b.natAbs := Nat.mod_lt _ (by omega)
  generalize a.natAbs / b.natAbs = q at *
  generalize a.natAbs % b.natAbs = r at *
  refine divmod_core hb ?_ (by omega) (by omega)
  by_cases h1 : a < 0 <;> by_cases h2 : b < 0
  · have ea : (a.natAbs : Int) = -a := by omega
    have eb : (b.natAbs : Int) = -b := by omega
    rw [ea, eb] at hd
    simp [h1, h2]
    have : r = 0 := by omega
    subst this; simp at hd ⊢; have e : -b * (q : Int) = -(b * q) := Int.neg_mul _ _; rw [e] at hd; omega
  · have ea : (a.natAbs : Int) = -a := by omega
    have eb : (b.natAbs : Int) = b := by omega
    rw [ea, eb] at hd
    simp [h1, h2]
    have : r = 0 := by omega
    subst this; simp at hd ⊢; rw [Int.mul_neg]; omega
  · have ea : (a.natAbs : Int) = a := by omega
    have eb : (b.natAbs : Int) = -b := by omega
    rw [ea, eb] at hd
    simp [h1, h2]
    rw [Int.neg_mul] at hd; rw [Int.mul_neg]; omega
  · have ea : (a.natAbs : Int) = a := by omega
    have eb : (b.natAbs : Int) = b := by omega
    rw [ea, eb] at hd
    simp [h1, h2]; omega
/-- a is negative, and something is left -/
theorem divmod_T {a b : Int} (hb : b ≠ 0) (h : a < 0) (hr : a.natAbs % b.natAbs ≠ 0) :
    (if (decide (a < 0) != decide (b < 0)) = true then -((a.natAbs / b.natAbs + 1 : Nat) : Int) else ((a.natAbs / b.natAbs + 1 : Nat) : Int)) = a / b ∧ ((b.natAbs - a.natAbs % b.natAbs : Nat) : Int) = a % b := by
  have hd := nat_dm a b
  have hlt : a.natAbs % b.natAbs < b.natAbs := Nat.mod_lt _ (by omega)
  generalize a.natAbs / b.natAbs = q at *
  generalize a.natAbs % b.natAbs = r at *
  refine divmod_core hb ?_ (by omega) (by omega)
  have ea : (a.natAbs : Int) = -a := by omega
  by_cases h2 : b < 0
  · have eb : (b.natAbs : Int) = -b := by omega
    rw [ea, eb] at hd
    simp [h, h2]
    rw [Int.neg_mul] at hd; rw [Int.mul_add]; omega
  · have eb : (b.natAbs : Int) = b := by omega
    rw [ea, eb] at hd
    simp [h, h2]
    rw [Int.mul_neg, Int.mul_add]; omega
theorem canon_1 {n d : Int} (hd : 0 < d) (h1 : d / (Int.gcd n d : Int) = 1) : Value.agg #[.bool (decide (n / (Int.gcd n d : Int) < 0)), .string (mag (n / (Int.gcd n d : Int)).natAbs), .bool false, .string ⟨#[]⟩] = Q (Rat.divInt n d) := by
  rw [Q_divInt hd, if_pos h1]
theorem canon_2 {n d : Int} (hd : 0 < d) (h1 : d / (Int.gcd n d : Int) ≠ 1) : Value.agg #[.bool (decide (n / (Int.gcd n d : Int) < 0)), .string (mag (n / (Int.gcd n d : Int)).natAbs), .bool (decide (d / (Int.gcd n d : Int) < 0)), .string (mag (d / (Int.gcd n d : Int)).natAbs)] = Q (Rat.divInt n d) := by
  rw [Q_divInt hd, if_neg h1]
  congr 5
  have : 0 ≤ d / (Int.gcd n d : Int) := Int.ediv_nonneg (by omega) (by omega)
  simp; omega
theorem gcd_ne {n d : Int} (hd : d ≠ 0) : (Int.gcd n d : Int) ≠ 0 := by
  have : Int.gcd n d ≠ 0 := by rw [Ne, Int.gcd_eq_zero_iff]; omega
  omega
theorem sign_lt {d : Int} (h : decide (d.sign < 0) = true) : d < 0 := by
  simpa using h
theorem sign_ge {d : Int} (h : decide (d.sign < 0) = false) (h0 : d ≠ 0) : 0 < d := by
  simp at h; omega
theorem lI_add (a b : Int) : szI (a + b) ≤ szI a + szI b + 1 := szI_add (Nat.le_refl _) (Nat.le_refl _)
theorem lI_sub (a b : Int) : szI (a - b) ≤ szI a + szI b + 1 := szI_sub (Nat.le_refl _) (Nat.le_refl _)
theorem lI_mul (a b : Int) : szI (a * b) ≤ szI a + szI b := szI_mul (Nat.le_refl _) (Nat.le_refl _)
theorem lI_neg (a : Int) : szI (-a) ≤ szI a := szI_neg (Nat.le_refl _)
theorem lI_gcd (a b : Int) : szI (Int.gcd a b : Int) ≤ szI a + szI b := szI_gcd (Nat.le_refl _) (Nat.le_refl _)
theorem lI_num (q : Rat) : szI q.num ≤ szQ q := szI_num (Nat.le_refl _)
theorem lI_den (q : Rat) : szI (q.den : Int) ≤ szQ q := szI_den (Nat.le_refl _)
theorem lQ_add (a b : Rat) : szQ (a + b) ≤ szQ a + szQ b + 1 := szQ_add (Nat.le_refl _) (Nat.le_refl _)
theorem lQ_sub (a b : Rat) : szQ (a - b) ≤ szQ a + szQ b + 1 := szQ_sub (Nat.le_refl _) (Nat.le_refl _)
theorem lQ_mul (a b : Rat) : szQ (a * b) ≤ szQ a + szQ b := szQ_mul (Nat.le_refl _) (Nat.le_refl _)
theorem lQ_div (a b : Rat) : szQ (a / b) ≤ szQ a + szQ b := szQ_div (Nat.le_refl _) (Nat.le_refl _)
theorem lQ_neg (a : Rat) : szQ (-a) ≤ szQ a := szQ_neg (Nat.le_refl _)
theorem l_nb (a : Int) : nb a.natAbs ≤ szI a := Nat.le_refl _
end Go.Via
set_option linter.unusedVariables false
namespace Go.Via
open Go
theorem den_ne (q : Rat) : (q.den : Int) ≠ 0 := by have := q.den_nz; omega
theorem den_pos (q : Rat) : (0 : Int) < q.den := by have := q.den_nz; omega
theorem den_mul_ne (p q : Rat) : (p.den : Int) * q.den ≠ 0 := Int.mul_ne_zero (den_ne p) (den_ne q)
theorem den_T {q : Rat} (h : ((false == false) && (dm q == ⟨#[]⟩)) = true) : I 1 = I q.den := by
  rw [dm_empty] at h; simp at h; rw [h]; rfl
theorem den_F {q : Rat} (h : ((false == false) && (dm q == ⟨#[]⟩)) = false) : Value.agg #[.bool false, .string (dm q)] = I q.den := by
  rw [dm_empty] at h; simp at h
  unfold dm; rw [if_neg h]; exact made_F q.den
def crossX (p q : Rat) : Int := if p.den = q.den then p.num else p.num * q.den
def crossY (p q : Rat) : Int := if p.den = q.den then q.num else q.num * p.den
def crossD (p q : Rat) : Int := if p.den = q.den then p.den else p.den * q.den
theorem cross_T {p q : Rat} (h : ((false == false) && (dm p == dm q)) = true) : Value.tuple #[I p.num, I q.num, I p.den] = .tuple #[I (crossX p q), I (crossY p q), I (crossD p q)] := by
  rw [dm_eq] at h; simp at h; unfold crossX crossY crossD; rw [if_pos h, if_pos h, if_pos h]
theorem cross_F {p q : Rat} (h : ((false == false) && (dm p == dm q)) = false) : Value.tuple #[I (p.num * q.den), I (q.num * p.den), I (p.den * q.den)] = .tuple #[I (crossX p q), I (crossY p q), I (crossD p q)] := by
  rw [dm_eq] at h; simp at h; unfold crossX crossY crossD; rw [if_neg h, if_neg h, if_neg h]
theorem crossD_ne (p q : Rat) : crossD p q ≠ 0 := by
  unfold crossD; split
  · exact den_ne p
  · exact den_mul_ne p q
theorem crossD_pos (p q : Rat) : 0 < crossD p q := by
  unfold crossD; split
  · exact den_pos p
  · exact Int.mul_pos (den_pos p) (den_pos q)
theorem szX {p q : Rat} {m n : Nat} (hp : szQ p ≤ m) (hq : szQ q ≤ n) : szI (crossX p q) ≤ m + n := by
  unfold crossX; split
  · have := szI_num hp; omega
  · exact szI_mul (szI_num hp) (szI_den hq)
theorem szY {p q : Rat} {m n : Nat} (hp : szQ p ≤ m) (hq : szQ q ≤ n) : szI (crossY p q) ≤ m + n := by
  unfold crossY; split
  · have := szI_num hq; omega
  · have := szI_mul (szI_num hq) (szI_den hp); omega
theorem szD {p q : Rat} {m n : Nat} (hp : szQ p ≤ m) (hq : szQ q ≤ n) : szI (crossD p q) ≤ m + n := by
  unfold crossD; split
  · have := szI_den hp; omega
  · exact szI_mul (szI_den hp) (szI_den hq)
theorem szXY {p q : Rat} {m n : Nat} (hp : szQ p ≤ m) (hq : szQ q ≤ n) : szI (crossX p q + crossY p q) ≤ m + n + 1 := by
  have h1 := szX hp hq
  have h2 := szY hp hq
  unfold szI at *
  have h3 := nb_mono (Int.natAbs_add_le (crossX p q) (crossY p q))
  have h4 := nb_add (crossX p q).natAbs (crossY p q).natAbs
  omega
theorem eq_divX (p q : Rat) : p = Rat.divInt (crossX p q) (crossD p q) ∧ q = Rat.divInt (crossY p q) (crossD p q) := by
  unfold crossX crossY crossD
  split
  · rename_i h
    refine ⟨(Rat.num_divInt_den p).symm, ?_⟩
    rw [h]; exact (Rat.num_divInt_den q).symm
  · refine ⟨?_, ?_⟩
    · rw [Rat.divInt_mul_right (den_ne q)]; exact (Rat.num_divInt_den p).symm
    · rw [Int.mul_comm (p.den : Int), Rat.divInt_mul_right (den_ne p)]; exact (Rat.num_divInt_den q).symm
theorem cross_add (p q : Rat) : Rat.divInt (crossX p q + crossY p q) (crossD p q) = p + q := by
  have h := eq_divX p q
  have h0 := crossD_ne p q
  generalize crossX p q = x at *
  generalize crossY p q = y at *
  generalize crossD p q = d at *
  rw [h.1, h.2, Rat.divInt_add_divInt _ _ h0 h0, ← Int.add_mul, Rat.divInt_mul_right h0]
theorem mul_divInt (p q : Rat) : Rat.divInt (p.num * q.num) (p.den * q.den) = p * q := by
  conv => rhs; rw [← Rat.num_divInt_den p, ← Rat.num_divInt_den q]
  rw [Rat.divInt_mul_divInt]
theorem div_divInt (p q : Rat) : Rat.divInt (p.num * q.den) (p.den * q.num) = p / q := by
  rw [Rat.div_def, Rat.inv_def]
  conv => rhs; rw [← Rat.num_divInt_den p]
  rw [Rat.divInt_mul_divInt]
theorem div_err (p q : Rat) : (if q = 0 then (6 : Int) else 0) = (if (p.den : Int) * q.num = 0 then 6 else 0) := by
  by_cases h : q = 0
  · subst h; simp
  · have h1 : q.num ≠ 0 := fun e => h (Rat.num_eq_zero.1 e)
    rw [if_neg h, if_neg (Int.mul_ne_zero (den_ne p) h1)]
theorem cmpQ_self (p : Rat) : cmpQ p p = 0 := by unfold cmpQ; simp [Rat.lt_irrefl]
theorem divInt_lt {x y d : Int} (hd : 0 < d) : Rat.divInt x d < Rat.divInt y d ↔ x < y := by
  have e : ∀ z : Int, Rat.divInt z d = (z : Rat) / (d : Rat) := fun z => Rat.divInt_eq_div z d
  rw [e, e]
  have hd' : (0 : Rat) < (d : Rat) := Rat.intCast_pos.2 hd
  rw [Rat.div_lt_iff hd', Rat.div_mul_cancel (by intro h; rw [h] at hd'; exact absurd hd' (Rat.lt_irrefl))]
  exact Rat.intCast_lt_intCast
theorem cross_cmp (p q : Rat) : cmpI (crossX p q) (crossY p q) = cmpQ p q := by
  have h := eq_divX p q
  have h0 := crossD_pos p q
  unfold cmpI cmpQ
  have h1 : (p < q) ↔ crossX p q < crossY p q := by
    generalize crossX p q = x at *; generalize crossY p q = y at *; generalize crossD p q = d at *
    rw [h.1, h.2]; exact divInt_lt h0
  have h2 : (q < p) ↔ crossY p q < crossX p q := by
    generalize crossX p q = x at *; generalize crossY p q = y at *; generalize crossD p q = d at *
    rw [h.1, h.2]; exact divInt_lt h0
  simp only [h1, h2]
theorem cmpQ_le {p q : Rat} : cmpQ p q ≤ 0 ↔ p ≤ q := by
  unfold cmpQ
  split
  · rename_i h; simp; exact Rat.le_of_lt h
  · split
    · rename_i h1 h2; simp; exact Rat.not_le.2 h2
    · rename_i h1 h2; simp; exact Rat.not_lt.1 h2
theorem cmpQ_ge {p q : Rat} : 0 ≤ cmpQ p q ↔ q ≤ p := by
  unfold cmpQ
  split
  · rename_i h; simp; exact Rat.not_le.2 h
  · rename_i h; split
    · rename_i h2; simp; exact Rat.le_of_lt h2
    · simp; exact Rat.not_lt.1 h
theorem min_T {p q : Rat} (h : decide (cmpQ p q ≤ 0) = true) : min p q = p := by
  simp [cmpQ_le] at h; show (if p ≤ q then p else q) = p; rw [if_pos h]
theorem min_F {p q : Rat} (h : decide (cmpQ p q ≤ 0) = false) : min p q = q := by
  simp [cmpQ_le] at h; show (if p ≤ q then p else q) = q; rw [if_neg h]
theorem max_T {p q : Rat} (h : decide (0 ≤ cmpQ p q) = true) : max p q = p := by
  simp [cmpQ_ge] at h; show (if p ≤ q then q else p) = p
  split
  · rename_i h2; exact Rat.le_antisymm h h2
  · rfl
theorem max_F {p q : Rat} (h : decide (0 ≤ cmpQ p q) = false) : max p q = q := by
  simp [cmpQ_ge] at h; show (if p ≤ q then q else p) = q; rw [if_pos (Rat.le_of_lt (Rat.not_le.1 h))]
theorem Q_zero : Q 0 = .agg #[.bool false, .string ⟨#[]⟩, .bool false, .string ⟨#[]⟩] := by
  show Value.agg #[.bool (decide ((0:Int) < 0)), .string (mag 0), .bool false, .string (dm 0)] = _
  rw [mag_zero, show dm 0 = ⟨#[]⟩ from rfl]; rfl
end Go.Via
set_option linter.unusedVariables false
namespace Go.Via
open Go
theorem mag_at (n i : Nat) (h : i < nb n) : (mag n).data.toList[((i : Int)).toNat]? = some (UInt8.ofNat (n / 256 ^ (nb n - 1 - i) % 256)) := by
  rw [Int.toNat_natCast, mag_list]; exact magL_getElem? n i h
theorem u8_nat (n : Nat) : (((UInt8.ofNat (n % 256)).toNat : Nat) : Int) = ((n % 256 : Nat) : Int) := by
  simp
theorem word_zero (n : Nat) : Value.int .u64 0 = .int .u64 ((n / 256 ^ (nb n - 0) : Nat) : Int) := by
  rw [Nat.sub_zero, Nat.div_eq_of_lt (lt_nb n)]; rfl
theorem word_lt (n i : Nat) (hi : i ≤ nb n) : n / 256 ^ (nb n - i) < 256 ^ i := by
  rw [Nat.div_lt_iff_lt_mul (Nat.pow_pos (by omega)), ← Nat.pow_add, show i + (nb n - i) = nb n by omega]; exact lt_nb n
theorem pow256_le {i k : Nat} (h : i ≤ k) : 256 ^ i ≤ 256 ^ k := Nat.pow_le_pow_right (by omega) h
theorem word_shl (n i : Nat) (hi : i ≤ nb n) (hlt : i < nb n) (h8 : nb n ≤ 8) : n / 256 ^ (nb n - i) * 2 ^ 8 < 18446744073709551616 := by
  have h1 := word_lt n i hi
  have h2 : 256 ^ i ≤ 256 ^ 7 := pow256_le (by omega)
  omega
theorem word_step (n i : Nat) (hlt : i < nb n) : n / 256 ^ (nb n - (i + 1)) = n / 256 ^ (nb n - i) * 256 + n / 256 ^ (nb n - 1 - i) % 256 := by
  have e : nb n - i = (nb n - (i + 1)) + 1 := by omega
  have e2 : nb n - 1 - i = nb n - (i + 1) := by omega
  rw [e, e2, Nat.pow_succ, ← Nat.div_div_eq_div_mul]
  omega
theorem word_or (n i : Nat) (hi : i ≤ nb n) (hlt : i < nb n) (h8 : nb n ≤ 8) :
    IntKind.u64.wrap ((BitVec.ofInt IntKind.u64.bits ((n / 256 ^ (nb n - i) * 2 ^ 8 : Nat) : Int) ||| BitVec.ofInt IntKind.u64.bits ((n / 256 ^ (nb n - 1 - i) % 256 : Nat) : Int)).toNat) = ((n / 256 ^ (nb n - (i + 1)) : Nat) : Int) := by
  have h1 := word_step n i hlt
  have h2 := word_lt n (i + 1) hlt
  have h3 : 256 ^ (i + 1) ≤ 256 ^ 8 := pow256_le (by omega)
  exact or_u64 (m := n / 256 ^ (nb n - i)) 8 (by omega) (by omega) (by omega) (by rw [Nat.mul_comm]) rfl
/-! ### rows given digit by digit -/
def row (n : Nat) (f : Nat → Nat) : List Nat := (List.range n).map f
theorem row_length (n : Nat) (f : Nat → Nat) : (row n f).length = n := by simp [row]
theorem row_get {n : Nat} {f : Nat → Nat} {i : Nat} (h : i < n) : (row n f)[i]? = some (f i) := by simp [row, h]
theorem row_congr {n : Nat} {f g : Nat → Nat} (h : ∀ j, j < n → f j = g j) : row n f = row n g := by
  unfold row; exact List.map_congr_left fun j hj => h j (List.mem_range.1 hj)
theorem row_set {n : Nat} {f g : Nat → Nat} {i v : Nat} (h : ∀ j, j < n → g j = if j = i then v else f j) : (row n f).set i v = row n g := by
  apply List.ext_getElem?
  intro j
  by_cases hj : j < n
  · rw [row_get hj, h j hj]
    by_cases e : i = j
    · subst e; rw [List.getElem?_set_self (by rw [row_length]; exact hj)]; simp
    · rw [List.getElem?_set_ne e, row_get hj, if_neg (Ne.symm e)]
  · rw [List.getElem?_eq_none (by simp [row_length]; omega), List.getElem?_eq_none (by rw [row_length]; omega)]
theorem digs_row {B : Nat} (hB : 2 ≤ B) (n : Nat) : digs B n = row (digs B n).length (fun j => n / B ^ j % B) := by
  apply List.ext_getElem?
  intro j
  by_cases hj : j < (digs B n).length
  · rw [row_get hj, digs_getElem? hB n j hj]
  · rw [List.getElem?_eq_none (by omega), List.getElem?_eq_none (by rw [row_length]; omega)]
theorem val_row (B : Nat) (hB : 1 ≤ B) (n : Nat) : ∀ k, val B (row k (fun j => n / B ^ j % B)) = n % B ^ k
  | 0 => by simp [row, val, Nat.mod_one]
  | k + 1 => by
    have e : row (k + 1) (fun j => n / B ^ j % B) = row k (fun j => n / B ^ j % B) ++ [n / B ^ k % B] := by simp [row, List.range_succ]
    rw [e, val_snoc, row_length, val_row B hB n k, Nat.pow_succ, Nat.mod_mul]
theorem row_lt {B n : Nat} {f : Nat → Nat} (h : ∀ j, f j < B) : ∀ d ∈ row n f, d < B := by
  intro d hd; obtain ⟨j, _, rfl⟩ := List.mem_map.1 hd; exact h j
theorem row_zero (n : Nat) : row n (fun _ => 0) = List.replicate n 0 := by
  apply List.ext_getElem?
  intro j
  by_cases hj : j < n
  · rw [row_get hj]; simp [hj]
  · rw [List.getElem?_eq_none (by rw [row_length]; omega), List.getElem?_eq_none (by simp; omega)]
theorem weak_eq {L L' : List Blk} (h : L = L') : Weak L L' := h ▸ Weak.refl _
/-! ### magnitude -/
def magT (u i j : Nat) : Nat := if j < nb u ∧ nb u - 1 - j < i then u / 256 ^ (nb u - 1 - j) % 256 else 0
theorem magT_zero (u : Nat) : NV .u8 (row 8 (magT u 0)) = [.int .u8 0, .int .u8 0, .int .u8 0, .int .u8 0, .int .u8 0, .int .u8 0, .int .u8 0, .int .u8 0] := by
  rw [row_congr (g := fun _ => 0) (fun j _ => by simp [magT]), row_zero]; rfl
theorem magT_step (u i : Nat) (hi : i < nb u) : (NV .u8 (row 8 (magT u i))).set (nb u - 1 - i) (.int .u8 ((u / 2 ^ (8 * i) % 256 : Nat) : Int)) = NV .u8 (row 8 (magT u (i + 1))) := by
  rw [NV_set, row_set (g := magT u (i + 1))]
  intro j _
  unfold magT
  by_cases e : j = nb u - 1 - i
  · subst e
    rw [if_pos rfl, if_pos (by omega), show nb u - 1 - (nb u - 1 - i) = i by omega, Nat.pow_mul]
  · rw [if_neg e]
    by_cases c : j < nb u ∧ nb u - 1 - j < i
    · rw [if_pos c, if_pos (by omega)]
    · rw [if_neg c, if_neg (by omega)]
theorem magT_end (u : Nat) (h8 : nb u ≤ 8) : (NV .u8 (row 8 (magT u (nb u)))).take (nb u) = NV .u8 (digs 256 u).reverse := by
  rw [NV_take]
  congr 1
  apply List.ext_getElem?
  intro j
  by_cases hj : j < nb u
  · rw [List.getElem?_take, if_pos hj, row_get (by omega)]
    rw [List.getElem?_reverse (by exact hj)]
    have e := digs_getElem? (B := 256) (by omega) u (nb u - 1 - j) (by unfold nb at *; omega)
    unfold nb at e hj ⊢
    rw [e]
    unfold magT
    rw [if_pos (by unfold nb; omega)]; rfl
  · rw [List.getElem?_eq_none (by simp; omega), List.getElem?_eq_none (by simp; unfold nb at hj; omega)]
theorem strN_mag (u : Nat) : strN (digs 256 u).reverse = mag u := rfl
theorem nb_le8 {u : Nat} (h : u < 18446744073709551616) : nb u ≤ 8 := nb_le (by omega)
theorem nb_pos {u : Nat} (h : u ≠ 0) : 0 < nb u := by have := nb_eq_zero (n := u); omega
end Go.Via
set_option linter.unusedVariables false
set_option linter.unusedSimpArgs false
namespace Go.Via
open Go
theorem or_u32' {m n r : Nat} (i : Nat) (hn : n < 2 ^ i) (hr : n + 2 ^ i * m = r) (hb : r < 4294967296) {x y : Int} (hx : x = (n : Int)) (hy : y = ((2 ^ i * m : Nat) : Int)) :
    IntKind.u32.wrap ((BitVec.ofInt IntKind.u32.bits x ||| BitVec.ofInt IntKind.u32.bits y).toNat) = (r : Int) := by
  rw [BitVec.or_comm]; exact or_u32 i hn (by omega) hb hy hx
/-! ### digits to the base 2^32 -/
def B32 : Nat := 4294967296
theorem B32_two : 2 ≤ B32 := by decide
theorem B32_pow (j : Nat) : B32 ^ j = 256 ^ (4 * j) := by rw [show B32 = 256 ^ 4 from rfl, ← Nat.pow_mul]
theorem digB_len (n : Nat) : (digs B32 n).length = (nb n + 3) / 4 := by
  have e1 : (digs B32 n).length ≤ (nb n + 3) / 4 := digs_length_le B32_two (by
    rw [B32_pow]; exact Nat.lt_of_lt_of_le (lt_nb n) (pow256_le (by omega)))
  have e2 : (nb n + 3) / 4 ≤ (digs B32 n).length := by
    by_cases h0 : nb n = 0
    · rw [h0]; omega
    · have hn : nb n ≤ 4 * (digs B32 n).length := nb_le (by rw [← B32_pow]; exact lt_pow_digs B32_two n)
      omega
  omega
def digT (n i j : Nat) : Nat := n % 256 ^ i / 256 ^ (4 * j) % B32
theorem digT_zero (n j : Nat) : digT n 0 j = 0 := by simp [digT, Nat.mod_one]
theorem digT_end (n : Nat) : row ((nb n + 3) / 4) (digT n (nb n)) = digs B32 n := by
  rw [digs_row B32_two n, digB_len]
  refine row_congr fun j _ => ?_
  unfold digT
  rw [Nat.mod_eq_of_lt (lt_nb n), B32_pow]
theorem mod_succ256 (n i : Nat) : n % 256 ^ (i + 1) = n % 256 ^ i + 256 ^ i * (n / 256 ^ i % 256) := by rw [Nat.pow_succ, Nat.mod_mul]
theorem digT_low (n i : Nat) : digT n i (i / 4) < 2 ^ (8 * (i % 4)) := by
  unfold digT
  have h1 : n % 256 ^ i / 256 ^ (4 * (i / 4)) < 256 ^ (i % 4) := by
    rw [Nat.div_lt_iff_lt_mul (Nat.pow_pos (by omega)), ← Nat.pow_add, show i % 4 + 4 * (i / 4) = i by omega]
    exact Nat.mod_lt _ (Nat.pow_pos (by omega))
  have e2 : 2 ^ (8 * (i % 4)) = 256 ^ (i % 4) := by rw [Nat.pow_mul]
  rw [e2]
  exact Nat.lt_of_le_of_lt (Nat.mod_le _ _) h1
theorem digT_sum (n i : Nat) : digT n i (i / 4) + 2 ^ (8 * (i % 4)) * (n / 256 ^ i % 256) < 4294967296 := by
  have h1 := digT_low n i
  have h2 : n / 256 ^ i % 256 < 256 := Nat.mod_lt _ (by omega)
  have h3 : 2 ^ (8 * (i % 4)) * (n / 256 ^ i % 256 + 1) ≤ 2 ^ (8 * (i % 4)) * 256 := Nat.mul_le_mul_left _ h2
  have h4 : 2 ^ (8 * (i % 4)) * 256 ≤ 4294967296 := by
    have : i % 4 = 0 ∨ i % 4 = 1 ∨ i % 4 = 2 ∨ i % 4 = 3 := by omega
    rcases this with e | e | e | e <;> rw [e] <;> decide
  rw [Nat.mul_add] at h3
  omega
theorem digT_step (n i j : Nat) : digT n (i + 1) j = if j = i / 4 then digT n i j + 2 ^ (8 * (i % 4)) * (n / 256 ^ i % 256) else digT n i j := by
  have hb : n / 256 ^ i % 256 < 256 := Nat.mod_lt _ (by omega)
  have hA : n % 256 ^ i < 256 ^ i := Nat.mod_lt _ (Nat.pow_pos (by omega))
  split
  · rename_i e
    subst e
    have hs := digT_sum n i
    have hl := digT_low n i
    unfold digT at *
    rw [mod_succ256]
    generalize n / 256 ^ i % 256 = b at *
    have e1 : 256 ^ i * b = 256 ^ (4 * (i / 4)) * (256 ^ (i % 4) * b) := by
      rw [← Nat.mul_assoc, ← Nat.pow_add, show 4 * (i / 4) + i % 4 = i by omega]
    rw [e1, Nat.add_mul_div_left _ _ (Nat.pow_pos (by omega))]
    have e2 : 2 ^ (8 * (i % 4)) = 256 ^ (i % 4) := by rw [Nat.pow_mul]
    rw [e2] at hs hl ⊢
    have h1 : n % 256 ^ i / 256 ^ (4 * (i / 4)) < 256 ^ (i % 4) := by
      rw [Nat.div_lt_iff_lt_mul (Nat.pow_pos (by omega)), ← Nat.pow_add, show i % 4 + 4 * (i / 4) = i by omega]; exact hA
    have h2 : 256 ^ (i % 4) ≤ B32 := by
      have : 256 ^ (i % 4) ≤ 256 ^ 4 := pow256_le (by omega)
      exact this
    have h3 : n % 256 ^ i / 256 ^ (4 * (i / 4)) % B32 = n % 256 ^ i / 256 ^ (4 * (i / 4)) := Nat.mod_eq_of_lt (by omega)
    rw [h3] at hs ⊢
    exact Nat.mod_eq_of_lt hs
  · rename_i e
    unfold digT
    rw [mod_succ256]
    generalize n / 256 ^ i % 256 = b at *
    by_cases h : j < i / 4
    · have e1 : 256 ^ i * b = 256 ^ (4 * j) * (B32 * (256 ^ (i - 4 * j - 4) * b)) := by
        rw [show B32 = 256 ^ 4 from rfl, ← Nat.mul_assoc, ← Nat.mul_assoc, ← Nat.pow_add, ← Nat.pow_add, show 4 * j + 4 + (i - 4 * j - 4) = i by omega]
      rw [e1, Nat.add_mul_div_left _ _ (Nat.pow_pos (by omega)), Nat.add_mul_mod_self_left]
    · have h1 : i + 1 ≤ 4 * j := by omega
      have h2 : 256 ^ (i + 1) ≤ 256 ^ (4 * j) := pow256_le h1
      have h3 : n % 256 ^ i + 256 ^ i * b < 256 ^ (4 * j) := by
        have : 256 ^ i * (b + 1) ≤ 256 ^ i * 256 := Nat.mul_le_mul_left _ hb
        rw [Nat.mul_add] at this
        rw [Nat.pow_succ] at h2
        omega
      rw [Nat.div_eq_of_lt h3, Nat.div_eq_of_lt (by omega)]
/-! ### the bytes of a number, the highest first, with zeros ahead -/
def bytT (n M p j : Nat) : Nat := if M - 1 - j < p then n / 256 ^ (M - 1 - j) % 256 else 0
theorem bytT_zero (n M j : Nat) : bytT n M 0 j = 0 := by simp [bytT]
theorem bytT_step (n M p v : Nat) (hp : p < M) (hv : v = n / 256 ^ p % 256) : (NV .u8 (row M (bytT n M p))).set (M - 1 - p) (.int .u8 (v : Int)) = NV .u8 (row M (bytT n M (p + 1))) := by
  rw [NV_set, row_set (g := bytT n M (p + 1))]
  intro j hj
  unfold bytT
  by_cases e : j = M - 1 - p
  · subst e; rw [if_pos rfl, if_pos (by omega), show M - 1 - (M - 1 - p) = p by omega, hv]
  · rw [if_neg e]
    by_cases c : M - 1 - j < p
    · rw [if_pos c, if_pos (by omega)]
    · rw [if_neg c, if_neg (by omega)]
theorem natL_zero_cons (l : List UInt8) : natL (0 :: l) = natL l := by
  unfold natL; rw [List.reverse_cons, List.map_append, val_append]; simp [val]
theorem natL_dropWhile : ∀ l : List UInt8, natL (l.dropWhile (· == 0)) = natL l
  | [] => rfl
  | x :: l => by
    by_cases h : x = 0
    · subst h; rw [List.dropWhile_cons_of_pos (by rfl), natL_zero_cons]; exact natL_dropWhile l
    · rw [List.dropWhile_cons_of_neg (by simpa using h)]
theorem head_dropWhile : ∀ l : List UInt8, (l.dropWhile (· == 0)).head? ≠ some 0
  | [] => by simp
  | x :: l => by
    by_cases h : x = 0
    · subst h; rw [List.dropWhile_cons_of_pos (by rfl)]; exact head_dropWhile l
    · rw [List.dropWhile_cons_of_neg (by simpa using h)]; simpa using h
def strU (l : List UInt8) : ByteArray := ⟨l.toArray⟩
theorem strU_size (l : List UInt8) : (strU l).size = l.length := by show l.toArray.size = _; simp
theorem bytT_trim (n M : Nat) (h : n < 256 ^ M) : strU (((row M (bytT n M M)).map UInt8.ofNat).dropWhile (· == 0)) = mag n := by
  have e1 : natL ((row M (bytT n M M)).map UInt8.ofNat) = n := by
    unfold natL
    have e2 : ((row M (bytT n M M)).map UInt8.ofNat).reverse.map UInt8.toNat = row M (fun j => n / 256 ^ j % 256) := by
      rw [← List.map_reverse, map_toNat_ofNat]
      · apply List.ext_getElem?
        intro j
        by_cases hj : j < M
        · rw [List.getElem?_reverse (by rw [row_length]; exact hj), row_length, row_get (by omega), row_get hj]
          unfold bytT
          rw [if_pos (by omega), show M - 1 - (M - 1 - j) = j by omega]
        · rw [List.getElem?_eq_none (by simp [row_length]; omega), List.getElem?_eq_none (by rw [row_length]; omega)]
      · intro d hd
        rw [List.mem_reverse] at hd
        exact row_lt (B := 256) (fun j => by unfold bytT; split <;> omega) d hd
    rw [e2, val_row 256 (by omega), Nat.mod_eq_of_lt h]
  have e3 := magL_natL (head_dropWhile ((row M (bytT n M M)).map UInt8.ofNat))
  rw [natL_dropWhile, e1] at e3
  unfold strU mag
  rw [e3]
theorem strN_eq (l : List Nat) : strN l = strU (l.map UInt8.ofNat) := rfl
theorem digs_get {B n i : Nat} (hB : 2 ≤ B) (h : i < (digs B n).length) : (digs B n)[i]? = some (n / B ^ i % B) := digs_getElem? hB n i h
/-- byte k of digit i -/
theorem digit_byte (n i k : Nat) (hk : k < 4) : n / B32 ^ i % B32 / 2 ^ (8 * k) % 256 = n / 256 ^ (4 * i + k) % 256 := by
  have e : B32 = 256 ^ k * 256 ^ (4 - k) := by rw [← Nat.pow_add, show k + (4 - k) = 4 by omega]; rfl
  have e8 : 2 ^ (8 * k) = 256 ^ k := by rw [Nat.pow_mul]
  rw [B32_pow, e, Nat.mod_mul, e8, Nat.add_mul_div_left _ _ (Nat.pow_pos (by omega)), Nat.div_eq_of_lt (Nat.mod_lt _ (Nat.pow_pos (by omega))), Nat.zero_add, Nat.div_div_eq_div_mul, ← Nat.pow_add]
  have e2 : 256 ^ (4 - k) = 256 * 256 ^ (3 - k) := by rw [show 4 - k = (3 - k) + 1 by omega, Nat.pow_succ, Nat.mul_comm]
  rw [e2, Nat.mod_mul, Nat.add_mul_mod_self_left, Nat.mod_mod]
theorem trim_len {B : Nat} (hB : 2 ≤ B) {l : List Nat} (hl : ∀ d ∈ l, d < B) {m : Nat} (hm : m ≤ l.length) (hv : val B (l.take m) = val B l) (hz : m = 0 ∨ ∃ h : m - 1 < l.length, l[m - 1] ≠ 0) : m = (digs B (val B l)).length := by
  rw [← trim_end hB hl hm hv hz, List.length_take]; omega
theorem trim_step' {B : Nat} {l : List Nat} {m : Nat} (h0 : 0 < m) (hm : m ≤ l.length) (hv : val B (l.take m) = val B l) (h : m - 1 < l.length) (hz : l[m - 1] = 0) : val B (l.take (m - 1)) = val B l := by
  obtain ⟨k, rfl⟩ : ∃ k, m = k + 1 := ⟨m - 1, by omega⟩
  exact trim_step hm hv (by simpa using hz)
/-- what is left over of a row when it is trimmed -/
theorem trim_take {B : Nat} (hB : 2 ≤ B) : ∀ {l : List Nat}, (∀ d ∈ l, d < B) → l.take (digs B (val B l)).length = digs B (val B l) := by
  have key : ∀ (n : Nat) (l : List Nat), l.length = n → (∀ d ∈ l, d < B) → ∃ m, m ≤ l.length ∧ l.take m = digs B (val B l) := by
    intro n
    induction n with
    | zero => intro l hl h; have : l = [] := List.eq_nil_of_length_eq_zero hl; subst this; exact ⟨0, by simp, by simp [val, digs_zero]⟩
    | succ n ih =>
      intro l hl h
      by_cases hz : l[n]'(by omega) = 0
      · have e : l = l.take n ++ [0] := by
          conv => lhs; rw [← List.take_append_drop n l]
          rw [List.drop_eq_getElem_cons (by omega), hz, List.drop_eq_nil_of_le (by omega)]
        obtain ⟨m, h1, h2⟩ := ih (l.take n) (by simp; omega) (all_take h n)
        have hv : val B l = val B (l.take n) := by
          conv => lhs; rw [e]
          rw [val_snoc]; omega
        refine ⟨m, by simp at h1; omega, ?_⟩
        rw [hv, ← h2, List.take_take]; congr 1; simp at h1; omega
      · exact ⟨n + 1, by omega, trim_end hB h (by omega) (by rw [List.take_of_length_le (by omega)]) (.inr ⟨by omega, by simpa using hz⟩)⟩
  intro l h
  obtain ⟨m, h1, h2⟩ := key _ l rfl h
  have : m = (digs B (val B l)).length := by rw [← h2, List.length_take]; omega
  rw [← this]; exact h2
end Go.Via
/-
  DERIVED: THE SHELF's CONTRACTS AT THIS DUMP, IN PLAIN WORDS (tools/lay-plain.mjs out of 'TryzShelf.lean', which tools/lay-shelf.mjs wrote): THE SAME DECLARATIONS UNDER THE SAME NAMES: 'import', 'namespace', 'open', 'def', 'theorem' AND NOTHING ELSE: no command of the shelf's: FOR A HAND-IN. Each laying: the table of numbers ('.._ren') and one theorem, a field a fact of the dump's own or the kernel's comparison; each contract: ONE APPLICATION.
-/
namespace Go.Proofs
open Go.Shelf
def Tryz.lays133_ren : Go.Shelf.Ren := ⟨fun | 133 => 138 | 128 => 143 | n => n, fun | 51 => 133 | 3 => 3 | 4 => 4 | 46 => 125 | 5 => 5 | 9 => 9 | n => n, fun | n => n⟩
theorem Tryz.lays133 : Go.Proofs.Lays.n133 Tryz.prog Tryz.lays133_ren := {
  mixed := by kernel_rfl
  f128 := Tryz.func143.trans (congrArg some (by kernel_rfl))
  f133 := Tryz.func138.trans (congrArg some (by kernel_rfl))
  t3 := Tryz.underlying3
  a3 := Tryz.isAgg3
  z3 := Tryz.sizeOf3
  v3 := Tryz.zeroValue3
  t4 := Tryz.underlying4
  a4 := Tryz.isAgg4
  z4 := Tryz.sizeOf4
  v4 := Tryz.zeroValue4
  t5 := Tryz.underlying5
  a5 := Tryz.isAgg5
  z5 := Tryz.sizeOf5
  v5 := Tryz.zeroValue5
  t9 := Tryz.underlying9
  a9 := Tryz.isAgg9
  z9 := Tryz.sizeOf9
  v9 := Tryz.zeroValue9
  t46 := Tryz.underlying125
  a46 := Tryz.isAgg125
  z46 := Tryz.sizeOf125
  v46 := Tryz.zeroValue125
  t51 := Tryz.underlying133
  a51 := Tryz.isAgg133
  z51 := Tryz.sizeOf133
  v51 := Tryz.zeroValue133 }
/-- bits.LeadingZeros32: "LeadingZeros32 returns the number of leading zero bits in x; the result is 32 for x == 0.": IT RETURNS '32 - Lib.bitLen x'; the world is as it was. ITS CALLEE bits.Len32 IS MET BY ITS OWN CONTRACT OFF THE SHELF (lay that first): entered in place it sends the kernel out of memory. (LAID: no walk: one application.) -/
theorem Tryz.bits_LeadingZeros32 (x : Int) (w : World) (h0 : 0 ≤ x) (h1 : x ≤ 4294967295) :
    Calls Tryz.prog 138 #[.int .u32 x] w fun e w' => e = .returned (.int .i64 (32 - (Lib.bitLen x.toNat : Int))) ∧ w' = w := Any.bits_LeadingZeros32 Tryz.lays133 x w h0 h1
def Tryz.lays106_ren : Go.Shelf.Ren := ⟨fun | 106 => 133 | 213 => 142 | 265 => 148 | n => n, fun | 9 => 9 | 3 => 3 | n => n, fun | n => n⟩
theorem Tryz.lays106 : Go.Proofs.Lays.n106 Tryz.prog Tryz.lays106_ren := {
  mixed := by kernel_rfl
  f106 := Tryz.func133.trans (congrArg some (by kernel_rfl))
  f213 := Tryz.func142.trans (congrArg some (by kernel_rfl))
  f265 := Tryz.func148.trans (congrArg some (by kernel_rfl))
  t3 := Tryz.underlying3
  a3 := Tryz.isAgg3
  z3 := Tryz.sizeOf3
  v3 := Tryz.zeroValue3
  t9 := Tryz.underlying9
  a9 := Tryz.isAgg9
  z9 := Tryz.sizeOf9
  v9 := Tryz.zeroValue9 }
open Go.RowKit in
/-- strings.Compare: "Compare returns an integer comparing two strings lexicographically. The result will be 0 if a == b, -1 if a < b, and +1 if a > b.": IT RETURNS 'Lib.compareBytes a b'; the world is as it was. (LAID: no walk: one application.) -/
theorem Tryz.strings_Compare (a b : ByteArray) (w : World) :
    Calls Tryz.prog 133 #[.string a, .string b] w fun e w' => e = .returned (.int .i64 (Lib.compareBytes a.data.toList b.data.toList)) ∧ w' = w := Any.strings_Compare Tryz.lays106 a b w
def Tryz.lays129_ren : Go.Shelf.Ren := ⟨fun | 129 => 136 | n => n, fun | 53 => 109 | 3 => 3 | 4 => 4 | 46 => 125 | 5 => 5 | 9 => 9 | n => n, fun | n => n⟩
theorem Tryz.lays129 : Go.Proofs.Lays.n129 Tryz.prog Tryz.lays129_ren := {
  mixed := by kernel_rfl
  f129 := Tryz.func136.trans (congrArg some (by kernel_rfl))
  t3 := Tryz.underlying3
  a3 := Tryz.isAgg3
  z3 := Tryz.sizeOf3
  v3 := Tryz.zeroValue3
  t4 := Tryz.underlying4
  a4 := Tryz.isAgg4
  z4 := Tryz.sizeOf4
  v4 := Tryz.zeroValue4
  t5 := Tryz.underlying5
  a5 := Tryz.isAgg5
  z5 := Tryz.sizeOf5
  v5 := Tryz.zeroValue5
  t9 := Tryz.underlying9
  a9 := Tryz.isAgg9
  z9 := Tryz.sizeOf9
  v9 := Tryz.zeroValue9
  t46 := Tryz.underlying125
  a46 := Tryz.isAgg125
  z46 := Tryz.sizeOf125
  v46 := Tryz.zeroValue125
  t53 := Tryz.underlying109
  a53 := Tryz.isAgg109
  z53 := Tryz.sizeOf109
  v53 := Tryz.zeroValue109 }
/-- bits.Len64: "Len64 returns the minimum number of bits required to represent x; the result is 0 for x == 0.": IT RETURNS 'Lib.bitLen x'; the world is as it was. ('h0', 'h1': x is a uint64.) (LAID: no walk: one application.) -/
theorem Tryz.bits_Len64 (x : Int) (w : World) (h0 : 0 ≤ x) (h1 : x ≤ 18446744073709551615) :
    Calls Tryz.prog 136 #[.int .u64 x] w fun e w' => e = .returned (.int .i64 (Lib.bitLen x.toNat)) ∧ w' = w := Any.bits_Len64 Tryz.lays129 x w h0 h1
def Tryz.lays264_ren : Go.Shelf.Ren := ⟨fun | 264 => 134 | n => n, fun | 53 => 109 | 46 => 125 | n => n, fun | n => n⟩
theorem Tryz.lays264 : Go.Proofs.Lays.n264 Tryz.prog Tryz.lays264_ren := {
  mixed := by kernel_rfl
  f264 := Tryz.func134.trans (congrArg some (by kernel_rfl))
  t46 := Tryz.underlying125
  a46 := Tryz.isAgg125
  z46 := Tryz.sizeOf125
  v46 := Tryz.zeroValue125
  t53 := Tryz.underlying109
  a53 := Tryz.isAgg109
  z53 := Tryz.sizeOf109
  v53 := Tryz.zeroValue109 }
open Go.RowKit Go.Lib in
theorem Tryz.bits_Mul64 (x y : Nat) (hx : x < 18446744073709551616) (hy : y < 18446744073709551616) (w : World) :
    Calls Tryz.prog 134 #[.int .u64 x, .int .u64 y] w fun e w' => e = .returned (.tuple #[.int .u64 ((x * y / 18446744073709551616 : Nat) : Int), .int .u64 ((x * y % 18446744073709551616 : Nat) : Int)]) ∧ w' = w := Any.bits_Mul64 Tryz.lays264 x y hx hy w
end Go.Proofs
set_option linter.unusedVariables false
namespace Go.Via
open Go Go.RowKit
theorem pcall_of {P : Program} {f : Nat} {args : Array Value} {v : Value} (hp : plainF P f = true) (h : ∀ w, Calls P f args w fun e w' => e = .returned v ∧ w' = w) : PCall P f args v :=
  ⟨hp, fun w => (h w).mono (by rintro e w' ⟨h1, rfl⟩; exact ⟨h1, Below.refl _ _⟩)⟩
theorem bitLen_bounds {x : Nat} (h : x < 2 ^ 64) (h0 : x ≠ 0) : 1 ≤ Lib.bitLen x ∧ 2 ^ (Lib.bitLen x - 1) ≤ x ∧ x < 2 ^ Lib.bitLen x := Lib.bitLenAux_bounds 64 x h h0
theorem bitLen_nb {x : Nat} (h : x < 18446744073709551616) (h0 : x ≠ 0) : (Lib.bitLen x + 7) / 8 = nb x := by
  obtain ⟨h1, h2, h3⟩ := bitLen_bounds (by omega) h0
  generalize hb : Lib.bitLen x = b at *
  have e1 : nb x ≤ (b + 7) / 8 := nb_le (by
    have : (256 : Nat) ^ ((b + 7) / 8) = 2 ^ (8 * ((b + 7) / 8)) := by rw [Nat.pow_mul]
    rw [this]
    exact Nat.lt_of_lt_of_le h3 (Nat.pow_le_pow_right (by omega) (by omega)))
  have e2 : (b + 7) / 8 ≤ nb x := by
    have : (b - 1) / 8 < nb x := le_of_pow_le (by omega) (by
      have : (256 : Nat) ^ ((b - 1) / 8) = 2 ^ (8 * ((b - 1) / 8)) := by rw [Nat.pow_mul]
      rw [this]
      exact Nat.le_trans (Nat.pow_le_pow_right (by omega) (by omega)) h2)
    omega
  omega
/-- two lists of bytes of one length -/
theorem compareBytes_val : ∀ (a b : List Nat), a.length = b.length → (∀ d ∈ a, d < 256) → (∀ d ∈ b, d < 256) →
    Lib.compareBytes (a.reverse.map UInt8.ofNat) (b.reverse.map UInt8.ofNat) = if val 256 a < val 256 b then -1 else if val 256 b < val 256 a then 1 else 0 := by
  have key : ∀ (a b : List UInt8), a.length = b.length → Lib.compareBytes a b = if natL a < natL b then -1 else if natL b < natL a then 1 else 0 := by
    intro a
    induction a with
    | nil => intro b h; cases b with
      | nil => simp [Lib.compareBytes]
      | cons y b => simp at h
    | cons x a ih =>
      intro b h
      cases b with
      | nil => simp at h
      | cons y b =>
        have hl : a.length = b.length := by simpa using h
        have ea : natL (x :: a) = natL a + 256 ^ a.length * x.toNat := by
          unfold natL; rw [List.reverse_cons, List.map_append, val_append]; simp [val]
        have eb : natL (y :: b) = natL b + 256 ^ a.length * y.toNat := by
          unfold natL; rw [List.reverse_cons, List.map_append, val_append]; simp [val, hl]
        have la : natL a < 256 ^ a.length := by
          have := val_lt (B := 256) (by omega) (bytes_lt a); simpa [natL] using this
        have lb : natL b < 256 ^ a.length := by
          have := val_lt (B := 256) (by omega) (bytes_lt b); rw [hl]; simpa [natL] using this
        have hx : ∀ {p q r s M : Nat}, p < M → q < M → r < s → p + M * r < q + M * s := by
          intro p q r s M h1 h2 h3
          have : M * (r + 1) ≤ M * s := Nat.mul_le_mul_left M h3
          rw [Nat.mul_add] at this; omega
        rw [Lib.compareBytes, ea, eb]
        by_cases h1 : x < y
        · have := hx la lb (UInt8.lt_iff_toNat_lt.1 h1)
          rw [if_pos h1, if_pos this]
        · by_cases h2 : y < x
          · have := hx lb la (UInt8.lt_iff_toNat_lt.1 h2)
            rw [if_neg h1, if_pos h2, if_neg (by omega), if_pos this]
          · have e : x = y := by
              apply UInt8.toNat_inj.1
              have := mt UInt8.lt_iff_toNat_lt.2 h1; have := mt UInt8.lt_iff_toNat_lt.2 h2; omega
            subst e
            rw [if_neg h1, if_neg h2, ih b hl]
            simp only [Nat.add_lt_add_iff_right]
  intro a b hl ha hb
  rw [key _ _ (by simp [hl])]
  unfold natL
  simp only [List.map_reverse, List.reverse_reverse]
  rw [map_toNat_ofNat ha, map_toNat_ofNat hb]
theorem compare_mag {m n : Nat} (h : nb m = nb n) : Lib.compareBytes (mag m).data.toList (mag n).data.toList = if m < n then -1 else if n < m then 1 else 0 := by
  rw [mag_list, mag_list]
  have := compareBytes_val (digs 256 m) (digs 256 n) h (digs_lt (by omega)) (digs_lt (by omega))
  rw [val_digs (by omega), val_digs (by omega)] at this
  exact this
end Go.Via
namespace Go.Proofs.YthnlafhnpphdhaaGreatDoor
open Go Go.RowKit Go.Via
theorem c_math_bits_Len64 (x : Nat) (h : x < 18446744073709551616) : PCall Tryz.prog 136 #[.int .u64 x] (.int .i64 (Lib.bitLen x : Nat)) :=
  pcall_of (by kernel_rfl) fun w => by have := Tryz.bits_Len64 x w (by omega) (by omega); simpa using this
theorem c_math_bits_LeadingZeros32 (x : Nat) (h : x < 4294967296) : PCall Tryz.prog 138 #[.int .u32 x] (.int .i64 (32 - (Lib.bitLen x : Int))) :=
  pcall_of (by kernel_rfl) fun w => by have := Tryz.bits_LeadingZeros32 x w (by omega) (by omega); simpa using this
theorem c_math_bits_Mul64 (x y : Nat) (hx : x < 18446744073709551616) (hy : y < 18446744073709551616) : PCall Tryz.prog 134 #[.int .u64 x, .int .u64 y] (.tuple #[.int .u64 ((x * y / 18446744073709551616 : Nat) : Int), .int .u64 ((x * y % 18446744073709551616 : Nat) : Int)]) :=
  pcall_of (by kernel_rfl) fun w => Tryz.bits_Mul64 x y hx hy w
theorem c_strings_Compare (a b : ByteArray) : PCall Tryz.prog 133 #[.string a, .string b] (.int .i64 (Lib.compareBytes a.data.toList b.data.toList)) :=
  pcall_of (by kernel_rfl) fun w => Tryz.strings_Compare a b w
theorem r_add64 {bl : List Nat} {ops : Array Oper} {K : St → Prop} {rest : List Oper} {nt : Nat} {t : List (Nat × Value)} {L : List Blk} {d : Nat} {ty : TypeId} {pos : String} {af : Array Edge} {g : Option (Nat × Bool)} {x y z : Operand} {ts : Array TypeId} (m n : Nat) (hd : Nat.blt d nt = true) (hg : wantedS ops ⟨some d, .call { callee := .value (.func 129), args := #[x, y, z], argTypes := ts }, ty, pos, af, g⟩ t = some true)
    (hx : ev t x = some (.int .u64 (m : Int))) (hy : ev t y = some (.int .u64 (n : Int))) (hz : ev t z = some (.int .u64 0)) (h : Run Tryz.prog bl ops rest ⟨nt, (d, .tuple #[.int .u64 (((m + n) % 18446744073709551616 : Nat) : Int), .int .u64 (((m + n) / 18446744073709551616 : Nat) : Int)]) :: t, L⟩ K) :
    Run Tryz.prog bl ops (⟨some d, .call { callee := .value (.func 129), args := #[x, y, z], argTypes := ts }, ty, pos, af, g⟩ :: rest) ⟨nt, t, L⟩ K :=
  run_qc hd hg rfl (fun B a w hrel => by
    have h1 : (callFunc 129 #[.int .u64 (m : Int), .int .u64 (n : Int), .int .u64 0]).run Tryz.prog w = .ok (.value (.tuple #[.int .u64 (((m + n) % 18446744073709551616 : Nat) : Int), .int .u64 (((m + n) / 18446744073709551616 : Nat) : Int)])) w := by
      rw [run_callFunc_extern Tryz.func129 (by kernel_rfl) (by kernel_rfl) (by kernel_rfl) (e := add64Entry) (by kernel_rfl), run_add64 m n 0 (by omega) (by omega) (by omega) (by omega)]
      simp only [Result.andThen]
      congr 5 <;> omega
    have hv : (#[x, y, z] : Array Operand).map a.eval = #[.int .u64 (m : Int), .int .u64 (n : Int), .int .u64 0] := by
      show (([x, y, z] : List Operand).toArray).map a.eval = _
      rw [List.map_toArray, List.map_cons, List.map_cons, List.map_cons, List.map_nil, hrel.ev hx, hrel.ev hy, hrel.ev hz]
    have hf : a.eval (.func 129) = .func (.func 129) #[] #[] := rfl
    simp only [execOp, resolve, hf, hv, Deferred.ofValue, invoke, Sem.run_bind, Sem.run_pure, Result.andThen_ok]
    simpa using h1) h
end Go.Proofs.YthnlafhnpphdhaaGreatDoor
