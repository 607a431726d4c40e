/-
  Part 1: lemmas, and walks through the functions that the laws of chapter 26 call. Each theorem states its own conditions.
-/
import GoSem.Core.World
import Derived.MapKept
import Derived.WalkKit
import Derived.WalkSpells
import Derived.WalkLawsBesides
import Derived.Deep.LoopGhost
set_option linter.unusedVariables false
set_option linter.unusedVariables false
namespace Go.Via
open Go
/-! ### what a map holds, as a number: a known block of a map bears it in the place of its type -/
inductive MT where
  | l (n : Nat)
  | p (a b : MT)
def pr (a b : Nat) : Nat := 2 ^ a * (2 * b + 1)
theorem pr_inj : ∀ {a b c d : Nat}, pr a b = pr c d → a = c ∧ b = d
  | 0, b, 0, d, h => by simp [pr] at h; exact ⟨rfl, by omega⟩
  | 0, b, c + 1, d, h => by
    unfold pr at h
    rw [Nat.pow_succ, Nat.pow_zero, Nat.one_mul, Nat.mul_comm (2 ^ c) 2, Nat.mul_assoc] at h
    omega
  | a + 1, b, 0, d, h => by
    unfold pr at h
    rw [Nat.pow_succ, Nat.pow_zero, Nat.one_mul, Nat.mul_comm (2 ^ a) 2, Nat.mul_assoc] at h
    omega
  | a + 1, b, c + 1, d, h => by
    unfold pr at h
    rw [Nat.pow_succ, Nat.pow_succ, Nat.mul_comm (2 ^ a) 2, Nat.mul_comm (2 ^ c) 2, Nat.mul_assoc, Nat.mul_assoc] at h
    have h2 : pr a b = pr c d := by unfold pr; omega
    obtain ⟨h3, h4⟩ := pr_inj h2
    exact ⟨by omega, h4⟩
def MT.num : MT → Nat
  | .l n => 2 * n
  | .p a b => 2 * pr a.num b.num + 1
theorem MT.num_inj : ∀ {x y : MT}, x.num = y.num → x = y
  | .l a, .l b, h => by simp only [MT.num] at h; rw [show a = b by omega]
  | .l a, .p b c, h => by simp only [MT.num] at h; omega
  | .p b c, .l a, h => by simp only [MT.num] at h; omega
  | .p a b, .p c d, h => by
    simp only [MT.num] at h
    obtain ⟨h1, h2⟩ := pr_inj (a := a.num) (b := b.num) (c := c.num) (d := d.num) (by omega)
    rw [MT.num_inj h1, MT.num_inj h2]
def mtL {α : Type} (f : α → MT) : List α → MT
  | [] => .l 0
  | x :: xs => .p (f x) (mtL f xs)
theorem mtL_inj {α : Type} {f : α → MT} {Q : α → Prop} (hf : ∀ x y, Q x → Q y → f x = f y → x = y) : ∀ {xs ys : List α}, (∀ x ∈ xs, Q x) → (∀ y ∈ ys, Q y) → mtL f xs = mtL f ys → xs = ys
  | [], [], _, _, _ => rfl
  | [], _ :: _, _, _, h => by cases h
  | _ :: _, [], _, _, h => by cases h
  | x :: xs, y :: ys, hx, hy, h => by
    simp only [mtL, MT.p.injEq] at h
    rw [hf x y (hx x (by simp)) (hy y (by simp)) h.1, mtL_inj hf (fun z hz => hx z (by simp [hz])) (fun z hz => hy z (by simp [hz])) h.2]
def mtI (z : Int) : MT := if z < 0 then .p (.l 1) (.l z.natAbs) else .p (.l 0) (.l z.natAbs)
theorem mtI_inj {a b : Int} (h : mtI a = mtI b) : a = b := by
  unfold mtI at h
  split at h <;> split at h <;> simp at h <;> omega
def ikN : IntKind → Nat
  | .i8 => 0 | .i16 => 1 | .i32 => 2 | .i64 => 3 | .u8 => 4 | .u16 => 5 | .u32 => 6 | .u64 => 7
theorem ikN_inj : ∀ {a b : IntKind}, ikN a = ikN b → a = b := by intro a b; cases a <;> cases b <;> simp [ikN]
/-- the values that a known map may hold as keys and elements -/
def Value.simple0 : Value → Bool
  | .bool _ | .int .. | .string _ => true
  | _ => false
def Value.simple : Value → Bool
  | .agg xs => xs.toList.all Value.simple0
  | v => Value.simple0 v
def mt0 : Value → MT
  | .bool b => .p (.l 0) (.l b.toNat)
  | .int k z => .p (.l 1) (.p (.l (ikN k)) (mtI z))
  | .string s => .p (.l 2) (mtL (fun u : UInt8 => .l u.toNat) s.data.toList)
  | _ => .l 9
theorem mt0_inj {x y : Value} (hx : Value.simple0 x = true) (hy : Value.simple0 y = true) (h : mt0 x = mt0 y) : x = y := by
  cases x <;> cases y <;> first | (simp [Value.simple0] at hx; done) | (simp [Value.simple0] at hy; done) | skip
  case bool.bool a b => simp [mt0] at h; cases a <;> cases b <;> simp at h <;> rfl
  case int.int k a j b =>
    simp [mt0] at h
    rw [ikN_inj h.1, mtI_inj h.2]
  case string.string a b =>
    simp only [mt0, MT.p.injEq, true_and] at h
    have := mtL_inj (Q := fun _ => True) (fun x y _ _ h => UInt8.toNat_inj.1 (MT.l.inj h)) (fun _ _ => trivial) (fun _ _ => trivial) h
    have h2 : a.data = b.data := Array.toList_inj.1 this
    cases a; cases b; simp at h2; rw [h2]
  all_goals (simp [mt0] at h)
def mt1 : Value → MT
  | .agg xs => .p (.l 8) (mtL mt0 xs.toList)
  | v => mt0 v
theorem mt1_inj {x y : Value} (hx : Value.simple x = true) (hy : Value.simple y = true) (h : mt1 x = mt1 y) : x = y := by
  have key : ∀ (xs : Array Value) (v : Value), Value.simple0 v = true → mt1 (.agg xs) ≠ mt0 v := fun xs v hv e => by
    cases v <;> simp [Value.simple0] at hv <;> simp [mt1, mt0] at e
  have one : ∀ v : Value, (∀ xs, v ≠ .agg xs) → Value.simple v = Value.simple0 v ∧ mt1 v = mt0 v := fun v hv => by
    cases v <;> first | exact ⟨rfl, rfl⟩ | exact absurd rfl (hv _)
  by_cases cx : ∃ xs, x = .agg xs
  · obtain ⟨xs, rfl⟩ := cx
    by_cases cy : ∃ ys, y = .agg ys
    · obtain ⟨ys, rfl⟩ := cy
      simp only [mt1, MT.p.injEq, true_and] at h
      have := mtL_inj (Q := fun v => Value.simple0 v = true) (fun _ _ h1 h2 => mt0_inj h1 h2) (fun v hv => List.all_eq_true.1 hx v hv) (fun v hv => List.all_eq_true.1 hy v hv) h
      rw [Array.toList_inj.1 this]
    · obtain ⟨e1, e2⟩ := one y (fun ys e => cy ⟨ys, e⟩)
      rw [e2] at h
      exact absurd h (key xs y (by rw [← e1]; exact hy))
  · obtain ⟨e1, e2⟩ := one x (fun ys e => cx ⟨ys, e⟩)
    by_cases cy : ∃ ys, y = .agg ys
    · obtain ⟨ys, rfl⟩ := cy
      rw [e2] at h
      exact absurd h.symm (key ys x (by rw [← e1]; exact hx))
    · obtain ⟨d1, d2⟩ := one y (fun ys e => cy ⟨ys, e⟩)
      rw [e2, d2] at h
      exact mt0_inj (by rw [← e1]; exact hx) (by rw [← d1]; exact hy) h
def simpleL (l : List (Value × Value)) : Bool := l.all fun p => Value.simple p.1 && Value.simple p.2
def mtM (l : List (Value × Value)) : MT := mtL (fun p => .p (mt1 p.1) (mt1 p.2)) l
theorem mtM_inj {l m : List (Value × Value)} (hl : simpleL l = true) (hm : simpleL m = true) (h : mtM l = mtM m) : l = m :=
  mtL_inj (Q := fun p => Value.simple p.1 = true ∧ Value.simple p.2 = true) (fun x y h1 h2 h => Prod.ext (mt1_inj h1.1 h2.1 (MT.p.inj h).1) (mt1_inj h1.2 h2.2 (MT.p.inj h).2))
    (fun p hp => by have := List.all_eq_true.1 hl p hp; simpa using this) (fun p hp => by have := List.all_eq_true.1 hm p hp; simpa using this) h
theorem mE_ex : ∃ f : List (Value × Value) → Nat, ∀ l m, simpleL l = true → simpleL m = true → f l = f m → l = m :=
  ⟨fun l => (mtM l).num, fun _ _ hl hm h => mtM_inj hl hm (MT.num_inj h)⟩
/-- the number of what a map holds -/
noncomputable def mE0 : List (Value × Value) → Nat := Classical.choose mE_ex
/-- no type has such a number -/
abbrev mapMark : Nat := 1000000
noncomputable def mE (l : List (Value × Value)) : Nat := mapMark + 2 * mE0 l
theorem mE_ge (l : List (Value × Value)) : ¬ mE l < mapMark := by unfold mE; omega
theorem mE_inj {l m : List (Value × Value)} (hl : simpleL l = true) (hm : simpleL m = true) (h : mE l = mE m) : l = m := Classical.choose_spec mE_ex l m hl hm (by unfold mE at h; unfold mE0 at h; omega)
/-- .. and which of its entries is about to be written -/
noncomputable def mQ (born : Nat) (key : Value) (l : List (Value × Value)) : Nat := mapMark + 2 * mE0 ((.int .i64 born, key) :: l) + 1
theorem mQ_ge (born : Nat) (key : Value) (l : List (Value × Value)) : ¬ mQ born key l < mapMark := by unfold mQ; omega
theorem mQ_inj {b c : Nat} {j k : Value} {l m : List (Value × Value)} (hj : Value.simple j = true) (hk : Value.simple k = true) (hl : simpleL l = true) (hm : simpleL m = true) (h : mQ b j l = mQ c k m) : b = c ∧ j = k ∧ l = m := by
  have hs : ∀ (b : Nat) (j : Value) (l : List (Value × Value)), Value.simple j = true → simpleL l = true → simpleL ((.int .i64 b, j) :: l) = true := fun b j l hj hl => by
    unfold simpleL at *
    rw [List.all_cons, hl, hj]; rfl
  have := Classical.choose_spec mE_ex _ _ (hs b j l hj hl) (hs c k m hk hm) (by unfold mQ at h; unfold mE0 at h; omega)
  simp only [List.cons.injEq, Prod.mk.injEq, Value.int.injEq, true_and] at this
  exact ⟨by omega, this.1.2, this.2⟩
theorem mEQ_ne {l m : List (Value × Value)} {b : Nat} {k : Value} : mE l ≠ mQ b k m := by unfold mE mQ; omega
end Go.Via
set_option linter.unusedVariables false
namespace Go.Via
open Go Go.RowKit
/-- A block that is known: where it lies (nowhere: it has no cells), its element type, its first cells, how many there are, and whether it is the call's own. -/
structure Blk where
  base : Option Nat
  e : TypeId
  cs : List Value
  n : Nat
  own : Bool
/-- A state: how many slots, what some slots hold (the latest first), the blocks. -/
structure St where
  nt : Nat
  t : List (Nat × Value)
  L : List Blk
def look : List (Nat × Value) → Nat → Option Value
  | [], _ => none
  | (d, v) :: l, k => bif d == k then some v else look l k
/-- block number g of w is as b says -/
def CellsAt (w : World) (b : Blk) (g : Nat) : Prop :=
  ∃ cur : Array Value, (∃ (e' : TypeId) (fr : Nat × Nat), w.heap[g]? = some (.cells cur e' fr) ∧ (b.own = true → e' = b.e ∧ fr = (0, 0)) ∧ b.e < mapMark) ∧ cur.size = b.n ∧ cur.toList.take b.cs.length = b.cs
/-- the number says what the map holds, and perhaps the stamp of the entry that is about to be written -/
def Holds (e : Nat) (l : List (Value × Value)) (es : Array MapEntry) : Prop :=
  e = mE l ∨ ∃ (q : Nat) (z : MapEntry), e = mQ z.born z.key l ∧ es[q]? = some z ∧ Value.simple z.key = true
/-- .. a map, which holds what its number says -/
def MapAt (w : World) (b : Blk) (g : Nat) : Prop :=
  ∃ (l : List (Value × Value)) (es : Array MapEntry) (clock : Nat), Holds b.e l es ∧ b.cs = [] ∧ b.n = 0 ∧ simpleL l = true ∧ w.heap[g]? = some (.map es clock) ∧ es.toList.map (fun e => (e.key, e.val)) = l ∧ MapKept.Stamped es clock
def BlkAt (B w : World) (b : Blk) (g : Nat) : Prop := (CellsAt w b g ∨ MapAt w b g) ∧ (b.own = true → B.heap.size ≤ g)
theorem BlkAt.cells {B w : World} {b : Blk} {g : Nat} (h : BlkAt B w b g) (hn : b.n ≠ 0 ∨ b.cs ≠ []) : CellsAt w b g := by
  rcases h.1 with h | ⟨_, _, _, _, h1, h2, _⟩
  · exact h
  · rcases hn with hn | hn
    · exact absurd h2 hn
    · exact absurd h1 hn
theorem BlkAt.lt {B w : World} {b : Blk} {g : Nat} (h : BlkAt B w b g) : g < w.heap.size := by
  rcases h.1 with ⟨cur, ⟨_, _, h3, _⟩, _⟩ | ⟨_, _, _, _, _, _, _, h3, _⟩ <;> exact (Array.getElem?_eq_some_iff.1 h3).1
theorem BlkAt.heap {B w w' : World} {b : Blk} {g : Nat} (h : BlkAt B w b g) (he : w'.heap[g]? = w.heap[g]?) : BlkAt B w' b g := by
  refine ⟨?_, h.2⟩
  rcases h.1 with ⟨cur, ⟨e', fr, h3, h4⟩, h5⟩ | ⟨l, es, c, a1, a2, a3, a4, h3, a5⟩
  · exact .inl ⟨cur, ⟨e', fr, by rw [he]; exact h3, h4⟩, h5⟩
  · exact .inr ⟨l, es, c, a1, a2, a3, a4, by rw [he]; exact h3, a5⟩
structure LRel (B : World) (L : List Blk) (w : World) : Prop where
  below : Below B.heap.size B w
  blk : ∀ (k : Nat) (b : Blk), L[k]? = some b → (∀ g, b.base = some g → BlkAt B w b g) ∧ (b.base = none → b.cs = [] ∧ b.n = 0)
  apart : ∀ (i j g : Nat) (bi bj : Blk), i ≠ j → L[i]? = some bi → L[j]? = some bj → bi.own = true → bi.base = some g → bj.base ≠ some g
structure Rel (B : World) (s : St) (a : Act) (w : World) : Prop where
  df : a.defers = []
  size : a.tmps.size = s.nt
  tmp : ∀ (d : Nat) (v : Value), look s.t d = some v → a.tmps[d]? = some v
  mem : LRel B s.L w
def St.put (s : St) (dst : Option Nat) (v : Value) : St :=
  match dst with
  | some d => { s with t := (d, v) :: s.t }
  | none => s
def ev (t : List (Nat × Value)) : Operand → Option Value
  | .tmp d => look t d
  | .const v => some v
  | .global g => some (.pointer (some ⟨g, 0, none⟩))
  | .func f => some (.func (.func f) #[] #[])
theorem look_cons_ne {d k : Nat} {v : Value} {l : List (Nat × Value)} (h : d ≠ k) : look ((d, v) :: l) k = look l k := by
  have : (d == k) = false := by simpa using h
  simp [look, this]
theorem look_cons_eq {d : Nat} {v : Value} {l : List (Nat × Value)} : look ((d, v) :: l) d = some v := by
  simp [look]
theorem LRel.drew {B w : World} {L : List Blk} (h : LRel B L w) : LRel B L { w with drawn := w.drawn + 1 } :=
  ⟨h.below.drew, h.blk, h.apart⟩
theorem Rel.drew {B w : World} {s : St} {a : Act} (h : Rel B s a w) : Rel B s a { w with drawn := w.drawn + 1 } :=
  ⟨h.df, h.size, h.tmp, h.mem.drew⟩
/-! ### new blocks -/
theorem LRel.lt {B w : World} {L : List Blk} (h : LRel B L w) {k : Nat} {b : Blk} (hk : L[k]? = some b) {g : Nat} (hg : b.base = some g) : g < w.heap.size := by
  exact ((h.blk k b hk).1 g hg).lt
/-- new blocks behind those that are known, the old ones as they were -/
theorem LRel.ext {B w w' : World} {L new : List Blk} (h : LRel B L w) (hw : Below w.heap.size w w')
    (hnew : ∀ (k : Nat) (b : Blk), new[k]? = some b → (∀ g, b.base = some g → BlkAt B w' b g ∧ w.heap.size ≤ g) ∧ (b.base = none → b.cs = [] ∧ b.n = 0))
    (hap : ∀ (i j g : Nat) (bi bj : Blk), i ≠ j → new[i]? = some bi → new[j]? = some bj → bi.base = some g → bj.base ≠ some g) : LRel B (L ++ new) w' := by
  have hB := h.below.size
  refine ⟨h.below.trans (hw.mono hB), fun k b hk => ?_, fun i j g bi bj hij hi hj ho hg hgj => ?_⟩
  · rw [List.getElem?_append] at hk
    split at hk
    · obtain ⟨h1, h2⟩ := h.blk k b hk
      exact ⟨fun g hg => (h1 g hg).heap (hw.block g (h.lt hk hg)), h2⟩
    · obtain ⟨h1, h2⟩ := hnew _ b hk
      exact ⟨fun g hg => (h1 g hg).1, h2⟩
  · rw [List.getElem?_append] at hi hj
    split at hi <;> split at hj
    · exact h.apart i j g bi bj hij hi hj ho hg hgj
    · have h1 := h.lt hi hg
      have h2 := ((hnew _ bj hj).1 g hgj).2
      omega
    · have h1 := h.lt hj hgj
      have h2 := ((hnew _ bi hi).1 g hg).2
      omega
    · exact hap _ _ g bi bj (by omega) hi hj hg hgj
theorem LRel.alloc {B w : World} {L : List Blk} (h : LRel B L w) (e : TypeId) (cs : Array Value) (he : e < mapMark) :
    LRel B (L ++ [⟨some w.heap.size, e, cs.toList, cs.size, true⟩]) (w.alloc (.cells cs e)) := by
  refine h.ext ((Below.refl _ _).alloc (Nat.le_refl _) _) (fun k b hk => ?_) (fun i j g bi bj hij hi hj => ?_)
  · cases k with
    | zero =>
      simp at hk
      subst hk
      refine ⟨fun g hg => ?_, fun hg => by cases hg⟩
      simp only [Option.some.injEq] at hg
      subst hg
      exact ⟨⟨.inl ⟨cs, ⟨_, _, heap_alloc_new w _, fun _ => ⟨rfl, rfl⟩, he⟩, rfl, List.take_of_length_le (by simp)⟩, fun _ => h.below.size⟩, Nat.le_refl _⟩
    | succ k => simp at hk
  · cases i with
    | zero => cases j with
      | zero => exact absurd rfl hij
      | succ j => simp at hj
    | succ i => simp at hi
theorem LRel.same {B w w' : World} {L : List Blk} (h : LRel B L w) (hw : Below w.heap.size w w') : LRel B L w' := by
  have := h.ext (new := []) hw (fun k b hk => by simp at hk) (fun i j g bi bj hij hi => by simp at hi)
  simpa using this
theorem LRel.reindex {B w : World} {L L' : List Blk} (h : LRel B L w) (f : Nat → Nat) (hf : ∀ (i : Nat) (b : Blk), L'[i]? = some b → L[f i]? = some b) (hi : ∀ i j, i < L'.length → j < L'.length → f i = f j → i = j) : LRel B L' w :=
  ⟨h.below, fun k b hk => h.blk (f k) b (hf k b hk), fun i j g bi bj hij h1 h2 ho hg hgj =>
    h.apart (f i) (f j) g bi bj (fun e => hij (hi i j (List.getElem?_eq_some_iff.1 h1).1 (List.getElem?_eq_some_iff.1 h2).1 e)) (hf i bi h1) (hf j bj h2) ho hg hgj⟩
theorem LRel.joinF {B w w' : World} {L new : List Blk} (h : LRel B L w) (h' : LRel w new w') (hc : ∀ b ∈ new, b.own = true) : LRel B (L ++ new) w' := by
  have hs := h.same h'.below
  refine ⟨hs.below, fun k b hk => ?_, fun i j g bi bj hij hi hj ho hg hgj => ?_⟩
  · rw [List.getElem?_append] at hk
    split at hk
    · exact hs.blk k b hk
    · obtain ⟨a1, a2⟩ := h'.blk _ b hk
      exact ⟨fun g hg => ⟨(a1 g hg).1, fun ho => Nat.le_trans h.below.size ((a1 g hg).2 ho)⟩, a2⟩
  · rw [List.getElem?_append] at hi hj
    split at hi <;> split at hj
    · exact hs.apart i j g bi bj hij hi hj ho hg hgj
    · have h1 := h.lt hi hg
      have h2 := ((h'.blk _ bj hj).1 g hgj).2 (hc bj (List.mem_of_getElem? hj))
      omega
    · have h1 := h.lt hj hgj
      have h2 := ((h'.blk _ bi hi).1 g hg).2 ho
      omega
    · exact h'.apart _ _ g bi bj (by omega) hi hj ho hg hgj
/-- the frame behind a step -/
theorem Rel.put {B w w' : World} {s : St} {a : Act} (h : Rel B s a w) {dst : Option Nat} {v : Value} {L' : List Blk}
    (hd : ∀ d, dst = some d → d < s.nt) (hL : LRel B L' w') : Rel B (({ s with L := L' } : St).put dst v) (a.put dst v) w' := by
  cases dst with
  | none => exact ⟨h.df, h.size, h.tmp, hL⟩
  | some d =>
    have hds : d < a.tmps.size := by rw [h.size]; exact hd d rfl
    refine ⟨h.df, by simpa [Act.put, St.put] using h.size, fun k x hx => ?_, hL⟩
    by_cases hk : d = k
    · subst hk
      simp only [St.put, look_cons_eq, Option.some.injEq] at hx
      subst hx
      simp [Act.put, hds]
    · simp only [St.put, look_cons_ne hk] at hx
      have := h.tmp k x hx
      simp [Act.put, Array.getElem?_setIfInBounds_ne hk, this]
theorem Rel.put0 {B w : World} {s : St} {a : Act} (h : Rel B s a w) {dst : Option Nat} {v : Value}
    (hd : ∀ d, dst = some d → d < s.nt) : Rel B (s.put dst v) (a.put dst v) w := h.put (L' := s.L) hd h.mem
/-- the value of an operand -/
theorem Rel.ev {B w : World} {s : St} {a : Act} (h : Rel B s a w) {x : Operand} {v : Value} (hx : ev s.t x = some v) : a.eval x = v := by
  cases x with
  | tmp d =>
    have h1 := h.tmp d v hx
    simp [Act.eval, h1]
  | const v => simp only [Go.Via.ev, Option.some.injEq] at hx; subst hx; rfl
  | global g => simp only [Go.Via.ev, Option.some.injEq] at hx; subst hx; rfl
  | func f => simp only [Go.Via.ev, Option.some.injEq] at hx; subst hx; rfl
/-- nothing is said of these blocks -/
def blk0 : Blk := ⟨none, 0, [], 0, false⟩
def blank : List Nat → List Blk → List Blk
  | [], L => L
  | k :: bl, L => blank bl (bif Nat.blt k 1000000 then L.set k blk0 else L)
def St.bk (s : St) (bl : List Nat) : St := { s with L := blank bl s.L }
theorem LRel.blank1 {B w : World} {L : List Blk} (h : LRel B L w) (k : Nat) : LRel B (L.set k blk0) w := by
  have hb : ∀ (m : Nat) (b : Blk), (L.set k blk0)[m]? = some b → b = blk0 ∨ L[m]? = some b := fun m b hm => by
    by_cases e : k = m
    · subst e
      by_cases hl : k < L.length
      · rw [List.getElem?_set_self hl] at hm; cases hm; exact .inl rfl
      · rw [List.getElem?_eq_none (by simp; omega)] at hm; cases hm
    · rw [List.getElem?_set_ne e] at hm; exact .inr hm
  refine ⟨h.below, fun m b hm => ?_, fun i j g bi bj hij hi hj ho hg hgj => ?_⟩
  · rcases hb m b hm with rfl | h1
    · exact ⟨fun g hg => (by cases hg), fun _ => ⟨rfl, rfl⟩⟩
    · exact h.blk m b h1
  · rcases hb i bi hi with rfl | h1
    · cases hg
    · rcases hb j bj hj with rfl | h2
      · cases hgj
      · exact h.apart i j g bi bj hij h1 h2 ho hg hgj
theorem LRel.blank {B w : World} : ∀ {bl : List Nat} {L : List Blk}, LRel B L w → LRel B (Go.Via.blank bl L) w
  | [], _, h => h
  | k :: bl, _, h => LRel.blank (bl := bl) (match Nat.blt k 1000000 with | true => h.blank1 k | false => h)
theorem Rel.bk {B w : World} {s : St} {a : Act} (h : Rel B s a w) (bl : List Nat) : Rel B (s.bk bl) a w := ⟨h.df, h.size, h.tmp, h.mem.blank⟩
theorem blank_append : ∀ (bl : List Nat) (L new : List Blk), ∃ new', blank bl (L ++ new) = blank bl L ++ new'
  | [], L, new => ⟨new, rfl⟩
  | k :: bl, L, new => by
    unfold blank
    cases Nat.blt k 1000000 with
    | false => exact blank_append bl L new
    | true =>
      simp only [cond_true]
      by_cases hk : k < L.length
      · obtain ⟨n', h⟩ := blank_append bl (L.set k blk0) new
        refine ⟨n', ?_⟩
        rw [List.set_append_left _ _ hk]; exact h
      · obtain ⟨n', h⟩ := blank_append bl (L.set k blk0) (new.set (k - L.length) blk0)
        refine ⟨n', ?_⟩
        have e : L.set k blk0 = L := List.set_eq_of_length_le (by omega)
        rw [List.set_append_right _ _ (by omega)]
        rw [e] at h ⊢
        exact h
theorem bk_put (s : St) (bl : List Nat) (dst : Option Nat) (v : Value) : (s.put dst v).bk bl = (s.bk bl).put dst v := by cases dst <;> rfl
/-- Is the operation a store? -/
def isSto (o : Oper) : Bool := match o.op with
  | .store .. | .mapUpdate .. | .entryStore .. => true
  | _ => false
/-- Does the operation look for the place in a map that is to be written? -/
def isME (o : Oper) : Bool := match o.op with
  | .mapEntry .. => true
  | _ => false
/-- Is the operation a call of a Go function? -/
def isCall (o : Oper) : Bool := match o.op with
  | .call { callee := .value _, .. } => true
  | _ => false
/-- May the operation be taken before others? -/
def isMov (o : Oper) : Bool := match o.op with
  | .call { callee := .value _, .. } | .call { callee := .builtin .len, .. } | .call { callee := .builtin .cap, .. } | .call { callee := .builtin .min, .. } | .call { callee := .builtin .max, .. } | .move _ | .pick .. | .load .. | .fieldAddr .. | .field .. | .indexAddr .. | .index .. | .binOp .. | .unOp .. | .convert .. | .extract .. | .build .. | .slice .. | .lookup .. => true
  | _ => false
/-- Does the operation's guard let it run? -/
def wantedS (ops : Array Oper) (o : Oper) (t : List (Nat × Value)) : Option Bool :=
  match o.guard with
  | none => some true
  | some (j, want) =>
    match (ops[j]?).bind (·.dst) with
    | some d => (look t d).map fun v => match v with
      | .bool b => b == want
      | _ => false
    | none => some false
theorem wantedS_spec {ops : Array Oper} {o : Oper} {B w : World} {s : St} {a : Act} (h : Rel B s a w) {g : Bool} (hg : wantedS ops o s.t = some g) :
    Region.wanted o (yielded ops a.tmps) = g := by
  unfold wantedS at hg
  unfold Region.wanted
  split at hg
  · rename_i h0; rw [h0]; simpa using hg
  · rename_i j want h0
    rw [h0]
    dsimp only
    unfold yielded
    cases hd : (ops[j]?).bind (·.dst) with
    | none => rw [hd] at hg; simp at hg; subst hg; simp
    | some d =>
      rw [hd] at hg
      simp only [Option.map_eq_some_iff] at hg
      obtain ⟨v, h1, h2⟩ := hg
      have h3 := h.tmp d v h1
      simp only [Option.bind_some, h3]
      cases v <;> simp_all
/-- THE OPERATION YIELDS ONE VALUE AND LEAVES THE WORLD AS IT IS, wherever the state holds. -/
def Quiet (P : Program) (o : Oper) (s : St) (v : Value) : Prop :=
  ∀ (B : World) (a : Act) (w : World), Rel B s a w → (execOp a.eval o).run P w = .ok (.value v) w
/-- THE OPERATION CALLS A FUNCTION, whose outcome is one of 'res x', with new blocks 'new x'. -/
def Called (P : Program) (o : Oper) (s : St) (X : Type) (res : X → Value) (new : X → List Blk) : Prop :=
  ∀ (B : World) (a : Act) (w : World), Rel B s a w → ∃ f args, (execOp a.eval o).run P w = .ok (.enter f args) w ∧
    Calls P f args w fun e w' => ∃ x, e = .returned (res x) ∧ LRel B (s.L ++ new x) w'
/-- .. whose new blocks are all new: whatever is known stays known -/
def CalledF (P : Program) (o : Oper) (s : St) (X : Type) (res : X → Value) (new : X → List Blk) : Prop :=
  ∀ (B : World) (a : Act) (w : World), Rel B s a w → ∃ f args, (execOp a.eval o).run P w = .ok (.enter f args) w ∧
    Calls P f args w fun e w' => ∃ x, e = .returned (res x) ∧ LRel w (new x) w' ∧ ∀ b ∈ new x, b.own = true
/-- THE OPERATION IS A CALL that writes. -/
def CalledM (P : Program) (o : Oper) (s : St) (X : Type) (res : X → Value) (nL : X → List Blk) : Prop :=
  ∀ (B : World) (a : Act) (w : World), Rel B s a w → (∃ f args, (execOp a.eval o).run P w = .ok (.enter f args) w ∧
    Calls P f args w fun e w' => ∃ x, e = .returned (res x) ∧ LRel B (nL x) w') ∨ ∃ x w', (execOp a.eval o).run P w = .ok (.value (res x)) w' ∧ LRel B (nL x) w'
/-- Does the operation make an empty variable? -/
def isAl (o : Oper) : Bool := match o.op with
  | .alloc _ => true
  | _ => false
/-- what it makes -/
def alTy (P : Program) (o : Oper) : Option (TypeId × Array Value) := match o.op with
  | .alloc T => if T < mapMark then ((P.info? T).bind (·.zero)).map fun z => (T, z.cells) else none
  | _ => none
theorem alTy_run {P : Program} {o : Oper} {e : TypeId} {cs : Array Value} (h : alTy P o = some (e, cs)) (ev : Operand → Value) (w : World) : (execOp ev o).run P w = .ok (.value (.pointer (some ⟨w.heap.size, 0, none⟩))) (w.alloc (.cells cs e)) := by
  unfold alTy at h
  split at h
  · rename_i T ho
    split at h
    rotate_left
    · cases h
    simp only [Option.map_eq_some_iff, Prod.mk.injEq] at h
    obtain ⟨z, hz, rfl, rfl⟩ := h
    cases hq : P.info? T with
    | none => rw [hq] at hz; cases hz
    | some inf =>
      rw [hq] at hz
      simp only [Option.bind_some] at hz
      simp [execOp, ho, Instr.alloc, zeroValue, typeInfo, hq, hz, newVar, newRow]
  · cases h
theorem alTy_lt {P : Program} {o : Oper} {e : TypeId} {cs : Array Value} (h : alTy P o = some (e, cs)) : e < mapMark := by
  unfold alTy at h
  split at h
  · split at h
    · rename_i hlt
      simp only [Option.map_eq_some_iff, Prod.mk.injEq] at h
      obtain ⟨z, _, rfl, _⟩ := h
      exact hlt
    · cases h
  · cases h
def alB (g : Nat) (e : TypeId) (cs : Array Value) : Blk := ⟨some g, e, cs.toList, cs.size, true⟩
/-- the mark of a region in which new variables may be made at any time -/
def blA (bl : List Nat) : Bool := bl.contains 3000000
/-- THE OPERATION DOES SOMETHING ELSE. -/
def Eff (P : Program) (o : Oper) (s : St) (X : Type) (nx : X → St) : Prop :=
  ∀ (B : World) (a : Act) (w : World), Rel B s a w → o.wp P a w (fun a' w' => ∃ x, Rel B (nx x) a' w') (fun _ _ _ => False)
/-- THE OPERATION WRITES, and yields nothing. -/
def EffS (P : Program) (o : Oper) (s : St) (L' : List Blk) : Prop :=
  ∀ (B : World) (a : Act) (w : World), Rel B s a w → ∃ w', (execOp a.eval o).run P w = .ok .skip w' ∧ LRel B L' w'
/-- may a store come early? -/
def blS (bl : List Nat) : Bool := bl.any fun k => Nat.blt k 1000000
/-- Does the operation look at slots alone? -/
def isPure (o : Oper) : Bool := match o.op with
  | .move _ | .extract .. => true
  | _ => false
/-- what it yields -/
def pureV (t : List (Nat × Value)) (o : Oper) : Option Value := match o.op with
  | .move x => ev t x
  | .extract x i => match ev t x with
    | some (.tuple vs) => vs[i]?
    | _ => none
  | _ => none
/-- the mark of a region in its own order, in which a call may do anything -/
def isM (bl : List Nat) : Bool := bl == [1000000]
/-- an assignment to a slot -/
def isAsg (o : Oper) : Bool := match o.op with
  | .assign _ => true
  | _ => false
/-- .. which may come early as well, where the mark says so -/
def mvS (bl : List Nat) (o : Oper) : Bool := isMov o || (isAsg o && bl.contains 2000000)
/-- ONE STEP. 'bl': blocks of which the operations that yield a value may say nothing: so that a store into one of them may come at any time. -/
def Step (P : Program) (bl : List Nat) (ops : Array Oper) (o : Oper) (s : St) (K : St → Prop) : Prop :=
  (∀ d, o.dst = some d → d < s.nt) ∧ ∃ g, wantedS ops o s.t = some g ∧
    ((g = false ∧ K (s.put o.dst undef)) ∨
     (g = true ∧ (((blA bl && (isAl o || isSto o)) = false ∧ ∃ v, (Quiet P o (s.bk bl) v ∧ (blA bl = true → isPure o = true → pureV s.t o = some v)) ∧ K (s.put o.dst v)) ∨
       (isCall o = true ∧ ∃ (X : Type) (res : X → Value) (new : X → List Blk), Called P o s X res new ∧ (blA bl = true → CalledF P o s X res new ∧ Nonempty X) ∧ ∀ x, K (({ s with L := s.L ++ new x } : St).put o.dst (res x))) ∨
       ((!isM bl && mvS bl o) = false ∧ (blA bl && (isAl o || isSto o)) = false ∧ (!isM bl && ((isSto o || isME o) && blS bl)) = false ∧ ∃ (X : Type) (nx : X → St), Eff P o s X nx ∧ ∀ x, K (nx x)) ∨
       (isSto o = true ∧ o.dst = none ∧ ∃ L', EffS P o s L' ∧ (blS bl = true → blank bl L' = blank bl s.L) ∧ K { s with L := L' }) ∨
       (isAl o = true ∧ ∃ (e : TypeId) (cs : Array Value), alTy P o = some (e, cs) ∧ ∀ g, K (({ s with L := s.L ++ [alB g e cs] } : St).put o.dst (.pointer (some ⟨g, 0, none⟩)))) ∨
       ((isCall o || isME o) = true ∧ blS bl = true ∧ ∃ (X : Type) (res : X → Value) (nL : X → List Blk), CalledM P o s X res nL ∧ (∀ x, blank bl (nL x) = blank bl s.L) ∧ ∀ x, K (({ s with L := nL x } : St).put o.dst (res x))))))
def Run (P : Program) (bl : List Nat) (ops : Array Oper) : List Oper → St → (St → Prop) → Prop
  | [], s, K => K s
  | o :: rest, s, K => Step P bl ops o s fun s' => Run P bl ops rest s' K
theorem Step.mono {P : Program} {bl : List Nat} {ops : Array Oper} {o : Oper} {s : St} {K K' : St → Prop} (h : ∀ s, K s → K' s) (hs : Step P bl ops o s K) : Step P bl ops o s K' := by
  obtain ⟨h0, g, hg, hh⟩ := hs
  refine ⟨h0, g, hg, ?_⟩
  rcases hh with ⟨h1, h2⟩ | ⟨h1, ⟨h2, v, h3, h4⟩ | ⟨h2, X, res, new, h3, hF, h4⟩ | ⟨hm, hA, hm', X, nx, h3, h4⟩ | ⟨hm, hd, L', h3, h5, h4⟩ | ⟨hA, e, cs, h3, h4⟩ | ⟨hC, hbS, X, res, nL, h3, h5, h4⟩⟩
  · exact .inl ⟨h1, h _ h2⟩
  · exact .inr ⟨h1, .inl ⟨h2, v, h3, h _ h4⟩⟩
  · exact .inr ⟨h1, .inr (.inl ⟨h2, X, res, new, h3, hF, fun x => h _ (h4 x)⟩)⟩
  · exact .inr ⟨h1, .inr (.inr (.inl ⟨hm, hA, hm', X, nx, h3, fun x => h _ (h4 x)⟩))⟩
  · exact .inr ⟨h1, .inr (.inr (.inr (.inl ⟨hm, hd, L', h3, h5, h _ h4⟩)))⟩
  · exact .inr ⟨h1, .inr (.inr (.inr (.inr (.inl ⟨hA, e, cs, h3, fun g => h _ (h4 g)⟩))))⟩
  · exact .inr ⟨h1, .inr (.inr (.inr (.inr (.inr ⟨hC, hbS, X, res, nL, h3, h5, fun x => h _ (h4 x)⟩))))⟩
/-- a step, in the world -/
theorem Step.sound {P : Program} {bl : List Nat} {ops : Array Oper} {o : Oper} {s : St} {K : St → Prop} {B : World} {a : Act} {w : World}
    {K' : Act → World → Prop} {Q : Exit → Act → World → Prop} (hs : Step P bl ops o s K) (h : Rel B s a w) (hK : ∀ s' a' w', K s' → Rel B s' a' w' → K' a' w') :
    if Region.wanted o (yielded ops a.tmps) then o.wp P a w K' Q else K' (a.put o.dst undef) w := by
  obtain ⟨h0, g, hg, hh⟩ := hs
  rw [wantedS_spec h hg]
  rcases hh with ⟨rfl, h2⟩ | ⟨rfl, hh⟩
  · simp only [Bool.false_eq_true, if_false]
    exact hK _ _ _ h2 (h.put0 h0)
  · simp only [if_true]
    rcases hh with ⟨h2, v, h3, h4⟩ | ⟨h2, X, res, new, h3, _, h4⟩ | ⟨hm, _, _, X, nx, h3, h4⟩ | ⟨hm, hd, L', h3, h5, h4⟩ | ⟨hA, e, cs, h3, h4⟩ | ⟨hC, hbS, X, res, nL, h3, h5, h4⟩
    · have hr := h3.1 B a w (h.bk bl)
      unfold Oper.wp
      rw [hr]
      exact hK _ _ _ h4 (h.put0 h0)
    · obtain ⟨f, args, hr, hc⟩ := h3 B a w h
      unfold Oper.wp
      rw [hr]
      refine hc.mono ?_
      rintro e w' ⟨x, rfl, hL⟩
      exact hK _ _ _ (h4 x) (h.put h0 hL)
    · have := h3 B a w h
      unfold Oper.wp at this ⊢
      generalize (execOp a.eval o).run P w = r at *
      cases r with
      | ok n w1 =>
        cases n <;> simp only [Oper.upon] at this ⊢
        case value v => obtain ⟨x, hx⟩ := this; exact hK _ _ _ (h4 x) hx
        case skip => obtain ⟨x, hx⟩ := this; exact hK _ _ _ (h4 x) hx
        case defer d => obtain ⟨x, hx⟩ := this; exact hK _ _ _ (h4 x) hx
        case enter f args =>
          refine this.mono ?_
          intro e w'' he
          cases e with
          | returned v => obtain ⟨x, hx⟩ := he; exact hK _ _ _ (h4 x) hx
          | panicked c => exact he.elim
          | outgrown => obtain ⟨_, _, he⟩ := he; exact he.elim
        case row row args => exact this.mono fun v w'' he => by obtain ⟨x, hx⟩ := he; exact hK _ _ _ (h4 x) hx
      | halt x w1 => cases x <;> simp only [Oper.upon] at this
    · obtain ⟨w', hr, hL⟩ := h3 B a w h
      unfold Oper.wp
      rw [hr]
      refine hK _ _ _ h4 ?_
      rw [hd]
      exact ⟨h.df, h.size, h.tmp, hL⟩
    · unfold Oper.wp
      rw [alTy_run h3 a.eval w]
      exact hK _ _ _ (h4 w.heap.size) (h.put h0 (h.mem.alloc e cs (alTy_lt h3)))
    · rcases h3 B a w h with ⟨f, args, hr, hc⟩ | ⟨x, w', hr, hL⟩
      · unfold Oper.wp
        rw [hr]
        refine hc.mono ?_
        rintro e w' ⟨x, rfl, hL⟩
        exact hK _ _ _ (h4 x) (h.put (L' := nL x) h0 hL)
      · unfold Oper.wp
        rw [hr]
        exact hK _ _ _ (h4 x) (h.put (L' := nL x) h0 hL)
/-- **A LIST OF OPERATIONS IN ITS OWN ORDER.** -/
theorem Run.sound {P : Program} {bl : List Nat} {ops : Array Oper} {Q : Exit → Act → World → Prop} : ∀ {l : List Oper} {s : St} {K : St → Prop} {B : World} {a : Act} {w : World},
    Run P bl ops l s K → Rel B s a w → (∀ s' a' w', K s' → Rel B s' a' w' → Q .normal a' w') → wpList P ops Q l a w
  | [], s, K, B, a, w, hr, h, hK => hK _ _ _ hr h
  | o :: l, s, K, B, a, w, hr, h, hK => by
    have := Step.sound (K' := wpList P ops Q l) (Q := Q) hr h (fun s' a' w' h1 h2 => Run.sound h1 h2 hK)
    unfold wpList
    split
    · rename_i hw; rw [if_pos hw] at this; exact .inl this
    · rename_i hw; rw [if_neg hw] at this; exact this
theorem Run.mono {P : Program} {bl : List Nat} {ops : Array Oper} {K K' : St → Prop} (h : ∀ s, K s → K' s) : ∀ {l : List Oper} {s : St}, Run P bl ops l s K → Run P bl ops l s K'
  | [], _, hr => h _ hr
  | _ :: _, _, hr => Step.mono (fun _ h1 => Run.mono h h1) hr
theorem LRel.take {B w : World} {L new : List Blk} (h : LRel B (L ++ new) w) : LRel B L w := by
  have hb : ∀ (k : Nat) (b : Blk), L[k]? = some b → (L ++ new)[k]? = some b := fun k b hk => by
    rw [List.getElem?_append_left (List.getElem?_eq_some_iff.1 hk).1]; exact hk
  exact ⟨h.below, fun k b hk => h.blk k b (hb k b hk), fun i j g bi bj hij hi hj => h.apart i j g bi bj hij (hb _ _ hi) (hb _ _ hj)⟩
theorem wantedS_put {ops : Array Oper} {o : Oper} {s : St} {dst : Option Nat} {v : Value} (h : ∀ d, dst = some d → d ∉ o.looksAt ops) : wantedS ops o (s.put dst v).t = wantedS ops o s.t := by
  cases dst with
  | none => rfl
  | some d =>
    unfold wantedS
    cases hg : o.guard with
    | none => rfl
    | some jw =>
      obtain ⟨j, want⟩ := jw
      dsimp only
      cases hd : (ops[j]?).bind (·.dst) with
      | none => rfl
      | some d' =>
        have hne : d ≠ d' := fun e => h d rfl (by unfold Oper.looksAt; rw [hg]; simp [hd, e])
        simp only [St.put, look_cons_ne hne]
theorem pureV_put {ops : Array Oper} {o : Oper} {s : St} {dst : Option Nat} {v : Value} (h : ∀ d, dst = some d → d ∉ o.looksAt ops) : pureV (s.put dst v).t o = pureV s.t o := by
  cases dst with
  | none => rfl
  | some d =>
    have hd := h d rfl
    have key : ∀ x : Operand, x ∈ o.op.operands.toList → ev ((d, v) :: s.t) x = ev s.t x := fun x hx => by
      cases x with
      | tmp k =>
        have hne : d ≠ k := fun e => hd (by
          unfold Oper.looksAt
          exact List.mem_append_left _ (List.mem_filterMap.2 ⟨.tmp k, hx, by rw [e]⟩))
        exact look_cons_ne hne
      | const c => rfl
      | global g => rfl
      | func f => rfl
    show pureV ((d, v) :: s.t) o = pureV s.t o
    unfold pureV
    split
    · rename_i x ho
      exact key x (by rw [ho]; simp [Op.operands])
    · rename_i x i ho
      rw [key x (by rw [ho]; simp [Op.operands])]
    · rfl
theorem pureV_quiet {P : Program} {o : Oper} {s : St} {v : Value} (h : pureV s.t o = some v) : Quiet P o s v := fun B a w hr => by
  unfold pureV at h
  split at h
  · rename_i x ho
    simp [execOp, ho, hr.ev h]
  · rename_i x i ho
    split at h
    · rename_i vs hv
      have := hr.ev hv
      simp [execOp, ho, this, Instr.extract, h]
    · cases h
  · cases h
/-- a step that yields a value and nothing more -/
def Yields (P : Program) (bl : List Nat) (ops : Array Oper) (o : Oper) (s : St) (v : Value) : Prop :=
  ∃ g, wantedS ops o s.t = some g ∧ ((g = false ∧ v = undef) ∨ (g = true ∧ (blA bl && (isAl o || isSto o)) = false ∧ Quiet P o (s.bk bl) v ∧ (blA bl = true → isPure o = true → pureV s.t o = some v)))
theorem noSel_of_mov {o : Oper} (h : isMov o = true) : ∀ cs b, o.op ≠ .select cs b := fun cs b e => by unfold isMov at h; rw [e] at h; cases h
/-- what a slot held is put back -/
theorem Rel.putBack {B w : World} {s : St} {a : Act} {dst : Option Nat} {v : Value} {new : List Blk} (hd : ∀ d, dst = some d → d < s.nt)
    (h : Rel B (({ s with L := s.L ++ new } : St).put dst v) a w) : ∃ u, Rel B s (a.put dst u) w := by
  have hL : (({ s with L := s.L ++ new } : St).put dst v).L = s.L ++ new := by cases dst <;> rfl
  have hn : (({ s with L := s.L ++ new } : St).put dst v).nt = s.nt := by cases dst <;> rfl
  have hm : LRel B s.L w := by have := h.mem; rw [hL] at this; exact this.take
  cases dst with
  | none => exact ⟨undef, h.df, h.size.trans hn, fun d x hx => h.tmp d x hx, hm⟩
  | some d =>
    refine ⟨(look s.t d).getD undef, h.df, by simpa [Act.put, hn] using h.size, fun k x hx => ?_, hm⟩
    have hds : d < a.tmps.size := by rw [h.size, hn]; exact hd d rfl
    by_cases e : d = k
    · subst e
      simp [Act.put, hx, hds]
    · have := h.tmp k x (by simp only [St.put, look_cons_ne e]; exact hx)
      simp [Act.put, Array.getElem?_setIfInBounds_ne e, this]
/-- it makes no difference to what yields a value that another one has come before -/
theorem Yields.later {P : Program} {bl : List Nat} {ops : Array Oper} {o : Oper} {s : St} {v : Value} {dst : Option Nat} {x : Value} {new : List Blk} (hs : ∀ cs b, o.op ≠ .select cs b) (hd : ∀ d, dst = some d → d < s.nt)
    (hl : ∀ d, dst = some d → d ∉ o.looksAt ops) (h : Yields P bl ops o s v) : Yields P bl ops o (({ s with L := s.L ++ new } : St).put dst x) v := by
  obtain ⟨g, hg, hh⟩ := h
  refine ⟨g, by rw [wantedS_put hl]; exact hg, ?_⟩
  rcases hh with h1 | ⟨h1, h2, h4⟩
  · exact .inl h1
  · refine .inr ⟨h1, h2, fun B a w hr => ?_, fun h5 h6 => by rw [pureV_put (s := { s with L := s.L ++ new }) hl]; exact h4.2 h5 h6⟩
    rw [bk_put] at hr
    obtain ⟨new', hn⟩ := blank_append bl s.L new
    have hr' : Rel B (({ nt := s.nt, t := s.t, L := blank bl s.L ++ new' } : St).put dst x) a w := by rw [← hn]; exact hr
    obtain ⟨u, hu⟩ := Rel.putBack (s := s.bk bl) (new := new') hd hr'
    have := h4.1 B _ w hu
    rwa [execOp_put o hs a dst u hl] at this
/-- the same state, spelled otherwise -/
structure Eqv (s s' : St) : Prop where
  nt : s.nt = s'.nt
  L : s.L = s'.L
  look : ∀ d, look s.t d = look s'.t d
theorem Eqv.refl (s : St) : Eqv s s := ⟨rfl, rfl, fun _ => rfl⟩
theorem Eqv.symm {s s' : St} (h : Eqv s s') : Eqv s' s := ⟨h.nt.symm, h.L.symm, fun d => (h.look d).symm⟩
theorem Eqv.trans {s s' s'' : St} (h : Eqv s s') (k : Eqv s' s'') : Eqv s s'' := ⟨h.nt.trans k.nt, h.L.trans k.L, fun d => (h.look d).trans (k.look d)⟩
theorem Eqv.rel {s s' : St} (h : Eqv s s') {B w : World} {a : Act} (r : Rel B s a w) : Rel B s' a w :=
  ⟨r.df, r.size.trans h.nt, fun d v hd => r.tmp d v (by rw [h.look d]; exact hd), h.L ▸ r.mem⟩
theorem Eqv.put {s s' : St} (h : Eqv s s') (dst : Option Nat) (sv : Value) (new : List Blk) : Eqv (({ s with L := s.L ++ new } : St).put dst sv) (({ s' with L := s'.L ++ new } : St).put dst sv) := by
  cases dst with
  | none => exact ⟨h.nt, by simp [St.put, h.L], h.look⟩
  | some d =>
    refine ⟨h.nt, by simp [St.put, h.L], fun k => ?_⟩
    by_cases e : d = k
    · subst e; simp [St.put, look_cons_eq]
    · simp [St.put, look_cons_ne e, h.look k]
theorem Eqv.put0 {s s' : St} (h : Eqv s s') (dst : Option Nat) (sv : Value) : Eqv (s.put dst sv) (s'.put dst sv) := by
  have := h.put dst sv []
  simpa using this
theorem Eqv.wanted {s s' : St} (h : Eqv s s') (ops : Array Oper) (o : Oper) : wantedS ops o s.t = wantedS ops o s'.t := by
  unfold wantedS
  split
  · rfl
  · split
    · rw [h.look]
    · rfl
/-- a post that does not look at the spelling -/
def KC (K : St → Prop) : Prop := ∀ s s', Eqv s s' → K s → K s'
theorem ev_congr {t t' : List (Nat × Value)} (h : ∀ d, look t d = look t' d) (x : Operand) : ev t x = ev t' x := by
  cases x <;> simp [ev, h]
theorem pureV_congr {t t' : List (Nat × Value)} (h : ∀ d, look t d = look t' d) {o : Oper} : pureV t o = pureV t' o := by
  unfold pureV
  split
  · exact ev_congr h _
  · rw [ev_congr h]
  · rfl
theorem Step.congr {P : Program} {bl : List Nat} {ops : Array Oper} {o : Oper} {s s' : St} {K : St → Prop} (hK : KC K) (h : Eqv s s') (hs : Step P bl ops o s K) : Step P bl ops o s' K := by
  obtain ⟨h0, g, hg, hh⟩ := hs
  refine ⟨by rw [← h.nt]; exact h0, g, by rw [← h.wanted]; exact hg, ?_⟩
  have hbk : Eqv (s.bk bl) (s'.bk bl) := ⟨h.nt, by show blank bl s.L = blank bl s'.L; rw [h.L], h.look⟩
  rcases hh with ⟨h1, h2⟩ | ⟨h1, ⟨h2, sv, h3, h4⟩ | ⟨h2, X, res, new, h3, hF, h4⟩ | ⟨hm, hA, hm', X, nx, h3, h4⟩ | ⟨hm, hd, L', h3, h5, h4⟩ | ⟨hA, e, cs, h3, h4⟩ | ⟨hC, hbS, X, res, nL, h3, h5, h4⟩⟩
  · exact .inl ⟨h1, hK _ _ (h.put0 _ _) h2⟩
  · exact .inr ⟨h1, .inl ⟨h2, sv, ⟨fun B a w hr => h3.1 B a w (hbk.symm.rel hr), fun h5 h6 => by rw [← pureV_congr h.look]; exact h3.2 h5 h6⟩, hK _ _ (h.put0 _ _) h4⟩⟩
  · refine .inr ⟨h1, .inr (.inl ⟨h2, X, res, new, fun B a w hr => ?_, fun hb => ⟨fun B a w hr => (hF hb).1 B a w (h.symm.rel hr), (hF hb).2⟩, fun x => hK _ _ (h.put _ _ _) (h4 x)⟩)⟩
    rw [← h.L]
    exact h3 B a w (h.symm.rel hr)
  · exact .inr ⟨h1, .inr (.inr (.inl ⟨hm, hA, hm', X, nx, fun B a w hr => h3 B a w (h.symm.rel hr), h4⟩))⟩
  · exact .inr ⟨h1, .inr (.inr (.inr (.inl ⟨hm, hd, L', fun B a w hr => h3 B a w (h.symm.rel hr), by rw [← h.L]; exact h5, hK { s with L := L' } { s' with L := L' } ⟨h.nt, rfl, h.look⟩ h4⟩)))⟩
  · exact .inr ⟨h1, .inr (.inr (.inr (.inr (.inl ⟨hA, e, cs, h3, fun g => hK _ _ (h.put _ _ _) (h4 g)⟩))))⟩
  · exact .inr ⟨h1, .inr (.inr (.inr (.inr (.inr ⟨hC, hbS, X, res, nL, fun B a w hr => h3 B a w (h.symm.rel hr), by rw [← h.L]; exact h5, fun x => hK _ _ (Eqv.put0 (s := { s with L := nL x }) (s' := { s' with L := nL x }) ⟨h.nt, rfl, h.look⟩ _ _) (h4 x)⟩))))⟩
theorem Run.kc {P : Program} {bl : List Nat} {ops : Array Oper} {K : St → Prop} (hK : KC K) : ∀ l : List Oper, KC (fun s => Run P bl ops l s K)
  | [] => hK
  | o :: l => fun _ _ h hs => Step.congr (Run.kc hK l) h hs
/-- may it come to the front? -/
def isFr (bl : List Nat) (o : Oper) : Bool := !isM bl && (mvS bl o || ((isSto o || isME o) && blS bl) || (blA bl && isAl o))
theorem isFr_noM {bl : List Nat} {o : Oper} (h : isFr bl o = true) : isM bl = false := by
  unfold isFr at h; cases hb : isM bl
  · rfl
  · rw [hb] at h; cases h
theorem noSel_of_fr {bl : List Nat} {o : Oper} (h : isFr bl o = true) : ∀ cs b, o.op ≠ .select cs b := fun cs b e => by
  simp only [isFr, mvS, isAsg, isMov, isSto, isME, isAl, e, Bool.false_and, Bool.or_self, Bool.and_false] at h; cases h
theorem sto_noME {o : Oper} (hs : isSto o = true) : isME o = false := by
  unfold isSto at hs
  split at hs <;> first | (cases hs; done) | (rename_i heq; simp [isME, heq])
theorem isFr_sto {bl : List Nat} {o : Oper} (h : isFr bl o = true) (hs : isSto o = true) : blS bl = true := by
  have h1 : mvS bl o = false := by
    unfold isSto at hs
    split at hs <;> first | (cases hs; done) | (rename_i heq; simp [mvS, isMov, isAsg, heq])
  have h2 : isAl o = false := by
    unfold isSto at hs
    split at hs <;> first | (cases hs; done) | (rename_i heq; simp [isAl, heq])
  unfold isFr at h
  rw [h1, h2, hs, sto_noME hs] at h
  simp only [Bool.false_or, Bool.true_and, Bool.and_false, Bool.or_false, Bool.and_eq_true] at h
  exact h.2
theorem isFr_eff {bl : List Nat} {o : Oper} (h : isFr bl o = true) (hm : (!isM bl && mvS bl o) = false) (hA' : (blA bl && (isAl o || isSto o)) = false) (hm' : (!isM bl && ((isSto o || isME o) && blS bl)) = false) : False := by
  have hA : (blA bl && isAl o) = false := by cases h1 : blA bl <;> cases h2 : isAl o <;> simp_all
  unfold isFr at h
  cases hb : isM bl <;> rw [hb] at h hm hm'
  · simp only [Bool.not_false, Bool.true_and] at h hm hm'
    rw [hm, hA, Bool.false_or, Bool.or_false] at h
    rw [hm'] at h; cases h
  · cases h
/-- **TWO NEIGHBOURS CHANGE PLACES**: the first one yields a value and nothing more, neither looks at what the other one yields. -/
theorem Run.swap {P : Program} {bl : List Nat} {ops : Array Oper} {p i : Oper} {rest : List Oper} {s : St} {K : St → Prop} (hK : KC K) (hmp : isMov p = true) (hmi : isFr bl i = true) (hcp : isCall p = false)
    (hap : p.apart ops i = true) (h : Run P bl ops (p :: i :: rest) s K) : Run P bl ops (i :: p :: rest) s K := by
  obtain ⟨ap1, ap2, ap3⟩ := Oper.apart_spec hap
  obtain ⟨h0, g, hg, hh⟩ := h
  have hsp : isSto p = false := by
    unfold isSto; split <;> first | rfl | (rename_i heq; unfold isMov at hmp; rw [heq] at hmp; cases hmp)
  have hmep : isME p = false := by
    unfold isME; split <;> first | rfl | (rename_i heq; unfold isMov at hmp; rw [heq] at hmp; cases hmp)
  -- the first one
  obtain ⟨svp, hyp, hrun⟩ : ∃ svp, Yields P bl ops p s svp ∧ Run P bl ops (i :: rest) (s.put p.dst svp) K := by
    rcases hh with ⟨rfl, h2⟩ | ⟨rfl, ⟨h2, sv, h3, h4⟩ | ⟨h2, X, res, new, h3, _, h4⟩ | ⟨hm, _, _, X, nx, h3, h4⟩ | ⟨hm, hd, L', h3, h5, h4⟩ | ⟨hA, e, cs, h3, h4⟩ | ⟨hC, hbS, X, res, nL, h3, h5, h4⟩⟩
    · exact ⟨_, ⟨_, hg, .inl ⟨rfl, rfl⟩⟩, h2⟩
    · exact ⟨sv, ⟨_, hg, .inr ⟨rfl, h2, h3.1, h3.2⟩⟩, h4⟩
    · rw [hcp] at h2; cases h2
    · rw [isFr_noM hmi, show mvS bl p = true by simp [mvS, hmp]] at hm; cases hm
    · rw [hsp] at hm; cases hm
    · exfalso
      unfold isAl at hA
      split at hA
      · rename_i heq; unfold isMov at hmp; rw [heq] at hmp; cases hmp
      · cases hA
    · rw [hcp, hmep] at hC; cases hC
  have hputL : (s.put p.dst svp).L = s.L := by cases p.dst <;> rfl
  have hputn : (s.put p.dst svp).nt = s.nt := by cases p.dst <;> rfl
  have comm : ∀ (x : Value) (new : List Blk), Eqv (({ s.put p.dst svp with L := (s.put p.dst svp).L ++ new } : St).put i.dst x) ((({ s with L := s.L ++ new } : St).put i.dst x).put p.dst svp) := by
    intro x new
    refine ⟨?_, ?_, ?_⟩
    · cases p.dst <;> cases i.dst <;> rfl
    · cases p.dst <;> cases i.dst <;> rfl
    · intro d
      cases hp : p.dst with
      | none => simp [St.put]
      | some dp =>
        cases hi : i.dst with
        | none => simp [St.put]
        | some di =>
          have hne : dp ≠ di := fun e => ap2 dp hp (by rw [hi, e])
          simp only [St.put]
          by_cases e1 : di = d
          · subst e1; rw [look_cons_eq, look_cons_ne hne, look_cons_eq]
          · rw [look_cons_ne e1]
            by_cases e2 : dp = d
            · subst e2; rw [look_cons_eq, look_cons_eq]
            · rw [look_cons_ne e2, look_cons_ne e2, look_cons_ne e1]
  -- behind the second one the first one comes
  have behind : ∀ (x : Value) (new : List Blk), Run P bl ops rest (({ s.put p.dst svp with L := (s.put p.dst svp).L ++ new } : St).put i.dst x) K →
      Run P bl ops (p :: rest) (({ s with L := s.L ++ new } : St).put i.dst x) K := by
    intro x new hr
    have hr' := Run.kc hK rest _ _ (comm x new) hr
    have hy := hyp.later (new := new) (x := x) (noSel_of_mov hmp) (by rw [← hputn]; exact hrun.1) ap3
    obtain ⟨g', hg', hh'⟩ := hy
    have hn : (({ s with L := s.L ++ new } : St).put i.dst x).nt = s.nt := by cases i.dst <;> rfl
    refine ⟨by rw [hn]; exact h0, g', hg', ?_⟩
    rcases hh' with ⟨h1, rfl⟩ | ⟨h1, h2, h4⟩
    · exact .inl ⟨h1, hr'⟩
    · exact .inr ⟨h1, .inl ⟨h2, svp, h4, hr'⟩⟩
  -- the world in which the first one has come
  have before : ∀ (s0 : St), s0.nt = s.nt → ∀ (B : World) (a : Act) (w : World), Rel B s0 a w → Rel B (s0.put p.dst svp) (a.put p.dst svp) w ∧ execOp (a.put p.dst svp).eval i = execOp a.eval i := by
    intro s0 hn B a w hr
    exact ⟨hr.put0 (by rw [hn]; exact h0), execOp_put i (noSel_of_fr hmi) a p.dst svp ap1⟩
  -- the second one
  obtain ⟨k0, k, hk, kk⟩ := hrun
  rw [hputn] at k0
  rw [wantedS_put ap1] at hk
  have e0 : ∀ (x : Value), (({ s with L := s.L ++ [] } : St).put i.dst x) = s.put i.dst x := fun x => by simp
  have e1 : ∀ (x : Value), (({ s.put p.dst svp with L := (s.put p.dst svp).L ++ [] } : St).put i.dst x) = (s.put p.dst svp).put i.dst x := fun x => by simp
  refine ⟨k0, k, hk, ?_⟩
  rcases kk with ⟨h1, h2⟩ | ⟨h1, ⟨h2, sv, h3, h4⟩ | ⟨h2, X, res, new, h3, hF, h4⟩ | ⟨hm, hA, hm', X, nx, h3, h4⟩ | ⟨hm, hd, L', h3, h5, h4⟩ | ⟨hA, e, cs, h3, h4⟩ | ⟨hC, hbS, X, res, nL, h3, h5, h4⟩⟩
  · exact .inl ⟨h1, by have := behind undef [] (by rw [e1]; exact h2); rwa [e0] at this⟩
  · refine .inr ⟨h1, .inl ⟨h2, sv, ⟨fun B a w hr => ?_, fun h5 h6 => by rw [← pureV_put ap1]; exact h3.2 h5 h6⟩, by have := behind sv [] (by rw [e1]; exact h4); rwa [e0] at this⟩⟩
    obtain ⟨hr', he⟩ := before (s.bk bl) rfl B a w hr
    have h3 := h3.1
    rw [bk_put] at h3
    have := h3 B _ w hr'
    rwa [he] at this
  · refine .inr ⟨h1, .inr (.inl ⟨h2, X, res, new, fun B a w hr => ?_, fun hb => ⟨fun B a w hr => ?_, (hF hb).2⟩, fun x => behind _ _ (h4 x)⟩)⟩
    · obtain ⟨hr', he⟩ := before s rfl B a w hr
      have := h3 B _ w hr'
      rwa [he, hputL] at this
    · obtain ⟨hr', he⟩ := before s rfl B a w hr
      have := (hF hb).1 B _ w hr'
      rwa [he] at this
  · exfalso
    exact isFr_eff hmi hm hA hm'
  · refine .inr ⟨h1, .inr (.inr (.inr (.inl ⟨hm, hd, L', fun B a w hr => ?_, fun hb => by rw [h5 hb, hputL], ?_⟩)))⟩
    · obtain ⟨hr', he⟩ := before s rfl B a w hr
      have := h3 B _ w hr'
      rwa [he] at this
    · -- the first one, behind the store
      have hbS : blS bl = true := isFr_sto hmi hm
      have h5 := h5 hbS
      rw [hputL] at h5
      obtain ⟨g', hg', hh'⟩ := hyp
      refine ⟨h0, g', hg', ?_⟩
      have hst : (({ s with L := L' } : St)).put p.dst svp = { s.put p.dst svp with L := L' } := by cases p.dst <;> rfl
      have hbk : (({ s with L := L' } : St)).bk bl = s.bk bl := by show St.mk _ _ (blank bl L') = St.mk _ _ (blank bl s.L); rw [h5]
      rcases hh' with ⟨h1', rfl⟩ | ⟨h1', h2', h4'⟩
      · exact .inl ⟨h1', by rw [hst]; exact h4⟩
      · exact .inr ⟨h1', .inl ⟨h2', svp, ⟨by rw [hbk]; exact h4'.1, h4'.2⟩, by rw [hst]; exact h4⟩⟩
  · exact .inr ⟨h1, .inr (.inr (.inr (.inr (.inl ⟨hA, e, cs, h3, fun g => behind _ _ (h4 g)⟩))))⟩
  · refine .inr ⟨h1, .inr (.inr (.inr (.inr (.inr ⟨hC, hbS, X, res, nL, fun B a w hr => ?_, fun x => by rw [h5 x, hputL], fun x => ?_⟩))))⟩
    · obtain ⟨hr', he⟩ := before s rfl B a w hr
      have := h3 B _ w hr'
      rwa [he] at this
    · -- the first one, behind the call
      have h5 := h5 x
      rw [hputL] at h5
      have hY : Yields P bl ops p ({ s with L := nL x } : St) svp := by
        obtain ⟨g', hg', hh'⟩ := hyp
        have hbk : (({ s with L := nL x } : St)).bk bl = s.bk bl := by show St.mk _ _ (blank bl (nL x)) = St.mk _ _ (blank bl s.L); rw [h5]
        rcases hh' with h1' | ⟨h1', h2', h4'⟩
        · exact ⟨g', hg', .inl h1'⟩
        · exact ⟨g', hg', .inr ⟨h1', h2', by rw [hbk]; exact h4'.1, h4'.2⟩⟩
      have hY2 := Yields.later (s := ({ s with L := nL x } : St)) (dst := i.dst) (x := res x) (new := []) (noSel_of_mov hmp) k0 ap3 hY
      rw [show (({ (({ s with L := nL x } : St)) with L := (({ s with L := nL x } : St)).L ++ [] } : St)) = ({ s with L := nL x } : St) by simp] at hY2
      have hn : (({ s with L := nL x } : St).put i.dst (res x)).nt = s.nt := by cases i.dst <;> rfl
      have hc1 : Eqv (({ s.put p.dst svp with L := nL x } : St).put i.dst (res x)) ((({ s with L := nL x } : St).put i.dst (res x)).put p.dst svp) := by
        refine ⟨?_, ?_, fun d => ?_⟩
        · cases p.dst <;> cases i.dst <;> rfl
        · cases p.dst <;> cases i.dst <;> rfl
        · have hcm := (comm (res x) []).look d
          have q1 : look (({ s.put p.dst svp with L := nL x } : St).put i.dst (res x)).t d = look (({ s.put p.dst svp with L := (s.put p.dst svp).L ++ [] } : St).put i.dst (res x)).t d := by cases i.dst <;> rfl
          have q2 : look ((({ s with L := nL x } : St).put i.dst (res x)).put p.dst svp).t d = look ((({ s with L := s.L ++ [] } : St).put i.dst (res x)).put p.dst svp).t d := by cases i.dst <;> cases p.dst <;> rfl
          rw [q1, q2]; exact hcm
      have hr' := Run.kc hK rest _ _ hc1 (h4 x)
      obtain ⟨g', hg', hh'⟩ := hY2
      refine ⟨by rw [hn]; exact h0, g', hg', ?_⟩
      rcases hh' with ⟨h1, rfl⟩ | ⟨h1, h2, h4⟩
      · exact .inl ⟨h1, hr'⟩
      · exact .inr ⟨h1, .inl ⟨h2, svp, h4, hr'⟩⟩
theorem look_put {s : St} {dst : Option Nat} {sv : Value} {d : Nat} (h : dst ≠ some d) : look (s.put dst sv).t d = look s.t d := by
  cases dst with
  | none => rfl
  | some d' => exact look_cons_ne (fun e => h (by rw [e]))
/-- what a movable step leaves -/
theorem Step.good {P : Program} {bl : List Nat} {ops : Array Oper} {o : Oper} {s : St} {K : St → Prop} (hm : isFr bl o = true) (h : Step P bl ops o s K) :
    Step P bl ops o s (fun s' => K s' ∧ ∀ d, o.dst ≠ some d → look s'.t d = look s.t d) := by
  obtain ⟨h0, g, hg, hh⟩ := h
  refine ⟨h0, g, hg, ?_⟩
  rcases hh with ⟨h1, h2⟩ | ⟨h1, ⟨h2, sv, h3, h4⟩ | ⟨h2, X, res, new, h3, hF, h4⟩ | ⟨hm', hA, hm'', X, nx, h3, h4⟩ | ⟨hm', hd, L', h3, h5, h4⟩ | ⟨hA, e, cs, h3, h4⟩ | ⟨hC, hbS, X, res, nL, h3, h5, h4⟩⟩
  · exact .inl ⟨h1, h2, fun d hd => look_put hd⟩
  · exact .inr ⟨h1, .inl ⟨h2, sv, h3, h4, fun d hd => look_put hd⟩⟩
  · exact .inr ⟨h1, .inr (.inl ⟨h2, X, res, new, h3, hF, fun x => ⟨h4 x, fun d hd => look_put hd⟩⟩)⟩
  · exact (isFr_eff hm hm' hA hm'').elim
  · exact .inr ⟨h1, .inr (.inr (.inr (.inl ⟨hm', hd, L', h3, h5, h4, fun d _ => rfl⟩)))⟩
  · exact .inr ⟨h1, .inr (.inr (.inr (.inr (.inl ⟨hA, e, cs, h3, fun g => ⟨h4 g, fun d hd => look_put hd⟩⟩))))⟩
  · exact .inr ⟨h1, .inr (.inr (.inr (.inr (.inr ⟨hC, hbS, X, res, nL, h3, h5, fun x => ⟨h4 x, fun d hd => look_put hd⟩⟩))))⟩
theorem isFr_of_mov {bl : List Nat} {o i : Oper} (h : isMov o = true) (hi : isFr bl i = true) : isFr bl o = true := by simp [isFr, mvS, h, isFr_noM hi]
/-- **AN OPERATION COMES TO THE FRONT** -/
theorem Run.front {P : Program} {bl : List Nat} {ops : Array Oper} {i : Oper} {post : List Oper} {K : St → Prop} (hK : KC K) (hmi : isFr bl i = true) : ∀ {pre : List Oper} {s : St},
    (∀ p ∈ pre, isMov p = true ∧ isCall p = false ∧ p.apart ops i = true) → Run P bl ops (pre ++ i :: post) s K → Run P bl ops (i :: (pre ++ post)) s K
  | [], s, _, h => h
  | p :: pre, s, hp, h => by
    obtain ⟨hm, hc, ha⟩ := hp p (by simp)
    have h1 : Step P bl ops p s (fun s' => Run P bl ops (pre ++ i :: post) s' K) := h
    have h2 : Run P bl ops (p :: i :: (pre ++ post)) s K := by
      refine Step.mono ?_ (h1.good (isFr_of_mov hm hmi))
      rintro s' ⟨hr, hl⟩
      exact Run.front hK hmi (fun q hq => hp q (by simp [hq])) hr
    exact Run.swap hK hm hmi hc ha h2
/-- Must operation i wait for operation j, directly or through others? -/
def waitsF (ops : Array Oper) : Nat → Nat → Nat → Bool
  | 0, _, _ => false
  | f + 1, i, j => match ops[i]? with
    | some o => o.after.any fun e => Region.binds .any e && (e.on == j || waitsF ops f e.on j)
    | none => false
def Closed (ops : Array Oper) (listed : Array Bool) : Prop :=
  ∀ j, listed.getD j false = true → ∀ o, ops[j]? = some o → ∀ e ∈ o.after, Region.binds .any e = true → listed.getD e.on false = true
theorem waitsF_listed {ops : Array Oper} {listed : Array Bool} (hc : Closed ops listed) : ∀ {f i j : Nat}, waitsF ops f i j = true → (∀ o, ops[i]? = some o → ∀ e ∈ o.after, Region.binds .any e = true → listed.getD e.on false = true) →
    listed.getD j false = true
  | 0, _, _, h, _ => by cases h
  | f + 1, i, j, h, hi => by
    unfold waitsF at h
    split at h
    · rename_i o ho
      obtain ⟨e, he, h1⟩ := Array.any_eq_true'.1 h
      simp only [Bool.and_eq_true, Bool.or_eq_true, beq_iff_eq] at h1
      obtain ⟨hb, h2⟩ := h1
      have hl := hi o ho e he hb
      rcases h2 with h2 | h2
      · rw [← h2]; exact hl
      · exact waitsF_listed hc h2 (fun o' ho' e' he' hb' => hc _ hl o' ho' e' he' hb')
    · cases h
/-- p stands ahead of i in the order that is walked: i waits for p, or p may be passed over -/
def pairOk (bl : List Nat) (ops : Array Oper) (p i : Nat) : Bool :=
  waitsF ops ops.size i p ||
  match ops[p]?, ops[i]? with
  | some op, some oi => isMov op && isFr bl oi && !isCall op && op.apart ops oi
  | _, _ => false
/-- p does not wait for i -/
def noWait (ops : Array Oper) (p i : Nat) : Bool := match ops[p]? with
  | some op => op.after.all fun e => !Region.binds .any e || e.on != i
  | none => true
/-- Their results lie apart. -/
def dstApart (bl : List Nat) (ops : Array Oper) (p i : Nat) : Bool := match ops[p]?, ops[i]? with
  | some op, some oi => !isFr bl op || !isFr bl oi || match op.dst, oi.dst with
    | some a, some b => a != b
    | _, _ => true
  | _, _ => true
def pairsB (f : Nat → Nat → Bool) : List Nat → Bool
  | [] => true
  | p :: l => l.all (f p) && pairsB f l
theorem pairsB_spec {f : Nat → Nat → Bool} : ∀ {l : List Nat}, pairsB f l = true → l.Pairwise (fun p i => f p i = true)
  | [], _ => .nil
  | p :: l, h => by
    simp only [pairsB, Bool.and_eq_true] at h
    exact .cons (fun i hi => List.all_eq_true.1 h.1 i hi) (pairsB_spec h.2)
/-- (no condition any more) -/
def movFirst (bl : List Nat) (ops : Array Oper) (p i : Nat) : Bool := true
def edgesIn (ops : Array Oper) (p : Nat) : Bool := match ops[p]? with
  | some op => op.after.all fun e => !Region.binds .any e || decide (e.on < ops.size)
  | none => true
structure Ord (bl : List Nat) (ops : Array Oper) (l : List Nat) : Prop where
  lt : ∀ i ∈ l, i < ops.size
  ok : l.Pairwise (fun p i => pairOk bl ops p i = true)
  nw : l.Pairwise (fun p i => noWait ops p i = true)
  self : ∀ i ∈ l, noWait ops i i = true
  ed : ∀ i ∈ l, edgesIn ops i = true
  dst : l.Pairwise (fun p i => dstApart bl ops p i = true)
  mf : l.Pairwise (fun p i => movFirst bl ops p i = true)
  nodup : l.Nodup
theorem Ord.sub {bl : List Nat} {ops : Array Oper} {l l' : List Nat} (h : Ord bl ops l) (hs : l'.Sublist l) : Ord bl ops l' :=
  ⟨fun i hi => h.lt i (hs.subset hi), h.ok.sublist hs, h.nw.sublist hs, fun i hi => h.self i (hs.subset hi), fun i hi => h.ed i (hs.subset hi), h.dst.sublist hs, h.mf.sublist hs, h.nodup.sublist hs⟩
theorem getD_tf {listed : Array Bool} {i : Nat} (h : listed.getD i true = false) : listed.getD i false = false := by
  rcases Nat.lt_or_ge i listed.size with h' | h'
  · simp [h'] at h ⊢; exact h
  · simp [Array.getElem?_eq_none h'] at h
def Fresh (bl : List Nat) (ops : Array Oper) (l : List Nat) (s : St) : Prop := ∀ i ∈ l, ∀ o, ops[i]? = some o → isFr bl o = true → ∀ d, false = true → o.dst = some d → look s.t d = none
theorem wpAny_of_run {P : Program} {bl : List Nat} {ops : Array Oper} {Q : Exit → Act → World → Prop} {K : St → Prop} {B : World} (hK : KC K) (hpost : ∀ s' a' w', K s' → Rel B s' a' w' → Q .normal a' w') :
    ∀ (n : Nat) (l : List Nat) (listed : Array Bool) (s : St) (a : Act) (w : World), l.length = n → Ord bl ops l → listed.size = ops.size →
      (∀ j, j < ops.size → (listed.getD j true = false ↔ j ∈ l)) → Closed ops listed → Fresh bl ops l s → Run P bl ops (l.map fun i => ops.getD i default) s K → Rel B s a w →
      wpAny P .any ops Q n listed a w := by
  intro n
  induction n with
  | zero =>
    intro l listed s a w hn ho hsz hl hc hf hr h
    have : l = [] := List.eq_nil_of_length_eq_zero hn
    subst this
    refine ⟨?_, hpost _ _ _ hr h⟩
    rcases hh : Region.ready .any ops listed with _ | ⟨i, r⟩
    · rfl
    · exfalso
      obtain ⟨h1, o, ho', _⟩ := mem_ready.1 (show i ∈ Region.ready .any ops listed by rw [hh]; simp)
      have := (hl i (Array.getElem?_eq_some_iff.1 ho').1).1 h1
      simp at this
  | succ n ih =>
    intro l listed s a w hn ho hsz hl hc hf hr h
    refine ⟨fun h0 => ?_, fun i hi => ?_⟩
    · -- the head of the list is ready
      exfalso
      cases l with
      | nil => simp at hn
      | cons i0 rest =>
        have hi0 := ho.lt i0 (by simp)
        have : i0 ∈ Region.ready .any ops listed := by
          refine mem_ready.2 ⟨(hl i0 hi0).2 (by simp), ops[i0], Array.getElem?_eq_getElem hi0, fun e he hb => ?_⟩
          rcases hx : listed.getD e.on false with _ | _
          · exfalso
            have hself := ho.self i0 (by simp)
            have hnw : ∀ j, j ∈ rest → noWait ops i0 j = true := fun j hj => (List.pairwise_cons.1 ho.nw).1 j hj
            have key : ∀ j, noWait ops i0 j = true → e.on ≠ j := fun j hj e' => by
              unfold noWait at hj
              rw [Array.getElem?_eq_getElem hi0] at hj
              have := (Array.all_eq_true'.1 hj) e he
              simp [hb, e'] at this
            rcases Nat.lt_or_ge e.on ops.size with hlt | hge
            · have hun : listed.getD e.on true = false := by
                have : e.on < listed.size := by rw [hsz]; exact hlt
                simp [this] at hx ⊢; exact hx
              have := (hl e.on hlt).1 hun
              rcases List.mem_cons.1 this with h1 | h1
              · exact key i0 hself h1
              · exact key e.on (hnw _ h1) rfl
            · have hj := ho.ed i0 (by simp)
              unfold edgesIn at hj
              rw [Array.getElem?_eq_getElem hi0] at hj
              have := (Array.all_eq_true'.1 hj) e he
              simp [hb] at this
              omega
          · rfl
        rw [h0] at this; cases this
    · obtain ⟨hun, oi, hoi, hall⟩ := mem_ready.1 hi
      have hilt := (Array.getElem?_eq_some_iff.1 hoi).1
      have hil : i ∈ l := (hl i hilt).1 hun
      obtain ⟨pre, post, rfl⟩ := List.append_of_mem hil
      have hoid : ops.getD i default = oi := by simp [hoi]
      -- those ahead of it may be passed over
      have hpre : ∀ p ∈ pre, ∃ op, ops[p]? = some op ∧ isMov op = true ∧ isFr bl oi = true ∧ isCall op = false ∧ op.apart ops oi = true := by
        intro p hp
        have hpo : pairOk bl ops p i = true := (List.pairwise_append.1 ho.ok).2.2 p hp i (by simp)
        unfold pairOk at hpo
        rw [Bool.or_eq_true] at hpo
        rcases hpo with hpo | hpo
        · exfalso
          have h1 := waitsF_listed hc hpo (fun o ho' e he hb => by rw [hoi] at ho'; cases ho'; exact hall e he hb)
          have hplt := ho.lt p (by simp [hp])
          have h2 := (hl p hplt).2 (by simp [hp])
          rw [getD_tf h2] at h1; cases h1
        · rw [hoi] at hpo
          cases hop : ops[p]? with
          | none => rw [hop] at hpo; cases hpo
          | some op =>
            rw [hop] at hpo
            simp only [Bool.and_eq_true, Bool.not_eq_true'] at hpo
            exact ⟨op, rfl, hpo.1.1.1, hpo.1.1.2, hpo.1.2, hpo.2⟩
      have hrun : Run P bl ops (oi :: ((pre ++ post).map fun i => ops.getD i default)) s K := by
        rw [List.map_append] at hr ⊢
        rw [List.map_cons, hoid] at hr
        cases hpz : pre with
        | nil => rw [hpz] at hr; exact hr
        | cons p0 pre0 =>
          obtain ⟨op0, _, _, hmi, _, _⟩ := hpre p0 (by rw [hpz]; simp)
          rw [← hpz]
          have hfi := hf i (by simp) oi hoi hmi
          refine Run.front hK hmi ?_ hr
          intro q hq
          obtain ⟨p, hp, rfl⟩ := List.mem_map.1 hq
          obtain ⟨op, hop, h1, h2, h3, h4⟩ := hpre p hp
          have : ops.getD p default = op := by simp [hop]
          rw [this]; exact ⟨h1, h3, h4⟩
      have hsub : (pre ++ post).Sublist (pre ++ i :: post) := List.Sublist.append (List.Sublist.refl _) (List.sublist_cons_self _ _)
      have hnd := ho.nodup
      have hinot : i ∉ pre ++ post := by
        intro hm
        have := List.nodup_append.1 hnd
        rcases List.mem_append.1 hm with h1 | h1
        · exact this.2.2 i h1 i (by simp) rfl
        · exact (List.nodup_cons.1 this.2.1).1 h1
      -- the step
      have hstep : Step P bl ops oi s (fun s' => Run P bl ops ((pre ++ post).map fun i => ops.getD i default) s' K ∧ Fresh bl ops (pre ++ post) s') := by
        exact Step.mono (fun s' hr' => ⟨hr', fun j hj oj hoj hmj d hf' => by cases hf'⟩) hrun
      unfold wpOp
      rw [hoi]
      dsimp only
      have hS := Step.sound (K' := wpAny P .any ops Q n (listed.setIfInBounds i true)) (Q := Q) hstep h (fun s' a' w' hk hrel => by
        refine ih (pre ++ post) (listed.setIfInBounds i true) s' a' w' ?_ (ho.sub hsub) (by simpa using hsz) ?_ ?_ hk.2 hk.1 hrel
        · simp at hn ⊢; omega
        · intro j hj
          by_cases hij : i = j
          · subst hij
            have : i < listed.size := by rw [hsz]; exact hilt
            simp [this]
            simpa using hinot
          · rw [getD_set_ne true hij, hl j hj]
            simp [Ne.symm hij]
        · intro j hj o hoj e he hb
          by_cases hij : i = j
          · subst hij
            rw [hoi] at hoj; cases hoj
            exact getD_set_true (hall e he hb)
          · rw [getD_set_ne false hij] at hj
            exact getD_set_true (hc j hj o hoj e he hb))
      split
      · rename_i hw; rw [if_pos hw] at hS; exact .inl hS
      · rename_i hw; rw [if_neg hw] at hS; exact hS
/-- The static look at a region and an order of its operations. -/
def drawnOk (bl : List Nat) (ops : Array Oper) (perm : List Nat) : Bool :=
  decide (perm.length = ops.size) && perm.all (fun i => decide (i < ops.size)) && (List.range ops.size).all (fun i => perm.contains i) &&
  pairsB (pairOk bl ops) perm && pairsB (noWait ops) perm && perm.all (fun i => noWait ops i i) && perm.all (fun i => edgesIn ops i) && pairsB (dstApart bl ops) perm && pairsB (movFirst bl ops) perm && pairsB (fun i j => i != j) perm
/-- no result of a movable operation is there already -/
def freshB (bl : List Nat) (ops : Array Oper) (s : St) : Bool := true
theorem look_mem {t : List (Nat × Value)} {d : Nat} {sv : Value} (h : look t d = some sv) : (d, sv) ∈ t := by
  induction t with
  | nil => cases h
  | cons p t ih =>
    obtain ⟨d', v⟩ := p
    by_cases e : d' = d
    · subst e; rw [look_cons_eq] at h; cases h; simp
    · rw [look_cons_ne e] at h; exact List.mem_cons_of_mem _ (ih h)
/-- **A REGION THAT DRAWS ITS ORDER**: one walk of one order serves every order. -/
theorem wp_drawn {P : Program} {bl : List Nat} {id : Nat} {ops : Array Oper} {Q : Exit → Act → World → Prop} {s : St} {B w : World} {a : Act} (perm : List Nat) {l : List Oper} {K : St → Prop}
    (hm : P.follows .mixedOrders = true) (hc : drawnOk bl ops perm = true) (hl : perm.map (fun i => ops.getD i default) = l) (hf : freshB bl ops s = true) (hr : Run P bl ops l s K)
    (hpost : ∀ s' a' w', K s' → Rel B s' a' w' → Q .normal a' w') (h : Rel B s a w) : (Code.region id ops true).wp P Q a w := by
  simp only [drawnOk, Bool.and_eq_true, decide_eq_true_eq] at hc
  obtain ⟨⟨⟨⟨⟨⟨⟨⟨⟨hlen, hlt⟩, hall⟩, hpo⟩, hnw⟩, hself⟩, hed⟩, hds⟩, hmf⟩, hnd⟩ := hc
  have hOrd : Ord bl ops perm := ⟨fun i hi => of_decide_eq_true (List.all_eq_true.1 hlt i hi), pairsB_spec hpo, pairsB_spec hnw, fun i hi => List.all_eq_true.1 hself i hi, fun i hi => List.all_eq_true.1 hed i hi,
    pairsB_spec hds, pairsB_spec hmf, (pairsB_spec hnd).imp (fun h => by simpa using h)⟩
  subst hl
  have hK : KC (fun s' => ∃ s0, Eqv s0 s' ∧ K s0) := fun s1 s2 he ⟨s0, h0, h1⟩ => ⟨s0, h0.trans he, h1⟩
  have hr' : Run P bl ops (perm.map fun i => ops.getD i default) s (fun s' => ∃ s0, Eqv s0 s' ∧ K s0) := hr.mono (fun s' hs' => ⟨s', Eqv.refl _, hs'⟩)
  refine wp_region_any hm ?_
  refine wpAny_of_run hK (fun s' a' w' ⟨s0, he, hk⟩ hrel => hpost s0 a' w' hk (he.symm.rel hrel)) ops.size perm _ s a _ hlen hOrd (by simp) ?_ ?_ ?_ hr' h.drew
  · intro j hj
    have : j ∈ perm := by
      have := List.all_eq_true.1 hall j (List.mem_range.2 hj)
      simpa using this
    simp [hj, this]
  · intro j hj
    exfalso
    rcases Nat.lt_or_ge j ops.size with h1 | h1
    · simp [h1] at hj
    · simp [h1] at hj
  · intro i hi o ho hmo d hf'
    cases hf'
end Go.Via
set_option linter.unusedVariables false
set_option linter.unusedSimpArgs false
namespace Go.Via
open Go Go.RowKit
/-- What is asked of a type: is a value of it an aggregate, how many cells, its fields: where each begins, how many cells. -/
structure TI where
  agg : Bool
  size : Nat
  flds : List (Nat × Nat)
def aggD : Option TypeDesc → Option Bool
  | some (.struct _) | some (.array _ _) => some true
  | some _ => some false
  | none => none
def fldsD (P : Program) : Option TypeDesc → List (Nat × Nat)
  | some (.struct fs) => fs.toList.map fun f => (f.offset, ((P.info? f.type).map (·.size)).getD 0)
  | _ => []
def tiOK (P : Program) (t : Nat) (i : TI) : Bool :=
  (P.info? t).any (fun inf => inf.size == i.size) && (aggD (P.underlying t) == some i.agg) && (fldsD P (P.underlying t) == i.flds)
theorem ti_size {P : Program} {t : Nat} {i : TI} (h : tiOK P t i = true) : ∃ inf, P.info? t = some inf ∧ inf.size = i.size := by
  simp only [tiOK, Bool.and_eq_true, Option.any_eq_true] at h
  obtain ⟨⟨⟨inf, h1, h2⟩, _⟩, _⟩ := h
  exact ⟨inf, h1, by simpa using h2⟩
theorem ti_agg {P : Program} {t : Nat} {i : TI} (h : tiOK P t i = true) (w : World) : (isAgg t).run P w = .ok i.agg w := by
  simp only [tiOK, Bool.and_eq_true, beq_iff_eq] at h
  obtain ⟨⟨_, h1⟩, _⟩ := h
  cases hu : P.underlying t with
  | none => rw [hu] at h1; cases h1
  | some d =>
    unfold isAgg
    rw [Sem.run_bind, run_underlying hu w]
    rw [hu] at h1
    cases d <;> simp_all [aggD]
theorem ti_sizeOf {P : Program} {t : Nat} {i : TI} (h : tiOK P t i = true) (w : World) : (sizeOf t).run P w = .ok i.size w := by
  obtain ⟨inf, h1, h2⟩ := ti_size h
  simp [sizeOf, typeInfo, h1, h2]
theorem ti_fld {P : Program} {t : Nat} {i : TI} (h : tiOK P t i = true) {j : Nat} {p : Nat × Nat} (hp : i.flds[j]? = some p) : ∃ fs f, P.underlying t = some (.struct fs) ∧ fs[j]? = some f ∧ f.offset = p.1 ∧ ((P.info? f.type).map (·.size)).getD 0 = p.2 := by
  simp only [tiOK, Bool.and_eq_true, beq_iff_eq] at h
  obtain ⟨_, h1⟩ := h
  cases hu : P.underlying t with
  | none => rw [hu] at h1; simp [fldsD] at h1; rw [h1] at hp; simp at hp
  | some d =>
    rw [hu] at h1
    cases d <;> simp only [fldsD] at h1 <;> first | (rw [← h1] at hp; simp at hp; done) | skip
    rename_i fs
    rw [← h1, List.getElem?_map] at hp
    simp only [Option.map_eq_some_iff] at hp
    obtain ⟨f, h2, h3⟩ := hp
    exact ⟨fs, f, rfl, by simpa using h2, by rw [← h3], by rw [← h3]⟩
/-- the address of a cell of a known block -/
def Blk.at (b : Blk) (off : Nat) : Value := .pointer (b.base.map fun g => ⟨g, off, none⟩)
theorem add_lit (g off j : Nat) : (⟨g, off, none⟩ : Addr).add j = ⟨g, off + j, none⟩ := by unfold Addr.add; split <;> simp_all
/-- a cell of a known block, in the world -/
theorem LRel.cell {B w : World} {L : List Blk} (h : LRel B L w) {k : Nat} {b : Blk} (hk : L[k]? = some b) {j : Nat} {v : Value} (hj : b.cs[j]? = some v) :
    ∃ g, b.base = some g ∧ w.cell? ⟨g, j, none⟩ = some v := by
  obtain ⟨h1, h2⟩ := h.blk k b hk
  cases hb : b.base with
  | none => rw [(h2 hb).1] at hj; simp at hj
  | some g =>
    obtain ⟨cur, ⟨e', fr, h3, _⟩, h4, h5⟩ := (h1 g hb).cells (.inr (fun e => by rw [e] at hj; simp at hj))
    refine ⟨g, rfl, ?_⟩
    rw [cell_of_row w g j cur e' fr h3]
    have hj' : j < b.cs.length := (List.getElem?_eq_some_iff.1 hj).1
    rw [← h5, List.getElem?_take, if_pos hj'] at hj
    simpa using hj
theorem LRel.loadVar {P : Program} {B w : World} {L : List Blk} (h : LRel B L w) {k : Nat} {b : Blk} (hk : L[k]? = some b) {T : Nat} {i : TI} (hi : tiOK P T i = true) {off : Nat} {vs : List Value} {v : Value}
    (hvs : (b.cs.drop off).take i.size = vs) (hlen : vs.length = i.size) (hpos : 0 < i.size) (hv : (bif i.agg then some (.agg vs.toArray) else vs[0]?) = some v) :
    ∃ g, b.base = some g ∧ (Go.loadVar T ⟨g, off, none⟩).run P w = .ok v w := by
  have hc : ∀ j u, vs[j]? = some u → b.cs[off + j]? = some u := by
    intro j u hj
    rw [← hvs, List.getElem?_take] at hj
    split at hj
    · simpa using hj
    · cases hj
  obtain ⟨u0, hu0⟩ : ∃ u, vs[0]? = some u := by rw [List.getElem?_eq_getElem (by omega)]; exact ⟨_, rfl⟩
  obtain ⟨g, hg, h0⟩ := h.cell hk (hc 0 u0 hu0)
  refine ⟨g, hg, ?_⟩
  have hcell : ∀ j u, vs[j]? = some u → w.cell? ((⟨g, off, none⟩ : Addr).add j) = some u := by
    intro j u hj
    obtain ⟨g', hg', h1⟩ := h.cell hk (hc j u hj)
    rw [hg] at hg'; cases hg'
    rw [add_lit]; exact h1
  unfold Go.loadVar
  rw [Sem.run_bind, ti_agg hi w]
  simp only [Result.andThen_ok]
  cases ha : i.agg with
  | true =>
    rw [ha] at hv
    simp only [cond_true, Option.some.injEq] at hv
    subst hv
    have := run_loadCells_list (P := P) w ⟨g, off, none⟩ vs hcell
    rw [hlen] at this
    simp [Sem.run_bind, ti_sizeOf hi w, this]
  | false =>
    rw [ha] at hv
    simp only [cond_false] at hv
    have := hcell 0 v hv
    simp only [add_lit, Nat.add_zero] at this
    simp [this]
/-! ### operations that yield a value -/
section
variable {P : Program} {o : Oper} {s : St}
theorem q_move {x : Operand} {v : Value} (ho : o.op = .move x) (hx : ev s.t x = some v) : Quiet P o s v := fun B a w hr => by
  simp [execOp, ho, hr.ev hx]
theorem q_assign {x : Operand} {v : Value} (ho : o.op = .assign x) (hx : ev s.t x = some v) : Quiet P o s v := fun B a w hr => by
  simp [execOp, ho, hr.ev hx]
theorem q_pick {c x y : Operand} {b : Bool} {v : Value} (ho : o.op = .pick c x y) (hc : ev s.t c = some (.bool b)) (hv : ev s.t (if b then x else y) = some v) : Quiet P o s v := fun B a w hr => by
  have h1 := hr.ev hc
  have h2 := hr.ev hv
  cases b <;> simp [execOp, ho, h1, asBool] <;> simpa using h2
theorem q_load {T : Nat} {x : Operand} {i : TI} {b : Blk} {off : Nat} {vs : List Value} {v : Value} (ho : o.op = .load T x) (k : Nat) (hk : s.L[k]? = some b) (hx : ev s.t x = some (b.at off)) (hi : tiOK P T i = true)
    (hvs : (b.cs.drop off).take i.size = vs) (hlen : vs.length = i.size) (hpos : 0 < i.size) (hv : (bif i.agg then some (.agg vs.toArray) else vs[0]?) = some v) : Quiet P o s v := fun B a w hr => by
  obtain ⟨g, hg, h1⟩ := hr.mem.loadVar hk hi hvs hlen hpos hv
  have h2 := hr.ev hx
  unfold Blk.at at h2
  rw [hg] at h2
  simp only [Option.map_some] at h2
  simp [execOp, ho, h2, Instr.loadAt, Instr.sureAddr, h1]
theorem q_fieldAddr {T : Nat} {x : Operand} {j : Nat} {i : TI} {b : Blk} {off fo fs : Nat} (ho : o.op = .fieldAddr T x j) (k : Nat) (hk : s.L[k]? = some b) (hx : ev s.t x = some (b.at off)) (hb : b.base.isSome = true) (hi : tiOK P T i = true)
    (hf : i.flds[j]? = some (fo, fs + 1)) : Quiet P o s (b.at (off + fo)) := fun B a w hr => by
  have h2 := hr.ev hx
  obtain ⟨g, hg⟩ := Option.isSome_iff_exists.1 hb
  unfold Blk.at at h2 ⊢
  rw [hg] at h2 ⊢
  simp only [Option.map_some] at h2 ⊢
  obtain ⟨fs', f, h3, h4, h5, h6⟩ := ti_fld hi hf
  simp only at h5 h6
  have hsz : (sizeOf f.type).run P w = .ok (fs + 1) w := by
    cases hq : P.info? f.type with
    | none => rw [hq] at h6; simp at h6
    | some inf => rw [hq] at h6; simp at h6; simp [sizeOf, typeInfo, hq, h6]
  simp [execOp, ho, h2, Instr.fieldAt, run_underlying h3, h4, Instr.sureAddr, fieldPlace, hsz, add_lit, h5]
end
/-! ### new blocks, stores -/
/-- a block of the call's own is written -/
theorem setRow_map (w : World) (g : Nat) (cur' : Array Value) {es : Array MapEntry} {c : Nat} (h : w.heap[g]? = some (.map es c)) : (w.setRow g cur').heap[g]? = some (.map es c) := by
  have hlt : g < w.heap.size := (Array.getElem?_eq_some_iff.1 h).1
  have hv : w.heap[g] = .map es c := (Array.getElem?_eq_some_iff.1 h).2
  unfold World.setRow
  rw [Array.getElem?_eq_getElem (by simpa using hlt), Array.getElem_modify]
  simp [hv]
theorem LRel.set {B w : World} {L : List Blk} (h : LRel B L w) {k : Nat} {b : Blk} (hk : L[k]? = some b) (ho : b.own = true) {g : Nat} (hg : b.base = some g) (cur' : Array Value) (cs' : List Value)
    (hn : cur'.size = b.n) (hc : cur'.toList.take cs'.length = cs') : LRel B (L.set k { b with cs := cs' }) (w.setRow g cur') := by
  have h6 := ((h.blk k b hk).1 g hg).2
  have hkl : k < L.length := (List.getElem?_eq_some_iff.1 hk).1
  refine ⟨h.below.trans ⟨rfl, rfl, rfl, by simp, fun i hi => setRow_other w g i _ (by have := h6 ho; omega)⟩, fun j b' hj => ?_, fun i j g' bi bj hij hi hj hoi hgi hgj => ?_⟩
  · by_cases e : k = j
    · subst e
      rw [List.getElem?_set_self hkl] at hj
      cases hj
      refine ⟨fun g' hg' => ?_, fun hn' => by rw [hg] at hn'; cases hn'⟩
      rw [hg] at hg'; cases hg'
      refine ⟨?_, h6⟩
      rcases ((h.blk k b hk).1 g hg).1 with ⟨cur, ⟨e', fr, h3, hfr, hlt⟩, h4, h5⟩ | ⟨l, es, c, a1, a2, a3, a4, h3, a5⟩
      · obtain ⟨rfl, rfl⟩ := hfr ho
        exact .inl ⟨cur', ⟨_, _, setRow_heap w g cur cur' b.e (0, 0) h3, fun _ => ⟨rfl, rfl⟩, hlt⟩, hn, hc⟩
      · have hcs : cs' = [] := by
          have h7 : cur'.toList = [] := List.eq_nil_of_length_eq_zero (by rw [Array.length_toList, hn, a3])
          rw [h7] at hc; simpa using hc.symm
        exact .inr ⟨l, es, c, a1, hcs, a3, a4, setRow_map w g cur' h3, a5⟩
    · rw [List.getElem?_set_ne e] at hj
      obtain ⟨h1, h2⟩ := h.blk j b' hj
      refine ⟨fun g' hg' => ?_, h2⟩
      have h8 := h1 g' hg'
      have hne : g' ≠ g := fun e' => h.apart k j g b b' e hk hj ho hg (by rw [hg', e'])
      exact h8.heap (setRow_other w g g' _ hne)
  · have base : ∀ (m : Nat) (bm : Blk), (L.set k { b with cs := cs' })[m]? = some bm → ∃ bm', L[m]? = some bm' ∧ bm'.base = bm.base ∧ bm'.own = bm.own := by
      intro m bm hm
      by_cases e : k = m
      · subst e
        rw [List.getElem?_set_self hkl] at hm
        cases hm
        exact ⟨b, hk, rfl, rfl⟩
      · rw [List.getElem?_set_ne e] at hm; exact ⟨bm, hm, rfl, rfl⟩
    obtain ⟨bi', a1, a2, a3⟩ := base i bi hi
    obtain ⟨bj', c1, c2, c3⟩ := base j bj hj
    exact h.apart i j g' bi' bj' hij a1 c1 (by rw [a3]; exact hoi) (by rw [a2]; exact hgi) (by rw [c2]; exact hgj)
section
variable {P : Program} {o : Oper} {s : St}
theorem eff_of {X : Type} {nx : X → St} (h : ∀ (B : World) (a : Act) (w : World), Rel B s a w → ∃ v w' x, (execOp a.eval o).run P w = .ok (.value v) w' ∧ Rel B (nx x) (a.put o.dst v) w') : Eff P o s X nx := fun B a w hr => by
  obtain ⟨v, w', x, h1, h2⟩ := h B a w hr
  unfold Oper.wp
  rw [h1]
  exact ⟨x, h2⟩
theorem e_box {T : Nat} {x : Operand} {v : Value} (hT : T < mapMark) (hd : ∀ d, o.dst = some d → d < s.nt) (ho : o.op = .box T x) (hx : ev s.t x = some v) :
    Eff P o s Nat (fun g => ({ s with L := s.L ++ [⟨some g, T, v.cells.toList, v.cells.size, true⟩] } : St).put o.dst (.pointer (some ⟨g, 0, none⟩))) :=
  eff_of fun B a w hr => ⟨.pointer (some ⟨w.heap.size, 0, none⟩), w.alloc (.cells v.cells T), w.heap.size, by simp [execOp, ho, hr.ev hx, Instr.box, newVar, newRow], hr.put hd (hr.mem.alloc T v.cells hT)⟩
theorem alc_alloc {T : Nat} {z : Value} (hT : T < mapMark) (ho : o.op = .alloc T) (hz : (P.info? T).bind (·.zero) = some z) : alTy P o = some (T, z.cells) := by
  unfold alTy; rw [ho]; dsimp only; rw [if_pos hT, hz]; rfl
theorem e_storeS {T : Nat} {x y : Operand} {i : TI} {b : Blk} {off : Nat} {v : Value} (ho : o.op = .store T x y) (k : Nat) (hk : s.L[k]? = some b) (hown : b.own = true) (hx : ev s.t x = some (b.at off)) (hb : b.base.isSome = true)
    (hy : ev s.t y = some v) (hi : tiOK P T i = true) (hsz : v.cells.size = i.size) (hpos : 0 < i.size) (hfit : off + i.size ≤ b.cs.length) (h1 : (v.cells.toList.all fun u => u.oneCell') = true) :
    EffS P o s (s.L.set k { b with cs := b.cs.take off ++ v.cells.toList ++ b.cs.drop (off + i.size) }) := fun B a w hr => by
  obtain ⟨g, hg⟩ := Option.isSome_iff_exists.1 hb
  have h2 := hr.ev hx
  unfold Blk.at at h2
  rw [hg] at h2
  simp only [Option.map_some] at h2
  obtain ⟨cur, ⟨e', fr, h3, hfr, _⟩, h4, h5⟩ := ((hr.mem.blk k b hk).1 g hg).cells (.inr (fun e => by rw [e] at hfit; simp at hfit; omega))
  obtain ⟨rfl, rfl⟩ := hfr hown
  have hlc : b.cs.length ≤ cur.size := by
    have := congrArg List.length h5
    simp at this; omega
  have hvl : v.cells.toList.length = i.size := by simp [hsz]
  have hst := run_storeCells_at P g off b.e v.cells.toList 0 cur w h3 (by rw [hvl]; omega) (fun u hu => List.all_eq_true.1 h1 u hu)
  simp only [Nat.add_zero] at hst
  have hrun : (execOp a.eval o).run P w = .ok .skip (w.setRow g (cur.toList.take off ++ v.cells.toList ++ cur.toList.drop (off + v.cells.toList.length)).toArray) := by
    simp only [execOp, ho, hr.ev hy, h2, Instr.storeAt, Instr.sureAddr, Sem.run_bind, Sem.run_pure, Result.andThen_ok]
    unfold Go.storeVar
    simp only [Sem.run_bind, ti_sizeOf hi w, Result.andThen_ok, hsz, ne_eq, not_true, if_false, Sem.run_ite]
    simp [hst]
  refine ⟨_, hrun, ?_⟩
  refine hr.mem.set hk hown hg _ _ ?_ ?_
  · simp only [List.size_toArray, List.length_append, List.length_take, List.length_drop, Array.length_toList, hvl]
    rw [← h4]
    simp only [Array.length_toList] at *
    omega
  · simp only [hvl]
    have hct : cur.toList = b.cs ++ cur.toList.drop b.cs.length := by
      conv => lhs; rw [← List.take_append_drop b.cs.length cur.toList, h5]
    generalize hcl : cur.toList = cl at *
    generalize hr' : cl.drop b.cs.length = rest at *
    subst hct
    have e1 : (b.cs ++ rest).take off = b.cs.take off := by rw [List.take_append_of_le_length (by omega)]
    have e2 : (b.cs ++ rest).drop (off + i.size) = b.cs.drop (off + i.size) ++ rest := by rw [List.drop_append_of_le_length hfit]
    rw [e1, e2, ← List.append_assoc]
    exact List.take_left
end
end Go.Via
set_option linter.unusedVariables false
set_option linter.unusedSimpArgs false
namespace Go.Via
open Go Go.RowKit
/-- What holds wherever the state holds, the call having begun in B. -/
def At (B : World) (s : St) (X : Act → World → Prop) : Prop := ∀ (a : Act) (w : World), Rel B s a w → X a w
section
variable {P : Program} {B : World} {s : St} {Q : Exit → Act → World → Prop}
theorem at_seq {x y : Code} (h : At B s (x.wp P (Exit.then (y.wp P Q) Q))) : At B s ((Code.seq x y).wp P Q) := fun a w hr => wp_seq (h a w hr)
theorem at_cond {c : Operand} {x y : Code} {b : Bool} (hc : ev s.t c = some (.bool b)) (h1 : b = true → At B s (x.wp P Q)) (h2 : b = false → At B s (y.wp P Q)) : At B s ((Code.cond c x y).wp P Q) := fun a w hr => by
  have := hr.ev hc
  cases b
  · exact wp_cond_false this (h2 rfl a w hr)
  · exact wp_cond_true this (h1 rfl a w hr)
theorem at_condT {c : Operand} {x y : Code} (hc : ev s.t c = some (.bool true)) (h : At B s (x.wp P Q)) : At B s ((Code.cond c x y).wp P Q) := fun a w hr => wp_cond_true (hr.ev hc) (h a w hr)
theorem at_condF {c : Operand} {x y : Code} (hc : ev s.t c = some (.bool false)) (h : At B s (y.wp P Q)) : At B s ((Code.cond c x y).wp P Q) := fun a w hr => wp_cond_false (hr.ev hc) (h a w hr)
theorem at_skip (h : At B s (Q .normal)) : At B s (Code.skip.wp P Q) := fun a w hr => wp_skip (h a w hr)
theorem at_ret (h : At B s (Q .ret)) : At B s (Code.ret.wp P Q) := fun a w hr => wp_ret (h a w hr)
theorem at_block {id : Nat} {c : Code} (h : At B s (c.wp P (Exit.inBlock id Q))) : At B s ((Code.block id c).wp P Q) := fun a w hr => wp_block (h a w hr)
theorem at_exit {id : Nat} (h : At B s (Q (.exit id))) : At B s ((Code.exit id).wp P Q) := fun a w hr => wp_exit (h a w hr)
theorem at_region {id : Nat} {l : List Oper} (h : Run P [] l.toArray l s (fun s' => At B s' (Q .normal))) : At B s ((Code.region id l.toArray false).wp P Q) := fun a w hr =>
  wp_region_lit (Run.sound h hr (fun s' a' w' h1 h2 => h1 a' w' h2))
theorem at_regionM {id : Nat} {l : List Oper} (h : Run P [1000000] l.toArray l s (fun s' => At B s' (Q .normal))) : At B s ((Code.region id l.toArray false).wp P Q) := fun a w hr =>
  wp_region_lit (Run.sound h hr (fun s' a' w' h1 h2 => h1 a' w' h2))
theorem at_drawn {id : Nat} {l l' : List Oper} (bl perm : List Nat) (hm : P.follows .mixedOrders = true) (hc : drawnOk bl l.toArray perm = true) (hl : perm.map (fun i => l.toArray.getD i default) = l') (hf : freshB bl l.toArray s = true)
    (h : Run P bl l.toArray l' s (fun s' => At B s' (Q .normal))) : At B s ((Code.region id l.toArray true).wp P Q) := fun a w hr =>
  wp_drawn (K := fun s' => At B s' (Q .normal)) perm hm hc hl hf h (fun s' a' w' h1 h2 => h1 a' w' h2) hr
/-- A loop: a family of states, and a number that every round lowers. -/
theorem at_loop {ι : Type} {c : Code} (inv : ι → St) (μ : ι → Nat) (i₀ : ι) (h₀ : ∀ a w, Rel B s a w → Rel B (inv i₀) a w)
    (round : ∀ i, At B (inv i) (c.wp P (Exit.then (fun a' w' => ∃ j, μ j < μ i ∧ Rel B (inv j) a' w') Q))) : At B s ((Code.loop c).wp P Q) := fun a w hr => by
  refine wp_loop_ghost (fun n a w => ∃ i, μ i = n ∧ Rel B (inv i) a w) (μ i₀) ⟨i₀, rfl, h₀ a w hr⟩ ?_
  rintro n a w ⟨i, rfl, hi⟩
  refine wp_mono (round i a w hi) ?_
  intro e a' w' hq
  cases e with
  | normal => obtain ⟨j, h1, h2⟩ := hq; exact ⟨μ j, h1, j, rfl, h2⟩
  | _ => exact hq
/-- Some slots are forgotten. -/
theorem Rel.sub {t : List (Nat × Value)} {a : Act} {w : World} (hr : Rel B s a w) (h : ∀ d v, look t d = some v → look s.t d = some v) : Rel B ⟨s.nt, t, s.L⟩ a w :=
  ⟨hr.df, hr.size, fun d v hd => hr.tmp d v (h d v hd), hr.mem⟩
end
/-! ### steps -/
section
variable {P : Program} {bl : List Nat} {ops : Array Oper} {s : St} {K : St → Prop} {rest : List Oper}
theorem run_nil (h : K s) : Run P bl ops [] s K := h
/-- an operation that yields a value -/
theorem run_q {o : Oper} {v : Value} (hd : (match o.dst with | some d => Nat.blt d s.nt | none => true) = true) (hg : wantedS ops o s.t = some true) (_hc : (isCall o || (isAl o || isSto o)) = false) (hq : Quiet P o (s.bk bl) v)
    (h : Run P bl ops rest (s.put o.dst v) K) (hp : isPure o = true → pureV s.t o = some v := by intro h; cases h) : Run P bl ops (o :: rest) s K :=
  ⟨fun d hd' => by rw [hd'] at hd; simpa using hd, true, hg, .inr ⟨rfl, .inl ⟨by rw [Bool.or_eq_false_iff] at _hc; rw [_hc.2, Bool.and_false], v, ⟨hq, fun _ => hp⟩, h⟩⟩⟩
/-- .. or a call of a function without a text -/
theorem run_qc {o : Oper} {v : Value} (hd : (match o.dst with | some d => Nat.blt d s.nt | none => true) = true) (hg : wantedS ops o s.t = some true) (ha : (isAl o || isSto o) = false) (hq : Quiet P o (s.bk bl) v)
    (h : Run P bl ops rest (s.put o.dst v) K) (hp : isPure o = true → pureV s.t o = some v := by intro h; cases h) : Run P bl ops (o :: rest) s K :=
  ⟨fun d hd' => by rw [hd'] at hd; simpa using hd, true, hg, .inr ⟨rfl, .inl ⟨by rw [ha, Bool.and_false], v, ⟨hq, fun _ => hp⟩, h⟩⟩⟩
/-- an operation whose guard says no -/
theorem run_no {o : Oper} (hd : (match o.dst with | some d => Nat.blt d s.nt | none => true) = true) (hg : wantedS ops o s.t = some false) (h : Run P bl ops rest (s.put o.dst undef) K) : Run P bl ops (o :: rest) s K :=
  ⟨fun d hd' => by rw [hd'] at hd; simpa using hd, false, hg, .inl ⟨rfl, h⟩⟩
theorem run_call {o : Oper} {X : Type} {res : X → Value} {new : X → List Blk} (hd : (match o.dst with | some d => Nat.blt d s.nt | none => true) = true) (hg : wantedS ops o s.t = some true) (hc : isCall o = true) (hq : Called P o s X res new) (hF : blA bl = true → CalledF P o s X res new ∧ Nonempty X)
    (h : ∀ x, Run P bl ops rest (({ s with L := s.L ++ new x } : St).put o.dst (res x)) K) : Run P bl ops (o :: rest) s K :=
  ⟨fun d hd' => by rw [hd'] at hd; simpa using hd, true, hg, .inr ⟨rfl, .inr (.inl ⟨hc, X, res, new, hq, hF, h⟩)⟩⟩
theorem run_e {o : Oper} {X : Type} {nx : X → St} (hd : (match o.dst with | some d => Nat.blt d s.nt | none => true) = true) (hg : wantedS ops o s.t = some true) (hm : (isMov o || isAsg o || (isAl o || isSto o)) = false) (hm' : ((isSto o || isME o) && blS bl) = false) (hq : (∀ d, o.dst = some d → d < s.nt) → Eff P o s X nx)
    (h : ∀ x, Run P bl ops rest (nx x) K) : Run P bl ops (o :: rest) s K :=
  have hd' : ∀ d, o.dst = some d → d < s.nt := fun d hd' => by rw [hd'] at hd; simpa using hd
  ⟨hd', true, hg, .inr ⟨rfl, .inr (.inr (.inl ⟨by rw [Bool.or_eq_false_iff, Bool.or_eq_false_iff] at hm; simp [mvS, hm.1.1, hm.1.2], by rw [Bool.or_eq_false_iff] at hm; rw [hm.2, Bool.and_false], by rw [hm', Bool.and_false], X, nx, hq hd', h⟩))⟩⟩
/-- anything, in a region in its own order -/
theorem run_m {o : Oper} {X : Type} {nx : X → St} (hd : (match o.dst with | some d => Nat.blt d s.nt | none => true) = true) (hg : wantedS ops o s.t = some true) (hb : isM bl = true) (hq : (∀ d, o.dst = some d → d < s.nt) → Eff P o s X nx)
    (h : ∀ x, Run P bl ops rest (nx x) K) : Run P bl ops (o :: rest) s K :=
  have hd' : ∀ d, o.dst = some d → d < s.nt := fun d hd' => by rw [hd'] at hd; simpa using hd
  ⟨hd', true, hg, .inr ⟨rfl, .inr (.inr (.inl ⟨by rw [hb]; rfl, by rw [show bl = [1000000] by simpa [isM] using hb]; rfl, by rw [hb]; rfl, X, nx, hq hd', h⟩))⟩⟩
/-- a store that may come early -/
theorem run_s {o : Oper} {L' : List Blk} (hg : wantedS ops o s.t = some true) (hs : isSto o = true) (hd : o.dst = none) (he : EffS P o s L') (hb : blS bl = true → blank bl L' = blank bl s.L) (h : Run P bl ops rest { s with L := L' } K) : Run P bl ops (o :: rest) s K :=
  ⟨fun d hd' => (by rw [hd] at hd'; cases hd'), true, hg, .inr ⟨rfl, .inr (.inr (.inr (.inl ⟨hs, hd, L', he, hb, h⟩)))⟩⟩
/-- a new variable -/
theorem run_al {o : Oper} {e : TypeId} {cs : Array Value} (hd : (match o.dst with | some d => Nat.blt d s.nt | none => true) = true) (hg : wantedS ops o s.t = some true) (ha : isAl o = true) (hq : alTy P o = some (e, cs))
    (h : ∀ g, Run P bl ops rest (({ s with L := s.L ++ [alB g e cs] } : St).put o.dst (.pointer (some ⟨g, 0, none⟩))) K) : Run P bl ops (o :: rest) s K :=
  ⟨fun d hd' => by rw [hd'] at hd; simpa using hd, true, hg, .inr ⟨rfl, .inr (.inr (.inr (.inr (.inl ⟨ha, e, cs, hq, h⟩))))⟩⟩
end
/-! ### calls -/
/-- a function with a text of its own -/
def plainF (P : Program) (f : Nat) : Bool := match P.funcs[f]? with
  | some fn => fn.body.isSome && !(fn.name == "runtime.NumGoroutine")
  | none => false
theorem run_callee {P : Program} {f : Nat} (hf : plainF P f = true) (a : Act) {o : Oper} {x : Operand} {args : Array Operand} {ts : Array TypeId} (ho : o.op = .call { callee := .value x, args := args, argTypes := ts }) (hx : a.eval x = .func (.func f) #[] #[]) {vs : Array Value} (hv : args.map a.eval = vs) (w : World) :
    (execOp a.eval o).run P w = .ok (.enter f vs) w := by
  unfold plainF at hf
  cases hq : P.funcs[f]? with
  | none => rw [hq] at hf; cases hf
  | some fn =>
    rw [hq] at hf
    simp only [Bool.and_eq_true, Bool.not_eq_true'] at hf
    obtain ⟨h1, h2⟩ := hf
    have h3 : fn.body ≠ none := by intro hb; rw [hb] at h1; cases h1
    have h4 : ¬ fn.name = "runtime.NumGoroutine" := by simpa using h2
    simp [execOp, ho, resolve, hx, Deferred.ofValue, invoke, callFunc, hv, hq, h4, h3]
/-- A CALL THAT ONLY COMPUTES: it hands back v; what was there before is as it was. -/
def PCall (P : Program) (f : Nat) (args : Array Value) (v : Value) : Prop :=
  plainF P f = true ∧ ∀ w, Calls P f args w fun e w' => e = .returned v ∧ Below w.heap.size w w'
theorem evs_spec {B : World} {s : St} {a : Act} {w : World} (hr : Rel B s a w) : ∀ {l : List Operand} {vs : List Value}, l.map (ev s.t) = vs.map some → l.map a.eval = vs
  | [], vs, h => by cases vs <;> simp_all
  | x :: l, vs, h => by
    cases vs with
    | nil => simp at h
    | cons v vs =>
      simp only [List.map_cons, List.cons.injEq] at h
      rw [List.map_cons, hr.ev h.1, evs_spec hr h.2]
theorem c_pure {P : Program} {o : Oper} {s : St} {f : Nat} {args : List Operand} {ts : Array TypeId} {vs : List Value} {v : Value} (ho : o.op = .call { callee := .value (.func f), args := args.toArray, argTypes := ts })
    (hv : args.map (ev s.t) = vs.map some) (hc : PCall P f vs.toArray v) : Called P o s Unit (fun _ => v) (fun _ => []) := fun B a w hr => by
  refine ⟨f, vs.toArray, run_callee hc.1 a ho rfl (by simp [evs_spec hr hv]) w, (hc.2 w).mono ?_⟩
  rintro e w' ⟨rfl, hw⟩
  exact ⟨(), rfl, by simpa using hr.mem.same hw⟩
theorem cF_pure {P : Program} {o : Oper} {s : St} {f : Nat} {args : List Operand} {ts : Array TypeId} {vs : List Value} {v : Value} (ho : o.op = .call { callee := .value (.func f), args := args.toArray, argTypes := ts })
    (hv : args.map (ev s.t) = vs.map some) (hc : PCall P f vs.toArray v) : CalledF P o s Unit (fun _ => v) (fun _ => []) := fun B a w hr => by
  refine ⟨f, vs.toArray, run_callee hc.1 a ho rfl (by simp [evs_spec hr hv]) w, (hc.2 w).mono ?_⟩
  rintro e w' ⟨rfl, hw⟩
  exact ⟨(), rfl, ⟨hw, fun k b hk => by simp at hk, fun i j g bi bj hij hi => by simp at hi⟩, fun b hb => by cases hb⟩
/-- a call of whatever kind -/
theorem c_gen {P : Program} {o : Oper} {s : St} {f : Nat} {args : List Operand} {ts : Array TypeId} {vs : List Value} {X : Type} {res : X → Value} {new : X → List Blk} (ho : o.op = .call { callee := .value (.func f), args := args.toArray, argTypes := ts })
    (hv : args.map (ev s.t) = vs.map some) (hf : plainF P f = true) (hc : ∀ (B w : World), LRel B s.L w → Calls P f vs.toArray w fun e w' => ∃ x, e = .returned (res x) ∧ LRel B (s.L ++ new x) w') : Called P o s X res new := fun B a w hr =>
  ⟨f, vs.toArray, run_callee hf a ho rfl (by simp [evs_spec hr hv]) w, hc B w hr.mem⟩
theorem cF_gen {P : Program} {o : Oper} {s : St} {f : Nat} {args : List Operand} {ts : Array TypeId} {vs : List Value} {X : Type} {res : X → Value} {new : X → List Blk} (ho : o.op = .call { callee := .value (.func f), args := args.toArray, argTypes := ts })
    (hv : args.map (ev s.t) = vs.map some) (hf : plainF P f = true) (hc : ∀ (B w : World), LRel B s.L w → Calls P f vs.toArray w fun e w' => ∃ x, e = .returned (res x) ∧ LRel w (new x) w' ∧ ∀ b ∈ new x, b.own = true) : CalledF P o s X res new := fun B a w hr =>
  ⟨f, vs.toArray, run_callee hf a ho rfl (by simp [evs_spec hr hv]) w, hc B w hr.mem⟩
/-! ### the beginning and the end -/
def argT : Nat → List Value → List (Nat × Value)
  | _, [] => []
  | k, v :: l => (k, v) :: argT (k + 1) l
theorem argT_look {l : List Value} : ∀ {k d : Nat} {v : Value}, look (argT k l) d = some v → k ≤ d ∧ l[d - k]? = some v := by
  induction l with
  | nil => intro k d v h; cases h
  | cons x l ih =>
    intro k d v h
    by_cases e : k = d
    · subst e; rw [argT, look_cons_eq] at h; cases h; simp
    · rw [argT, look_cons_ne e] at h
      obtain ⟨h1, h2⟩ := ih h
      refine ⟨by omega, ?_⟩
      rw [show d - k = (d - (k + 1)) + 1 by omega, List.getElem?_cons_succ]; exact h2
theorem LRel.nil (w : World) : LRel w [] w := ⟨Below.refl _ _, fun k b hk => by simp at hk, fun i j g bi bj hij hi => by simp at hi⟩
/-- A call begins, with what is known of the arguments' blocks. -/
theorem calls_at {P : Program} {f : Nat} {fn : Func} {c : Code} {args : List Value} {w : World} {R : Ending → World → Prop} {L : List Blk} (hf : P.funcs[f]? = some fn) (hb : fn.body = some c) (hn : args.length ≤ fn.ntmps) (hL : LRel w L w)
    (h : At w ⟨fn.ntmps, argT 0 args, L⟩ (c.wp P (bodyPost P fn R))) : Calls P f args.toArray w R := by
  refine calls_of_wp hf hb (h _ _ ⟨rfl, ?_, fun d v hd => ?_, hL⟩)
  · simp; omega
  · obtain ⟨_, h2⟩ := argT_look hd
    simp only [Nat.sub_zero] at h2
    have hlt := (List.getElem?_eq_some_iff.1 h2).1
    simp only [List.size_toArray]
    rw [Array.getElem?_append_left (by simpa using hlt)]
    simpa using h2
/-- .. of whatever frame -/
theorem calls_atB {P : Program} {f : Nat} {fn : Func} {c : Code} {args : List Value} {B w : World} {R : Ending → World → Prop} {L : List Blk} (hf : P.funcs[f]? = some fn) (hb : fn.body = some c) (hn : args.length ≤ fn.ntmps) (hL : LRel B L w)
    (h : At B ⟨fn.ntmps, argT 0 args, L⟩ (c.wp P (bodyPost P fn R))) : Calls P f args.toArray w R := by
  refine calls_of_wp hf hb (h _ _ ⟨rfl, ?_, fun d v hd => ?_, hL⟩)
  · simp; omega
  · obtain ⟨_, h2⟩ := argT_look hd
    simp only [Nat.sub_zero] at h2
    have hlt := (List.getElem?_eq_some_iff.1 h2).1
    simp only [List.size_toArray]
    rw [Array.getElem?_append_left (by simpa using hlt)]
    simpa using h2
/-- what a result slot gives -/
def ResIs (P : Program) (s : St) (r : ResultVar) (v : Value) : Prop := ∀ (B : World) (a : Act) (w : World), Rel B s a w →
  (match r with | .tmp t => pure (a.tmps.getD t undef) | .cell p t => do Go.loadVar t (← asAddr (a.tmps.getD p undef)) : Sem Value).run P w = .ok v w
theorem res_tmp {P : Program} {s : St} {t : Nat} {v : Value} (h : look s.t t = some v) : ResIs P s (.tmp t) v := fun B a w hr => by
  have := hr.tmp t v h
  simp [this]
theorem res_cell {P : Program} {s : St} {p T : Nat} {b : Blk} {i : TI} {vs : List Value} {v : Value} (k : Nat) (hk : s.L[k]? = some b) (h : look s.t p = some (b.at 0)) (hi : tiOK P T i = true) (hvs : b.cs.take i.size = vs) (hlen : vs.length = i.size) (hpos : 0 < i.size)
    (hv : (bif i.agg then some (.agg vs.toArray) else vs[0]?) = some v) : ResIs P s (.cell p T) v := fun B a w hr => by
  have h1 := hr.tmp p _ h
  obtain ⟨g, hg, h2⟩ := hr.mem.loadVar (P := P) hk hi (off := 0) (by simpa using hvs) hlen hpos hv
  unfold Blk.at at h1
  rw [hg] at h1
  simp only [Option.map_some] at h1
  simp [h1, asAddr, h2]
theorem at_end1 {P : Program} {B : World} {fn : Func} {R : Ending → World → Prop} {s : St} {r : ResultVar} {v : Value} (hfn : fn.results = #[r]) (h : ResIs P s r v) (hR : ∀ w, LRel B s.L w → R (.returned v) w) : At B s (bodyPost P fn R .ret) := fun a w hr => by
  refine ⟨hr.df, v, ?_, hR w hr.mem⟩
  have := h B a w hr
  cases r with
  | tmp t => simp only [Sem.run_pure] at this; simp [results, hfn]; simpa using this
  | cell p T =>
    simp only [Sem.run_bind] at this
    simp only [results, hfn]
    simp [Sem.run_bind, Result.andThen] at this ⊢
    split at this <;> simp_all
theorem at_end2 {P : Program} {B : World} {fn : Func} {R : Ending → World → Prop} {s : St} {r r' : ResultVar} {v v' : Value} (hfn : fn.results = #[r, r']) (h : ResIs P s r v) (h' : ResIs P s r' v') (hR : ∀ w, LRel B s.L w → R (.returned (.tuple #[v, v'])) w) : At B s (bodyPost P fn R .ret) := fun a w hr => by
  refine ⟨hr.df, .tuple #[v, v'], ?_, hR w hr.mem⟩
  have h1 := h B a w hr
  have h2 := h' B a w hr
  unfold results
  rw [hfn]
  simp only [List.mapM_toArray, List.mapM_cons, List.mapM_nil, Sem.run_bind, Sem.run_map, bind_pure_comp]
  cases r <;> cases r' <;> simp only [Sem.run_bind, Sem.run_pure] at h1 h2 ⊢ <;> simp_all
theorem at_end3 {P : Program} {B : World} {fn : Func} {R : Ending → World → Prop} {s : St} {r r' r'' : ResultVar} {v v' v'' : Value} (hfn : fn.results = #[r, r', r'']) (h : ResIs P s r v) (h' : ResIs P s r' v') (h'' : ResIs P s r'' v'') (hR : ∀ w, LRel B s.L w → R (.returned (.tuple #[v, v', v''])) w) : At B s (bodyPost P fn R .ret) := fun a w hr => by
  refine ⟨hr.df, .tuple #[v, v', v''], ?_, hR w hr.mem⟩
  have h1 := h B a w hr
  have h2 := h' B a w hr
  have h3 := h'' B a w hr
  unfold results
  rw [hfn]
  simp only [List.mapM_toArray, List.mapM_cons, List.mapM_nil, Sem.run_bind, Sem.run_map, bind_pure_comp]
  cases r <;> cases r' <;> cases r'' <;> simp only [Sem.run_bind, Sem.run_pure] at h1 h2 h3 ⊢ <;> simp_all
end Go.Via
set_option linter.unusedVariables false
set_option linter.unusedSimpArgs false
namespace Go.Via
open Go Go.RowKit
section
variable {P : Program} {bl : List Nat} {ops : Array Oper} {K : St → Prop} {rest : List Oper} {nt : Nat} {t : List (Nat × Value)} {L : List Blk} {d : Nat} {ty : TypeId} {pos : String} {af : Array Edge} {g : Option (Nat × Bool)}
theorem r_move {x : Operand} {v : Value} (hd : Nat.blt d nt = true) (hg : wantedS ops ⟨some d, .move x, ty, pos, af, g⟩ t = some true) (hx : ev t x = some v) (h : Run P bl ops rest ⟨nt, (d, v) :: t, L⟩ K) :
    Run P bl ops (⟨some d, .move x, ty, pos, af, g⟩ :: rest) ⟨nt, t, L⟩ K := run_q hd hg rfl (q_move rfl hx) h (fun _ => hx)
theorem r_assign {x : Operand} {v : Value} (hd : Nat.blt d nt = true) (hg : wantedS ops ⟨some d, .assign x, ty, pos, af, g⟩ t = some true) (hx : ev t x = some v) (h : Run P bl ops rest ⟨nt, (d, v) :: t, L⟩ K) :
    Run P bl ops (⟨some d, .assign x, ty, pos, af, g⟩ :: rest) ⟨nt, t, L⟩ K := run_q hd hg rfl (q_assign rfl hx) h
theorem r_pickT {c x y : Operand} {v : Value} (hd : Nat.blt d nt = true) (hg : wantedS ops ⟨some d, .pick c x y, ty, pos, af, g⟩ t = some true) (hc : ev t c = some (.bool true)) (hx : ev t x = some v) (h : Run P bl ops rest ⟨nt, (d, v) :: t, L⟩ K) :
    Run P bl ops (⟨some d, .pick c x y, ty, pos, af, g⟩ :: rest) ⟨nt, t, L⟩ K := run_q hd hg rfl (q_pick (b := true) rfl hc hx) h
theorem r_pickF {c x y : Operand} {v : Value} (hd : Nat.blt d nt = true) (hg : wantedS ops ⟨some d, .pick c x y, ty, pos, af, g⟩ t = some true) (hc : ev t c = some (.bool false)) (hx : ev t y = some v) (h : Run P bl ops rest ⟨nt, (d, v) :: t, L⟩ K) :
    Run P bl ops (⟨some d, .pick c x y, ty, pos, af, g⟩ :: rest) ⟨nt, t, L⟩ K := run_q hd hg rfl (q_pick (b := false) rfl hc hx) h
/-- load: block k, cells from off on -/
theorem r_load {T : Nat} {x : Operand} {i : TI} {b : Blk} {v : Value} (k off : Nat) (vs : List Value) (hd : Nat.blt d nt = true) (hg : wantedS ops ⟨some d, .load T x, ty, pos, af, g⟩ t = some true) (hk : (blank bl L)[k]? = some b) (hx : ev t x = some (b.at off)) (hi : tiOK P T i = true)
    (hvs : (b.cs.drop off).take i.size = vs) (hlen : vs.length = i.size) (hpos : Nat.blt 0 i.size = true) (hv : (bif i.agg then some (.agg vs.toArray) else vs[0]?) = some v) (h : Run P bl ops rest ⟨nt, (d, v) :: t, L⟩ K) :
    Run P bl ops (⟨some d, .load T x, ty, pos, af, g⟩ :: rest) ⟨nt, t, L⟩ K := run_q hd hg rfl (q_load rfl k hk hx hi hvs hlen (by simpa using hpos) hv) h
theorem r_fieldAddr {T : Nat} {x : Operand} {j : Nat} {i : TI} {b : Blk} {gg : Nat} (k off fo : Nat) {fs : Nat} (hd : Nat.blt d nt = true) (hg : wantedS ops ⟨some d, .fieldAddr T x j, ty, pos, af, g⟩ t = some true) (hk : (blank bl L)[k]? = some b) (hb : b.base = some gg) (hx : ev t x = some (.pointer (some ⟨gg, off, none⟩))) (hi : tiOK P T i = true)
    (hf : i.flds[j]? = some (fo, fs + 1)) {off' : Nat} (ho : off + fo = off') (h : Run P bl ops rest ⟨nt, (d, .pointer (some ⟨gg, off', none⟩)) :: t, L⟩ K) :
    Run P bl ops (⟨some d, .fieldAddr T x j, ty, pos, af, g⟩ :: rest) ⟨nt, t, L⟩ K := by
  refine run_q hd hg rfl (q_fieldAddr (s := St.bk ⟨nt, t, L⟩ bl) (off := off) rfl k hk (by show ev t x = _; rw [hx]; unfold Blk.at; rw [hb]; rfl) (by rw [hb]; rfl) hi hf) ?_
  unfold Blk.at
  rw [hb, ho]
  exact h
theorem r_no {o : Oper} (hdst : o.dst = some d) (hd : Nat.blt d nt = true) (hg : wantedS ops o t = some false) (h : Run P bl ops rest ⟨nt, (d, undef) :: t, L⟩ K) : Run P bl ops (o :: rest) ⟨nt, t, L⟩ K :=
  run_no (by rw [hdst]; exact hd) hg (by rw [hdst]; exact h)
theorem r_box {T : Nat} {x : Operand} {v : Value} (cs : List Value) (n : Nat) (mk : Nat → List Blk) (hd : Nat.blt d nt = true) (hg : wantedS ops ⟨some d, .box T x, ty, pos, af, g⟩ t = some true) (hx : ev t x = some v) (hcs : v.cells.toList = cs) (hn : v.cells.size = n)
    (hL : ∀ b, L ++ [⟨some b, T, cs, n, true⟩] = mk b) (h : ∀ b, Run P bl ops rest ⟨nt, (d, .pointer (some ⟨b, 0, none⟩)) :: t, mk b⟩ K) (hT : Nat.blt T mapMark = true := by rfl) : Run P bl ops (⟨some d, .box T x, ty, pos, af, g⟩ :: rest) ⟨nt, t, L⟩ K :=
  run_e hd hg rfl rfl (fun hd' => e_box (by simpa using hT) hd' rfl hx) fun b => by
    subst hcs; subst hn
    have := h b
    rw [← hL b] at this
    exact this
theorem r_alloc {T : Nat} {z : Value} (cs : List Value) (n : Nat) (mk : Nat → List Blk) (hd : Nat.blt d nt = true) (hg : wantedS ops ⟨some d, .alloc T, ty, pos, af, g⟩ t = some true) (hz : (P.info? T).bind (·.zero) = some z) (hcs : z.cells.toList = cs) (hn : z.cells.size = n)
    (hL : ∀ b, L ++ [⟨some b, T, cs, n, true⟩] = mk b) (h : ∀ b, Run P bl ops rest ⟨nt, (d, .pointer (some ⟨b, 0, none⟩)) :: t, mk b⟩ K) (hT : Nat.blt T mapMark = true := by rfl) : Run P bl ops (⟨some d, .alloc T, ty, pos, af, g⟩ :: rest) ⟨nt, t, L⟩ K :=
  run_al (e := T) (cs := z.cells) hd hg rfl (alc_alloc (by simpa using hT) rfl hz) fun b => by
    subst hcs; subst hn
    have := h b
    rw [← hL b] at this
    exact this
theorem r_store (hbl : blS bl = false) {T : Nat} {x y : Operand} {i : TI} {gg e n : Nat} {cs : List Value} {v : Value} (k off : Nat) (L' : List Blk) (cs' : List Value) (hg : wantedS ops ⟨none, .store T x y, ty, pos, af, g⟩ t = some true) (hk : L[k]? = some ⟨some gg, e, cs, n, true⟩) (hx : ev t x = some (.pointer (some ⟨gg, off, none⟩)))
    (hy : ev t y = some v) (hi : tiOK P T i = true) (hsz : v.cells.size = i.size) (hfit : Nat.ble (off + i.size) cs.length = true) (h1 : (v.cells.toList.all fun u => u.oneCell') = true) (hcs : cs.take off ++ v.cells.toList ++ cs.drop (off + i.size) = cs') (hL : L.set k ⟨some gg, e, cs', n, true⟩ = L')
    (h : Run P bl ops rest ⟨nt, t, L'⟩ K) (hpos : Nat.blt 0 i.size = true := by rfl) : Run P bl ops (⟨none, .store T x y, ty, pos, af, g⟩ :: rest) ⟨nt, t, L⟩ K :=
  run_s hg rfl rfl (by
    subst hcs; subst hL
    exact e_storeS (s := ⟨nt, t, L⟩) rfl k hk rfl (by rw [hx]; rfl) rfl hy hi hsz (by simpa using hpos) (by simpa using hfit) h1) (fun h2 => by rw [hbl] at h2; cases h2) h
/-- a store that may come before others -/
theorem r_storeE {T : Nat} {x y : Operand} {i : TI} {gg e n : Nat} {cs : List Value} {v : Value} (k off : Nat) (L' : List Blk) (cs' : List Value) (hg : wantedS ops ⟨none, .store T x y, ty, pos, af, g⟩ t = some true) (hk : L[k]? = some ⟨some gg, e, cs, n, true⟩) (hx : ev t x = some (.pointer (some ⟨gg, off, none⟩)))
    (hy : ev t y = some v) (hi : tiOK P T i = true) (hsz : v.cells.size = i.size) (hfit : Nat.ble (off + i.size) cs.length = true) (h1 : (v.cells.toList.all fun u => u.oneCell') = true) (hcs : cs.take off ++ v.cells.toList ++ cs.drop (off + i.size) = cs') (hL : L.set k ⟨some gg, e, cs', n, true⟩ = L') (hb : blank bl L' = blank bl L)
    (h : Run P bl ops rest ⟨nt, t, L'⟩ K) (hpos : Nat.blt 0 i.size = true := by rfl) : Run P bl ops (⟨none, .store T x y, ty, pos, af, g⟩ :: rest) ⟨nt, t, L⟩ K :=
  run_s hg rfl rfl (by
    subst hcs; subst hL
    exact e_storeS (s := ⟨nt, t, L⟩) rfl k hk rfl (by rw [hx]; rfl) rfl hy hi hsz (by simpa using hpos) (by simpa using hfit) h1) (fun _ => hb) h
/-- a call that only computes -/
theorem r_pcall {f : Nat} {args : List Operand} {ts : Array TypeId} (vs : List Value) {v : Value} (hd : Nat.blt d nt = true) (hg : wantedS ops ⟨some d, .call { callee := .value (.func f), args := args.toArray, argTypes := ts }, ty, pos, af, g⟩ t = some true)
    (hv : args.map (ev t) = vs.map some) (hc : PCall P f vs.toArray v) (h : Run P bl ops rest ⟨nt, (d, v) :: t, L⟩ K) :
    Run P bl ops (⟨some d, .call { callee := .value (.func f), args := args.toArray, argTypes := ts }, ty, pos, af, g⟩ :: rest) ⟨nt, t, L⟩ K :=
  run_call hd hg rfl (c_pure (s := ⟨nt, t, L⟩) rfl hv hc) (fun _ => ⟨cF_pure (s := ⟨nt, t, L⟩) rfl hv hc, ⟨()⟩⟩) fun _ => by
    have : L ++ ([] : List Blk) = L := List.append_nil L
    show Run P bl ops rest ⟨nt, (d, v) :: t, L ++ []⟩ K
    rw [this]; exact h
/-! values -/
theorem run_eqlB {T : Nat} (hT : P.underlying T = some .bool) (m n : Bool) (w : World) : (binOp .eql T (.bool m) (.bool n)).run P w = .ok (.bool (m == n)) w := by
  have := run_equalIn_bool w 9999 T m n hT
  simp only [binOp, Op.equal, Op.maxDepth, Sem.run_bind, this, Result.andThen_ok, Sem.run_pure]
theorem run_neqB {T : Nat} (hT : P.underlying T = some .bool) (m n : Bool) (w : World) : (binOp .neq T (.bool m) (.bool n)).run P w = .ok (.bool (m != n)) w := by
  have := run_equalIn_bool w 9999 T m n hT
  simp only [binOp, Op.equal, Op.maxDepth, Sem.run_bind, this, Result.andThen_ok, Sem.run_pure]
  rfl
section
variable {x y : Operand} (hd : Nat.blt d nt = true)
theorem r_not {T : Nat} {b : Bool} (hd : Nat.blt d nt = true) (hg : wantedS ops ⟨some d, .unOp .not T x, ty, pos, af, g⟩ t = some true) (hx : ev t x = some (.bool b)) (h : Run P bl ops rest ⟨nt, (d, .bool (!b)) :: t, L⟩ K) :
    Run P bl ops (⟨some d, .unOp .not T x, ty, pos, af, g⟩ :: rest) ⟨nt, t, L⟩ K :=
  run_q hd hg rfl (fun B a w hr => by simp [execOp, hr.ev hx, Op.unary]) h
theorem r_extract {i : Nat} {vs : List Value} {v : Value} (hd : Nat.blt d nt = true) (hg : wantedS ops ⟨some d, .extract x i, ty, pos, af, g⟩ t = some true) (hx : ev t x = some (.tuple vs.toArray)) (hv : vs[i]? = some v) (h : Run P bl ops rest ⟨nt, (d, v) :: t, L⟩ K) :
    Run P bl ops (⟨some d, .extract x i, ty, pos, af, g⟩ :: rest) ⟨nt, t, L⟩ K :=
  run_q hd hg rfl (fun B a w hr => by simp [execOp, hr.ev hx, Instr.extract, hv]) h (fun _ => by unfold pureV; simp [hx, hv])
theorem r_cmpInt {op : BinOp} {T U : Nat} {k : IntKind} {m n : Int} {r : Bool} (hd : Nat.blt d nt = true) (hg : wantedS ops ⟨some d, .binOp op T x y U, ty, pos, af, g⟩ t = some true) (hx : ev t x = some (.int k m)) (hy : ev t y = some (.int k n))
    (hr : (match op with | .eql => some (m == n) | .neq => some (m != n) | .lss => some (decide (m < n)) | .leq => some (decide (m ≤ n)) | .gtr => some (decide (n < m)) | .geq => some (decide (n ≤ m)) | _ => none) = some r) (h : Run P bl ops rest ⟨nt, (d, .bool r) :: t, L⟩ K) :
    Run P bl ops (⟨some d, .binOp op T x y U, ty, pos, af, g⟩ :: rest) ⟨nt, t, L⟩ K :=
  run_q hd hg rfl (fun B a w hrel => by
    have h1 := hrel.ev hx
    have h2 := hrel.ev hy
    cases op <;> simp at hr <;> subst hr <;> simp [execOp, h1, h2, eqGuard, binOp, Op.intCmp]) h
theorem r_eqlBool {T U : Nat} {m n : Bool} (hd : Nat.blt d nt = true) (hT : P.underlying T = some .bool) (hg : wantedS ops ⟨some d, .binOp .eql T x y U, ty, pos, af, g⟩ t = some true) (hx : ev t x = some (.bool m)) (hy : ev t y = some (.bool n))
    (h : Run P bl ops rest ⟨nt, (d, .bool (m == n)) :: t, L⟩ K) : Run P bl ops (⟨some d, .binOp .eql T x y U, ty, pos, af, g⟩ :: rest) ⟨nt, t, L⟩ K :=
  run_q hd hg rfl (fun B a w hrel => by
    simp [execOp, hrel.ev hx, hrel.ev hy, eqGuard, run_eqlB hT]) h
theorem r_neqBool {T U : Nat} {m n : Bool} (hd : Nat.blt d nt = true) (hT : P.underlying T = some .bool) (hg : wantedS ops ⟨some d, .binOp .neq T x y U, ty, pos, af, g⟩ t = some true) (hx : ev t x = some (.bool m)) (hy : ev t y = some (.bool n))
    (h : Run P bl ops rest ⟨nt, (d, .bool (m != n)) :: t, L⟩ K) : Run P bl ops (⟨some d, .binOp .neq T x y U, ty, pos, af, g⟩ :: rest) ⟨nt, t, L⟩ K :=
  run_q hd hg rfl (fun B a w hrel => by
    simp [execOp, hrel.ev hx, hrel.ev hy, eqGuard, run_neqB hT]) h
theorem r_eqlStr {T U : Nat} {m n : ByteArray} (hd : Nat.blt d nt = true) (hg : wantedS ops ⟨some d, .binOp .eql T x y U, ty, pos, af, g⟩ t = some true) (hx : ev t x = some (.string m)) (hy : ev t y = some (.string n))
    (h : Run P bl ops rest ⟨nt, (d, .bool (m == n)) :: t, L⟩ K) : Run P bl ops (⟨some d, .binOp .eql T x y U, ty, pos, af, g⟩ :: rest) ⟨nt, t, L⟩ K :=
  run_q hd hg rfl (fun B a w hrel => by
    simp [execOp, hrel.ev hx, hrel.ev hy, eqGuard, binOp, Op.stringOp, beq_toListBytes]) h
theorem r_neqStr {T U : Nat} {m n : ByteArray} (hd : Nat.blt d nt = true) (hg : wantedS ops ⟨some d, .binOp .neq T x y U, ty, pos, af, g⟩ t = some true) (hx : ev t x = some (.string m)) (hy : ev t y = some (.string n))
    (h : Run P bl ops rest ⟨nt, (d, .bool (m != n)) :: t, L⟩ K) : Run P bl ops (⟨some d, .binOp .neq T x y U, ty, pos, af, g⟩ :: rest) ⟨nt, t, L⟩ K :=
  run_q hd hg rfl (fun B a w hrel => by
    simp [execOp, hrel.ev hx, hrel.ev hy, eqGuard, binOp, Op.stringOp, bne, beq_toListBytes]) h
/-- two aggregates, by a law of the type -/
theorem r_eqlAgg {T U : Nat} {m n : Array Value} {r : Bool} (hd : Nat.blt d nt = true) (hg : wantedS ops ⟨some d, .binOp .eql T x y U, ty, pos, af, g⟩ t = some true) (hx : ev t x = some (.agg m)) (hy : ev t y = some (.agg n)) (hm : P.eqGuardType P.depth T = false)
    (hr : ∀ w, (Op.equalIn 10000 T (.agg m) (.agg n)).run P w = .ok r w) (h : Run P bl ops rest ⟨nt, (d, .bool r) :: t, L⟩ K) : Run P bl ops (⟨some d, .binOp .eql T x y U, ty, pos, af, g⟩ :: rest) ⟨nt, t, L⟩ K :=
  run_q hd hg rfl (fun B a w hrel => by
    simp [execOp, hrel.ev hx, hrel.ev hy, run_eqGuard_agg w .eql T x y m n hm, run_eql_struct w T m n, hr w]) h
theorem r_neqAgg {T U : Nat} {m n : Array Value} {r : Bool} (hd : Nat.blt d nt = true) (hg : wantedS ops ⟨some d, .binOp .neq T x y U, ty, pos, af, g⟩ t = some true) (hx : ev t x = some (.agg m)) (hy : ev t y = some (.agg n)) (hm : P.eqGuardType P.depth T = false)
    (hr : ∀ w, (Op.equalIn 10000 T (.agg m) (.agg n)).run P w = .ok r w) (h : Run P bl ops rest ⟨nt, (d, .bool (!r)) :: t, L⟩ K) : Run P bl ops (⟨some d, .binOp .neq T x y U, ty, pos, af, g⟩ :: rest) ⟨nt, t, L⟩ K :=
  run_q hd hg rfl (fun B a w hrel => by
    simp [execOp, hrel.ev hx, hrel.ev hy, run_eqGuard_agg w .neq T x y m n hm, run_neq_struct w T m n, hr w]) h
theorem r_build {T : Nat} {parts : List (Nat × Operand)} (ps : List (Nat × Value)) {v : Value} (hd : Nat.blt d nt = true) (hg : wantedS ops ⟨some d, .build T parts.toArray, ty, pos, af, g⟩ t = some true) (hx : parts.map (fun p => (p.1, ev t p.2)) = ps.map (fun p => (p.1, some p.2)))
    (hb : ∀ w, (Instr.build T ps.toArray).run P w = .ok v w) (h : Run P bl ops rest ⟨nt, (d, v) :: t, L⟩ K) : Run P bl ops (⟨some d, .build T parts.toArray, ty, pos, af, g⟩ :: rest) ⟨nt, t, L⟩ K :=
  run_q hd hg rfl (fun B a w hrel => by
    have : (parts.map fun p => (p.1, a.eval p.2)) = ps := by
      clear h hb hg
      induction parts generalizing ps with
      | nil => cases ps <;> simp_all
      | cons p parts ih =>
        cases ps with
        | nil => simp at hx
        | cons q ps =>
          simp only [List.map_cons, List.cons.injEq, Prod.mk.injEq] at hx
          rw [List.map_cons, hrel.ev hx.1.2, ih ps hx.2, hx.1.1]
    simp [execOp, this, hb w]) h
theorem r_len {T : Nat} {s : ByteArray} (hd : Nat.blt d nt = true) (hT : P.underlying T = some .string) (hg : wantedS ops ⟨some d, .call { callee := .builtin .len, args := #[x], argTypes := #[T] }, ty, pos, af, g⟩ t = some true) (hx : ev t x = some (.string s)) (h : Run P bl ops rest ⟨nt, (d, .int .i64 s.size) :: t, L⟩ K) :
    Run P bl ops (⟨some d, .call { callee := .builtin .len, args := #[x], argTypes := #[T] }, ty, pos, af, g⟩ :: rest) ⟨nt, t, L⟩ K :=
  run_q hd hg rfl (fun B a w hrel => by
    have := run_len_string (P := P) w T ty s hT
    simp [execOp, resolve, invoke, builtin, hrel.ev hx, this, goInt]) h
theorem r_neg {T : Nat} {k : IntKind} {n r : Int} (hd : Nat.blt d nt = true) (hg : wantedS ops ⟨some d, .unOp .neg T x, ty, pos, af, g⟩ t = some true) (hx : ev t x = some (.int k n)) (hr : k.wrap (0 - n) = r) (h : Run P bl ops rest ⟨nt, (d, .int k r) :: t, L⟩ K) :
    Run P bl ops (⟨some d, .unOp .neg T x, ty, pos, af, g⟩ :: rest) ⟨nt, t, L⟩ K :=
  run_q hd hg rfl (fun B a w hrel => by simp [execOp, hrel.ev hx, Op.unary, Op.intArith]; simpa using hr) h
theorem r_arith {op : BinOp} {T U : Nat} {k : IntKind} {m n r : Int} (hd : Nat.blt d nt = true) (hg : wantedS ops ⟨some d, .binOp op T x y U, ty, pos, af, g⟩ t = some true) (hx : ev t x = some (.int k m)) (hy : ev t y = some (.int k n))
    (hr : (match op with | .add => some (k.wrap (m + n)) | .sub => some (k.wrap (m - n)) | .mul => some (k.wrap (m * n)) | _ => none) = some r) (h : Run P bl ops rest ⟨nt, (d, .int k r) :: t, L⟩ K) :
    Run P bl ops (⟨some d, .binOp op T x y U, ty, pos, af, g⟩ :: rest) ⟨nt, t, L⟩ K :=
  run_q hd hg rfl (fun B a w hrel => by
    have h1 := hrel.ev hx
    have h2 := hrel.ev hy
    cases op <;> simp at hr <;> subst hr <;> simp [execOp, h1, h2, eqGuard, binOp, Op.intArith]) h
end
end
end Go.Via
set_option linter.unusedVariables false
set_option linter.unusedSimpArgs false
namespace Go.Via
open Go Go.RowKit
theorem kc_at {B : World} {X : Act → World → Prop} : KC (fun s' => At B s' X) := fun _ _ he h a w hr => h a w (he.symm.rel hr)
/-- the two values of a test that a guard asks -/
theorem r_split {P : Program} {bl : List Nat} {ops : Array Oper} {nt : Nat} {t : List (Nat × Value)} {L : List Blk} {B : World} {X : Act → World → Prop} {l : List Oper} {b : Bool} (d : Nat) (hx : look t d = some (.bool b))
    (hT : b = true → Run P bl ops l ⟨nt, (d, .bool true) :: t, L⟩ (fun s' => At B s' X)) (hF : b = false → Run P bl ops l ⟨nt, (d, .bool false) :: t, L⟩ (fun s' => At B s' X)) : Run P bl ops l ⟨nt, t, L⟩ (fun s' => At B s' X) := by
  have key : ∀ c : Bool, b = c → Eqv ⟨nt, (d, .bool c) :: t, L⟩ ⟨nt, t, L⟩ := fun c hc => ⟨rfl, rfl, fun k => by
    by_cases e : d = k
    · subst e; rw [look_cons_eq, ← hc]; exact hx.symm
    · rw [look_cons_ne e]⟩
  cases hb : b
  · exact Run.kc kc_at l _ _ (key false hb) (hF hb)
  · exact Run.kc kc_at l _ _ (key true hb) (hT hb)
/-- a value is known better -/
theorem r_know {P : Program} {bl : List Nat} {ops : Array Oper} {nt : Nat} {t : List (Nat × Value)} {L : List Blk} {B : World} {X : Act → World → Prop} {l : List Oper} {v : Value} (d : Nat) (v' : Value) (hx : look t d = some v) (hv : v = v')
    (h : Run P bl ops l ⟨nt, (d, v') :: t, L⟩ (fun s' => At B s' X)) : Run P bl ops l ⟨nt, t, L⟩ (fun s' => At B s' X) := by
  refine Run.kc kc_at l ⟨nt, (d, v') :: t, L⟩ _ ⟨rfl, rfl, fun k => ?_⟩ h
  by_cases e : d = k
  · subst e; rw [look_cons_eq, ← hv]; exact hx.symm
  · rw [look_cons_ne e]
section
variable {B : World} {s : St} {k : Act → World → Prop} {Q : Exit → Act → World → Prop} {id id' : Nat}
theorem at_tn (h : At B s k) : At B s (Exit.then k Q .normal) := h
theorem at_tr (h : At B s (Q .ret)) : At B s (Exit.then k Q .ret) := h
theorem at_te (h : At B s (Q (.exit id))) : At B s (Exit.then k Q (.exit id)) := h
theorem at_bn (h : At B s (Q .normal)) : At B s (Exit.inBlock id Q .normal) := h
theorem at_br (h : At B s (Q .ret)) : At B s (Exit.inBlock id Q .ret) := h
theorem at_be (h : At B s (Q .normal)) : At B s (Exit.inBlock id Q (.exit id)) := fun a w hr => by
  show if id = id then _ else _
  rw [if_pos rfl]; exact h a w hr
theorem at_bne (hne : (id' == id) = false) (h : At B s (Q (.exit id'))) : At B s (Exit.inBlock id Q (.exit id')) := fun a w hr => by
  show if id' = id then _ else _
  rw [if_neg (by simpa using hne)]; exact h a w hr
end
end Go.Via
