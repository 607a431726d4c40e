/-
  Part 4: lemmas, and walks through the functions that the laws of chapter 26 call. Each theorem states its own conditions.
-/
import Derived.Test.YtncogghlhlnmaaaGreatDoorA03
set_option linter.unusedVariables false
set_option linter.unusedVariables false
set_option linter.unusedSimpArgs false
namespace Go.Via
open Go Go.RowKit
/-! ### append, whatever the room, whatever is appended -/
structure OR (need s : Nat) where
  b : Option Nat
  n : Nat
  cap : Nat
  h : need ≤ cap
  hn : cap * s ≤ n
section
variable {P : Program} {bl : List Nat} {ops : Array Oper} {K : St → Prop} {rest : List Oper} {nt : Nat} {t : List (Nat × Value)} {L : List Blk} {d : Nat} {ty : TypeId} {pos : String} {af : Array Edge} {g : Option (Nat × Bool)} {x y : Operand}
theorem r_appendO1 {T e : Nat} {inf : TypeInfo} {z : Value} {b : Blk} {len cap b2o off2 n2 c2 : Nat} {b2 : Blk} (hem : e < mapMark) (k k2 : Nat) (news : List Value) (mk : AR (len + n2) inf.size → List Blk) (hT : P.underlying T = some (.slice e)) (hi : P.info? e = some inf) (hz : inf.zero = some z) (hs : 0 < inf.size) (hzs : z.cells.size = inf.size) (hbytes : inf.bytes ≤ 1024) (hd : Nat.blt d nt = true)
    (hg : wantedS ops ⟨some d, .call { callee := .builtin .append, args := #[x, y], argTypes := #[T, T] }, ty, pos, af, g⟩ t = some true)
    (hk : L[k]? = some b) (ho : b.own = true) (he : b.e = e) (hlen : b.cs.length = len * inf.size) (hcap : len ≤ cap) (hn : cap * inf.size ≤ b.n) (hx : ev t x = some (slv b.base 0 len cap))
    (hk2 : L[k2]? = some b2) (hnew : (b2.cs.drop off2).take (n2 * inf.size) = news) (hlen2 : news.length = n2 * inf.size) (hpos : 0 < n2) (hb2 : b2.base = some b2o) (hy : ev t y = some (slv (some b2o) off2 n2 c2)) (h1 : ∀ v ∈ news, v.oneCell' = true) (hmax : len + n2 ≤ 17179869184)
    (hL : ∀ r, L.set k ⟨some r.g, e, b.cs ++ news, r.n, true⟩ = mk r)
    (h : ∀ r : AR (len + n2) inf.size, Run P bl ops rest ⟨nt, (d, slv (some r.g) 0 (len + n2) r.cap) :: t, mk r⟩ K) :
    Run P bl ops (⟨some d, .call { callee := .builtin .append, args := #[x, y], argTypes := #[T, T] }, ty, pos, af, g⟩ :: rest) ⟨nt, t, L⟩ K :=
  run_e hd hg rfl rfl (X := AR (len + n2) inf.size) (nx := fun r => ⟨nt, (d, slv (some r.g) 0 (len + n2) r.cap) :: t, mk r⟩) (fun hd' => eff_of fun B a w hr => by
    have hx' := hr.ev hx
    have hy' := hr.ev hy
    -- the new ones
    have hnews : ∀ j u, news[j]? = some u → w.cell? ((⟨b2o, off2, none⟩ : Addr).add j) = some u := fun j u hj => by
      have hj2 : b2.cs[off2 + j]? = some u := by
        rw [← hnew] at hj
        rw [List.getElem?_take] at hj
        split at hj
        · rwa [List.getElem?_drop] at hj
        · cases hj
      obtain ⟨g', hg', h2⟩ := hr.mem.cell hk2 hj2
      rw [hb2] at hg'; cases hg'
      rw [add_lit]; exact h2
    have hsrc := Src.ofSlice (P := P) w (size := inf.size) hT ⟨b2o, off2, none⟩ n2 c2 news hlen2 hnews h1
    have fin : ∀ v w', (Builtin.append_ #[T, T] ty #[slv b.base 0 len cap, slv (some b2o) off2 n2 c2]).run P w = .ok v w' → (execOp a.eval ⟨some d, .call { callee := .builtin .append, args := #[x, y], argTypes := #[T, T] }, ty, pos, af, g⟩).run P w = .ok (.value v) w' := fun v w' hv => by
      simp [execOp, resolve, invoke, builtin, hx', hy', hv]
    by_cases hroom : len + n2 ≤ cap
    · -- there is room
      obtain ⟨gg, hgg⟩ : ∃ gg, b.base = some gg := by
        cases hbb : b.base with
        | some gg => exact ⟨gg, rfl⟩
        | none =>
          have := ((hr.mem.blk k b hk).2 hbb).2
          have h3 : 1 * 1 ≤ cap * inf.size := Nat.mul_le_mul (by omega) hs
          omega
      obtain ⟨cur, ⟨e', fr, c1, cfr, _⟩, c2', c3⟩ := ((hr.mem.blk k b hk).1 gg hgg).cells (.inl (by
        have h3 : 1 * 1 ≤ cap * inf.size := Nat.mul_le_mul (by omega) hs
        omega))
      obtain ⟨rfl, rfl⟩ := cfr ho
      have hroomc : (len + n2) * inf.size ≤ cap * inf.size := Nat.mul_le_mul_right _ hroom
      have hsum : (len + n2) * inf.size = len * inf.size + n2 * inf.size := Nat.add_mul ..
      have hfit : 0 + len * inf.size + news.length ≤ cur.size := by rw [hlen2]; omega
      have r1 := run_append_room_src (P := P) w T T ty e inf hT hi gg 0 len cap (slv (some b2o) off2 n2 c2) n2 news hsrc hroom
        (fun j hj => by
          rw [cell_of_row w gg _ cur b.e (0, 0) c1]
          rw [Array.getElem?_eq_getElem (by omega)]; rfl)
        (fun j hj => by simp [World.frozen?, c1])
      rw [setCells_row news w gg _ cur b.e c1 hfit] at r1
      refine ⟨_, _, (⟨gg, b.n, cap, hroom, hn⟩ : AR (len + n2) inf.size), fin _ _ (by unfold slv at r1 ⊢; rw [hgg]; exact r1), ?_⟩
      refine hr.put hd' ?_
      rw [← hL]
      have hcur : cur.toList.take (0 + len * inf.size) = b.cs := by rw [Nat.zero_add, ← hlen]; exact c3
      have h5 := hr.mem.set hk ho hgg (cur.toList.take (0 + len * inf.size) ++ news ++ cur.toList.drop (0 + len * inf.size + news.length)).toArray (b.cs ++ news)
        (by simp only [List.size_toArray, List.length_append, List.length_take, List.length_drop, Array.length_toList]; omega)
        (by
          rw [hcur]
          simp only [List.append_assoc]
          rw [List.length_append, ← List.append_assoc, ← List.length_append]
          exact List.take_left)
      rw [hgg] at h5
      rw [ho] at h5
      rw [he] at h5
      exact h5
    · -- there is none
      have hold : (Builtin.firstCells inf.size len (slv b.base 0 len cap)).run P w.drew = .ok b.cs.toArray w.drew := by
        cases hbb : b.base with
        | none =>
          have := ((hr.mem.blk k b hk).2 hbb).1
          rw [this]
          exact run_firstCells_none w.drew inf.size len len cap
        | some gg =>
          refine run_firstCells_some (P := P) w.drew inf.size len ⟨gg, 0, none⟩ len cap b.cs hlen (fun j v hj => ?_)
          obtain ⟨g', hg', h2⟩ := hr.mem.cell hk hj
          rw [hbb] at hg'; cases hg'
          rw [add_lit, Nat.zero_add]
          exact h2
      have hge := grownCap_ge w (len + n2) cap e
      have hbb : (len + n2) * inf.bytes ≤ 17179869184 * 1024 := Nat.mul_le_mul hmax hbytes
      have hfit : Builtin.nextslicecap (len + n2) cap * inf.bytes ≤ 281474976710656 := growslice_fits (by omega) (by omega)
      have r1 := run_append_grow_src (P := P) w T T ty e inf z hT hi hz (b.base.map fun g => ⟨g, 0, none⟩) len cap b.cs hold (slv (some b2o) off2 n2 c2) n2 news hsrc (by omega) (by omega) hfit
      refine ⟨_, _, (⟨w.heap.size, (((b.cs ++ news).toArray ++ Builtin.zeroCells z.cells (grownCap w (len + n2) cap e - (len + n2))) : Array Value).size, grownCap w (len + n2) cap e, hge, ?_⟩ : AR (len + n2) inf.size), fin _ _ r1, ?_⟩
      · have hz' : (Builtin.zeroCells z.cells (grownCap w (len + n2) cap e - (len + n2))).size = (grownCap w (len + n2) cap e - (len + n2)) * inf.size := by
          unfold Builtin.zeroCells; simp [hzs]
        have hm : (grownCap w (len + n2) cap e - (len + n2)) * inf.size + (len + n2) * inf.size = grownCap w (len + n2) cap e * inf.size := by
          rw [← Nat.add_mul, Nat.sub_add_cancel hge]
        have hsum : (len + n2) * inf.size = len * inf.size + n2 * inf.size := Nat.add_mul ..
        rw [Array.size_append, hz']
        simp only [List.size_toArray, List.length_append]
        omega
      · refine hr.put hd' ?_
        rw [← hL]
        have h5 := (hr.mem.drew.alloc e ((b.cs ++ news).toArray ++ Builtin.zeroCells z.cells (grownCap w (len + n2) cap e - (len + n2))) hem)
        refine (h5.last (b' := ⟨some w.heap.size, e, b.cs ++ news, ((b.cs ++ news).toArray ++ Builtin.zeroCells z.cells (grownCap w (len + n2) cap e - (len + n2)) : Array Value).size, true⟩) ⟨rfl, rfl, rfl, ⟨(b.cs ++ news).length, ?_⟩, fun _ => rfl⟩).swapIn k
        rw [Array.toList_append]
        exact (List.take_left (l₁ := b.cs ++ news)).symm) fun r => h r
theorem q_appendO {T e s : Nat} {zz : Value} {b : Blk} {len cap off2 n2 c2 : Nat} {b2 : Blk} (k k2 : Nat) (news : List Value) (mk : OR (len + n2) s → List Blk) (hT : P.underlying T = some (.slice e)) (hi : elB P e s zz) (hd : Nat.blt d nt = true)
    (hg : wantedS ops ⟨some d, .call { callee := .builtin .append, args := #[x, y], argTypes := #[T, T] }, ty, pos, af, g⟩ t = some true)
    (hk : L[k]? = some b) (ho : b.own = true) (he : b.e = e) (hx : ev t x = some (slv b.base 0 len cap)) (hk2 : L[k2]? = some b2) (hy : ev t y = some (slv b2.base off2 n2 c2)) (hs : Nat.blt 0 s = true) (hzs : zz.cells.size = s)
    (hlen : b.cs.length = len * s) (hcap : len ≤ cap) (hn : cap * s ≤ b.n) (hb2 : n2 = 0 ∨ ∃ g, b2.base = some g) (hnew : (b2.cs.drop off2).take (n2 * s) = news) (hlen2 : news.length = n2 * s) (h1 : ∀ v ∈ news, v.oneCell' = true) (hmax : len + n2 ≤ 17179869184)
    (hL : ∀ r, L.set k ⟨r.b, e, b.cs ++ news, r.n, true⟩ = mk r)
    (h : ∀ r : OR (len + n2) s, Run P bl ops rest ⟨nt, (d, slv r.b 0 (len + n2) r.cap) :: t, mk r⟩ K) :
    Run P bl ops (⟨some d, .call { callee := .builtin .append, args := #[x, y], argTypes := #[T, T] }, ty, pos, af, g⟩ :: rest) ⟨nt, t, L⟩ K := by
  obtain ⟨inf, i1, i2, i3, i5⟩ := elB_spec hi
  subst i3
  rcases Nat.eq_zero_or_pos n2 with h0 | h0
  · subst h0
    refine r_append0O hT i1 hd hg hx hcap hy ?_
    have hnw : news = [] := List.eq_nil_of_length_eq_zero (by rw [hlen2]; omega)
    have := h ⟨b.base, b.n, cap, hcap, hn⟩
    rw [← hL, hnw, List.append_nil] at this
    have hb : (⟨b.base, e, b.cs, b.n, true⟩ : Blk) = b := by rw [← he, ← ho]
    rw [show (⟨b.base, b.n, cap, hcap, hn⟩ : OR (len + 0) inf.size).b = b.base from rfl, show (⟨b.base, b.n, cap, hcap, hn⟩ : OR (len + 0) inf.size).n = b.n from rfl, hb] at this
    have hset : L.set k b = L := by
      obtain ⟨q1, q2⟩ := List.getElem?_eq_some_iff.1 hk
      rw [← q2]; exact List.set_getElem_self q1
    rw [hset] at this
    exact this
  · obtain ⟨b2o, hb2⟩ := hb2.resolve_left (by omega)
    rw [hb2] at hy
    exact r_appendO1 hi.2 k k2 news (fun r => mk ⟨some r.g, r.n, r.cap, r.h, r.hn⟩) hT i1 i2 (by simpa using hs) hzs (by omega) hd hg hk ho he hlen hcap hn hx hk2 hnew hlen2 h0 hb2 hy h1 hmax (fun r => hL ⟨some r.g, r.n, r.cap, r.h, r.hn⟩) (fun r => h ⟨some r.g, r.n, r.cap, r.h, r.hn⟩)
/-- a call that reads blocks, in a drawn region in which one block is said nothing of: what is known behind it may be less than what it hands back -/
theorem r_kcall {f : Nat} {args : List Operand} {ts : Array TypeId} (vs : List Value) {L0 : List Blk} {X Y : Type} {res : X → Value} {new : X → List Blk} (ks : List Nat) (res' : Y → Value) (nL : Y → List Blk) (hS : blS bl = true) (hd : Nat.blt d nt = true) (hg : wantedS ops ⟨some d, .call { callee := .value (.func f), args := args.toArray, argTypes := ts }, ty, pos, af, g⟩ t = some true)
    (hv : args.map (ev t) = vs.map some) (hc : SCall P f L0 vs X res new) (hp : Picks L (ks.map some) L0) (ho : (L0.all fun b => !b.own) = true) (hn : ∀ x, ∀ b ∈ new x, b.own = true) (hm : ∀ x, ∃ y, res x = res' y ∧ Weak (L ++ new x) (nL y)) (hb : ∀ y, blank bl (nL y) = blank bl L)
    (h : ∀ y, Run P bl ops rest ⟨nt, (d, res' y) :: t, nL y⟩ K) :
    Run P bl ops (⟨some d, .call { callee := .value (.func f), args := args.toArray, argTypes := ts }, ty, pos, af, g⟩ :: rest) ⟨nt, t, L⟩ K := by
  have hd' : ∀ d', (⟨some d, .call { callee := .value (.func f), args := args.toArray, argTypes := ts }, ty, pos, af, g⟩ : Oper).dst = some d' → d' < nt := fun d' h => by cases h; simpa using hd
  refine ⟨hd', true, hg, .inr ⟨rfl, .inr (.inr (.inr (.inr (.inr ⟨rfl, hS, Y, res', nL, fun B a w hr => .inl ?_, hb, h⟩))))⟩⟩
  exact ⟨f, vs.toArray, run_callee hc.1 a rfl rfl (by simp [evs_spec hr hv]) w, (hc.2 w (hr.mem.asArgs ks hp (fun b hb => by simpa using List.all_eq_true.1 ho b hb))).mono (by
    rintro e w' ⟨x, rfl, hx⟩
    obtain ⟨y, hy, hw⟩ := hm x
    exact ⟨y, by rw [hy], hw _ _ (hr.mem.joinF hx (hn x))⟩)⟩
theorem r_kcall1 {f : Nat} {args : List Operand} {ts : Array TypeId} (vs : List Value) {L0 : List Blk} {X Y : Type} {res : X → Value} {new : X → List Blk} (ks : List Nat) (k : Nat) (res' : Y → Value) (b' : Y → Blk) (mk : Y → List Blk) (hS : blOk bl k = true) (hS' : blS bl = true) (hd : Nat.blt d nt = true) (hg : wantedS ops ⟨some d, .call { callee := .value (.func f), args := args.toArray, argTypes := ts }, ty, pos, af, g⟩ t = some true)
    (hv : args.map (ev t) = vs.map some) (hc : SCall P f L0 vs X res new) (hp : Picks L (ks.map some) L0) (ho : (L0.all fun b => !b.own) = true) (hn : ∀ x, ∀ b ∈ new x, b.own = true) (hm : ∀ x, ∃ y, res x = res' y ∧ Weak (L ++ new x) (L.set k (b' y))) (hL : ∀ y, L.set k (b' y) = mk y)
    (h : ∀ y, Run P bl ops rest ⟨nt, (d, res' y) :: t, mk y⟩ K) :
    Run P bl ops (⟨some d, .call { callee := .value (.func f), args := args.toArray, argTypes := ts }, ty, pos, af, g⟩ :: rest) ⟨nt, t, L⟩ K :=
  r_kcall vs ks res' mk hS' hd hg hv hc hp ho hn (fun x => by obtain ⟨y, h1, h2⟩ := hm x; exact ⟨y, h1, by rw [← hL]; exact h2⟩) (fun y => blOk_spec hS (hL y) hS') h
end
end Go.Via
set_option linter.unusedVariables false
set_option linter.unusedSimpArgs false
namespace Go.Via
open Go Go.RowKit
theorem insS_at : ∀ {l : List Int} {n : Int} {k : Nat}, k ≤ l.length → (∀ j z, j < k → l[j]? = some z → z < n) → (∀ z, l[k]? = some z → ¬ z < n ∧ z ≠ n) → insS l n = l.take k ++ n :: l.drop k
  | [], n, k, hk, h1, h2 => by
    have : k = 0 := by simpa using hk
    subst this; rfl
  | a :: l, n, 0, hk, h1, h2 => by
    have := h2 a rfl
    unfold insS
    rw [if_neg this.1, if_neg this.2]; rfl
  | a :: l, n, k + 1, hk, h1, h2 => by
    have ha := h1 0 a (by omega) rfl
    have ih := insS_at (l := l) (n := n) (k := k) (by simpa using hk) (fun j z hj hz => h1 (j + 1) z (by omega) (by simpa using hz)) (fun z hz => h2 z (by simpa using hz))
    unfold insS
    rw [if_pos ha, ih]; rfl
theorem insS_eq : ∀ {l : List Int} {n : Int} {k : Nat}, (∀ j z, j < k → l[j]? = some z → z < n) → l[k]? = some n → insS l n = l
  | [], n, k, h1, h2 => by simp at h2
  | a :: l, n, 0, h1, h2 => by
    simp at h2
    unfold insS
    rw [if_neg (by omega), if_pos h2]
  | a :: l, n, k + 1, h1, h2 => by
    have ha := h1 0 a (by omega) rfl
    have ih := insS_eq (l := l) (n := n) (k := k) (fun j z hj hz => h1 (j + 1) z (by omega) (by simpa using hz)) (by simpa using h2)
    unfold insS
    rw [if_pos ha, ih]
theorem ILc_takeT (l : List Int) (k : Nat) : ((ILc l).drop 0).take (k * 1) = ILc (l.take k) := by simp [ILc, List.map_take]
theorem ILc_dropT {l : List Int} {k cap : Nat} (hc : l.length ≤ cap) : ((ILc l).drop (if cap = k then 0 else k * 1)).take ((l.length - k) * 1) = ILc (l.drop k) := by
  have e : ∀ m : Nat, (ILc l).drop m = ILc (l.drop m) := fun m => by simp [ILc, List.map_drop]
  by_cases h : cap = k
  · rw [if_pos h, show l.length - k = 0 by omega, List.drop_of_length_le (by omega : l.length ≤ k)]; simp [ILc]
  · rw [if_neg h, Nat.mul_one, Nat.mul_one, e]
    exact List.take_of_length_le (by rw [ILc_length, List.length_drop]; omega)
theorem ILc_one (l : List Int) : ∀ v ∈ ILc l, v.oneCell' = true := fun v hv => by
  obtain ⟨z, _, rfl⟩ := List.mem_map.1 hv
  rfl
abbrev InsX (l : List Int) (n : Int) := {o : Option (SR (insS l n).length) // o = none → insS l n = l}
def insRes (l : List Int) (n : Int) (b : Option Nat) (cap : Nat) (x : InsX l n) : Value := match x.1 with
  | none => slv b 0 l.length cap
  | some s => s.v
def insNew (l : List Int) (n : Int) (x : InsX l n) : List Blk := match x.1 with
  | none => []
  | some s => [⟨s.b, 3, ILc (insS l n), s.n, true⟩]
theorem insNew_own (l : List Int) (n : Int) (x : InsX l n) : ∀ b ∈ insNew l n x, b.own = true := fun b hb => by
  unfold insNew at hb
  split at hb
  · cases hb
  · rw [List.mem_singleton.1 hb]
/-- what is known behind an insert: the row's block is another one, or the same -/
theorem ins_merge {l : List Int} {n : Int} {b : Option Nat} {N cap : Nat} (hc : l.length ≤ cap) {L : List Blk} {k : Nat} (hk : L[k]? = some ⟨b, 3, ILc l, N, true⟩) (x : InsX l n) :
    ∃ y : SR (insS l n).length, insRes l n b cap x = y.v ∧ Weak (L ++ insNew l n x) (L.set k ⟨y.b, 3, ILc (insS l n), y.n, true⟩) := by
  obtain ⟨o, ho⟩ := x
  cases o with
  | none =>
    have e := ho rfl
    refine ⟨⟨b, N, cap, by rw [e]; exact hc⟩, ?_, ?_⟩
    · show slv b 0 l.length cap = slv b 0 (insS l n).length cap
      rw [e]
    · intro B w h
      have h' : LRel B L w := by
        have h2 : LRel B (L ++ []) w := h
        rwa [List.append_nil] at h2
      have hs : L.set k ⟨b, 3, ILc (insS l n), N, true⟩ = L := by
        rw [e]
        obtain ⟨q1, q2⟩ := List.getElem?_eq_some_iff.1 hk
        rw [← q2]; exact List.set_getElem_self q1
      show LRel B (L.set k ⟨b, 3, ILc (insS l n), N, true⟩) w
      rw [hs]; exact h'
  | some s => exact ⟨s, rfl, fun B w h => LRel.swapIn h k⟩
end Go.Via
set_option linter.unusedVariables false
namespace Go.Via
open Go Go.RowKit
structure CO (l : List Ex) (d : Int) (o : List Int) : Prop where
  ss : SS o
  cn : ∀ k ∈ o, Conn l d k
theorem CO.init (l : List Ex) (d : Int) : CO l d [d] := ⟨by simp [SS], fun k hk => by simp at hk; subst hk; exact .base⟩
theorem CO.len {l : List Ex} {d : Int} {o : List Int} (h : CO l d o) : o.length ≤ 2 * l.length + 1 := by
  have h1 := nodup_len h.ss.nodup (fun k hk => (h.cn k hk).mem)
  have h2 := devK_len l
  rw [List.length_cons] at h1; omega
theorem CO.fold {l : List Ex} {d : Int} {o : List Int} (h : CO l d o) (i : Nat) : CO l d ((l.take i).foldl cmpF o) := by
  obtain ⟨a1, _, a3, _⟩ := cmpF_inv (l := l) (d := d) (l.take i) o (fun x hx => List.mem_of_mem_take hx) h.ss h.cn
  exact ⟨a1, a3⟩
theorem cmpF_yes {l : List Ex} {i : Nat} {x : Ex} (h : l[i]? = some x) {o : List Int} (hc : (((l.take i).foldl cmpF o).contains x.f || ((l.take i).foldl cmpF o).contains x.t) = true) :
    (l.take (i + 1)).foldl cmpF o = insS (insS ((l.take i).foldl cmpF o) x.f) x.t := by
  rw [take_snoc h, List.foldl_append]
  exact if_pos hc
theorem cmpF_no {l : List Ex} {i : Nat} {x : Ex} (h : l[i]? = some x) {o : List Int} (hc : (((l.take i).foldl cmpF o).contains x.f || ((l.take i).foldl cmpF o).contains x.t) = false) :
    (l.take (i + 1)).foldl cmpF o = (l.take i).foldl cmpF o := by
  rw [take_snoc h, List.foldl_append]
  exact if_neg (by rw [hc]; decide)
end Go.Via
set_option linter.unusedVariables false
set_option linter.unusedSimpArgs false
namespace Go.Via
open Go Go.RowKit
section
variable {P : Program} {bl : List Nat} {ops : Array Oper} {K : St → Prop} {rest : List Oper} {nt : Nat} {t : List (Nat × Value)} {L : List Blk} {d : Nat} {ty : TypeId} {pos : String} {af : Array Edge} {g : Option (Nat × Bool)} {x y : Operand}
/-- a field's place, of a place that is not looked at -/
theorem r_fieldAddrG {T : Nat} {j : Nat} {i : TI} {gg : Nat} (off fo : Nat) {fs : Nat} (hd : Nat.blt d nt = true) (hg : wantedS ops ⟨some d, .fieldAddr T x j, ty, pos, af, g⟩ t = some true) (hx : ev t x = some (.pointer (some ⟨gg, off, none⟩))) (hi : tiOK P T i = true)
    (hf : i.flds[j]? = some (fo, fs + 1)) {off' : Nat} (ho : off + fo = off') (h : Run P bl ops rest ⟨nt, (d, .pointer (some ⟨gg, off', none⟩)) :: t, L⟩ K) :
    Run P bl ops (⟨some d, .fieldAddr T x j, ty, pos, af, g⟩ :: rest) ⟨nt, t, L⟩ K :=
  run_q hd hg rfl (fun B a w hr => by
    have h2 := hr.ev hx
    obtain ⟨fs', f, h3, h4, h5, h6⟩ := ti_fld hi hf
    simp only at h5 h6
    have hsz : (sizeOf f.type).run P w = .ok (fs + 1) w := by
      cases hq : P.info? f.type with
      | none => rw [hq] at h6; simp at h6
      | some inf => rw [hq] at h6; simp at h6; simp [sizeOf, typeInfo, hq, h6]
    subst ho
    simp [execOp, h2, Instr.fieldAt, run_underlying h3, h4, Instr.sureAddr, fieldPlace, hsz, add_lit, h5]) h
end
/-- first what looks at slots alone, then every order of the others, which end in one state -/
theorem at_drawnEM {P : Program} {B : World} {Q : Exit → Act → World → Prop} {nt : Nat} {t : List (Nat × Value)} {L : List Blk} {id : Nat} {l l' : List Oper} {X : Type} (Tm : X → List (Nat × Value)) (Lm : X → List Blk) (E : List Nat) (n : Nat) (hm : P.follows .mixedOrders = true)
    (hc : (Region.noSelect l.toArray && takesOk l.toArray (Array.replicate l.toArray.size false) E && decide (E.length + n = l.toArray.size)) = true) (hl : E.map (fun i => l.toArray.getD i default) = l')
    (h : Run P [] l.toArray l' ⟨nt, t, []⟩ (fun s' => Tree P l.toArray (fun s' => ∃ x : X, s'.nt = nt ∧ LookAll s'.t (Tm x) ∧ List.Perm s'.L (Lm x)) n (E.foldl (fun (x : Array Bool) i => x.setIfInBounds i true) (Array.replicate l.toArray.size false)) ⟨nt, s'.t, L⟩))
    (hk : ∀ x, At B ⟨nt, Tm x, Lm x⟩ (Q .normal)) :
    At B ⟨nt, t, L⟩ ((Code.region id l.toArray true).wp P Q) := fun a w hr => by
  simp only [Bool.and_eq_true, decide_eq_true_eq] at hc
  obtain ⟨⟨h1, h2⟩, h3⟩ := hc
  subst hl
  refine wp_region_any hm ?_
  suffices hs : wpAny P .any l.toArray Q (E.length + n) (Array.replicate l.toArray.size false) a { w with drawn := w.drawn + 1 } by rw [h3] at hs; exact hs
  refine wpAny_monoQ (Q := noPanic (Q .normal)) (Q' := Q) (fun _ _ h => h) (fun _ _ _ h => h.elim) (fun ⟨_, _, h⟩ => h.elim) _ _ _ _ ?_
  refine wpAny_takes (B := B) (G := fun t listed => Tree P l.toArray (fun s' => ∃ x : X, s'.nt = nt ∧ LookAll s'.t (Tm x) ∧ List.Perm s'.L (Lm x)) n listed ⟨nt, t, L⟩) h1 (fun t listed a hG hrel => wp_tree (Q := noPanic (Q .normal)) (fun s' a' w' ⟨x, q1, q2, q3⟩ hr' => hk x a' w' (by
    have := hr'.sub (t := Tm x) fun d v hd => q2.mem (d, v) (look_mem hd)
    rw [q1] at this
    exact ⟨this.df, this.size, this.tmp, this.mem.perm q3⟩)) _ _ _ _ _ hG hrel) E _ t a h2 h hr.drew
end Go.Via
set_option linter.unusedVariables false
namespace Go.Via
open Go Go.RowKit
/-- the exchanges on the way back from a device to another one, as the last exchanges say -/
inductive Pth (l : List Ex) (b : SIm) (fr : Int) : Int → List Int → Prop
  | nil : Pth l b fr fr []
  | cons {to i : Int} {x : Ex} {c : List Int} (h : to ≠ fr) (hi : (sget b to).getD 0 = i) (h0 : 0 ≤ i) (hx : l[i.toNat]? = some x) (hp : Pth l b fr x.f c) : Pth l b fr to (i :: c)
theorem Pth.step {l : List Ex} {b : SIm} {fr to : Int} {c : List Int} (h : Pth l b fr to c) (hne : to ≠ fr) : ∃ i x c2, (sget b to).getD 0 = i ∧ 0 ≤ i ∧ l[i.toNat]? = some x ∧ Pth l b fr x.f c2 ∧ c = i :: c2 := by
  cases h with
  | nil => exact absurd rfl hne
  | cons h hi h0 hx hp => exact ⟨_, _, _, hi, h0, hx, hp, rfl⟩
theorem Pth.done {l : List Ex} {b : SIm} {fr to : Int} {c : List Int} (h : Pth l b fr to c) (he : to = fr) : c = [] := by
  cases h with
  | nil => rfl
  | cons h hi h0 hx hp => exact absurd he h
end Go.Via
namespace Go.Via
open Go Go.RowKit
/-- so many steps back -/
inductive Itr (l : List Ex) (b : SIm) : Nat → Int → Int → Prop
  | zero {z : Int} : Itr l b 0 z z
  | succ {n : Nat} {t z i : Int} {x : Ex} (hi : (sget b t).getD 0 = i) (h0 : 0 ≤ i) (hx : l[i.toNat]? = some x) (h : Itr l b n x.f z) : Itr l b (n + 1) t z
theorem Itr.step {l : List Ex} {b : SIm} {n m : Nat} {t z : Int} (h : Itr l b n t z) (hn : n = m + 1) : ∃ i x, (sget b t).getD 0 = i ∧ 0 ≤ i ∧ l[i.toNat]? = some x ∧ Itr l b m x.f z := by
  cases h with
  | zero => omega
  | succ hi h0 hx h =>
    obtain rfl : _ = m := Nat.succ.inj hn
    exact ⟨_, _, hi, h0, hx, h⟩
theorem Itr.stop {l : List Ex} {b : SIm} {n : Nat} {t z : Int} (h : Itr l b n t z) (hn : n = 0) : t = z := by
  cases h with
  | zero => rfl
  | succ _ _ _ _ => omega
/-- a step back, then back to where one was -/
def Nx (l : List Ex) (b : SIm) (z t : Int) (c : List Int) : Prop := ∃ i x c2, (sget b t).getD 0 = i ∧ 0 ≤ i ∧ l[i.toNat]? = some x ∧ Pth l b z x.f c2 ∧ c = i :: c2
def partA (l : List Ex) (d : Int) : List Int := partP l (compL l d) l.length
def fromA (l : List Ex) (d : Int) : FRS := fromF l (partA l d) (compL l d).length (compL l d)
def badA (l : List Ex) (d : Int) : Bool := !decide ((fromA l d).2.2 < 0)
/-- where the search for a contradiction ends, one is found -/
def CycOK (l : List Ex) (d : Int) (Q : List Int → Prop) : Prop :=
  badA l d = true → ∃ x z c, l[(fromA l d).2.2.toNat]? = some x ∧ Itr l (fromA l d).2.1 ((compL l d).length + 1) x.t z ∧ Nx l (fromA l d).2.1 z z c ∧ c.length ≤ 1000000 ∧ Q c.reverse
structure CycR (l : List Ex) (d : Int) (Q : List Int → Prop) where
  c : List Int
  b : Option Nat
  n : Nat
  cap : Nat
  h : c.length ≤ cap
  hf : badA l d = false → c = []
  ht : badA l d = true → Q c
theorem partA_mem {l : List Ex} {d k : Int} (h : k ∈ partA l d) : 0 ≤ k ∧ k < (l.length : Nat) := by
  obtain ⟨j, x, hj, rfl, _, _⟩ := partP_mem.1 h
  omega
theorem partA_len (l : List Ex) (d : Int) : (partA l d).length ≤ l.length := partP_len _ _ _
end Go.Via
set_option linter.unusedVariables false
namespace Go.Via
open Go Go.RowKit
/-! ### what Chains, Offset, Correct return -/
def toA (l : List Ex) (d s : Int) : FRS := fromF l (partA l d) (compL l d).length [s]
def reachA (l : List Ex) (d : Int) : Bool := (sget (toA l d 0).1 d).isSome
def retA (l : List Ex) (d : Int) : Bool := (sget (toA l d d).1 0).isSome
def chE (l : List Ex) (d : Int) : Int :=
  if d < 0 ∨ 1073741824 < d then 27 else if d = 0 ∨ (devL l).contains d = false then 0 else if badA l d = true then 32 else if reachA l d = true ∧ retA l d = true then 0 else 31
def goA (l : List Ex) (d : Int) : Prop := ¬ (d < 0 ∨ 1073741824 < d) ∧ ¬ (d = 0 ∨ (devL l).contains d = false) ∧ badA l d = false ∧ reachA l d = true ∧ retA l d = true
theorem chE_1 {l : List Ex} {d : Int} (h : d < 0 ∨ 1073741824 < d) : chE l d = 27 := if_pos h
theorem chE_2 {l : List Ex} {d : Int} (h : ¬ (d < 0 ∨ 1073741824 < d)) (h2 : d = 0 ∨ (devL l).contains d = false) : chE l d = 0 := by unfold chE; rw [if_neg h, if_pos h2]
theorem chE_3 {l : List Ex} {d : Int} (h : ¬ (d < 0 ∨ 1073741824 < d)) (h2 : ¬ (d = 0 ∨ (devL l).contains d = false)) (h3 : badA l d = true) : chE l d = 32 := by unfold chE; rw [if_neg h, if_neg h2, if_pos h3]
theorem chE_4 {l : List Ex} {d : Int} (h : ¬ (d < 0 ∨ 1073741824 < d)) (h2 : ¬ (d = 0 ∨ (devL l).contains d = false)) (h3 : badA l d = false) (h4 : ¬ (reachA l d = true ∧ retA l d = true)) : chE l d = 31 := by unfold chE; rw [if_neg h, if_neg h2, if_neg (by rw [h3]; decide), if_neg h4]
theorem chE_5 {l : List Ex} {d : Int} (h : goA l d) : chE l d = 0 := by
  obtain ⟨h1, h2, h3, h4, h5⟩ := h
  unfold chE; rw [if_neg h1, if_neg h2, if_neg (by rw [h3]; decide), if_pos ⟨h4, h5⟩]
/-- what the chains are -/
def ChOK (l : List Ex) (d : Int) (Q : List Int → List Int → Prop) : Prop :=
  goA l d → ∃ c1 c2, Pth l (toA l d 0).2.1 0 d c1 ∧ Pth l (toA l d d).2.1 d 0 c2 ∧ c1.length ≤ 1000000 ∧ c2.length ≤ 1000000 ∧ Q c1.reverse c2.reverse
structure ChR (l : List Ex) (d : Int) (Q : List Int → List Int → Prop) where
  u : List Int
  ub : Option Nat
  un : Nat
  uc : Nat
  v : List Int
  vb : Option Nat
  vn : Nat
  vc : Nat
  hl : u.length ≤ 1000000 ∧ v.length ≤ 1000000
  hu : u.length ≤ uc
  hv : v.length ≤ vc
  hf : ¬ goA l d → u = [] ∧ v = []
  ht : goA l d → Q u v
def ChR.none {l : List Ex} {d : Int} {Q : List Int → List Int → Prop} (h : ¬ goA l d) : ChR l d Q := ⟨[], .none, 0, 0, [], .none, 0, 0, ⟨Nat.zero_le _, Nat.zero_le _⟩, Nat.le_refl _, Nat.le_refl _, fun _ => ⟨rfl, rfl⟩, fun h' => absurd h' h⟩
end Go.Via
namespace Go.Via
open Go Go.RowKit
theorem CycOK.ne {l : List Ex} {d : Int} {Q : List Int → Prop} (h : CycOK l d Q) : Nonempty (CycR l d Q) := by
  cases hb : badA l d with
  | false => exact ⟨⟨[], none, 0, 0, Nat.le_refl _, fun _ => rfl, fun h => by rw [hb] at h; cases h⟩⟩
  | true =>
    obtain ⟨x, z, c, _, _, _, _, hq⟩ := h hb
    exact ⟨⟨c.reverse, none, 0, c.reverse.length, Nat.le_refl _, fun h => (by rw [hb] at h; cases h), fun _ => hq⟩⟩
instance {l : List Ex} {d : Int} : Nonempty (CycR l d fun _ => True) := ⟨⟨[], none, 0, 0, Nat.le_refl _, fun _ => rfl, fun _ => trivial⟩⟩
theorem ChOK.ne {l : List Ex} {d : Int} {Q : List Int → List Int → Prop} (h : ChOK l d Q) : Nonempty (ChR l d Q) := by
  by_cases hg : goA l d
  · obtain ⟨c1, c2, _, _, hl1, hl2, hq⟩ := h hg
    exact ⟨⟨c1.reverse, none, 0, c1.reverse.length, c2.reverse, none, 0, c2.reverse.length, ⟨by simpa using hl1, by simpa using hl2⟩, Nat.le_refl _, Nat.le_refl _, fun h => absurd hg h, fun _ => hq⟩⟩
  · exact ⟨.none hg⟩
end Go.Via
namespace Go.Via
open Go Go.RowKit
instance {l : List Ex} {d : Int} : Decidable (goA l d) := by unfold goA; infer_instance
def hiA (l : List Ex) (d : Int) : Int := (sget (toA l d 0).1 d).getD 0
def loA (l : List Ex) (d : Int) : Int := (sget (toA l d d).1 0).getD 0
/-- the chains that prove the bounds -/
def ChQ (l : List Ex) (d : Int) (u v : List Int) : Prop := u ≠ [] ∧ sumS l u 0 0 = some (d, hiA l d) ∧ sumS l v d 0 = some (0, loA l d)
theorem ChQ.hi {l : List Ex} {d : Int} {u v : List Int} (h : ChQ l d u v) : sumN l u 0 d = hiA l d := by
  rw [(sum_some h.2.1 (b := d)).1, if_pos rfl]
theorem ChQ.lo {l : List Ex} {d : Int} {u v : List Int} (h : ChQ l d u v) : sumN l v d 0 = loA l d := by
  rw [(sum_some h.2.2 (b := 0)).1, if_pos rfl]
def ofLo (l : List Ex) (d : Int) : Int := if goA l d then -(loA l d) else 0
def ofHi (l : List Ex) (d : Int) : Int := if goA l d then hiA l d else 0
theorem of_no {l : List Ex} {d : Int} (h : ¬ goA l d) : ofLo l d = 0 ∧ ofHi l d = 0 := ⟨if_neg h, if_neg h⟩
theorem of_go {l : List Ex} {d : Int} (h : goA l d) : ofLo l d = -(loA l d) ∧ ofHi l d = hiA l d := ⟨if_pos h, if_pos h⟩
theorem bndS.from {l : List Ex} (hok : ∀ x ∈ l, okX x) {sm : List Int} (hs : sm.length ≤ 1000) : ∀ (k C : Nat) (s b : SIm), bndS C s → bndS (C + k * 1000) (fromR l sm k s b).1
  | 0, C, s, b, h => by simpa [fromR] using h
  | k + 1, C, s, b, h => by
    have hp := (bndS.pass (l := l) hok (sm := sm) (st := (s, b, -1)) h).mono (show C + sm.length ≤ C + 1000 by omega)
    unfold fromR
    split
    · exact hp.mono (by omega)
    · exact (bndS.from hok hs k (C + 1000) _ _ hp).mono (by omega)
theorem checkF_fst (l : List Ex) (s b : SIm) : ∀ sm : List Int, (checkF l s b sm).1 = s
  | [] => rfl
  | k :: sm => by
    unfold checkF
    split
    · exact checkF_fst l s b sm
    · split
      · rfl
      · exact checkF_fst l s b sm
theorem endF_fst (l : List Ex) (sm : List Int) (p : SIm × SIm × Bool) : (endF l sm p).1 = p.1 := by
  unfold endF
  split
  · rfl
  · exact checkF_fst ..
theorem toA_bnd {l : List Ex} (hok : ∀ x ∈ l, okX x) (hn : l.length ≤ 1000) (d s : Int) : bndS (3000000) (toA l d s).1 := by
  unfold toA fromF
  rw [endF_fst]
  have h1 := bndS.from (l := l) hok (sm := partA l d) (Nat.le_trans (partA_len l d) hn) ((compL l d).length + 1) 0 (zeroS [s]) [] (bndS.zeroS [s])
  have h2 := compL_len l d
  exact h1.mono (by omega)
theorem hiA_bnd {l : List Ex} (hok : ∀ x ∈ l, okX x) (hn : l.length ≤ 1000) (d : Int) : -12884901888000000 ≤ hiA l d ∧ hiA l d ≤ 12884901888000000 := by
  have := (toA_bnd hok hn d 0).get d
  unfold hiA; omega
theorem loA_bnd {l : List Ex} (hok : ∀ x ∈ l, okX x) (hn : l.length ≤ 1000) (d : Int) : -12884901888000000 ≤ loA l d ∧ loA l d ≤ 12884901888000000 := by
  have := (toA_bnd hok hn d d).get 0
  unfold loA; omega
end Go.Via
set_option linter.unusedVariables false
set_option linter.unusedSimpArgs false
namespace Go.Via
open Go Go.RowKit
/-! ### walks along exchanges -/
inductive Wk (E : Ex → Prop) : Int → Int → Nat → Int → Prop
  | nil {a : Int} : Wk E a a 0 0
  | snoc {a s : Int} {n : Nat} {x : Ex} (h : Wk E a x.f n s) (hx : E x) : Wk E a x.t (n + 1) (s + wt x)
theorem Wk.cast {E : Ex → Prop} {a b b' s s' : Int} {n n' : Nat} (h : Wk E a b n s) (hb : b = b') (hn : n = n') (hs : s = s') : Wk E a b' n' s' := by subst hb; subst hn; subst hs; exact h
theorem Wk.append {E : Ex → Prop} {a b c s t : Int} {n m : Nat} (h : Wk E a b n s) (h2 : Wk E b c m t) : Wk E a c (n + m) (s + t) := by
  induction h2 with
  | nil => exact h.cast rfl rfl (by omega)
  | snoc h3 hx ih => exact (Wk.snoc ih hx).cast rfl (by omega) (by omega)
theorem Wk.mono {E F : Ex → Prop} {a b s : Int} {n : Nat} (hm : ∀ x, E x → F x) (h : Wk E a b n s) : Wk F a b n s := by
  induction h with
  | nil => exact .nil
  | snoc h hx ih => exact .snoc ih (hm _ hx)
theorem Wk.end_in {E : Ex → Prop} {a b s : Int} {n : Nat} {C : List Int} (hC : ∀ x, E x → x.t ∈ C) (h : Wk E a b n s) : b = a ∨ b ∈ C := by
  cases h with
  | nil => exact .inl rfl
  | snoc h hx => exact .inr (hC _ hx)
inductive Sw (E : Ex → Prop) (a : Int) : Int → List Int → Int → Prop
  | nil : Sw E a a [a] 0
  | snoc {s : Int} {vs : List Int} {x : Ex} (h : Sw E a x.f vs s) (hx : E x) (hn : x.t ∉ vs) : Sw E a x.t (x.t :: vs) (s + wt x)
theorem Sw.walk {E : Ex → Prop} {a b s : Int} {vs : List Int} (h : Sw E a b vs s) : ∃ n, vs.length = n + 1 ∧ Wk E a b n s ∧ vs.Nodup := by
  induction h with
  | nil => exact ⟨0, rfl, .nil, by simp⟩
  | snoc h hx hn ih =>
    obtain ⟨n, h1, h2, h3⟩ := ih
    exact ⟨n + 1, by simp [h1], .snoc h2 hx, List.nodup_cons.2 ⟨hn, h3⟩⟩
theorem Sw.sub {E : Ex → Prop} {a b s : Int} {vs C : List Int} (hC : ∀ x, E x → x.t ∈ C) (h : Sw E a b vs s) : ∀ v ∈ vs, v ∈ a :: C := by
  induction h with
  | nil => intro v hv; simp at hv; simp [hv]
  | snoc h hx hn ih =>
    intro v hv
    rcases List.mem_cons.1 hv with rfl | hv
    · exact List.mem_cons_of_mem _ (hC _ hx)
    · exact ih v hv
theorem Sw.split {E : Ex → Prop} {a b s : Int} {vs : List Int} (h : Sw E a b vs s) : ∀ v ∈ vs, ∃ vs' s' n s'', Sw E a v vs' s' ∧ Wk E v b n s'' ∧ s = s' + s'' := by
  induction h with
  | nil => intro v hv; simp at hv; subst hv; exact ⟨_, _, _, _, .nil, .nil, rfl⟩
  | snoc h hx hn ih =>
    intro v hv
    rcases List.mem_cons.1 hv with rfl | hv
    · exact ⟨_, _, _, _, .snoc h hx hn, .nil, by omega⟩
    · obtain ⟨vs', s', n, s'', h1, h2, h3⟩ := ih v hv
      exact ⟨_, _, _, _, h1, .snoc h2 hx, by omega⟩
/-- no cycle of a negative sum -/
def NN (E : Ex → Prop) : Prop := ∀ a n w, Wk E a a n w → 0 ≤ w
theorem NN.short {E : Ex → Prop} (hN : NN E) {a b s : Int} {n : Nat} (h : Wk E a b n s) : ∃ vs s', Sw E a b vs s' ∧ s' ≤ s := by
  induction h with
  | nil => exact ⟨_, _, .nil, Int.le_refl _⟩
  | @snoc s n x h hx ih =>
    obtain ⟨vs, s', h1, h2⟩ := ih
    by_cases hv : x.t ∈ vs
    · obtain ⟨vs2, s2, m, s3, h3, h4, h5⟩ := h1.split _ hv
      have := hN _ _ _ (Wk.snoc h4 hx)
      exact ⟨vs2, s2, h3, by omega⟩
    · exact ⟨_, _, .snoc h1 hx hv, by omega⟩
theorem NN.few {E : Ex → Prop} (hN : NN E) {C : List Int} (hC : ∀ x, E x → x.t ∈ C) {a b s : Int} {n : Nat} (h : Wk E a b n s) : ∃ m s', m ≤ C.length ∧ Wk E a b m s' ∧ s' ≤ s := by
  obtain ⟨vs, s', h1, h2⟩ := hN.short h
  obtain ⟨m, h3, h4, h5⟩ := h1.walk
  have := nodup_len h5 (h1.sub hC)
  rw [List.length_cons] at this
  exact ⟨m, s', by omega, h4, h2⟩
/-- a list of exchanges as the search sees it -/
structure Gr (l : List Ex) (sm : List Int) (E : Ex → Prop) (C : List Int) : Prop where
  pos : ∀ k ∈ sm, 0 ≤ k
  out : ∀ k ∈ sm, ∀ x, l[k.toNat]? = some x → E x
  all : ∀ x, E x → ∃ k ∈ sm, l[k.toNat]? = some x
  tC : ∀ x, E x → x.t ∈ C
  ne : ∀ x, E x → x.f ≠ x.t
/-- so many steps back, with their sum -/
inductive Bk (l : List Ex) (b : SIm) : Nat → Int → Int → Int → Prop
  | zero {z : Int} : Bk l b 0 z z 0
  | succ {n : Nat} {z t i S : Int} {x : Ex} (hi : sget b t = some i) (h0 : 0 ≤ i) (hx : l[i.toNat]? = some x) (h : Bk l b n z x.f S) : Bk l b (n + 1) z t (S + wt x)
theorem Bk.stop {l : List Ex} {b : SIm} {n : Nat} {z t S : Int} (h : Bk l b n z t S) (hn : n = 0) : z = t := by
  cases h with
  | zero => rfl
  | succ _ _ _ _ => omega
structure RI (l : List Ex) (E : Ex → Prop) (ds : List Int) (s b : SIm) : Prop where
  wk : ∀ v q, sget s v = some q → ∃ a ∈ ds, ∃ n, Wk E a v n q
  ptr : ∀ v i, sget b v = some i → ∃ x p q, 0 ≤ i ∧ l[i.toNat]? = some x ∧ E x ∧ x.t = v ∧ sget s x.f = some p ∧ sget s v = some q ∧ p + wt x ≤ q
  cyc : ∀ n z S, Bk l b (n + 1) z z S → S < 0
  root : ∀ v q, sget s v = some q → sget b v = none → v ∈ ds ∧ q = 0
theorem canR_elim {s : SIm} {x : Ex} (h : canR s x = true) : ∃ p, sget s x.f = some p ∧ ∀ q, sget s x.t = some q → p + wt x < q := by
  unfold canR at h
  cases hf : sget s x.f with
  | none => rw [hf] at h; simp at h
  | some p =>
    refine ⟨p, rfl, fun q hq => ?_⟩
    rw [hf, hq] at h
    simpa using h
theorem canR_elimF {s : SIm} {x : Ex} {p : Int} (h : canR s x = false) (hp : sget s x.f = some p) : ∃ q, sget s x.t = some q ∧ q ≤ p + wt x := by
  unfold canR at h
  rw [hp] at h
  cases hf : sget s x.t with
  | none => rw [hf] at h; simp at h
  | some q =>
    rw [hf] at h
    simp at h
    exact ⟨q, rfl, h⟩
theorem relax_some {l : List Ex} {s b : SIm} {c k : Int} {x : Ex} (hx : l[k.toNat]? = some x) : relax l (s, b, c) k = if canR s x = true then (sput s x.t ((sget s x.f).getD 0 + wt x), sput b x.t k, k) else (s, b, c) := by
  unfold relax; rw [hx]
theorem relax_none {l : List Ex} {st : FRS} {k : Int} (hx : l[k.toNat]? = none) : relax l st k = st := by
  unfold relax; rw [hx]
/-- a step keeps what is known -/
theorem RI.put {l : List Ex} {E : Ex → Prop} {ds : List Int} {s b : SIm} (h : RI l E ds s b) {k p : Int} {x : Ex} (h0 : 0 ≤ k) (hx : l[k.toNat]? = some x) (hE : E x) (hne : ∀ x, E x → x.f ≠ x.t)
    (hp : sget s x.f = some p) (hq : ∀ q, sget s x.t = some q → p + wt x < q) : RI l E ds (sput s x.t (p + wt x)) (sput b x.t k) := by
  have hnx : ¬ x.t = x.f := fun e => hne x hE e.symm
  have hptr : ∀ v i, sget (sput b x.t k) v = some i → ∃ y p' q', 0 ≤ i ∧ l[i.toNat]? = some y ∧ E y ∧ y.t = v ∧ sget (sput s x.t (p + wt x)) y.f = some p' ∧ sget (sput s x.t (p + wt x)) v = some q' ∧ p' + wt y ≤ q' := by
    intro v i hv
    rw [sget_sput] at hv
    by_cases hvx : x.t = v
    · rw [if_pos hvx] at hv
      cases hv
      exact ⟨x, p, p + wt x, h0, hx, hE, hvx, by rw [sget_sput, if_neg hnx]; exact hp, by rw [sget_sput, if_pos hvx], Int.le_refl _⟩
    · rw [if_neg hvx] at hv
      obtain ⟨y, p', q', a1, a2, a3, a4, a5, a6, a7⟩ := h.ptr v i hv
      by_cases hyf : x.t = y.f
      · have := hq p' (by rw [hyf]; exact a5)
        exact ⟨y, p + wt x, q', a1, a2, a3, a4, by rw [sget_sput, if_pos hyf], by rw [sget_sput, if_neg hvx]; exact a6, by omega⟩
      · exact ⟨y, p', q', a1, a2, a3, a4, by rw [sget_sput, if_neg hyf]; exact a5, by rw [sget_sput, if_neg hvx]; exact a6, a7⟩
  have K : ∀ n z t T, Bk l (sput b x.t k) n z t T → T ≤ (sget (sput s x.t (p + wt x)) t).getD 0 - (sget (sput s x.t (p + wt x)) z).getD 0 ∧
      (T = (sget (sput s x.t (p + wt x)) t).getD 0 - (sget (sput s x.t (p + wt x)) z).getD 0 → (t = x.t ∨ Bk l b n z t T) ∧ (0 < n → z ≠ x.t)) := by
    intro n z t T hB
    induction hB with
    | zero => exact ⟨by omega, fun _ => ⟨.inr .zero, fun h => absurd h (by omega)⟩⟩
    | @succ n z t i S y hi hi0 hy hB ih =>
      obtain ⟨y', p', q', a1, a2, a3, a4, a5, a6, a7⟩ := hptr t i hi
      rw [hy] at a2
      cases a2
      obtain ⟨b1, b2⟩ := ih
      rw [a5] at b1 b2
      rw [a6]
      simp only [Option.getD_some] at b1 b2 ⊢
      refine ⟨by omega, fun heq => ?_⟩
      obtain ⟨c1, c2⟩ := b2 (by omega)
      have htight : p' + wt y = q' := by omega
      have hyx : y.f ≠ x.t := by
        intro e
        have htx : ¬ x.t = t := fun e2 => hne y a3 (by rw [e, e2, a4])
        rw [sget_sput, if_neg htx] at hi
        obtain ⟨y2, p2, q2, d1, d2, d3, d4, d5, d6, d7⟩ := h.ptr t i hi
        rw [hy] at d2
        cases d2
        rw [sget_sput, if_neg htx, d6] at a6
        cases a6
        rw [sget_sput, if_pos e.symm] at a5
        cases a5
        have := hq p2 (by rw [← e]; exact d5)
        omega
      refine ⟨?_, fun _ => ?_⟩
      · by_cases htx : t = x.t
        · exact .inl htx
        · rw [sget_sput, if_neg (fun e => htx e.symm)] at hi
          exact .inr (.succ hi hi0 hy (c1.resolve_left hyx))
      · rcases Nat.eq_zero_or_pos n with hn | hn
        · rw [hB.stop hn]; exact hyx
        · exact c2 hn
  refine ⟨fun v q hv => ?_, hptr, fun n z S hB => ?_, fun v q hv hb => ?_⟩
  · rw [sget_sput] at hv
    by_cases hvx : x.t = v
    · rw [if_pos hvx] at hv
      cases hv
      obtain ⟨a, ha, n, hw⟩ := h.wk _ _ hp
      exact ⟨a, ha, n + 1, (Wk.snoc hw hE).cast hvx rfl rfl⟩
    · rw [if_neg hvx] at hv
      exact h.wk v q hv
  · obtain ⟨k1, k2⟩ := K _ _ _ _ hB
    by_cases hS : S = 0
    · obtain ⟨k3, k4⟩ := k2 (by omega)
      exact h.cyc n z S (k3.resolve_left (k4 (by omega)))
    · omega
  · rw [sget_sput] at hb
    by_cases hvx : x.t = v
    · rw [if_pos hvx] at hb; cases hb
    · rw [if_neg hvx] at hb
      rw [sget_sput, if_neg hvx] at hv
      exact h.root v q hv hb
theorem RI.relax {l : List Ex} {sm : List Int} {E : Ex → Prop} {C : List Int} (G : Gr l sm E C) {ds : List Int} {st : FRS} {k : Int} (h : RI l E ds st.1 st.2.1) (hk : k ∈ sm) : RI l E ds (relax l st k).1 (relax l st k).2.1 := by
  obtain ⟨s, b, c⟩ := st
  cases hx : l[k.toNat]? with
  | none => rw [relax_none hx]; exact h
  | some x =>
    rw [relax_some hx]
    by_cases hc : canR s x = true
    · rw [if_pos hc]
      obtain ⟨p, hp, hq⟩ := canR_elim hc
      have := RI.put h (G.pos k hk) hx (G.out k hk x hx) G.ne hp hq
      rw [hp]; exact this
    · rw [if_neg hc]; exact h
theorem RI.pass {l : List Ex} {sm : List Int} {E : Ex → Prop} {C : List Int} (G : Gr l sm E C) {ds : List Int} : ∀ (m : List Int) (st : FRS), (∀ k ∈ m, k ∈ sm) → RI l E ds st.1 st.2.1 → RI l E ds (passR l m st).1 (passR l m st).2.1
  | [], st, _, h => h
  | k :: m, st, hm, h => RI.pass G m (Go.Via.relax l st k) (fun j hj => hm j (by simp [hj])) (RI.relax G h (hm k (by simp)))
/-! sums only decrease -/
def leS (s s' : SIm) : Prop := ∀ v q, sget s v = some q → ∃ q', sget s' v = some q' ∧ q' ≤ q
theorem leS.refl (s : SIm) : leS s s := fun v q h => ⟨q, h, Int.le_refl _⟩
theorem leS.trans {s t u : SIm} (h : leS s t) (h2 : leS t u) : leS s u := fun v q hv => by
  obtain ⟨q1, a1, a2⟩ := h v q hv
  obtain ⟨q2, b1, b2⟩ := h2 v q1 a1
  exact ⟨q2, b1, by omega⟩
theorem relax_le (l : List Ex) (st : FRS) (k : Int) : leS st.1 (relax l st k).1 := by
  obtain ⟨s, b, c⟩ := st
  cases hx : l[k.toNat]? with
  | none => rw [relax_none hx]; exact .refl _
  | some x =>
    rw [relax_some hx]
    by_cases hc : canR s x = true
    · rw [if_pos hc]
      obtain ⟨p, hp, hq⟩ := canR_elim hc
      intro v q hv
      show ∃ q', sget (sput s x.t _) v = some q' ∧ _
      rw [sget_sput]
      by_cases hvx : x.t = v
      · rw [if_pos hvx, hp]
        have := hq q (by rw [hvx]; exact hv)
        exact ⟨_, rfl, by simp; omega⟩
      · rw [if_neg hvx]; exact ⟨q, hv, Int.le_refl _⟩
    · rw [if_neg hc]; exact .refl _
theorem pass_le (l : List Ex) : ∀ (m : List Int) (st : FRS), leS st.1 (passR l m st).1
  | [], st => .refl _
  | k :: m, st => (relax_le l st k).trans (pass_le l m (relax l st k))
theorem relax_do {l : List Ex} {st : FRS} {k p : Int} {x : Ex} (hx : l[k.toNat]? = some x) (hp : sget st.1 x.f = some p) : ∃ q, sget (relax l st k).1 x.t = some q ∧ q ≤ p + wt x := by
  obtain ⟨s, b, c⟩ := st
  rw [relax_some hx]
  by_cases hc : canR s x = true
  · rw [if_pos hc]
    refine ⟨p + wt x, ?_, Int.le_refl _⟩
    show sget (sput s x.t _) x.t = _
    rw [sget_sput, if_pos rfl]
    change sget s x.f = some p at hp
    rw [hp]; rfl
  · rw [if_neg hc]
    exact canR_elimF (by simpa using hc) hp
def Low (E : Ex → Prop) (ds : List Int) (r : Nat) (s : SIm) : Prop := ∀ a ∈ ds, ∀ v n w, n ≤ r → Wk E a v n w → ∃ q, sget s v = some q ∧ q ≤ w
theorem Low.mono {E : Ex → Prop} {ds : List Int} {r : Nat} {s t : SIm} (h : Low E ds r s) (hl : leS s t) : Low E ds r t := fun a ha v n w hn hw => by
  obtain ⟨q, h1, h2⟩ := h a ha v n w hn hw
  obtain ⟨q', h3, h4⟩ := hl v q h1
  exact ⟨q', h3, by omega⟩
theorem Low.less {E : Ex → Prop} {ds : List Int} {r r' : Nat} {s : SIm} (h : Low E ds r s) (hr : r' ≤ r) : Low E ds r' s := fun a ha v n w hn hw => h a ha v n w (by omega) hw
theorem pass_append (l : List Ex) (m1 m2 : List Int) (st : FRS) : passR l (m1 ++ m2) st = passR l m2 (passR l m1 st) := List.foldl_append ..
theorem pass_pos {l : List Ex} : ∀ (m : List Int) (st : FRS), (∀ k ∈ m, 0 ≤ k) → 0 ≤ st.2.2 → 0 ≤ (passR l m st).2.2
  | [], st, _, h => h
  | k :: m, st, hm, h => by
    refine pass_pos m (relax l st k) (fun j hj => hm j (by simp [hj])) ?_
    obtain ⟨s, b, c⟩ := st
    cases hx : l[k.toNat]? with
    | none => rw [relax_none hx]; exact h
    | some x =>
      rw [relax_some hx]
      by_cases hc : canR s x = true
      · rw [if_pos hc]; exact hm k (by simp)
      · rw [if_neg hc]; exact h
theorem pass_same {l : List Ex} : ∀ (m : List Int) (st : FRS), (∀ k ∈ m, 0 ≤ k) → (passR l m st).2.2 < 0 → passR l m st = st ∧ ∀ k ∈ m, ∀ x, l[k.toNat]? = some x → canR st.1 x = false
  | [], st, _, h => ⟨rfl, fun k hk => by cases hk⟩
  | k :: m, st, hm, h => by
    have hst : relax l st k = st ∧ ∀ x, l[k.toNat]? = some x → canR st.1 x = false := by
      obtain ⟨s, b, c⟩ := st
      cases hx : l[k.toNat]? with
      | none => exact ⟨relax_none hx, fun x h => by cases h⟩
      | some x =>
        by_cases hc : canR s x = true
        · have h2 : relax l (s, b, c) k = (sput s x.t ((sget s x.f).getD 0 + wt x), sput b x.t k, k) := by rw [relax_some hx, if_pos hc]
          have := pass_pos (l := l) m (relax l (s, b, c) k) (fun j hj => hm j (by simp [hj])) (by rw [h2]; exact hm k (by simp))
          change (passR l m (relax l (s, b, c) k)).2.2 < 0 at h
          omega
        · exact ⟨by rw [relax_some hx, if_neg hc], fun y hy => by cases hy; simpa using hc⟩
    have ih := pass_same m st (fun j hj => hm j (by simp [hj])) (by change (passR l m (relax l st k)).2.2 < 0 at h; rw [hst.1] at h; exact h)
    refine ⟨by show passR l m (relax l st k) = st; rw [hst.1]; exact ih.1, fun j hj x hx => ?_⟩
    rcases List.mem_cons.1 hj with rfl | hj
    · exact hst.2 x hx
    · exact ih.2 j hj x hx
theorem pass_still {l : List Ex} : ∀ (m : List Int) (st : FRS), (∀ k ∈ m, ∀ x, l[k.toNat]? = some x → canR st.1 x = false) → passR l m st = st
  | [], st, _ => rfl
  | k :: m, st, h => by
    have hst : relax l st k = st := by
      obtain ⟨s, b, c⟩ := st
      cases hx : l[k.toNat]? with
      | none => exact relax_none hx
      | some x => rw [relax_some hx, if_neg (by rw [show canR s x = false from h k (by simp) x hx]; decide)]
    show passR l m (relax l st k) = st
    rw [hst]
    exact pass_still m st fun j hj => h j (by simp [hj])
/-- no exchange can be used any more -/
def Clo (E : Ex → Prop) (s : SIm) : Prop := ∀ x, E x → ∀ p, sget s x.f = some p → ∃ q, sget s x.t = some q ∧ q ≤ p + wt x
theorem Clo.walk {E : Ex → Prop} {s : SIm} (h : Clo E s) {a v w p : Int} {n : Nat} (hw : Wk E a v n w) (hp : sget s a = some p) : ∃ q, sget s v = some q ∧ q ≤ p + w := by
  induction hw with
  | nil => exact ⟨p, hp, by omega⟩
  | snoc hw hx ih =>
    obtain ⟨q, h1, h2⟩ := ih
    obtain ⟨q', h3, h4⟩ := h _ hx q h1
    exact ⟨q', h3, by omega⟩
theorem Low.pass {l : List Ex} {sm : List Int} {E : Ex → Prop} {C : List Int} (G : Gr l sm E C) {ds : List Int} {r : Nat} {s b : SIm} {c : Int} (h : Low E ds r s) : Low E ds (r + 1) (passR l sm (s, b, c)).1 := by
  intro a ha v n w hn hw
  have hle := pass_le l sm (s, b, c)
  cases hw with
  | nil => exact (h.mono hle) a ha a 0 0 (by omega) .nil
  | @snoc s0 m x hw hx =>
    obtain ⟨k, hk, hlk⟩ := G.all x hx
    obtain ⟨m1, m2, hm⟩ := List.append_of_mem hk
    obtain ⟨p, hp, hpw⟩ := (h.mono (pass_le l m1 (s, b, c))) a ha x.f m s0 (by omega) hw
    obtain ⟨q, hq, hqp⟩ := relax_do (l := l) (st := passR l m1 (s, b, c)) hlk hp
    obtain ⟨q', hq', hqq⟩ := pass_le l m2 (relax l (passR l m1 (s, b, c)) k) x.t q hq
    refine ⟨q', ?_, by omega⟩
    rw [hm, pass_append]
    exact hq'
theorem Clo.ofPass {l : List Ex} {sm : List Int} {E : Ex → Prop} {C : List Int} (G : Gr l sm E C) {st : FRS} (h : (passR l sm st).2.2 < 0) : passR l sm st = st ∧ Clo E st.1 := by
  obtain ⟨h1, h2⟩ := pass_same sm st G.pos h
  refine ⟨h1, fun x hx p hp => ?_⟩
  obtain ⟨k, hk, hlk⟩ := G.all x hx
  exact canR_elimF (h2 k hk x hlk) hp
theorem fromR_spec {l : List Ex} {sm : List Int} {E : Ex → Prop} {C : List Int} (G : Gr l sm E C) {ds : List Int} : ∀ (k r : Nat) (s b : SIm), RI l E ds s b → Low E ds r s →
    RI l E ds (fromR l sm k s b).1 (fromR l sm k s b).2.1 ∧ ((fromR l sm k s b).2.2 = true → Clo E (fromR l sm k s b).1) ∧ Low E ds r (fromR l sm k s b).1 ∧ ((fromR l sm k s b).2.2 = false → Low E ds (r + k) (fromR l sm k s b).1)
  | 0, r, s, b, h1, h2 => ⟨h1, fun h => (by cases h), h2, fun _ => h2⟩
  | k + 1, r, s, b, h1, h2 => by
    by_cases hl : (passR l sm (s, b, -1)).2.2 < 0
    · obtain ⟨e, hc⟩ := Clo.ofPass G hl
      rw [fromR_stop hl, e]
      exact ⟨h1, fun _ => hc, h2, fun h => by cases h⟩
    · rw [fromR_go hl]
      have a1 := RI.pass G sm (s, b, -1) (fun _ h => h) h1
      have a2 := Low.pass G (b := b) (c := -1) h2
      obtain ⟨b1, b2, b3, b4⟩ := fromR_spec G k (r + 1) _ (passR l sm (s, b, -1)).2.1 a1 a2
      exact ⟨b1, b2, b3.less (by omega), fun h => (b4 h).less (by omega)⟩
theorem pass_done {l : List Ex} {sm : List Int} {E : Ex → Prop} {C : List Int} (G : Gr l sm E C) (hN : NN E) {ds : List Int} {s b : SIm} {c : Int} (hw : ∀ v q, sget s v = some q → ∃ a ∈ ds, ∃ n, Wk E a v n q) (hL : Low E ds C.length s) : passR l sm (s, b, c) = (s, b, c) := by
  refine pass_still sm _ fun k hk x hx => ?_
  cases hc : canR s x with
  | false => rfl
  | true =>
    obtain ⟨p, hp, hq⟩ := canR_elim hc
    obtain ⟨a, ha, n, hW⟩ := hw _ _ hp
    have hE := G.out k hk x hx
    obtain ⟨m, w, h1, h2, h3⟩ := hN.few G.tC (Wk.snoc hW hE)
    obtain ⟨q, h4, h5⟩ := hL a ha x.t m w h1 h2
    have := hq q h4
    omega
theorem fromR_conv {l : List Ex} {sm : List Int} {E : Ex → Prop} {C : List Int} (G : Gr l sm E C) (hN : NN E) {ds : List Int} : ∀ (k r : Nat) (s b : SIm), RI l E ds s b → Low E ds r s → C.length ≤ r + k → (fromR l sm (k + 1) s b).2.2 = true
  | 0, r, s, b, h1, h2, h => by
    have := pass_done G hN (b := b) (c := -1) h1.wk (h2.less (by omega))
    rw [fromR_stop (by rw [this]; show (-1 : Int) < 0; decide)]
  | k + 1, r, s, b, h1, h2, h => by
    by_cases hl : (passR l sm (s, b, -1)).2.2 < 0
    · rw [fromR_stop hl]
    · rw [fromR_go hl]
      exact fromR_conv G hN k (r + 1) _ _ (RI.pass G sm (s, b, -1) (fun _ h => h) h1) (Low.pass G h2) (by omega)
theorem zero_get : ∀ (ds : List Int) (s : SIm) (v q : Int), sget (ds.foldl (fun s d => sput s d 0) s) v = some q → (v ∈ ds ∧ q = 0) ∨ sget s v = some q
  | [], s, v, q, h => .inr h
  | d :: ds, s, v, q, h => by
    rcases zero_get ds _ v q h with h | h
    · exact .inl ⟨by simp [h.1], h.2⟩
    · rw [sget_sput] at h
      by_cases e : d = v
      · rw [if_pos e] at h; cases h; exact .inl ⟨by simp [e], rfl⟩
      · rw [if_neg e] at h; exact .inr h
theorem zero_has : ∀ (ds : List Int) (s : SIm) (v : Int), (v ∈ ds ∨ sget s v = some 0) → sget (ds.foldl (fun s d => sput s d 0) s) v = some 0
  | [], s, v, h => h.resolve_left (by simp)
  | d :: ds, s, v, h => by
    refine zero_has ds _ v ?_
    rw [sget_sput]
    by_cases e : d = v
    · exact .inr (if_pos e)
    · rcases h with h | h
      · rcases List.mem_cons.1 h with h | h
        · exact absurd h.symm e
        · exact .inl h
      · exact .inr (by rw [if_neg e]; exact h)
theorem RI.zero (l : List Ex) (E : Ex → Prop) (ds : List Int) : RI l E ds (zeroS ds) [] where
  wk v q h := by
    obtain ⟨h1, h2⟩ := (zero_get ds [] v q h).resolve_right (by simp [sget])
    subst h2
    exact ⟨v, h1, 0, .nil⟩
  ptr v i h := by cases h
  cyc n z S h := by
    cases h with
    | succ hi _ _ _ => cases hi
  root v q h _ := (zero_get ds [] v q h).resolve_right (by simp [sget])
theorem Low.zero (E : Ex → Prop) (ds : List Int) : Low E ds 0 (zeroS ds) := fun a ha v n w hn hw => by
  cases hw with
  | nil => exact ⟨0, zero_has ds [] a (.inl ha), Int.le_refl _⟩
  | snoc _ _ => omega
/-- the least sum of a walk -/
def IsMin (E : Ex → Prop) (a v q : Int) : Prop := (∃ n, Wk E a v n q) ∧ ∀ n w, Wk E a v n w → q ≤ w
end Go.Via
set_option linter.unusedVariables false
set_option linter.unusedSimpArgs false
namespace Go.Via
open Go Go.RowKit
/-! ### the ways back -/
/-- as Pth, along what is there -/
inductive Pw (l : List Ex) (b : SIm) (fr : Int) : Int → List Int → Prop
  | nil : Pw l b fr fr []
  | cons {to i : Int} {x : Ex} {c : List Int} (h : to ≠ fr) (hi : sget b to = some i) (h0 : 0 ≤ i) (hx : l[i.toNat]? = some x) (hp : Pw l b fr x.f c) : Pw l b fr to (i :: c)
theorem Pw.pth {l : List Ex} {b : SIm} {fr to : Int} {c : List Int} (h : Pw l b fr to c) : Pth l b fr to c := by
  induction h with
  | nil => exact .nil
  | cons h hi h0 hx hp ih => exact .cons h (by rw [hi]; rfl) h0 hx ih
theorem sumS_append {l : List Ex} : ∀ (c e : List Int) (a n a' n' : Int), sumS l c a n = some (a', n') → sumS l (c ++ e) a n = sumS l e a' n'
  | [], e, a, n, a', n', h => by cases h; rfl
  | k :: c, e, a, n, a', n', h => by
    unfold sumS at h
    by_cases hk : k < 0 ∨ (l.length : Int) ≤ k
    · rw [if_pos hk] at h; cases h
    · rw [if_neg hk] at h
      show sumS l (k :: (c ++ e)) a n = _
      rw [sumS, if_neg hk]
      cases hx : l[k.toNat]? with
      | none => rw [hx] at h; cases h
      | some x =>
        rw [hx] at h
        simp only at h ⊢
        by_cases hf : x.f = a
        · rw [if_pos hf] at h ⊢
          exact sumS_append c e _ _ a' n' h
        · rw [if_neg hf] at h; cases h
theorem sumS_one {l : List Ex} {i a n : Int} {x : Ex} (h0 : 0 ≤ i) (hx : l[i.toNat]? = some x) (hf : x.f = a) : sumS l [i] a n = some (x.t, n + wt x) := by
  have := (List.getElem?_eq_some_iff.1 hx).1
  rw [sumS, if_neg (by omega), hx]
  simp only [if_pos hf]
  rfl
theorem RI.bk {l : List Ex} {E : Ex → Prop} {ds : List Int} {s b : SIm} (R : RI l E ds s b) {n : Nat} {z t S q : Int} (h : Bk l b n z t S) (hq : sget s t = some q) : ∃ q', sget s z = some q' := by
  induction h generalizing q with
  | zero => exact ⟨q, hq⟩
  | succ hi h0 hx h ih =>
    obtain ⟨y, p, q2, a1, a2, a3, a4, a5, a6, a7⟩ := R.ptr _ _ hi
    rw [hx] at a2
    cases a2
    exact ih a5
theorem RI.bkW {l : List Ex} {E : Ex → Prop} {ds : List Int} {s b : SIm} (R : RI l E ds s b) {n : Nat} {z t S : Int} (h : Bk l b n z t S) : Wk E z t n S := by
  induction h with
  | zero => exact .nil
  | succ hi h0 hx h ih =>
    obtain ⟨y, p, q2, a1, a2, a3, a4, a5, a6, a7⟩ := R.ptr _ _ hi
    rw [hx] at a2
    cases a2
    exact (Wk.snoc ih a3).cast a4 rfl rfl
/-- from each device one comes back to a root, or one never stops -/
theorem RI.dich {l : List Ex} {E : Ex → Prop} {ds : List Int} {s b : SIm} (R : RI l E ds s b) : ∀ (n : Nat) (v q : Int), sget s v = some q → (∃ a c, sget b a = none ∧ Pw l b a v c ∧ c.length ≤ n) ∨ ∃ z S, Bk l b n z v S
  | 0, v, q, h => .inr ⟨v, 0, .zero⟩
  | n + 1, v, q, h => by
    cases hv : sget b v with
    | none => exact .inl ⟨v, [], hv, .nil, Nat.zero_le _⟩
    | some i =>
      obtain ⟨x, p, q2, a1, a2, a3, a4, a5, a6, a7⟩ := R.ptr v i hv
      rcases RI.dich R n x.f p a5 with ⟨a, c, h1, h2, h3⟩ | ⟨z, S, h1⟩
      · exact .inl ⟨a, i :: c, h1, .cons (fun e => by rw [e, h1] at hv; cases hv) hv a1 a2 h2, by simp; omega⟩
      · exact .inr ⟨z, _, .succ hv a1 a2 h1⟩
/-- who goes back far enough comes to a cycle -/
theorem Bk.hole {l : List Ex} {b : SIm} {n : Nat} {z t S : Int} (h : Bk l b n z t S) : (∃ vs : List Int, vs.length = n + 1 ∧ vs.Nodup ∧ ∀ w ∈ vs, ∃ m T, m ≤ n ∧ Bk l b m w t T) ∨ ∃ w i k T1 T2, Bk l b i w t T1 ∧ Bk l b (k + 1) w w T2 ∧ i + k + 1 ≤ n := by
  induction h with
  | zero => exact .inl ⟨[_], rfl, by simp, fun w hw => by simp at hw; subst hw; exact ⟨0, 0, Nat.le_refl _, .zero⟩⟩
  | @succ n z t i S x hi h0 hx h ih =>
    rcases ih with ⟨vs, h1, h2, h3⟩ | ⟨w, j, k, T1, T2, h1, h2, h3⟩
    · by_cases ht : t ∈ vs
      · obtain ⟨m, T, hm, hB⟩ := h3 t ht
        exact .inr ⟨t, 0, m, 0, _, .zero, .succ hi h0 hx hB, by omega⟩
      · refine .inl ⟨t :: vs, by simp [h1], List.nodup_cons.2 ⟨ht, h2⟩, fun w hw => ?_⟩
        rcases List.mem_cons.1 hw with rfl | hw
        · exact ⟨0, 0, Nat.zero_le _, .zero⟩
        · obtain ⟨m, T, hm, hB⟩ := h3 w hw
          exact ⟨m + 1, _, by omega, .succ hi h0 hx hB⟩
    · exact .inr ⟨w, j + 1, k, _, T2, .succ hi h0 hx h1, h2, by omega⟩
theorem RI.cycle {l : List Ex} {E : Ex → Prop} {ds : List Int} {s b : SIm} (R : RI l E ds s b) {V : List Int} (hV : ∀ v q, sget s v = some q → v ∈ V) {n : Nat} {z t S q : Int} (h : Bk l b n z t S) (hq : sget s t = some q) (hn : V.length ≤ n) : ∃ w i k T1 T2, Bk l b i w t T1 ∧ Bk l b (k + 1) w w T2 ∧ i + k + 1 ≤ n := by
  rcases h.hole with ⟨vs, h1, h2, h3⟩ | h
  · have := nodup_len h2 (m := V) fun w hw => by
      obtain ⟨m, T, _, hB⟩ := h3 w hw
      obtain ⟨q', hq'⟩ := RI.bk R hB hq
      exact hV w q' hq'
    omega
  · exact h
theorem RI.vert {l : List Ex} {E : Ex → Prop} {ds : List Int} {s b : SIm} (R : RI l E ds s b) {C : List Int} (hC : ∀ x, E x → x.t ∈ C) {v q : Int} (h : sget s v = some q) : v ∈ ds ∨ v ∈ C := by
  obtain ⟨a, ha, n, hw⟩ := R.wk v q h
  rcases hw.end_in hC with e | e
  · exact .inl (e ▸ ha)
  · exact .inr e
/-- the sum on the way from a root is at most the sum that is known -/
theorem RI.path {l : List Ex} {E : Ex → Prop} {ds : List Int} {s b : SIm} (R : RI l E ds s b) {a t q : Int} {c : List Int} (h : Pw l b a t c) (hr : sget b a = none) (hq : sget s t = some q) : a ∈ ds ∧ ∃ P, Wk E a t c.length P ∧ P ≤ q := by
  induction h generalizing q with
  | nil =>
    obtain ⟨h1, h2⟩ := R.root _ _ hq hr
    exact ⟨h1, 0, .nil, by omega⟩
  | cons hne hi h0 hx hp ih =>
    obtain ⟨y, p, q2, a1, a2, a3, a4, a5, a6, a7⟩ := R.ptr _ _ hi
    rw [hx] at a2
    cases a2
    obtain ⟨h1, P, h2, h3⟩ := ih a5
    rw [hq] at a6
    cases a6
    exact ⟨h1, P + wt _, (Wk.snoc h2 a3).cast a4 (by simp) rfl, by omega⟩
/-- where nothing can be done any more, the way back has the sum that is known -/
theorem RI.sum {l : List Ex} {E : Ex → Prop} {ds : List Int} {s b : SIm} (R : RI l E ds s b) (hC : Clo E s) {a t q q0 : Int} {c : List Int} (h : Pw l b a t c) (hq : sget s t = some q) (h0 : sget s a = some q0) : sumS l c.reverse a q0 = some (t, q) := by
  induction h generalizing q with
  | nil => rw [h0] at hq; cases hq; rfl
  | cons hne hi hi0 hx hp ih =>
    obtain ⟨y, p, q2, a1, a2, a3, a4, a5, a6, a7⟩ := R.ptr _ _ hi
    rw [hx] at a2
    cases a2
    obtain ⟨q3, b1, b2⟩ := hC _ a3 p a5
    rw [a4, hq] at b1
    rw [hq] at a6
    cases b1; cases a6
    rw [List.reverse_cons, sumS_append _ _ _ _ _ _ (ih a5), sumS_one hi0 hx rfl, a4]
    exact congrArg (fun n => some (_, n)) (by omega)
/-- without contradictions, the way back ends at a root -/
theorem RI.back {l : List Ex} {E : Ex → Prop} {ds : List Int} {s b : SIm} (R : RI l E ds s b) (hN : NN E) {V : List Int} (hV : ∀ v q, sget s v = some q → v ∈ V) {v q : Int} (h : sget s v = some q) : ∃ a c, a ∈ ds ∧ sget b a = none ∧ Pw l b a v c ∧ c.length ≤ V.length := by
  rcases RI.dich R V.length v q h with ⟨a, c, h1, h2, h3⟩ | ⟨z, S, h1⟩
  · exact ⟨a, c, (RI.path R h2 h1 h).1, h1, h2, h3⟩
  · obtain ⟨w, i, k, T1, T2, _, h2, _⟩ := RI.cycle R hV h1 h (Nat.le_refl _)
    have := R.cyc k w T2 h2
    have := hN w _ T2 (RI.bkW R h2)
    omega
theorem Bk.itr {l : List Ex} {b : SIm} {n : Nat} {z t S : Int} (h : Bk l b n z t S) : Itr l b n t z := by
  induction h with
  | zero => exact .zero
  | succ hi h0 hx h ih => exact .succ (by rw [hi]; rfl) h0 hx ih
theorem Bk.det {l : List Ex} {b : SIm} : ∀ {i n : Nat} {w z t T S : Int}, Bk l b i w t T → Bk l b n z t S → i ≤ n → ∃ S', Bk l b (n - i) z w S' := by
  intro i n w z t T S h
  induction h generalizing n S with
  | zero => intro h2 _; exact ⟨S, h2⟩
  | succ hi h0 hx h ih =>
    intro h2 hn
    cases h2 with
    | zero => omega
    | succ hi' h0' hx' h2 =>
      rw [hi] at hi'
      cases hi'
      rw [hx] at hx'
      cases hx'
      obtain ⟨S', h3⟩ := ih h2 (by omega)
      exact ⟨S', by rw [Nat.add_sub_add_right]; exact h3⟩
theorem Bk.snoc {l : List Ex} {b : SIm} {n : Nat} {z t S i : Int} {x : Ex} (h : Bk l b n z t S) (hi : sget b z = some i) (h0 : 0 ≤ i) (hx : l[i.toNat]? = some x) : Bk l b (n + 1) x.f t (wt x + S) := by
  induction h with
  | zero =>
    have := Bk.succ hi h0 hx Bk.zero
    rw [show wt x + 0 = 0 + wt x by omega]; exact this
  | succ hi' h0' hx' h ih =>
    have := Bk.succ hi' h0' hx' (ih hi)
    rw [← Int.add_assoc]; exact this
theorem Bk.rot {l : List Ex} {b : SIm} {m : Nat} {z w S : Int} (h : Bk l b m z w S) : ∀ {k : Nat} {T : Int}, Bk l b (k + 1) w w T → ∃ T', Bk l b (k + 1) z z T' := by
  induction h with
  | zero => intro k T h; exact ⟨T, h⟩
  | succ hi h0 hx h ih =>
    intro k T h2
    cases h2 with
    | succ hi' h0' hx' h2 =>
      rw [hi] at hi'
      cases hi'
      rw [hx] at hx'
      cases hx'
      exact ih (h2.snoc hi h0 hx)
/-- up to the first time that one is there -/
theorem Bk.first {l : List Ex} {b : SIm} {m : Nat} {z t S : Int} (h : Bk l b m z t S) : ∃ c T, Pw l b z t c ∧ Bk l b c.length z t T ∧ c.length ≤ m := by
  induction h with
  | zero => exact ⟨[], 0, .nil, .zero, Nat.le_refl _⟩
  | @succ n z t i S x hi h0 hx h ih =>
    by_cases e : t = z
    · subst e; exact ⟨[], 0, .nil, .zero, Nat.zero_le _⟩
    · obtain ⟨c, T, h1, h2, h3⟩ := ih
      exact ⟨i :: c, _, .cons e hi h0 hx h1, .succ hi h0 hx h2, by simp; omega⟩
theorem RI.sumB {l : List Ex} {E : Ex → Prop} {ds : List Int} {s b : SIm} (R : RI l E ds s b) {z t T : Int} {c : List Int} (h : Pw l b z t c) (hB : Bk l b c.length z t T) (n0 : Int) : sumS l c.reverse z n0 = some (t, n0 + T) := by
  induction h generalizing T with
  | nil =>
    cases hB with
    | zero => exact congrArg (fun n => some (_, n)) (by omega)
  | cons hne hi hi0 hx hp ih =>
    cases hB with
    | succ hi' h0' hx' hB =>
      rw [hi] at hi'
      cases hi'
      rw [hx] at hx'
      cases hx'
      obtain ⟨y, p, q2, a1, a2, a3, a4, a5, a6, a7⟩ := R.ptr _ _ hi
      rw [hx] at a2
      cases a2
      rw [List.reverse_cons, sumS_append _ _ _ _ _ _ (ih hB), sumS_one hi0 hx rfl, a4]
      exact congrArg (fun n => some (_, n)) (by omega)
theorem checkF_spec {l : List Ex} {s b : SIm} : ∀ (m : List Int), (∀ k ∈ m, 0 ≤ k) → ((checkF l s b m).2.2 < 0 ∧ ∀ k ∈ m, ∀ x, l[k.toNat]? = some x → canC s x = false) ∨ ∃ k ∈ m, ∃ x, l[k.toNat]? = some x ∧ canC s x = true ∧ checkF l s b m = (s, sput b x.t k, k)
  | [], _ => .inl ⟨by show (-1 : Int) < 0; decide, fun k hk => by cases hk⟩
  | k :: m, hm => by
    have ih := checkF_spec (l := l) (s := s) (b := b) m (fun j hj => hm j (by simp [hj]))
    have hgo : ∀ hh : (checkF l s b (k :: m) = checkF l s b m) ∧ ∀ x, l[k.toNat]? = some x → canC s x = false, ((checkF l s b (k :: m)).2.2 < 0 ∧ ∀ k' ∈ k :: m, ∀ x, l[k'.toNat]? = some x → canC s x = false) ∨ ∃ k' ∈ k :: m, ∃ x, l[k'.toNat]? = some x ∧ canC s x = true ∧ checkF l s b (k :: m) = (s, sput b x.t k', k') := by
      intro ⟨e, hn⟩
      rcases ih with ⟨h1, h2⟩ | ⟨k', h1, x, h2, h3, h4⟩
      · refine .inl ⟨by rw [e]; exact h1, fun j hj x hx => ?_⟩
        rcases List.mem_cons.1 hj with rfl | hj
        · exact hn x hx
        · exact h2 j hj x hx
      · exact .inr ⟨k', by simp [h1], x, h2, h3, by rw [e]; exact h4⟩
    cases hx : l[k.toNat]? with
    | none => exact hgo ⟨by rw [checkF, hx], fun x h => by rw [hx] at h; cases h⟩
    | some x =>
      cases hc : canC s x with
      | false => exact hgo ⟨by rw [checkF, hx]; simp [hc], fun y hy => by rw [hx] at hy; cases hy; exact hc⟩
      | true => exact .inr ⟨k, by simp, x, hx, hc, by rw [checkF, hx]; simp [hc]⟩
theorem canC_of {s : SIm} {x : Ex} {p q : Int} (hp : sget s x.f = some p) (hq : sget s x.t = some q) : canC s x = decide (p + wt x < q) := by
  unfold canC; rw [hp, hq]; rfl
end Go.Via
set_option linter.unusedVariables false
set_option linter.unusedSimpArgs false
namespace Go.Via
open Go Go.RowKit
/-! ### what the program's search finds -/
theorem Wk.zero_sum {E : Ex → Prop} {a b s : Int} {n : Nat} (h : Wk E a b n s) (hn : n = 0) : b = a ∧ s = 0 := by
  cases h with
  | nil => exact ⟨rfl, rfl⟩
  | snoc _ _ => omega
theorem Wk.end_pos {E : Ex → Prop} {a b s : Int} {n : Nat} {C : List Int} (hC : ∀ x, E x → x.t ∈ C) (h : Wk E a b n s) (hn : 0 < n) : b ∈ C := by
  cases h with
  | nil => omega
  | snoc h hx => exact hC _ hx
/-- the exchanges of a component -/
def Ed (l : List Ex) (d : Int) (x : Ex) : Prop := x ∈ l ∧ x.f ∈ compL l d
theorem grA {l : List Ex} (hok : ∀ x ∈ l, okX x) (d : Int) : Gr l (partA l d) (Ed l d) (compL l d) where
  pos k hk := (partA_mem hk).1
  out k hk x hx := by
    obtain ⟨j, y, hj, rfl, hy, hc⟩ := partP_mem.1 hk
    rw [Int.toNat_natCast, hy] at hx
    cases hx
    exact ⟨List.mem_of_getElem? hy, hc⟩
  all x hx := by
    obtain ⟨j, hj⟩ := List.getElem?_of_mem hx.1
    exact ⟨(j : Int), partP_mem.2 ⟨j, x, (List.getElem?_eq_some_iff.1 hj).1, rfl, hj, hx.2⟩, by rw [Int.toNat_natCast]; exact hj⟩
  tC x hx := (compL_closed l d x hx.1).1 hx.2
  ne x hx := (hok x hx.1).ne
theorem endF_true {l : List Ex} {sm : List Int} {p : SIm × SIm × Bool} (h : p.2.2 = true) : endF l sm p = (p.1, p.2.1, -1) := if_pos h
theorem endF_false {l : List Ex} {sm : List Int} {p : SIm × SIm × Bool} (h : p.2.2 = false) : endF l sm p = checkF l p.1 p.2.1 sm := if_neg (by rw [h]; decide)
theorem rA {l : List Ex} (hok : ∀ x ∈ l, okX x) (d : Int) (ds : List Int) (k : Nat) : RI l (Ed l d) ds (fromR l (partA l d) k (zeroS ds) []).1 (fromR l (partA l d) k (zeroS ds) []).2.1 ∧ ((fromR l (partA l d) k (zeroS ds) []).2.2 = true → Clo (Ed l d) (fromR l (partA l d) k (zeroS ds) []).1) ∧
    Low (Ed l d) ds 0 (fromR l (partA l d) k (zeroS ds) []).1 ∧ ((fromR l (partA l d) k (zeroS ds) []).2.2 = false → Low (Ed l d) ds k (fromR l (partA l d) k (zeroS ds) []).1) := by
  have := fromR_spec (grA hok d) k 0 (zeroS ds) [] (RI.zero l (Ed l d) ds) (Low.zero (Ed l d) ds)
  rw [Nat.zero_add] at this
  exact this
theorem NN_of_good {l : List Ex} (hok : ∀ x ∈ l, okX x) (d : Int) (h : badA l d = false) : NN (Ed l d) := by
  have hneg : (fromA l d).2.2 < 0 := by simpa [badA] using h
  obtain ⟨R, h1, h2, h3⟩ := rA hok d (compL l d) ((compL l d).length + 1)
  have hclo : Clo (Ed l d) (fromR l (partA l d) ((compL l d).length + 1) (zeroS (compL l d)) []).1 := by
    cases hp : (fromR l (partA l d) ((compL l d).length + 1) (zeroS (compL l d)) []).2.2 with
    | true => exact h1 hp
    | false =>
      have e : fromA l d = checkF l (fromR l (partA l d) ((compL l d).length + 1) (zeroS (compL l d)) []).1 (fromR l (partA l d) ((compL l d).length + 1) (zeroS (compL l d)) []).2.1 (partA l d) := endF_false hp
      rw [e] at hneg
      rcases checkF_spec (l := l) (s := (fromR l (partA l d) ((compL l d).length + 1) (zeroS (compL l d)) []).1) (b := (fromR l (partA l d) ((compL l d).length + 1) (zeroS (compL l d)) []).2.1) (partA l d) (grA hok d).pos with ⟨_, hn⟩ | ⟨k, hk, x, hx, hc, e2⟩
      · intro x hx p hp
        obtain ⟨k, hk, hlk⟩ := (grA hok d).all x hx
        obtain ⟨q, hq, _⟩ := h2 x.t ((grA hok d).tC x hx) x.t 0 0 (Nat.le_refl _) .nil
        have := hn k hk x hlk
        rw [canC_of hp hq] at this
        exact ⟨q, hq, by simpa using this⟩
      · rw [e2] at hneg
        have := (grA hok d).pos k hk
        simp only at hneg
        omega
  intro a n w hw
  rcases Nat.eq_zero_or_pos n with hn | hn
  · have := (hw.zero_sum hn).2
    omega
  · obtain ⟨q, hq, _⟩ := h2 a (hw.end_pos (grA hok d).tC hn) a 0 0 (Nat.le_refl _) .nil
    obtain ⟨q', hq', h4⟩ := hclo.walk hw hq
    rw [hq] at hq'
    cases hq'
    omega
theorem good_of_NN {l : List Ex} (hok : ∀ x ∈ l, okX x) (d : Int) (h : NN (Ed l d)) : badA l d = false := by
  have := fromR_conv (grA hok d) h (compL l d).length 0 (zeroS (compL l d)) [] (RI.zero l (Ed l d) _) (Low.zero (Ed l d) _) (by omega)
  have e : fromA l d = _ := endF_true this
  unfold badA
  rw [e]
  rfl
theorem bad_iff {l : List Ex} (hok : ∀ x ∈ l, okX x) (d : Int) : badA l d = false ↔ NN (Ed l d) := ⟨NN_of_good hok d, good_of_NN hok d⟩
theorem toA_spec {l : List Ex} (hok : ∀ x ∈ l, okX x) (d : Int) (hN : NN (Ed l d)) (a : Int) : RI l (Ed l d) [a] (toA l d a).1 (toA l d a).2.1 ∧ Clo (Ed l d) (toA l d a).1 ∧ ∃ q0, sget (toA l d a).1 a = some q0 ∧ q0 ≤ 0 := by
  obtain ⟨R, h1, h2, h3⟩ := rA hok d [a] ((compL l d).length + 1)
  have := fromR_conv (grA hok d) hN (compL l d).length 0 (zeroS [a]) [] (RI.zero l (Ed l d) _) (Low.zero (Ed l d) _) (by omega)
  have e : toA l d a = _ := endF_true this
  rw [e]
  exact ⟨R, h1 this, h2 a (by simp) a 0 0 (Nat.le_refl _) .nil⟩
theorem toA_min {l : List Ex} (hok : ∀ x ∈ l, okX x) (d : Int) (hN : NN (Ed l d)) (a v q : Int) : sget (toA l d a).1 v = some q ↔ IsMin (Ed l d) a v q := by
  obtain ⟨R, hC, q0, h1, h2⟩ := toA_spec hok d hN a
  constructor
  · intro h
    obtain ⟨a', ha, n, hw⟩ := R.wk v q h
    rw [List.mem_singleton.1 ha] at hw
    refine ⟨⟨n, hw⟩, fun m w hm => ?_⟩
    obtain ⟨q', h3, h4⟩ := hC.walk hm h1
    rw [h] at h3
    cases h3
    omega
  · intro ⟨⟨n, hw⟩, hm⟩
    obtain ⟨q', h3, h4⟩ := hC.walk hw h1
    obtain ⟨a', ha, m, hw'⟩ := R.wk v q' h3
    rw [List.mem_singleton.1 ha] at hw'
    have := hm m q' hw'
    rw [h3]
    exact congrArg some (by omega)
theorem toA_some {l : List Ex} (hok : ∀ x ∈ l, okX x) (d : Int) (hN : NN (Ed l d)) (a v : Int) : (sget (toA l d a).1 v).isSome = true ↔ ∃ n w, Wk (Ed l d) a v n w := by
  obtain ⟨R, hC, q0, h1, h2⟩ := toA_spec hok d hN a
  constructor
  · intro h
    obtain ⟨q, hq⟩ := Option.isSome_iff_exists.1 h
    obtain ⟨a', ha, n, hw⟩ := R.wk v q hq
    rw [List.mem_singleton.1 ha] at hw
    exact ⟨n, q, hw⟩
  · intro ⟨n, w, hw⟩
    obtain ⟨q', h3, h4⟩ := hC.walk hw h1
    rw [h3]; rfl
theorem toA_chain {l : List Ex} (hok : ∀ x ∈ l, okX x) (d : Int) (hn : l.length ≤ 1000) (hN : NN (Ed l d)) (a v : Int) (h : (sget (toA l d a).1 v).isSome = true) : ∃ c, Pw l (toA l d a).2.1 a v c ∧ c.length ≤ 1000000 ∧ sumS l c.reverse a 0 = some (v, (sget (toA l d a).1 v).getD 0) := by
  obtain ⟨q, hq⟩ := Option.isSome_iff_exists.1 h
  obtain ⟨R, hC, _⟩ := toA_spec hok d hN a
  have hV : ∀ v q, sget (toA l d a).1 v = some q → v ∈ a :: compL l d := fun v q hv => by
    rcases RI.vert R (grA hok d).tC hv with h | h
    · rw [List.mem_singleton.1 h]; simp
    · exact List.mem_cons_of_mem _ h
  obtain ⟨a', c, h1, h2, h3, h4⟩ := RI.back R hN hV hq
  obtain rfl := List.mem_singleton.1 h1
  have h0 : sget (toA l d a').1 a' = some 0 := (toA_min hok d hN a' a' 0).2 ⟨⟨0, .nil⟩, fun n w hw => hN _ _ _ hw⟩
  have hl := compL_len l d
  rw [List.length_cons] at h4
  refine ⟨c, h3, by omega, ?_⟩
  rw [hq]
  exact RI.sum R hC h3 hq h0
theorem chOK {l : List Ex} (hok : ∀ x ∈ l, okX x) (d : Int) (hn : l.length ≤ 1000) : ChOK l d (ChQ l d) := by
  intro hg
  obtain ⟨g1, g2, g3, g4, g5⟩ := hg
  have hN := NN_of_good hok d g3
  obtain ⟨c1, a1, a2, a3⟩ := toA_chain hok d hn hN 0 d g4
  obtain ⟨c2, b1, b2, b3⟩ := toA_chain hok d hn hN d 0 g5
  refine ⟨c1, c2, a1.pth, b1.pth, a2, b2, fun e => ?_, a3, b3⟩
  have e' : c1 = [] := by simpa using e
  subst e'
  cases a1
  exact g2 (.inl rfl)
/-- what Cycle returns -/
def CycQ (l : List Ex) (d : Int) (c : List Int) : Prop := c ≠ [] ∧ c.length ≤ 1000000 ∧ ∃ z n, z ∈ compL l d ∧ sumS l c z 0 = some (z, n) ∧ n < 0
theorem cycOK {l : List Ex} (hok : ∀ x ∈ l, okX x) (d : Int) (hn : l.length ≤ 1000) : CycOK l d (CycQ l d) := by
  intro hb
  have G := grA hok d
  have hcl := compL_len l d
  have hpos : ¬ (fromA l d).2.2 < 0 := by simpa [badA] using hb
  obtain ⟨R, h1, h2, h3⟩ := rA hok d (compL l d) ((compL l d).length + 1)
  have hp : (fromR l (partA l d) ((compL l d).length + 1) (zeroS (compL l d)) []).2.2 = false := by
    cases hp : (fromR l (partA l d) ((compL l d).length + 1) (zeroS (compL l d)) []).2.2 with
    | false => rfl
    | true =>
      have e : fromA l d = _ := endF_true hp
      rw [e] at hpos
      exact absurd (by show (-1 : Int) < 0; decide) hpos
  have e : fromA l d = _ := endF_false hp
  have hL := h3 hp
  generalize hs : (fromR l (partA l d) ((compL l d).length + 1) (zeroS (compL l d)) []).1 = s at *
  generalize hbb : (fromR l (partA l d) ((compL l d).length + 1) (zeroS (compL l d)) []).2.1 = b at *
  rcases checkF_spec (l := l) (s := s) (b := b) (partA l d) G.pos with ⟨hneg, _⟩ | ⟨k, hk, x, hx, hc, e2⟩
  · rw [e] at hpos; exact absurd hneg hpos
  rw [e2] at e
  have hE := G.out k hk x hx
  obtain ⟨q, hq, _⟩ := h2 x.t (G.tC x hE) x.t 0 0 (Nat.le_refl _) .nil
  obtain ⟨pp, hpp⟩ : ∃ pp, sget s x.f = some pp := by
    cases hf : sget s x.f with
    | some pp => exact ⟨pp, rfl⟩
    | none => unfold canC at hc; rw [hf] at hc; cases hc
  have hlt : pp + wt x < q := by rw [canC_of hpp hq] at hc; simpa using hc
  have R' := RI.put R (G.pos k hk) hx hE G.ne hpp (fun q' hq' => by rw [hq] at hq'; cases hq'; exact hlt)
  have hst : sget (sput s x.t (pp + wt x)) x.t = some (pp + wt x) := by rw [sget_sput, if_pos rfl]
  have hV : ∀ v q, sget (sput s x.t (pp + wt x)) v = some q → v ∈ compL l d := fun v q hv => (RI.vert R' G.tC hv).elim id id
  rcases RI.dich R' ((compL l d).length + 1) x.t _ hst with ⟨a, c, a1, a2, a3⟩ | ⟨z, S, hB⟩
  · exfalso
    obtain ⟨b1, P, b2, b3⟩ := RI.path R' a2 a1 hst
    obtain ⟨q', b4, b5⟩ := hL a b1 x.t _ P a3 b2
    rw [hq] at b4
    cases b4
    omega
  · obtain ⟨w, i, m, T1, T2, c1, c2, c3⟩ := RI.cycle R' hV hB hst (by omega)
    obtain ⟨S', c4⟩ := c1.det hB (by omega)
    obtain ⟨T', c5⟩ := c4.rot c2
    obtain ⟨zq, hzq⟩ := RI.bk R' hB hst
    rw [e]
    generalize hb' : sput b x.t k = b' at *
    cases c5 with
    | @succ _ _ _ i1 S1 x1 hi1 h01 hx1 hB1 =>
      obtain ⟨c, T, d1, d2, d3⟩ := hB1.first
      obtain ⟨y, p', q', f1, f2, f3, f4, f5, f6, f7⟩ := R'.ptr _ _ hi1
      rw [hx1] at f2
      cases f2
      have hneg := R'.cyc _ _ _ (Bk.succ hi1 h01 hx1 d2)
      refine ⟨x, z, i1 :: c, hx, hB.itr, ⟨i1, x1, c, by rw [hi1]; rfl, h01, hx1, d1.pth, rfl⟩, by simp; omega, by simp, by simp; omega, z, T + wt x1, hV z zq hzq, ?_, hneg⟩
      rw [List.reverse_cons, sumS_append _ _ _ _ _ _ (R'.sumB d1 d2 0), sumS_one h01 hx1 rfl, f4]
      exact congrArg (fun n => some (_, n)) (by omega)
theorem CycOK.mono {l : List Ex} {d : Int} {Q Q' : List Int → Prop} (h : CycOK l d Q) (hm : ∀ c, Q c → Q' c) : CycOK l d Q' := fun hb => by
  obtain ⟨x, z, c, h1, h2, h3, h4, h5⟩ := h hb
  exact ⟨x, z, c, h1, h2, h3, h4, hm _ h5⟩
theorem cycT {l : List Ex} (hok : ∀ x ∈ l, okX x) (hn : l.length ≤ 1000) : ∀ e, 0 ≤ e → e ≤ 1073741824 → CycOK l e (fun _ => True) := fun e _ _ => (cycOK hok e hn).mono fun _ _ => trivial
end Go.Via
set_option linter.unusedVariables false
set_option linter.unusedSimpArgs false
namespace Go.Via
open Go Go.RowKit
/-! ### the model's least sums -/
def farJ : Int := 1125899906842624
def initJ (nodes : List Int) (fr : Int) : List Int := nodes.map fun z => if 0 ≤ fr ∧ z ≠ fr then farJ else 0
def cellJ (nodes sums : List Int) (x : Ex) (a : Nat) (next : List Int) (b : Nat) : List Int :=
  if nodes[a]? = some x.f ∧ nodes[b]? = some x.t ∧ (sums[a]?).getD 0 < farJ then next.set b (min ((next[b]?).getD 0) ((sums[a]?).getD 0 + wt x)) else next
def rowJ (nodes sums : List Int) (x : Ex) (next : List Int) (a : Nat) : List Int := (List.range nodes.length).foldl (cellJ nodes sums x a) next
def exJ (nodes sums next : List Int) (x : Ex) : List Int := (List.range nodes.length).foldl (rowJ nodes sums x) next
def stepJ (l : List Ex) (nodes sums : List Int) : List Int := l.foldl (exJ nodes sums) sums
def leastJ (l : List Ex) (nodes : List Int) (fr : Int) : Nat → List Int
  | 0 => initJ nodes fr
  | k + 1 => stepJ l nodes (leastJ l nodes fr k)
theorem cellJ_len (nodes sums : List Int) (x : Ex) (a : Nat) (next : List Int) (b : Nat) : (cellJ nodes sums x a next b).length = next.length := by unfold cellJ; split <;> simp
theorem foldl_len {β : Type} (F : List Int → β → List Int) (h : ∀ s b, (F s b).length = s.length) : ∀ (m : List β) (s : List Int), (m.foldl F s).length = s.length
  | [], s => rfl
  | b :: m, s => (foldl_len F h m (F s b)).trans (h s b)
theorem rowJ_len (nodes sums : List Int) (x : Ex) (next : List Int) (a : Nat) : (rowJ nodes sums x next a).length = next.length := foldl_len _ (fun s b => cellJ_len nodes sums x a s b) _ _
theorem exJ_len (nodes sums next : List Int) (x : Ex) : (exJ nodes sums next x).length = next.length := foldl_len _ (fun s a => rowJ_len nodes sums x s a) _ _
theorem stepJ_len (l : List Ex) (nodes sums : List Int) : (stepJ l nodes sums).length = sums.length := foldl_len _ (fun s x => exJ_len nodes sums s x) _ _
theorem leastJ_len (l : List Ex) (nodes : List Int) (fr : Int) : ∀ k, (leastJ l nodes fr k).length = nodes.length
  | 0 => List.length_map ..
  | k + 1 => (stepJ_len l nodes _).trans (leastJ_len l nodes fr k)
/-- steps of the loops -/
theorem range_step {α : Type} (F : α → Nat → α) (s : α) (i : Nat) : (List.range (i + 1)).foldl F s = F ((List.range i).foldl F s) i := by rw [List.range_succ, List.foldl_append]; rfl
theorem take_step {α β : Type} {l : List β} {i : Nat} {x : β} (h : l[i]? = some x) (F : α → β → α) (s : α) : (l.take (i + 1)).foldl F s = F ((l.take i).foldl F s) x := by rw [take_snoc h, List.foldl_append]; rfl
theorem range_none {α : Type} (F : α → Nat → α) (n : Nat) (h : ∀ b s, b < n → F s b = s) (s : α) : (List.range n).foldl F s = s := by
  induction n with
  | zero => rfl
  | succ n ih => rw [range_step, ih (fun b s hb => h b s (by omega)), h n s (by omega)]
theorem range_one {α : Type} (F : α → Nat → α) (n b0 : Nat) (h0 : b0 < n) (h : ∀ b s, b < n → b ≠ b0 → F s b = s) (s : α) : (List.range n).foldl F s = F s b0 := by
  induction n with
  | zero => omega
  | succ n ih =>
    rw [range_step]
    by_cases e : b0 = n
    · subst e
      rw [range_none F b0 (fun b s hb => h b s (by omega) (by omega))]
    · rw [ih (by omega) (fun b s hb hne => h b s (by omega) hne), h n _ (by omega) (fun e2 => e e2.symm)]
/-- the same on functions -/
def updJ (nodes : List Int) (f : Int → Int) (g : Int → Int) (x : Ex) : Int → Int := fun v => if v = x.t ∧ x.f ∈ nodes ∧ f x.f < farJ then min (g v) (f x.f + wt x) else g v
def fJ (l : List Ex) (nodes : List Int) (fr : Int) : Nat → Int → Int
  | 0 => fun z => if 0 ≤ fr ∧ z ≠ fr then farJ else 0
  | k + 1 => l.foldl (updJ nodes (fJ l nodes fr k)) (fJ l nodes fr k)
theorem nodup_at {nodes : List Int} (hn : nodes.Nodup) {i j : Nat} {z : Int} (hi : nodes[i]? = some z) (hj : nodes[j]? = some z) : i = j := by
  obtain ⟨h1, h2⟩ := List.getElem?_eq_some_iff.1 hi
  obtain ⟨h3, h4⟩ := List.getElem?_eq_some_iff.1 hj
  have hp := List.pairwise_iff_getElem.1 hn
  rcases Nat.lt_trichotomy i j with h | h | h
  · exact absurd (h2.trans h4.symm) (hp i j h1 h3 h)
  · exact h
  · exact absurd (h4.trans h2.symm) (hp j i h3 h1 h)
theorem exJ_map {nodes : List Int} (hn : nodes.Nodup) (f g : Int → Int) (x : Ex) : exJ nodes (nodes.map f) (nodes.map g) x = nodes.map (updJ nodes f g x) := by
  unfold exJ
  by_cases hf : x.f ∈ nodes
  · obtain ⟨a0, ha0⟩ := List.getElem?_of_mem hf
    have hal := (List.getElem?_eq_some_iff.1 ha0).1
    rw [range_one _ nodes.length a0 hal (fun a s ha hne => by
      unfold rowJ
      exact range_none _ _ (fun b s hb => by
        unfold cellJ
        rw [if_neg (fun h => hne (nodup_at hn h.1 ha0))]) s)]
    unfold rowJ
    by_cases ht : x.t ∈ nodes
    · obtain ⟨b0, hb0⟩ := List.getElem?_of_mem ht
      have hbl := (List.getElem?_eq_some_iff.1 hb0).1
      rw [range_one _ nodes.length b0 hbl (fun b s hb hne => by
        unfold cellJ
        rw [if_neg (fun h => hne (nodup_at hn h.2.1 hb0))])]
      unfold cellJ
      rw [List.getElem?_map, ha0, List.getElem?_map, hb0]
      simp only [Option.map_some, Option.getD_some, true_and]
      by_cases hfar : f x.f < farJ
      · rw [if_pos hfar]
        refine List.ext_getElem? fun i => ?_
        rw [List.getElem?_set, List.getElem?_map, List.getElem?_map]
        by_cases e : b0 = i
        · subst e
          rw [hb0]
          simp [updJ, hf, hfar, hbl]
        · rw [if_neg e]
          cases hi : nodes[i]? with
          | none => rfl
          | some v =>
            have hv : v ≠ x.t := fun e2 => e (nodup_at hn hb0 (by rw [hi, e2]))
            simp [updJ, hv]
      · rw [if_neg hfar]
        refine List.map_congr_left fun v _ => ?_
        simp [updJ, hfar]
    · rw [range_none _ _ (fun b s hb => by
        unfold cellJ
        rw [if_neg (fun h => ht (List.mem_of_getElem? h.2.1))])]
      refine List.map_congr_left fun v hv => ?_
      have hv : v ≠ x.t := fun e => ht (e ▸ hv)
      simp [updJ, hv]
  · rw [range_none _ _ (fun a s ha => by
      unfold rowJ
      exact range_none _ _ (fun b s hb => by
        unfold cellJ
        rw [if_neg (fun h => hf (List.mem_of_getElem? h.1))]) s)]
    refine List.map_congr_left fun v _ => ?_
    simp [updJ, hf]
theorem fold_map {nodes : List Int} (hn : nodes.Nodup) (f : Int → Int) : ∀ (m : List Ex) (g : Int → Int), m.foldl (exJ nodes (nodes.map f)) (nodes.map g) = nodes.map (m.foldl (updJ nodes f) g)
  | [], g => rfl
  | x :: m, g => by
    show m.foldl (exJ nodes (nodes.map f)) (exJ nodes (nodes.map f) (nodes.map g) x) = _
    rw [exJ_map hn]
    exact fold_map hn f m _
theorem leastJ_map {nodes : List Int} (hn : nodes.Nodup) (l : List Ex) (fr : Int) : ∀ k, leastJ l nodes fr k = nodes.map (fJ l nodes fr k)
  | 0 => rfl
  | k + 1 => by
    show stepJ l nodes (leastJ l nodes fr k) = _
    rw [leastJ_map hn l fr k]
    exact fold_map hn _ l _
theorem upd_fold (nodes : List Int) (f : Int → Int) : ∀ (m : List Ex) (g : Int → Int) (v : Int),
    (m.foldl (updJ nodes f) g v ≤ g v ∧ ∀ x ∈ m, x.t = v → x.f ∈ nodes → f x.f < farJ → m.foldl (updJ nodes f) g v ≤ f x.f + wt x) ∧
    (m.foldl (updJ nodes f) g v = g v ∨ ∃ x ∈ m, x.t = v ∧ x.f ∈ nodes ∧ f x.f < farJ ∧ m.foldl (updJ nodes f) g v = f x.f + wt x)
  | [], g, v => ⟨⟨Int.le_refl _, fun x hx => by cases hx⟩, .inl rfl⟩
  | y :: m, g, v => by
    obtain ⟨⟨h1, h2⟩, h3⟩ := upd_fold nodes f m (updJ nodes f g y) v
    show (m.foldl (updJ nodes f) (updJ nodes f g y) v ≤ g v ∧ ∀ x ∈ y :: m, x.t = v → x.f ∈ nodes → f x.f < farJ → m.foldl (updJ nodes f) (updJ nodes f g y) v ≤ f x.f + wt x) ∧
      (m.foldl (updJ nodes f) (updJ nodes f g y) v = g v ∨ ∃ x ∈ y :: m, x.t = v ∧ x.f ∈ nodes ∧ f x.f < farJ ∧ m.foldl (updJ nodes f) (updJ nodes f g y) v = f x.f + wt x)
    by_cases hc : v = y.t ∧ y.f ∈ nodes ∧ f y.f < farJ
    · have hu : updJ nodes f g y v = min (g v) (f y.f + wt y) := if_pos hc
      rw [hu] at h1 h3
      refine ⟨⟨by omega, fun x hx ht hf hfar => ?_⟩, ?_⟩
      · rcases List.mem_cons.1 hx with rfl | hx
        · omega
        · exact h2 x hx ht hf hfar
      · rcases h3 with h3 | ⟨x, hx, a1, a2, a3, a4⟩
        · by_cases hm : g v ≤ f y.f + wt y
          · exact .inl (by omega)
          · exact .inr ⟨y, by simp, hc.1.symm, hc.2.1, hc.2.2, by omega⟩
        · exact .inr ⟨x, by simp [hx], a1, a2, a3, a4⟩
    · have hu : updJ nodes f g y v = g v := if_neg hc
      rw [hu] at h1 h3
      refine ⟨⟨h1, fun x hx ht hf hfar => ?_⟩, ?_⟩
      · rcases List.mem_cons.1 hx with rfl | hx
        · exact absurd ⟨ht.symm, hf, hfar⟩ hc
        · exact h2 x hx ht hf hfar
      · rcases h3 with h3 | ⟨x, hx, a1, a2, a3, a4⟩
        · exact .inl h3
        · exact .inr ⟨x, by simp [hx], a1, a2, a3, a4⟩
theorem Wk.bound {E : Ex → Prop} (hE : ∀ x, E x → okX x) {a b s : Int} {n : Nat} (h : Wk E a b n s) : -(4294967296 * (n : Int)) ≤ s ∧ s ≤ 4294967296 * (n : Int) := by
  induction h with
  | nil => simp
  | snoc h hx ih =>
    have := wt_bound (hE _ hx)
    constructor <;> (push_cast; omega)
def SrcJ (l : List Ex) (d fr a : Int) : Prop := a ∈ compL l d ∧ (0 ≤ fr → a = fr)
structure PJ (l : List Ex) (d fr : Int) (k : Nat) : Prop where
  le : ∀ v ∈ compL l d, fJ l (compL l d) fr k v ≤ farJ
  up : ∀ v ∈ compL l d, fJ l (compL l d) fr k v < farJ → ∃ a n, SrcJ l d fr a ∧ n ≤ k ∧ Wk (Ed l d) a v n (fJ l (compL l d) fr k v)
  lo : ∀ v ∈ compL l d, ∀ a n w, SrcJ l d fr a → n ≤ k → Wk (Ed l d) a v n w → fJ l (compL l d) fr k v ≤ w
theorem PJ.all {l : List Ex} (hok : ∀ x ∈ l, okX x) (d : Int) (fr : Int) : ∀ k : Nat, k ≤ 100000 → PJ l d fr k
  | 0, _ => by
    refine ⟨fun v hv => ?_, fun v hv h => ?_, fun v hv a n w hs hn hw => ?_⟩
    · unfold fJ; split <;> decide
    · unfold fJ at h ⊢
      by_cases c : 0 ≤ fr ∧ v ≠ fr
      · rw [if_pos c] at h; exact absurd h (by decide)
      · rw [if_neg c]
        exact ⟨v, 0, ⟨hv, fun h0 => Classical.byContradiction fun e => c ⟨h0, e⟩⟩, Nat.le_refl _, .nil⟩
    · obtain ⟨h1, h2⟩ := hw.zero_sum (by omega)
      unfold fJ
      rw [if_neg (fun c => c.2 (h1.trans (hs.2 c.1))), h2]
      exact Int.le_refl _
  | k + 1, hk => by
    have P := PJ.all hok d fr k (by omega)
    have hstep : ∀ v, fJ l (compL l d) fr (k + 1) v = l.foldl (updJ (compL l d) (fJ l (compL l d) fr k)) (fJ l (compL l d) fr k) v := fun v => rfl
    refine ⟨fun v hv => ?_, fun v hv h => ?_, fun v hv a n w hs hn hw => ?_⟩
    · have := (upd_fold (compL l d) (fJ l (compL l d) fr k) l (fJ l (compL l d) fr k) v).1.1
      have := P.le v hv
      rw [hstep]; omega
    · rw [hstep] at h ⊢
      rcases (upd_fold (compL l d) (fJ l (compL l d) fr k) l (fJ l (compL l d) fr k) v).2 with e | ⟨x, hx, ht, hf, hfar, e⟩
      · rw [e] at h ⊢
        obtain ⟨a, n, h1, h2, h3⟩ := P.up v hv h
        exact ⟨a, n, h1, by omega, h3⟩
      · rw [e]
        obtain ⟨a, n, h1, h2, h3⟩ := P.up x.f hf hfar
        exact ⟨a, n + 1, h1, by omega, (Wk.snoc h3 ⟨hx, hf⟩).cast ht rfl rfl⟩
    · obtain ⟨⟨u1, u2⟩, _⟩ := upd_fold (compL l d) (fJ l (compL l d) fr k) l (fJ l (compL l d) fr k) v
      rw [hstep]
      by_cases hnk : n ≤ k
      · have := P.lo v hv a n w hs hnk hw
        omega
      · cases hw with
        | nil => omega
        | @snoc s0 m x hw hx =>
          have hm : m ≤ k := by omega
          have h1 := P.lo x.f hx.2 a m s0 hs hm hw
          have h2 := (hw.bound fun x hx => hok x hx.1).2
          have h3 := u2 x hx.1 rfl hx.2 (by unfold farJ; omega)
          omega
/-! contradictions, bounds -/
def ltA : List Int → List Int → Bool
  | b :: bs, a :: us => decide (b < a) || ltA bs us
  | _, _ => false
def conB (l : List Ex) (nodes : List Int) : Bool := ltA (leastJ l nodes (-1) (nodes.length + 1)) (leastJ l nodes (-1) nodes.length)
theorem ltA_map (g f : Int → Int) : ∀ nodes : List Int, ltA (nodes.map g) (nodes.map f) = true ↔ ∃ v ∈ nodes, g v < f v
  | [] => by simp [ltA]
  | a :: m => by simp [ltA, ltA_map g f m]
theorem ltA_yes {b a : List Int} {i : Nat} {y z : Int} (hb : b[i]? = some y) (ha : a[i]? = some z) (h : y < z) : ltA (b.drop i) (a.drop i) = true := by
  obtain ⟨h1, h2⟩ := List.getElem?_eq_some_iff.1 hb
  obtain ⟨h3, h4⟩ := List.getElem?_eq_some_iff.1 ha
  rw [List.drop_eq_getElem_cons h1, List.drop_eq_getElem_cons h3, h2, h4, ltA, decide_eq_true h, Bool.true_or]
theorem ltA_no {b a : List Int} {i : Nat} {y z : Int} (hb : b[i]? = some y) (ha : a[i]? = some z) (h : ¬ y < z) : ltA (b.drop i) (a.drop i) = ltA (b.drop (i + 1)) (a.drop (i + 1)) := by
  obtain ⟨h1, h2⟩ := List.getElem?_eq_some_iff.1 hb
  obtain ⟨h3, h4⟩ := List.getElem?_eq_some_iff.1 ha
  rw [List.drop_eq_getElem_cons h1, List.drop_eq_getElem_cons h3, h2, h4, ltA, decide_eq_false h, Bool.false_or]
theorem ltA_end {b a : List Int} {i : Nat} (h : a.length ≤ i) : ltA (b.drop i) (a.drop i) = false := by
  rw [List.drop_of_length_le h]; cases b.drop i <;> rfl
def pickJ (nodes vals : List Int) (z : Int) : Nat → Int
  | 0 => farJ
  | i + 1 => if nodes[i]? = some z then (vals[i]?).getD 0 else pickJ nodes vals z i
theorem pickJ_map (nodes : List Int) (f : Int → Int) (z : Int) : ∀ i, pickJ nodes (nodes.map f) z i = if z ∈ nodes.take i then f z else farJ
  | 0 => by simp [pickJ]
  | i + 1 => by
    unfold pickJ
    by_cases h : nodes[i]? = some z
    · rw [if_pos h, List.getElem?_map, h, take_snoc h]
      simp
    · rw [if_neg h, pickJ_map nodes f z i]
      cases hi : nodes[i]? with
      | none => rw [List.take_add_one, hi]; simp
      | some y =>
        have hy : z ≠ y := fun e => h (by rw [hi, e])
        rw [take_snoc hi]; simp [hy]
/-- what the model's offset returns: the lower bound, the upper one, the error -/
def highJ (l : List Ex) (d : Int) : Int := pickJ (compL l d) (leastJ l (compL l d) 0 (compL l d).length) d (compL l d).length
def lowJ (l : List Ex) (d : Int) : Int := pickJ (compL l d) (leastJ l (compL l d) d (compL l d).length) 0 (compL l d).length
def mE_ (l : List Ex) (d : Int) : Int :=
  if d < 0 ∨ 1073741824 < d then 27 else if d = 0 ∨ (devL l).contains d = false then 0 else if conB l (compL l d) = true then 32 else if farJ ≤ highJ l d ∨ farJ ≤ lowJ l d then 31 else 0
def mGo (l : List Ex) (d : Int) : Prop := ¬ (d < 0 ∨ 1073741824 < d) ∧ ¬ (d = 0 ∨ (devL l).contains d = false) ∧ conB l (compL l d) = false ∧ ¬ (farJ ≤ highJ l d ∨ farJ ≤ lowJ l d)
instance {l : List Ex} {d : Int} : Decidable (mGo l d) := by unfold mGo; infer_instance
def mLo (l : List Ex) (d : Int) : Int := if mGo l d then 0 - lowJ l d else 0
def mHi (l : List Ex) (d : Int) : Int := if mGo l d then highJ l d else 0
theorem self_in (l : List Ex) (d : Int) : d ∈ compL l d := compL_mem.2 .base
theorem con_iff {l : List Ex} (hok : ∀ x ∈ l, okX x) (hn : l.length ≤ 1000) (d : Int) : conB l (compL l d) = false ↔ NN (Ed l d) := by
  have hl := compL_len l d
  have P1 := PJ.all hok d (-1) (compL l d).length (by omega)
  have P2 := PJ.all hok d (-1) ((compL l d).length + 1) (by omega)
  have G := grA hok d
  have hb : conB l (compL l d) = false ↔ ∀ v ∈ compL l d, fJ l (compL l d) (-1) (compL l d).length v ≤ fJ l (compL l d) (-1) ((compL l d).length + 1) v := by
    unfold conB
    rw [leastJ_map (compL_SS l d).nodup, leastJ_map (compL_SS l d).nodup]
    have := ltA_map (fJ l (compL l d) (-1) ((compL l d).length + 1)) (fJ l (compL l d) (-1) (compL l d).length) (compL l d)
    constructor
    · intro h v hv
      refine Classical.byContradiction fun hc => ?_
      rw [this.2 ⟨v, hv, by omega⟩] at h
      cases h
    · intro h
      refine Bool.eq_false_iff.2 fun hc => ?_
      obtain ⟨v, hv, h2⟩ := this.1 hc
      have := h v hv
      omega
  rw [hb]
  constructor
  · intro h
    have hpot : ∀ a v n w, Wk (Ed l d) a v n w → a ∈ compL l d → fJ l (compL l d) (-1) (compL l d).length v ≤ fJ l (compL l d) (-1) (compL l d).length a + w := by
      intro a v n w hw ha
      induction hw with
      | nil => omega
      | @snoc s0 m x hw hx ih =>
        have h1 := P1.lo x.f hx.2 x.f 0 0 ⟨hx.2, fun h => absurd h (by decide)⟩ (Nat.zero_le _) .nil
        have h2 := (upd_fold (compL l d) (fJ l (compL l d) (-1) (compL l d).length) l (fJ l (compL l d) (-1) (compL l d).length) x.t).1.2 x hx.1 rfl hx.2 (by unfold farJ; omega)
        have h3 := h x.t (G.tC x hx)
        change fJ l (compL l d) (-1) ((compL l d).length + 1) x.t ≤ _ at h2
        have := ih
        omega
    intro a n w hw
    rcases Nat.eq_zero_or_pos n with hn0 | hn0
    · have := (hw.zero_sum hn0).2
      omega
    · have := hpot a a n w hw (hw.end_pos G.tC hn0)
      omega
  · intro hN v hv
    by_cases hfar : fJ l (compL l d) (-1) ((compL l d).length + 1) v < farJ
    · obtain ⟨a, n, h1, h2, h3⟩ := P2.up v hv hfar
      obtain ⟨m, w, h4, h5, h6⟩ := hN.few G.tC h3
      have := P1.lo v hv a m w h1 h4 h5
      omega
    · have := P1.le v hv
      omega
theorem con_bad {l : List Ex} (hok : ∀ x ∈ l, okX x) (hn : l.length ≤ 1000) (d : Int) : conB l (compL l d) = badA l d := by
  have h1 := con_iff hok hn d
  have h2 := bad_iff hok d
  cases h3 : badA l d with
  | false => exact h1.2 (h2.1 h3)
  | true => exact Bool.eq_false_or_eq_true (conB l (compL l d)) |>.resolve_right (fun h => by rw [h2.2 (h1.1 h)] at h3; cases h3)
/-- the least sum of the walks from a device -/
theorem fJ_min {l : List Ex} (hok : ∀ x ∈ l, okX x) (hn : l.length ≤ 1000) (d : Int) (hN : NN (Ed l d)) {a v : Int} (ha : 0 ≤ a) (hac : a ∈ compL l d) (hv : v ∈ compL l d) : (fJ l (compL l d) a (compL l d).length v < farJ ↔ ∃ n w, Wk (Ed l d) a v n w) ∧ (fJ l (compL l d) a (compL l d).length v < farJ → IsMin (Ed l d) a v (fJ l (compL l d) a (compL l d).length v)) := by
  have hl := compL_len l d
  have P := PJ.all hok d a (compL l d).length (by omega)
  have G := grA hok d
  have hlo : ∀ n w, Wk (Ed l d) a v n w → fJ l (compL l d) a (compL l d).length v ≤ w ∧ fJ l (compL l d) a (compL l d).length v < farJ := by
    intro n w hw
    obtain ⟨m, s, h1, h2, h3⟩ := hN.few G.tC hw
    have h4 := P.lo v hv a m s ⟨hac, fun _ => rfl⟩ h1 h2
    have h5 := (h2.bound fun x hx => hok x hx.1).2
    exact ⟨by omega, by unfold farJ; omega⟩
  refine ⟨⟨fun h => ?_, fun ⟨n, w, hw⟩ => (hlo n w hw).2⟩, fun h => ?_⟩
  · obtain ⟨a', n, h1, h2, h3⟩ := P.up v hv h
    rw [h1.2 ha] at h3
    exact ⟨n, _, h3⟩
  · obtain ⟨a', n, h1, h2, h3⟩ := P.up v hv h
    rw [h1.2 ha] at h3
    exact ⟨⟨n, h3⟩, fun m w hw => (hlo m w hw).1⟩
theorem high_eq {l : List Ex} (hok : ∀ x ∈ l, okX x) (hn : l.length ≤ 1000) (d : Int) (hN : NN (Ed l d)) : (¬ farJ ≤ highJ l d ↔ reachA l d = true) ∧ (reachA l d = true → highJ l d = hiA l d) := by
  have e : highJ l d = fJ l (compL l d) 0 (compL l d).length d := by
    unfold highJ
    rw [leastJ_map (compL_SS l d).nodup, pickJ_map, List.take_length, if_pos (self_in l d)]
  rw [e]
  have hr : reachA l d = true ↔ ∃ n w, Wk (Ed l d) 0 d n w := toA_some hok d hN 0 d
  by_cases h0 : (0 : Int) ∈ compL l d
  · obtain ⟨h1, h2⟩ := fJ_min hok hn d hN (a := 0) (Int.le_refl _) h0 (self_in l d)
    refine ⟨⟨fun h => hr.2 (h1.1 (by omega)), fun h => by have := h1.2 (hr.1 h); omega⟩, fun h => ?_⟩
    have h3 := h2 (h1.2 (hr.1 h))
    unfold hiA
    rw [(toA_min hok d hN 0 d _).2 h3]; rfl
  · have hnw : ¬ ∃ n w, Wk (Ed l d) 0 d n w := by
      intro ⟨n, w, hw⟩
      have : ∀ v n w, Wk (Ed l d) 0 v n w → v = 0 := by
        intro v n w hw
        induction hw with
        | nil => rfl
        | snoc hw hx ih => exact absurd (ih ▸ hx.2) h0
      exact h0 ((this d n w hw) ▸ self_in l d)
    have hfar : fJ l (compL l d) 0 (compL l d).length d = farJ := by
      have hl := compL_len l d
      have P := PJ.all hok d 0 (compL l d).length (by omega)
      have h1 := P.le d (self_in l d)
      refine Classical.byContradiction fun h => ?_
      obtain ⟨a', n, h1, h2, h3⟩ := P.up d (self_in l d) (by omega)
      exact h0 ((h1.2 (Int.le_refl _)) ▸ h1.1)
    refine ⟨⟨fun h => absurd (by omega) h, fun h => absurd (hr.1 h) hnw⟩, fun h => absurd (hr.1 h) hnw⟩
theorem low_eq {l : List Ex} (hok : ∀ x ∈ l, okX x) (hn : l.length ≤ 1000) (d : Int) (hN : NN (Ed l d)) (hd : 0 ≤ d) : (¬ farJ ≤ lowJ l d ↔ retA l d = true) ∧ (retA l d = true → lowJ l d = loA l d) := by
  have e : lowJ l d = if (0 : Int) ∈ compL l d then fJ l (compL l d) d (compL l d).length 0 else farJ := by
    unfold lowJ
    rw [leastJ_map (compL_SS l d).nodup, pickJ_map, List.take_length]
  rw [e]
  have hr : retA l d = true ↔ ∃ n w, Wk (Ed l d) d 0 n w := toA_some hok d hN d 0
  by_cases h0 : (0 : Int) ∈ compL l d
  · rw [if_pos h0]
    obtain ⟨h1, h2⟩ := fJ_min hok hn d hN (a := d) hd (self_in l d) h0
    refine ⟨⟨fun h => hr.2 (h1.1 (by omega)), fun h => by have := h1.2 (hr.1 h); omega⟩, fun h => ?_⟩
    have h3 := h2 (h1.2 (hr.1 h))
    unfold loA
    rw [(toA_min hok d hN d 0 _).2 h3]; rfl
  · rw [if_neg h0]
    have hnw : ¬ ∃ n w, Wk (Ed l d) d 0 n w := by
      intro ⟨n, w, hw⟩
      rcases hw.end_in (grA hok d).tC with h | h
      · exact h0 (h ▸ self_in l d)
      · exact h0 h
    exact ⟨⟨fun h => absurd (Int.le_refl _) h, fun h => absurd (hr.1 h) hnw⟩, fun h => absurd (hr.1 h) hnw⟩
/-- model and program agree -/
theorem go_iff {l : List Ex} (hok : ∀ x ∈ l, okX x) (hn : l.length ≤ 1000) (d : Int) : mGo l d ↔ goA l d := by
  unfold mGo goA
  rw [con_bad hok hn d]
  constructor
  · rintro ⟨h1, h2, h3, h4⟩
    have hN := NN_of_good hok d h3
    exact ⟨h1, h2, h3, (high_eq hok hn d hN).1.1 (fun h => h4 (.inl h)), (low_eq hok hn d hN (by omega)).1.1 (fun h => h4 (.inr h))⟩
  · rintro ⟨h1, h2, h3, h4, h5⟩
    have hN := NN_of_good hok d h3
    exact ⟨h1, h2, h3, fun h => h.elim ((high_eq hok hn d hN).1.2 h4) ((low_eq hok hn d hN (by omega)).1.2 h5)⟩
theorem model_eq {l : List Ex} (hok : ∀ x ∈ l, okX x) (hn : l.length ≤ 1000) (d : Int) : mLo l d = ofLo l d ∧ mHi l d = ofHi l d ∧ mE_ l d = chE l d := by
  have hg := go_iff hok hn d
  by_cases h : goA l d
  · have hm := hg.2 h
    obtain ⟨h1, h2, h3, h4, h5⟩ := h
    have hN := NN_of_good hok d h3
    refine ⟨?_, ?_, ?_⟩
    · unfold mLo
      rw [if_pos hm, (of_go ⟨h1, h2, h3, h4, h5⟩).1, (low_eq hok hn d hN (by omega)).2 h5]; omega
    · unfold mHi
      rw [if_pos hm, (of_go ⟨h1, h2, h3, h4, h5⟩).2, (high_eq hok hn d hN).2 h4]
    · rw [chE_5 ⟨h1, h2, h3, h4, h5⟩]
      unfold mE_
      rw [if_neg hm.1, if_neg hm.2.1, if_neg (by rw [hm.2.2.1]; decide), if_neg hm.2.2.2]
  · have hm : ¬ mGo l d := fun hm => h (hg.1 hm)
    refine ⟨by unfold mLo; rw [if_neg hm, (of_no h).1], by unfold mHi; rw [if_neg hm, (of_no h).2], ?_⟩
    unfold mE_
    by_cases h1 : d < 0 ∨ 1073741824 < d
    · rw [if_pos h1, chE_1 h1]
    · rw [if_neg h1]
      by_cases h2 : d = 0 ∨ (devL l).contains d = false
      · rw [if_pos h2, chE_2 h1 h2]
      · rw [if_neg h2, con_bad hok hn d]
        cases h3 : badA l d with
        | true => rw [if_pos rfl, chE_3 h1 h2 h3]
        | false =>
          rw [if_neg (by decide)]
          have h4 : farJ ≤ highJ l d ∨ farJ ≤ lowJ l d := Classical.byContradiction fun h4 => hm ⟨h1, h2, by rw [con_bad hok hn d]; exact h3, h4⟩
          rw [if_pos h4, chE_4 h1 h2 h3 (fun h5 => h ⟨h1, h2, h3, h5.1, h5.2⟩)]
end Go.Via
set_option linter.unusedVariables false
set_option linter.unusedSimpArgs false
namespace Go.Via
open Go Go.RowKit
/-! ### what the laws ask -/
theorem hi_min {l : List Ex} (hok : ∀ x ∈ l, okX x) {d : Int} (hg : goA l d) : IsMin (Ed l d) 0 d (hiA l d) := by
  obtain ⟨h1, h2, h3, h4, h5⟩ := hg
  have hN := NN_of_good hok d h3
  obtain ⟨q, hq⟩ := Option.isSome_iff_exists.1 h4
  unfold hiA
  rw [hq]
  exact (toA_min hok d hN 0 d q).1 hq
theorem lo_min {l : List Ex} (hok : ∀ x ∈ l, okX x) {d : Int} (hg : goA l d) : IsMin (Ed l d) d 0 (loA l d) := by
  obtain ⟨h1, h2, h3, h4, h5⟩ := hg
  have hN := NN_of_good hok d h3
  obtain ⟨q, hq⟩ := Option.isSome_iff_exists.1 h5
  unfold loA
  rw [hq]
  exact (toA_min hok d hN d 0 q).1 hq
/-! Orders -/
/-! Narrows -/
theorem Wk.split {E F : Ex → Prop} {e : Ex} (hF : ∀ x, F x ↔ E x ∨ x = e) {w : Int} (hw : ∀ n s, Wk E e.t e.f n s → 0 ≤ wt e + s) {a b s : Int} {n : Nat} (h : Wk F a b n s) :
    Wk E a b n s ∨ ∃ n1 s1 n2 s2, Wk E a e.f n1 s1 ∧ Wk E e.t b n2 s2 ∧ s1 + wt e + s2 ≤ s := by
  induction h with
  | nil => exact .inl .nil
  | @snoc s n x h hx ih =>
    rcases (hF x).1 hx with hE | rfl
    · rcases ih with h | ⟨n1, s1, n2, s2, h1, h2, h3⟩
      · exact .inl (.snoc h hE)
      · exact .inr ⟨n1, s1, _, _, h1, .snoc h2 hE, by omega⟩
    · rcases ih with h | ⟨n1, s1, n2, s2, h1, h2, h3⟩
      · exact .inr ⟨_, _, _, _, h, .nil, by omega⟩
      · have := hw _ _ h2
        exact .inr ⟨n1, s1, 0, 0, h1, .nil, by omega⟩
/-! Contains -/
theorem pot_walk {E : Ex → Prop} {f : Int → Int} (hf : ∀ x, E x → f x.t ≤ f x.f + wt x) {a v s : Int} {n : Nat} (h : Wk E a v n s) : f v ≤ f a + s := by
  induction h with
  | nil => omega
  | snoc h hx ih => have := hf _ hx; omega
theorem contains {l : List Ex} (hok : ∀ x ∈ l, okX x) {f : Int → Int} (hf : ∀ x ∈ l, f x.t ≤ f x.f + wt x) (h0 : f 0 = 0) {d : Int} (hd : ¬ (d < 0 ∨ 1073741824 < d)) :
    badA l d = false ∧ (chE l d = 0 ∨ chE l d = 31) ∧ (goA l d → ofLo l d ≤ f d ∧ f d ≤ ofHi l d) := by
  have hN : NN (Ed l d) := fun a n w h => by have := pot_walk (fun x hx => hf x hx.1) h; omega
  have hb := good_of_NN hok d hN
  refine ⟨hb, ?_, fun hg => ?_⟩
  · by_cases h2 : d = 0 ∨ (devL l).contains d = false
    · exact .inl (chE_2 hd h2)
    · by_cases h4 : reachA l d = true ∧ retA l d = true
      · exact .inl (chE_5 ⟨hd, h2, hb, h4.1, h4.2⟩)
      · exact .inr (chE_4 hd h2 hb h4)
  · obtain ⟨⟨n, h1⟩, _⟩ := hi_min hok hg
    obtain ⟨⟨m, h2⟩, _⟩ := lo_min hok hg
    have h3 := pot_walk (fun x hx => hf x hx.1) h1
    have h4 := pot_walk (fun x hx => hf x hx.1) h2
    rw [(of_go hg).1, (of_go hg).2]
    omega
/-! Cycles -/
theorem CycQ.first {l : List Ex} {d : Int} {c : List Int} (h : CycQ l d c) : ∃ k x n, c[0]? = some k ∧ 0 ≤ k ∧ k < (l.length : Int) ∧ l[k.toNat]? = some x ∧ x.f ∈ compL l d ∧ sumM l c x.f = n ∧ sumO l c x.f x.f = true ∧ n < 0 := by
  obtain ⟨h1, _, z, n, h2, h3, h4⟩ := h
  cases c with
  | nil => exact absurd rfl h1
  | cons k c =>
    have h3' := h3
    unfold sumS at h3
    by_cases hk : k < 0 ∨ (l.length : Int) ≤ k
    · rw [if_pos hk] at h3; cases h3
    · rw [if_neg hk] at h3
      cases hx : l[k.toNat]? with
      | none => rw [hx] at h3; cases h3
      | some x =>
        rw [hx] at h3
        simp only at h3
        by_cases hf : x.f = z
        · subst hf
          refine ⟨k, x, n, rfl, by omega, by omega, hx, h2, ?_, ?_, h4⟩
          · exact (sum_some h3' (b := x.f)).2.2.1
          · rw [(sum_some h3' (b := x.f)).2.2.2]; simp
        · rw [if_neg hf] at h3; cases h3
end Go.Via
set_option linter.unusedVariables false
set_option linter.unusedSimpArgs false
namespace Go.Via
open Go Go.RowKit
/-! ### for the walk through the model's least -/
def initI (nodes : List Int) (fr : Int) : Nat → List Int
  | 0 => List.replicate nodes.length 0
  | i + 1 => if 0 ≤ fr ∧ nodes[i]? ≠ some fr then (initI nodes fr i).set i farJ else initI nodes fr i
theorem initI_len (nodes : List Int) (fr : Int) : ∀ i, (initI nodes fr i).length = nodes.length
  | 0 => List.length_replicate ..
  | i + 1 => by unfold initI; split <;> simp [initI_len nodes fr i]
theorem initI_yes {nodes : List Int} {fr z : Int} {i : Nat} (h0 : 0 ≤ fr) (hz : nodes[i]? = some z) (hne : z ≠ fr) : initI nodes fr (i + 1) = (initI nodes fr i).set i farJ := by
  rw [initI, if_pos ⟨h0, by rw [hz]; exact fun e => hne (Option.some.inj e)⟩]
theorem initI_no {nodes : List Int} {fr z : Int} {i : Nat} (hz : nodes[i]? = some z) (h : ¬ (0 ≤ fr ∧ z ≠ fr)) : initI nodes fr (i + 1) = initI nodes fr i := by
  rw [initI, if_neg (fun ⟨a, b⟩ => h ⟨a, fun e => b (by rw [hz, e])⟩)]
theorem initI_get (nodes : List Int) (fr : Int) : ∀ (i : Nat), i ≤ nodes.length → ∀ j, (initI nodes fr i)[j]? = if j < nodes.length then some (if j < i ∧ 0 ≤ fr ∧ nodes[j]? ≠ some fr then farJ else 0) else none
  | 0, _, j => by
    unfold initI
    rw [List.getElem?_replicate]
    simp
  | i + 1, hi, j => by
    have ih := initI_get nodes fr i (by omega) j
    unfold initI
    by_cases c : 0 ≤ fr ∧ nodes[i]? ≠ some fr
    · rw [if_pos c, List.getElem?_set, initI_len]
      by_cases e : i = j
      · subst e
        rw [if_pos rfl, if_pos (by omega), if_pos (by omega), if_pos ⟨by omega, c.1, c.2⟩]
      · rw [if_neg e, ih]
        by_cases hj : j < nodes.length
        · rw [if_pos hj, if_pos hj]
          congr 1
          by_cases c2 : j < i ∧ 0 ≤ fr ∧ nodes[j]? ≠ some fr
          · rw [if_pos c2, if_pos ⟨by omega, c2.2⟩]
          · rw [if_neg c2, if_neg (fun h => c2 ⟨by omega, h.2⟩)]
        · rw [if_neg hj, if_neg hj]
    · rw [if_neg c, ih]
      by_cases hj : j < nodes.length
      · rw [if_pos hj, if_pos hj]
        congr 1
        by_cases c2 : j < i ∧ 0 ≤ fr ∧ nodes[j]? ≠ some fr
        · rw [if_pos c2, if_pos ⟨by omega, c2.2⟩]
        · rw [if_neg c2, if_neg (fun h => by
            by_cases e : j = i
            · subst e; exact c h.2
            · exact c2 ⟨by omega, h.2⟩)]
      · rw [if_neg hj, if_neg hj]
theorem initI_end (nodes : List Int) (fr : Int) : initI nodes fr nodes.length = initJ nodes fr := by
  refine List.ext_getElem? fun j => ?_
  rw [initI_get nodes fr _ (Nat.le_refl _), initJ, List.getElem?_map]
  by_cases hj : j < nodes.length
  · rw [if_pos hj, List.getElem?_eq_getElem hj]
    simp [hj]
  · rw [if_neg hj, List.getElem?_eq_none (by omega)]
    rfl
theorem ILc_set (l : List Int) (i : Nat) (z : Int) : (ILc l).set (i * 1) (.int .i64 z) = ILc (l.set i z) := by
  rw [Nat.mul_one]; unfold ILc; rw [List.map_set]
theorem ILc_rep (n : Nat) : List.replicate n (Value.int .i64 0) = ILc (List.replicate n 0) := by unfold ILc; rw [List.map_replicate]
theorem ILc_whole {l : List Int} {n : Nat} (h : l.length = n) : ((ILc l).drop 0).take (n * 1) = ILc l := by
  rw [List.drop_zero, Nat.mul_one]; exact List.take_of_length_le (by rw [ILc_length]; omega)
theorem fold_inv {β : Type} (F : List Int → β → List Int) (I : List Int → Prop) : ∀ (m : List β) (s : List Int), (∀ b ∈ m, ∀ s, I s → I (F s b)) → I s → I (m.foldl F s)
  | [], s, _, h => h
  | b :: m, s, hF, h => fold_inv F I m (F s b) (fun c hc => hF c (by simp [hc])) (hF b (by simp) s h)
theorem getD_in {l : List Int} {i : Nat} {P : Int → Prop} (h : ∀ z ∈ l, P z) (h0 : P 0) : P ((l[i]?).getD 0) := by
  cases hz : l[i]? with
  | none => exact h0
  | some z => exact h z (List.mem_of_getElem? hz)
theorem leastJ_bnd {l : List Ex} (hok : ∀ x ∈ l, okX x) (nodes : List Int) (fr : Int) : ∀ k : Nat, ∀ z ∈ leastJ l nodes fr k, -(4294967296 * (k : Int)) ≤ z ∧ z ≤ farJ
  | 0, z, hz => by
    obtain ⟨y, _, rfl⟩ := List.mem_map.1 hz
    unfold farJ
    split <;> omega
  | k + 1, z, hz => by
    have ih := leastJ_bnd hok nodes fr k
    have key : ∀ z ∈ stepJ l nodes (leastJ l nodes fr k), -(4294967296 * ((k + 1 : Nat) : Int)) ≤ z ∧ z ≤ farJ := by
      refine fold_inv _ (fun s => ∀ z ∈ s, -(4294967296 * ((k + 1 : Nat) : Int)) ≤ z ∧ z ≤ farJ) l _ (fun x hx s hs => ?_) (fun z hz => by have := ih z hz; omega)
      refine fold_inv _ (fun s => ∀ z ∈ s, -(4294967296 * ((k + 1 : Nat) : Int)) ≤ z ∧ z ≤ farJ) _ _ (fun a _ s hs => ?_) hs
      refine fold_inv _ (fun s => ∀ z ∈ s, -(4294967296 * ((k + 1 : Nat) : Int)) ≤ z ∧ z ≤ farJ) _ _ (fun b _ s hs => ?_) hs
      intro z hz
      unfold cellJ at hz
      split at hz
      · rename_i hc
        rcases List.mem_or_eq_of_mem_set hz with h | h
        · exact hs z h
        · have h1 := getD_in (i := b) (P := fun z => -(4294967296 * ((k + 1 : Nat) : Int)) ≤ z ∧ z ≤ farJ) hs (by unfold farJ; omega)
          have h2 := getD_in (i := a) (P := fun z => -(4294967296 * (k : Int)) ≤ z ∧ z ≤ farJ) ih (by unfold farJ; omega)
          have h3 := wt_bound (hok x hx)
          rw [h]
          omega
      · exact hs z hz
    exact key z hz
theorem cellJ_yes {nodes S T : List Int} {x : Ex} {a b : Nat} {sa tb za zb : Int} (hza : nodes[a]? = some za) (h1 : za = x.f) (hzb : nodes[b]? = some zb) (h2 : zb = x.t) (hsa : S[a]? = some sa) (hs : sa < 1125899906842624) (htb : T[b]? = some tb) : cellJ nodes S x a T b = T.set b (min tb (sa + wt x)) := by
  unfold cellJ
  rw [hsa, htb, if_pos ⟨by rw [hza, h1], by rw [hzb, h2], by unfold farJ; simpa using hs⟩]
  rfl
theorem cellJ_no {nodes S T : List Int} {x : Ex} {a b : Nat} {sa za zb : Int} (hza : nodes[a]? = some za) (hzb : nodes[b]? = some zb) (hsa : S[a]? = some sa) (h : ¬ (za = x.f ∧ zb = x.t ∧ sa < 1125899906842624)) : cellJ nodes S x a T b = T := by
  unfold cellJ
  rw [hsa, hza, hzb, if_neg (fun ⟨h1, h2, h3⟩ => h ⟨Option.some.inj h1, Option.some.inj h2, by unfold farJ at h3; simpa using h3⟩)]
theorem pickJ_yes {nodes vals : List Int} {z v : Int} {i : Nat} (h : nodes[i]? = some z) (hv : vals[i]? = some v) : pickJ nodes vals z (i + 1) = v := by
  unfold pickJ; rw [if_pos h, hv]; rfl
theorem pickJ_no {nodes vals : List Int} {z y : Int} {i : Nat} (h : nodes[i]? = some y) (hne : y ≠ z) : pickJ nodes vals z (i + 1) = pickJ nodes vals z i := by
  rw [pickJ, if_neg (fun e => hne (by rw [h] at e; exact Option.some.inj e))]
theorem pickJ_bnd {l : List Ex} (hok : ∀ x ∈ l, okX x) (nodes : List Int) (fr z : Int) {k : Nat} (hk : k ≤ 3001) : ∀ i, -12889196785304576 ≤ pickJ nodes (leastJ l nodes fr k) z i ∧ pickJ nodes (leastJ l nodes fr k) z i ≤ farJ
  | 0 => by unfold pickJ farJ; omega
  | i + 1 => by
    have ih := pickJ_bnd hok nodes fr z hk i
    have := getD_in (i := i) (P := fun z => -12889196785304576 ≤ z ∧ z ≤ farJ) (fun z hz => by have := leastJ_bnd hok nodes fr k z hz; omega) (by unfold farJ; omega)
    unfold pickJ
    split
    · exact this
    · exact ih
theorem mE_1 {l : List Ex} {d : Int} (h : d < 0 ∨ 1073741824 < d) : mE_ l d = 27 ∧ mLo l d = 0 ∧ mHi l d = 0 := ⟨if_pos h, if_neg fun g => g.1 h, if_neg fun g => g.1 h⟩
theorem mE_2 {l : List Ex} {d : Int} (h : ¬ (d < 0 ∨ 1073741824 < d)) (h2 : d = 0 ∨ (devL l).contains d = false) : mE_ l d = 0 ∧ mLo l d = 0 ∧ mHi l d = 0 := ⟨by unfold mE_; rw [if_neg h, if_pos h2], if_neg fun g => g.2.1 h2, if_neg fun g => g.2.1 h2⟩
theorem mE_3 {l : List Ex} {d : Int} (h : ¬ (d < 0 ∨ 1073741824 < d)) (h2 : ¬ (d = 0 ∨ (devL l).contains d = false)) (h3 : conB l (compL l d) = true) : mE_ l d = 32 ∧ mLo l d = 0 ∧ mHi l d = 0 :=
  ⟨by unfold mE_; rw [if_neg h, if_neg h2, if_pos h3], if_neg (fun g => by rw [g.2.2.1] at h3; cases h3), if_neg (fun g => by rw [g.2.2.1] at h3; cases h3)⟩
theorem mE_4 {l : List Ex} {d : Int} (h : ¬ (d < 0 ∨ 1073741824 < d)) (h2 : ¬ (d = 0 ∨ (devL l).contains d = false)) (h3 : conB l (compL l d) = false) (h4 : farJ ≤ highJ l d ∨ farJ ≤ lowJ l d) : mE_ l d = 31 ∧ mLo l d = 0 ∧ mHi l d = 0 :=
  ⟨by unfold mE_; rw [if_neg h, if_neg h2, if_neg (by rw [h3]; decide), if_pos h4], if_neg fun g => g.2.2.2 h4, if_neg fun g => g.2.2.2 h4⟩
theorem mE_5 {l : List Ex} {d : Int} (h : ¬ (d < 0 ∨ 1073741824 < d)) (h2 : ¬ (d = 0 ∨ (devL l).contains d = false)) (h3 : conB l (compL l d) = false) (h4 : ¬ (farJ ≤ highJ l d ∨ farJ ≤ lowJ l d)) : mE_ l d = 0 ∧ mLo l d = 0 - lowJ l d ∧ mHi l d = highJ l d :=
  ⟨by unfold mE_; rw [if_neg h, if_neg h2, if_neg (by rw [h3]; decide), if_neg h4], if_pos ⟨h, h2, h3, h4⟩, if_pos ⟨h, h2, h3, h4⟩⟩
end Go.Via
set_option linter.unusedVariables false
namespace Go.Via
open Go
theorem made_T (n : Nat) : Value.agg #[.bool (mag n != ⟨#[]⟩), .string (mag n)] = I (-(n : Int)) := by
  unfold I
  rw [bne_empty]
  congr 4
  · rw [Bool.eq_iff_iff]; simp; omega
  · simp
theorem made_F (n : Nat) : Value.agg #[.bool false, .string (mag n)] = I (n : Int) := by
  unfold I
  congr 4
theorem negate_val (z : Int) : (if (!decide (z < 0)) = true then -(z.natAbs : Int) else (z.natAbs : Int)) = -z := by
  by_cases h : z < 0 <;> simp [h] <;> omega
theorem add_same (a b : Int) (h : (decide (a < 0) == decide (b < 0)) = true) : (if decide (a < 0) = true then -((a.natAbs + b.natAbs : Nat) : Int) else ((a.natAbs + b.natAbs : Nat) : Int)) = a + b := by
  by_cases h1 : a < 0 <;> by_cases h2 : b < 0 <;> simp_all <;> omega
theorem add_diff1 (a b : Int) (h : (decide (a < 0) == decide (b < 0)) = false) (hle : b.natAbs ≤ a.natAbs) : (if decide (a < 0) = true then -((a.natAbs - b.natAbs : Nat) : Int) else ((a.natAbs - b.natAbs : Nat) : Int)) = a + b := by
  by_cases h1 : a < 0 <;> by_cases h2 : b < 0 <;> simp_all <;> omega
theorem add_diff2 (a b : Int) (h : (decide (a < 0) == decide (b < 0)) = false) (hle : a.natAbs ≤ b.natAbs) : (if decide (b < 0) = true then -((b.natAbs - a.natAbs : Nat) : Int) else ((b.natAbs - a.natAbs : Nat) : Int)) = a + b := by
  by_cases h1 : a < 0 <;> by_cases h2 : b < 0 <;> simp_all <;> omega
theorem cmpN_ge (m n : Nat) (h : decide ((0 : Int) ≤ (if m < n then -1 else if n < m then 1 else 0)) = true) : n ≤ m := by
  by_cases h1 : m < n
  · simp [h1] at h
  · omega
theorem cmpN_lt (m n : Nat) (h : decide ((0 : Int) ≤ (if m < n then -1 else if n < m then 1 else 0)) = false) : m ≤ n := by
  by_cases h1 : m < n
  · omega
  · by_cases h2 : n < m <;> simp [h1, h2] at h
theorem mul_val (a b : Int) : (if (decide (a < 0) != decide (b < 0)) = true then -((a.natAbs * b.natAbs : Nat) : Int) else ((a.natAbs * b.natAbs : Nat) : Int)) = a * b := by
  have h : ((a.natAbs * b.natAbs : Nat) : Int) = (a.natAbs : Int) * (b.natAbs : Int) := Int.natCast_mul _ _
  rw [h]
  by_cases h1 : a < 0 <;> by_cases h2 : b < 0
  · rw [show (a.natAbs : Int) = -a by omega, show (b.natAbs : Int) = -b by omega]; simp [h1, h2, Int.neg_mul_neg]
  · rw [show (a.natAbs : Int) = -a by omega, show (b.natAbs : Int) = b by omega]; simp [h1, h2, Int.neg_mul]
  · rw [show (a.natAbs : Int) = a by omega, show (b.natAbs : Int) = -b by omega]; simp [h1, h2, Int.mul_neg]
  · rw [show (a.natAbs : Int) = a by omega, show (b.natAbs : Int) = b by omega]; simp [h1, h2]
theorem sign_zero (z : Int) (h : (mag z.natAbs == ⟨#[]⟩) = true) : (0 : Int) = z.sign := by
  rw [beq_empty] at h; simp at h; subst h; rfl
theorem sign_neg (z : Int) (h : decide (z < 0) = true) : (-1 : Int) = z.sign := by
  simp at h; rw [Int.sign_eq_neg_one_of_neg h]
theorem sign_pos (z : Int) (h0 : (mag z.natAbs == ⟨#[]⟩) = false) (h : decide (z < 0) = false) : (1 : Int) = z.sign := by
  rw [beq_empty] at h0; simp at h h0; rw [Int.sign_eq_one_of_pos (by omega)]
def cmpN (a b : Nat) : Int := if a < b then -1 else if b < a then 1 else 0
end Go.Via
set_option linter.unusedVariables false
namespace Go.Via
open Go
theorem szI_gcd {a b : Int} {m n : Nat} (ha : szI a ≤ m) (hb : szI b ≤ n) : szI (Int.gcd a b : Int) ≤ m + n := by
  unfold szI at *
  simp only [Int.natAbs_natCast]
  rw [Int.gcd_eq_natAbs_gcd_natAbs]
  by_cases h : a.natAbs = 0
  · rw [h, Nat.gcd_zero_left]; omega
  · have := nb_gcd_left a.natAbs b.natAbs h; omega
/-- quotient and remainder out of those of the magnitudes -/
theorem divmod_core {a b q r : Int} (hb : b ≠ 0) (h : r + b * q = a) (h0 : 0 ≤ r) (h1 : r < b.natAbs) : q = a / b ∧ r = a % b := by
  rcases Int.lt_or_lt_of_ne hb with hb' | hb'
  · have := (Int.ediv_emod_unique' hb').2 ⟨h, h0, by omega⟩; exact ⟨this.1.symm, this.2.symm⟩
  · have := (Int.ediv_emod_unique hb').2 ⟨h, h0, by omega⟩; exact ⟨this.1.symm, this.2.symm⟩
theorem nat_dm (a b : Int) : (a.natAbs : Int) = (b.natAbs : Int) * ((a.natAbs / b.natAbs : Nat) : Int) + ((a.natAbs % b.natAbs : Nat) : Int) := by
  rw [← Int.natCast_mul, ← Int.natCast_add, Nat.div_add_mod]
/-- a is not negative, or nothing is left -/
theorem divmod_F {a b : Int} (hb : b ≠ 0) (h : ¬ a < 0 ∨ a.natAbs % b.natAbs = 0) :
    (if (decide (a < 0) != decide (b < 0)) = true then -((a.natAbs / b.natAbs : Nat) : Int) else ((a.natAbs / b.natAbs : Nat) : Int)) = a / b ∧ ((a.natAbs % b.natAbs : Nat) : Int) = a % b := by
  have hd := nat_dm a b
  have hlt : a.natAbs % b.natAbs < b.natAbs := Nat.mod_lt _ (by omega)
  generalize a.natAbs / b.natAbs = q at *
  generalize a.natAbs % b.natAbs = r at *
  refine divmod_core hb ?_ (by omega) (by omega)
  by_cases h1 : a < 0 <;> by_cases h2 : b < 0
  · have ea : (a.natAbs : Int) = -a := by omega
    have eb : (b.natAbs : Int) = -b := by omega
    rw [ea, eb] at hd
    simp [h1, h2]
    have : r = 0 := by omega
    subst this; simp at hd ⊢; have e : -b * (q : Int) = -(b * q) := Int.neg_mul _ _; rw [e] at hd; omega
  · have ea : (a.natAbs : Int) = -a := by omega
    have eb : (b.natAbs : Int) = b := by omega
    rw [ea, eb] at hd
    simp [h1, h2]
    have : r = 0 := by omega
    subst this; simp at hd ⊢; rw [Int.mul_neg]; omega
  · have ea : (a.natAbs : Int) = a := by omega
    have eb : (b.natAbs : Int) = -b := by omega
    rw [ea, eb] at hd
    simp [h1, h2]
    rw [Int.neg_mul] at hd; rw [Int.mul_neg]; omega
  · have ea : (a.natAbs : Int) = a := by omega
    have eb : (b.natAbs : Int) = b := by omega
    rw [ea, eb] at hd
    simp [h1, h2]; omega
/-- a is negative, and something is left -/
theorem divmod_T {a b : Int} (hb : b ≠ 0) (h : a < 0) (hr : a.natAbs % b.natAbs ≠ 0) :
    (if (decide (a < 0) != decide (b < 0)) = true then -((a.natAbs / b.natAbs + 1 : Nat) : Int) else ((a.natAbs / b.natAbs + 1 : Nat) : Int)) = a / b ∧ ((b.natAbs - a.natAbs % b.natAbs : Nat) : Int) = a % b := by
  have hd := nat_dm a b
  have hlt : a.natAbs % b.natAbs < b.natAbs := Nat.mod_lt _ (by omega)
  generalize a.natAbs / b.natAbs = q at *
  generalize a.natAbs % b.natAbs = r at *
  refine divmod_core hb ?_ (by omega) (by omega)
  have ea : (a.natAbs : Int) = -a := by omega
  by_cases h2 : b < 0
  · have eb : (b.natAbs : Int) = -b := by omega
    rw [ea, eb] at hd
    simp [h, h2]
    rw [Int.neg_mul] at hd; rw [Int.mul_add]; omega
  · have eb : (b.natAbs : Int) = b := by omega
    rw [ea, eb] at hd
    simp [h, h2]
    rw [Int.mul_neg, Int.mul_add]; omega
theorem canon_1 {n d : Int} (hd : 0 < d) (h1 : d / (Int.gcd n d : Int) = 1) : Value.agg #[.bool (decide (n / (Int.gcd n d : Int) < 0)), .string (mag (n / (Int.gcd n d : Int)).natAbs), .bool false, .string ⟨#[]⟩] = Q (Rat.divInt n d) := by
  rw [Q_divInt hd, if_pos h1]
theorem canon_2 {n d : Int} (hd : 0 < d) (h1 : d / (Int.gcd n d : Int) ≠ 1) : Value.agg #[.bool (decide (n / (Int.gcd n d : Int) < 0)), .string (mag (n / (Int.gcd n d : Int)).natAbs), .bool (decide (d / (Int.gcd n d : Int) < 0)), .string (mag (d / (Int.gcd n d : Int)).natAbs)] = Q (Rat.divInt n d) := by
  rw [Q_divInt hd, if_neg h1]
  congr 5
  have : 0 ≤ d / (Int.gcd n d : Int) := Int.ediv_nonneg (by omega) (by omega)
  simp; omega
theorem gcd_ne {n d : Int} (hd : d ≠ 0) : (Int.gcd n d : Int) ≠ 0 := by
  have : Int.gcd n d ≠ 0 := by rw [Ne, Int.gcd_eq_zero_iff]; omega
  omega
theorem sign_lt {d : Int} (h : decide (d.sign < 0) = true) : d < 0 := by
  simpa using h
theorem sign_ge {d : Int} (h : decide (d.sign < 0) = false) (h0 : d ≠ 0) : 0 < d := by
  simp at h; omega
theorem lI_add (a b : Int) : szI (a + b) ≤ szI a + szI b + 1 := szI_add (Nat.le_refl _) (Nat.le_refl _)
theorem lI_sub (a b : Int) : szI (a - b) ≤ szI a + szI b + 1 := szI_sub (Nat.le_refl _) (Nat.le_refl _)
theorem lI_mul (a b : Int) : szI (a * b) ≤ szI a + szI b := szI_mul (Nat.le_refl _) (Nat.le_refl _)
theorem lI_neg (a : Int) : szI (-a) ≤ szI a := szI_neg (Nat.le_refl _)
theorem lI_gcd (a b : Int) : szI (Int.gcd a b : Int) ≤ szI a + szI b := szI_gcd (Nat.le_refl _) (Nat.le_refl _)
theorem lI_num (q : Rat) : szI q.num ≤ szQ q := szI_num (Nat.le_refl _)
theorem lI_den (q : Rat) : szI (q.den : Int) ≤ szQ q := szI_den (Nat.le_refl _)
theorem lQ_add (a b : Rat) : szQ (a + b) ≤ szQ a + szQ b + 1 := szQ_add (Nat.le_refl _) (Nat.le_refl _)
theorem lQ_sub (a b : Rat) : szQ (a - b) ≤ szQ a + szQ b + 1 := szQ_sub (Nat.le_refl _) (Nat.le_refl _)
theorem lQ_mul (a b : Rat) : szQ (a * b) ≤ szQ a + szQ b := szQ_mul (Nat.le_refl _) (Nat.le_refl _)
theorem lQ_div (a b : Rat) : szQ (a / b) ≤ szQ a + szQ b := szQ_div (Nat.le_refl _) (Nat.le_refl _)
theorem lQ_neg (a : Rat) : szQ (-a) ≤ szQ a := szQ_neg (Nat.le_refl _)
theorem l_nb (a : Int) : nb a.natAbs ≤ szI a := Nat.le_refl _
end Go.Via
set_option linter.unusedVariables false
namespace Go.Via
open Go
theorem den_ne (q : Rat) : (q.den : Int) ≠ 0 := by have := q.den_nz; omega
theorem den_mul_ne (p q : Rat) : (p.den : Int) * q.den ≠ 0 := Int.mul_ne_zero (den_ne p) (den_ne q)
theorem den_T {q : Rat} (h : ((false == false) && (dm q == ⟨#[]⟩)) = true) : I 1 = I q.den := by
  rw [dm_empty] at h; simp at h; rw [h]; rfl
theorem den_F {q : Rat} (h : ((false == false) && (dm q == ⟨#[]⟩)) = false) : Value.agg #[.bool false, .string (dm q)] = I q.den := by
  rw [dm_empty] at h; simp at h
  unfold dm; rw [if_neg h]; exact made_F q.den
def crossX (p q : Rat) : Int := if p.den = q.den then p.num else p.num * q.den
def crossY (p q : Rat) : Int := if p.den = q.den then q.num else q.num * p.den
def crossD (p q : Rat) : Int := if p.den = q.den then p.den else p.den * q.den
theorem cross_T {p q : Rat} (h : ((false == false) && (dm p == dm q)) = true) : Value.tuple #[I p.num, I q.num, I p.den] = .tuple #[I (crossX p q), I (crossY p q), I (crossD p q)] := by
  rw [dm_eq] at h; simp at h; unfold crossX crossY crossD; rw [if_pos h, if_pos h, if_pos h]
theorem cross_F {p q : Rat} (h : ((false == false) && (dm p == dm q)) = false) : Value.tuple #[I (p.num * q.den), I (q.num * p.den), I (p.den * q.den)] = .tuple #[I (crossX p q), I (crossY p q), I (crossD p q)] := by
  rw [dm_eq] at h; simp at h; unfold crossX crossY crossD; rw [if_neg h, if_neg h, if_neg h]
theorem crossD_ne (p q : Rat) : crossD p q ≠ 0 := by
  unfold crossD; split
  · exact den_ne p
  · exact den_mul_ne p q
theorem szX {p q : Rat} {m n : Nat} (hp : szQ p ≤ m) (hq : szQ q ≤ n) : szI (crossX p q) ≤ m + n := by
  unfold crossX; split
  · have := szI_num hp; omega
  · exact szI_mul (szI_num hp) (szI_den hq)
theorem szY {p q : Rat} {m n : Nat} (hp : szQ p ≤ m) (hq : szQ q ≤ n) : szI (crossY p q) ≤ m + n := by
  unfold crossY; split
  · have := szI_num hq; omega
  · have := szI_mul (szI_num hq) (szI_den hp); omega
theorem szD {p q : Rat} {m n : Nat} (hp : szQ p ≤ m) (hq : szQ q ≤ n) : szI (crossD p q) ≤ m + n := by
  unfold crossD; split
  · have := szI_den hp; omega
  · exact szI_mul (szI_den hp) (szI_den hq)
theorem szXY {p q : Rat} {m n : Nat} (hp : szQ p ≤ m) (hq : szQ q ≤ n) : szI (crossX p q + crossY p q) ≤ m + n + 1 := by
  have h1 := szX hp hq
  have h2 := szY hp hq
  unfold szI at *
  have h3 := nb_mono (Int.natAbs_add_le (crossX p q) (crossY p q))
  have h4 := nb_add (crossX p q).natAbs (crossY p q).natAbs
  omega
theorem eq_divX (p q : Rat) : p = Rat.divInt (crossX p q) (crossD p q) ∧ q = Rat.divInt (crossY p q) (crossD p q) := by
  unfold crossX crossY crossD
  split
  · rename_i h
    refine ⟨(Rat.num_divInt_den p).symm, ?_⟩
    rw [h]; exact (Rat.num_divInt_den q).symm
  · refine ⟨?_, ?_⟩
    · rw [Rat.divInt_mul_right (den_ne q)]; exact (Rat.num_divInt_den p).symm
    · rw [Int.mul_comm (p.den : Int), Rat.divInt_mul_right (den_ne p)]; exact (Rat.num_divInt_den q).symm
theorem cross_add (p q : Rat) : Rat.divInt (crossX p q + crossY p q) (crossD p q) = p + q := by
  have h := eq_divX p q
  have h0 := crossD_ne p q
  generalize crossX p q = x at *
  generalize crossY p q = y at *
  generalize crossD p q = d at *
  rw [h.1, h.2, Rat.divInt_add_divInt _ _ h0 h0, ← Int.add_mul, Rat.divInt_mul_right h0]
theorem Q_zero : Q 0 = .agg #[.bool false, .string ⟨#[]⟩, .bool false, .string ⟨#[]⟩] := by
  show Value.agg #[.bool (decide ((0:Int) < 0)), .string (mag 0), .bool false, .string (dm 0)] = _
  rw [mag_zero, show dm 0 = ⟨#[]⟩ from rfl]; rfl
end Go.Via
