/-
  Part 12: lemmas, and walks through the functions that the laws of chapter 43 call. Each theorem states its own conditions.
-/
import Derived.Lib.Replace
import Derived.Test.YtfijbadahkmhbaaGreatDoorA04
import Derived.Test.YtfijbadahkmhbaaGreatDoorA07
import Derived.Test.YtfijbadahkmhbaaGreatDoorA11
set_option linter.unusedVariables false
set_option linter.unusedSimpArgs false
set_option maxHeartbeats 20000000
namespace Go.Proofs.YtfijbadahkmhbaaGreatDoor
open Go Go.RowKit Go.Via
set_option maxRecDepth 20000 in
theorem c_Variables_1 {x : XT} (z : XR x) (lv gv : Nat) {l : List Bs8} (s : SRw l) (hl : l.length + 1 ≤ 17179869184) : ECall Tryz.prog 54 [VV gv s, VR s] [z.v, .int .i64 (lv : Nat), .pointer (some ⟨gv, 0, none⟩)] (SRw (l ++ (if x.op = 4 then [x.name] else []))) (fun _ => .tuple #[]) (fun s1 => [VV gv s1, VR s1]) := by
 refine ⟨by kernel_rfl, fun B w hD hL0 => ?_⟩;refine cB3 13 Tryz.func54 hL0 ?_;refine A2 ?_;refine Bo [_, _, _, _, _, _, _] 7 (fun g => [_, _, ⟨some g, 30, _, 7, true⟩]) (fun g0 => ?_);refine A6 ?_;refine r_know 6 (.int .i64 x.op) rfl (by rw [z.inv.1]) ?_;refine A3 ?_;refine Cd ?_ ?_<;>intro hb0
 ·have hop : x.op = 4 := by simpa using hb0
  refine A4 ?_;refine r_know 10 (.string (strU x.name)) rfl (by rw [z.inv.2.1]) ?_;refine r_buildSlice [(0, _)] (fun g => [_, _, _, ⟨some g, 9, _, 1, true⟩]) rfl rfl rfl (bs36_1) rfl (fun _ => rfl) (fun g1 => ?_);refine q_append (b := VR s) (len := l.length) (cap := s.cap) (n2 := 1) 1 3 (fun r => [_, ⟨some r.g, 9, SB l ++ [.string (strU x.name)], r.n, true⟩, _, _]) u36 el9 rfl rfl rfl rfl rfl rfl rfl rfl rfl rfl rfl rfl (by rw [SB_length, Nat.mul_one]) s.h1 (by rw [Nat.mul_one]; exact s.h2) rfl (fun v hv => by rw [List.mem_singleton.1 hv]; rfl) hl (fun r => rfl) (fun r => ?_);refine So 0 0 [⟨some gv, 36, _, 1, true⟩, _, _, _] [_] ?_;refine A1 ?_
  refine at_end0n rfl  (fun w hL => by
  refine ⟨(SRw.add x.name r).cast (by rw [if_pos hop]), rfl, ?_⟩;(try dsimp only);rw [SRw.cast_blk];exact SRw.add_blk x.name r s gv hL)
 ·have hop : x.op ≠ 4 := by simpa using hb0
  refine A1 ?_
  refine at_end0n rfl  (fun w hL => by
  refine ⟨s.cast (by rw [if_neg hop, List.append_nil]), rfl, ?_⟩;(try dsimp only);rw [SRw.cast_blk];exact hL.pk [some 0, some 1])
set_option maxRecDepth 20000 in
theorem c_each_stepV {x : XT} (z : XR x) (gv : Nat) (H : ∀ y : XT, y.size < x.size → EachV gv y) (lv : Nat) {l : List Bs8} (s : SRw l) (hM : l.length + x.size ≤ 1000000000) (hN : lv + x.size ≤ 1099511627776) : ECall Tryz.prog 51 [VV gv s, VR s, gB z.T false] [z.v, .int .i64 (lv : Nat), .func (.func 54) #[] #[.pointer (some ⟨gv, 0, none⟩)]] (SRw (l ++ varsL x)) (fun _ => .tuple #[]) (fun s1 => [VV gv s1, VR s1]) := by
 refine ⟨by kernel_rfl, fun B w hD hL0 => ?_⟩;obtain ⟨h1, h2, h3, h4, h5, h6⟩ := z.inv;have hsz := x.size_eq;have hal := XT.len_sizes x.args
 have hite : (if x.op = 4 then [x.name] else []).length ≤ 1 := by split <;> simp
 refine cB3 25 Tryz.func51 hL0 ?_;refine A2 ?_;refine Bo [_, _, _, _, _, _, _] 7 (fun g => [_, _, _, ⟨some g, 30, _, 7, true⟩]) (fun g0 => ?_);refine A3 ?_;refine at_regionM ?_;refine A1 ?_;refine Ld 3 0 [_,_,_,_,_,_,_] ti30 ?_;refine Kr 9 (z.v) ?_;refine A1 ?_;refine r_gfcallM (f := 54) (A := [VV gv s, VR s]) (C := []) [z.v, .int .i64 (lv : Nat)] [.pointer (some ⟨gv, 0, none⟩)] [0, 1] [] (fun s1 => [VV gv s1, VR s1, _, _]) rfl rfl rfl rfl rfl (c_Variables_1 z lv gv s (by omega)) (by decide) rfl rfl trivial rfl rfl (fun _ => rfl) (fun _ => allOwn rfl) (fun _ => rfl) (fun s1 => ?_);refine A11 ?_;refine El (ι := {q : Nat × (m : List Bs8) × SRw m // q.1 ≤ x.args.length ∧ l ++ varsL x = q.2.1 ++ varsLs (x.args.drop q.1) ∧ q.2.1.length + XT.sizes (x.args.drop q.1) ≤ 1000000000}) (fun ⟨⟨i, m, s2⟩, hi, hI, hB⟩ => ([(1, .int .i64 (lv : Nat)), (2, .func (.func 54) #[] #[.pointer (some ⟨gv, 0, none⟩)]), (13, .slice z.a z.n z.cap), (14, .int .i64 (z.n : Nat)), (15, .int .i64 (i : Nat))], [VV gv s2, VR s2, gB z.T false], x.args.length - i)) ⟨(0, ⟨_, s1⟩), Nat.zero_le _, by rw [varsL_eq, List.append_assoc]; rfl, by rw [List.length_append]; show _ + XT.sizes x.args ≤ _; omega⟩ ?_ (hL := Weak.auto);rintro ⟨⟨i, m, s2⟩, hi, hI, hB⟩;(try dsimp only);dsimp only at hi hI hB;refine A6 ?_;refine Cd ?_ ?_<;>intro hb1
 ·have hlt : i < x.args.length := by have := of_decide_eq_true hb1; omega
  obtain ⟨y, hy⟩ : ∃ y, x.args[i]? = some y := ⟨x.args[i], List.getElem?_eq_getElem hlt⟩;obtain ⟨ga, oa, ca, u, hza, hma, hra, hTa, hna⟩ := z.arg hy;have hsd := XT.sizes_drop hy;have hyg := XT.sizes_get hy;refine A6 ?_;refine r_indexAddrG (gg := ga) (len := z.n) (cap := z.cap) (oa + i * 7) u28 ti30 rfl rfl (congrArg (fun a => some (Value.slice a z.n z.cap)) hza) rfl (by omega) (by omega) (by show oa + Int.toNat _ * 7 = _; omega) ?_;refine r_loadT (v := u.v) 2 (oa + i * 7) u.cs rfl rfl rfl z.hT hma hna rfl ti30 hra rfl rfl rfl ?_;refine r_alloc [_, _, _, _, _, _, _] 7 (fun g => [_, _, _, ⟨some g, 30, _, 7, true⟩]) rfl rfl z30 rfl rfl (fun _ => rfl) (fun g1 => ?_);refine So 3 0 [_, _, _, ⟨some g1, 30, _, 7, true⟩] [_, _, _, _, _, _, _] ?_;refine A2 ?_;refine at_regionM ?_;refine Ld 3 0 [_,_,_,_,_,_,_] ti30 ?_;refine Kr 19 (u.v) ?_;refine A1 ?_;refine Ar (((lv + 1 : Nat) : Int)) ?_;refine A1 ?_;refine Gm 2 [0, 1] [2] (fun s3 => [VV gv s3, VR s3, _, _]) (by have h := H y (XT.arg_lt hy) u (lv + 1) m s2 (by omega) (by omega); rw [hTa] at h; exact h) (fun s3 => ?_);refine A4 ?_;refine Ar (((i + 1 : Nat) : Int)) ?_;refine A3 ?_;exact Nl ⟨(i + 1, ⟨_, s3⟩), hlt, by rw [hI, varsLs_step hy, List.append_assoc], by have := varsL_len y; rw [List.length_append]; show _ + XT.sizes (x.args.drop (i + 1)) ≤ _; omega⟩ (hL := Weak.auto)
 ·have hge : i = x.args.length := by have := of_decide_eq_false hb1; omega
  refine A4 ?_
  refine at_end0n rfl  (fun w hL => by
  have e : m = l ++ varsL x := (by rw [hI, hge, List.drop_length, varsLs, List.append_nil]);refine ⟨s2.cast e, rfl, ?_⟩;(try dsimp only);rw [SRw.cast_blk];exact hL.pk [some 0, some 1])
end Go.Proofs.YtfijbadahkmhbaaGreatDoor
namespace Go.Proofs.YtfijbadahkmhbaaGreatDoor
open Go Go.RowKit Go.Via
theorem c_eachV (gv : Nat) (x : XT) : EachV gv x := by
  suffices h : ∀ k : Nat, ∀ x : XT, x.size < k → EachV gv x from h _ x (Nat.lt_succ_self _)
  intro k
  induction k with
  | zero => intro x h; omega
  | succ k ih => exact fun x hx u lv l s hM hN => c_each_stepV u gv (fun y hy => ih y (by omega)) lv s hM hN
end Go.Proofs.YtfijbadahkmhbaaGreatDoor
set_option maxHeartbeats 20000000
namespace Go.Proofs.YtfijbadahkmhbaaGreatDoor
open Go Go.RowKit Go.Via
set_option maxRecDepth 20000 in
theorem c_Variables {x : XT} (z : XR x) (hM : x.size ≤ 1000000) : ECall Tryz.prog 25 [gB z.T false] [z.v] (SRw (varsU x)) (fun s => slv s.b 0 (varsU x).length s.cap) (fun s => [VR s]) := by
 refine ⟨by kernel_rfl, fun B w hD hL0 => ?_⟩;have hvl := varsL_len x
 have hul : (varsU x).length ≤ (varsL x).length := (by have := compact_le (sortL (varsL x)); rw [sortL_len] at this; exact this);refine cB1 11 Tryz.func25 hL0 ?_;refine A2 ?_;refine Bo [_, _, _, _, _, _, _] 7 (fun g => [_, ⟨some g, 30, _, 7, true⟩]) (fun g0 => ?_);refine A5 ?_;refine r_alloc [_] 1 (fun g => [_, _, ⟨some g, 36, _, 1, true⟩]) rfl rfl z36 rfl rfl (fun _ => rfl) (fun g1 => ?_);refine A3 ?_;refine at_weakL (L' := [_, _, VV g1 SRw.zero, VR SRw.zero]) (Weak.nilB _ (by decide)) ?_;refine at_regionM ?_;refine Ld 1 0 [_,_,_,_,_,_,_] ti30 ?_;refine Kr 4 (z.v) ?_;refine A1 ?_;refine r_gcallM (A := [VV g1 SRw.zero, VR SRw.zero]) (C := [gB z.T false]) [z.v, .int .i64 (1 : Nat), .func (.func 54) #[] #[.pointer (some ⟨g1, 0, none⟩)]] [2, 3] [0] (fun s1 => [_, _, VV g1 s1, VR s1]) rfl rfl rfl rfl (c_eachV g1 x z 1 [] SRw.zero (by show 0 + _ ≤ _; omega) (by omega)) (by decide) rfl rfl ⟨⟨_, rfl, Blk.le_refl _⟩, trivial⟩ rfl rfl (fun _ => rfl) (fun _ => allOwn rfl) (fun _ => rfl) (fun s1 => ?_);refine A3 ?_;refine at_regionM ?_;refine A1 ?_;refine Gm 1 [3] [] (fun _ => [_, _, _, SBk s1.b (sortL (varsL x)) s1.n]) (c_Sort s1.b (varsL x) s1.n s1.cap (by omega) (Nat.le_trans s1.h1 s1.h2)) (fun _ => ?_);refine A3 ?_;refine at_regionM ?_;refine A1 ?_;refine Gm 1 [3] [] (fun _ => [_, _, _, SBk s1.b (varsU x) s1.n]) (by have h := c_Compact s1.b (sortL (varsL x)) s1.n s1.cap (by rw [sortL_len]; omega) s1.h2 (by rw [sortL_len]; exact s1.h1); rw [sortL_len] at h; exact h) (fun _ => ?_);refine A4 ?_;refine at_end1 rfl (res_tmp rfl) (fun w hL => ⟨⟨s1.b, s1.n, s1.cap, Nat.le_trans hul s1.h1, s1.h2⟩, rfl, hL.pk [some 3]⟩)
end Go.Proofs.YtfijbadahkmhbaaGreatDoor
namespace Go.Proofs.YtfijbadahkmhbaaGreatDoor
open Go Go.RowKit Go.Via
noncomputable def chkQ (kind : Int) (l : List Bs8) (x : XT) : Nat :=
  if kind < 1 ∨ 3 < kind then 4
  else if ((l.length : Nat) : Int) ≠ kind - 1 then 5
  else if l.all nameL = false then 34
  else if l.length = 2 ∧ l[0]? = l[1]? then 8
  else if chkE x ≠ 0 then chkE x
  else if (varsU x).all l.contains = false then 16
  else 0
abbrev QBx (g : Nat) (kind : Int) (b : Option Nat) (pre : List Value) (l : List Bs8) (cap : Nat) {x : XT} (z : XR x) : Blk := ⟨some g, 39, [.int .i64 kind, slv b pre.length l.length cap, .int .i64 z.op, .string z.nm, .bool z.b1, .string z.s1, .bool z.b2, .string z.s2, .slice z.a z.n z.cap], 9, true⟩
abbrev QV (kind : Int) (b : Option Nat) (pre : List Value) (l : List Bs8) (cap : Nat) {x : XT} (z : XR x) : Value := .agg #[.int .i64 kind, slv b pre.length l.length cap, .int .i64 z.op, .string z.nm, .bool z.b1, .string z.s1, .bool z.b2, .string z.s2, .slice z.a z.n z.cap]
theorem all_false_at {α : Type} {f : α → Bool} {l : List α} {i : Nat} {v : α} (h : l[i]? = some v) (hf : f v = false) : l.all f = false := by
  rw [← Bool.not_eq_true]
  intro h2
  have := List.all_eq_true.1 h2 v (List.mem_of_getElem? h)
  rw [hf] at this; cases this
theorem all_step {α : Type} {f : α → Bool} {l : List α} {i : Nat} {v : α} (hl : (l.take i).all f = true) (h : l[i]? = some v) (hf : f v = true) : (l.take (i + 1)).all f = true := by
  rw [List.take_add_one, h, List.all_append, hl]
  simp [hf]
theorem all_full {α : Type} {f : α → Bool} {l : List α} {i : Nat} (hl : (l.take i).all f = true) (h : l.length ≤ i) : l.all f = true := by
  rwa [List.take_of_length_le h] at hl
theorem SB_ne {l : List Bs8} (h : 0 < l.length) : SB l ≠ [] := fun e => by
  have := congrArg List.length e
  rw [SB_length] at this
  simp at this
  subst this
  simp at h
end Go.Proofs.YtfijbadahkmhbaaGreatDoor
set_option maxRecDepth 20000
namespace Go.Proofs.YtfijbadahkmhbaaGreatDoor
open Go Go.RowKit Go.Via Go.ChangeShapes Go.WideShapes
section
variable {H : Type} {enc : TypeId × Value → H} {w : World}
end
abbrev BlkIn (W : World) (b : Blk) : Prop := (∀ g, b.base = some g → BlkAt (Bs.of W) W b g) ∧ (b.base = none → b.cs = [] ∧ b.n = 0 ∧ ∀ T : Tab, gtOK T = true → b.e = gE T → ∀ p ∈ T, TabCell W p)
theorem blk_gm {W : World} {m : Int} (hm : BlkAt (Bs.of W) W (GM m) 0) : BlkIn W (GM m) := ⟨fun g hg => by cases hg; exact hm, fun hn => by cases hn⟩
theorem blk_tab {W : World} {T : Tab} (hT : gtOK T = true) (h : ∀ p ∈ T, TabCell W p) : BlkIn W (gB T false) := ⟨fun g hg => (by cases hg), fun _ => ⟨rfl, rfl, tab_blk hT h⟩⟩
theorem allIn {W : World} : ∀ {L : List Blk}, List.foldr (fun b p => (b.own = false ∧ BlkIn W b) ∧ p) True L → LRel (Bs.of W) L W := fun {L} h => by
  have key : ∀ L : List Blk, List.foldr (fun b p => (b.own = false ∧ BlkIn W b) ∧ p) True L → ∀ b ∈ L, b.own = false ∧ BlkIn W b := by
    intro L
    induction L with
    | nil => intro _ b hb; cases hb
    | cons a L ih =>
      intro h b hb
      rcases List.mem_cons.1 hb with rfl | hb
      · exact h.1
      · exact ih h.2 b hb
  exact relAll (fun b hb => (key L h b hb).1) (fun b hb => (key L h b hb).2)
end Go.Proofs.YtfijbadahkmhbaaGreatDoor
namespace Go.Via
open Go Go.RowKit
theorem b_irr : ∀ a : Bs8, ¬ a < a
  | [] => List.not_lt_nil []
  | x :: a => by
    rw [List.cons_lt_cons_iff]
    rintro (h | ⟨_, h⟩)
    · exact absurd h (UInt8.lt_irrefl x)
    · exact b_irr a h
theorem b_trans : ∀ {a b c : Bs8}, a < b → b < c → a < c
  | a, b, [], _, h => absurd h (List.not_lt_nil b)
  | [], _, _ :: _, _, _ => List.nil_lt_cons _ _
  | _ :: _, [], _ :: _, h, _ => absurd h (List.not_lt_nil _)
  | x :: a, y :: b, z :: c, h1, h2 => by
    rw [List.cons_lt_cons_iff] at *
    rcases h1 with h1 | ⟨rfl, h1⟩
    · rcases h2 with h2 | ⟨rfl, h2⟩
      · exact .inl (UInt8.lt_trans h1 h2)
      · exact .inl h1
    · rcases h2 with h2 | ⟨rfl, h2⟩
      · exact .inl h2
      · exact .inr ⟨rfl, b_trans h1 h2⟩
theorem b_tri : ∀ a b : Bs8, a < b ∨ a = b ∨ b < a
  | [], [] => .inr (.inl rfl)
  | [], _ :: _ => .inl (List.nil_lt_cons _ _)
  | _ :: _, [] => .inr (.inr (List.nil_lt_cons _ _))
  | x :: a, y :: b => by
    rw [List.cons_lt_cons_iff, List.cons_lt_cons_iff]
    by_cases h : x < y
    · exact .inl (.inl h)
    · by_cases h2 : y < x
      · exact .inr (.inr (.inl h2))
      · have e : x = y := by
          apply UInt8.toNat_inj.1
          rw [UInt8.lt_iff_toNat_lt] at h h2
          omega
        subst e
        rcases b_tri a b with h3 | rfl | h3
        · exact .inl (.inr ⟨rfl, h3⟩)
        · exact .inr (.inl rfl)
        · exact .inr (.inr (.inr ⟨rfl, h3⟩))
theorem b_le {a b : Bs8} : a ≤ b ↔ a < b ∨ a = b := by
  have h : a ≤ b ↔ ¬ b < a := Iff.rfl
  rw [h]
  constructor
  · intro hn
    rcases b_tri a b with h | h | h
    · exact .inl h
    · exact .inr h
    · exact absurd h hn
  · rintro (h | rfl) h2
    · exact b_irr _ (b_trans h h2)
    · exact b_irr _ h2
theorem rise_eq : ∀ {l m : List Bs8}, l.Pairwise (· < ·) → m.Pairwise (· < ·) → (∀ a, a ∈ l ↔ a ∈ m) → l = m
  | [], [], _, _, _ => rfl
  | [], b :: m, _, _, h => absurd ((h b).2 List.mem_cons_self) (by simp)
  | a :: l, [], _, _, h => absurd ((h a).1 List.mem_cons_self) (by simp)
  | a :: l, b :: m, hl, hm, h => by
    rw [List.pairwise_cons] at hl hm
    have e : a = b := by
      rcases List.mem_cons.1 ((h a).1 List.mem_cons_self) with e | h1
      · exact e
      · rcases List.mem_cons.1 ((h b).2 List.mem_cons_self) with e | h2
        · exact e.symm
        · exact absurd (b_trans (hl.1 b h2) (hm.1 a h1)) (b_irr a)
    subst e
    rw [rise_eq hl.2 hm.2 fun c => ?_]
    constructor
    · intro hc
      rcases List.mem_cons.1 ((h c).1 (List.mem_cons_of_mem _ hc)) with e | h1
      · subst e; exact absurd (hl.1 _ hc) (b_irr _)
      · exact h1
    · intro hc
      rcases List.mem_cons.1 ((h c).2 (List.mem_cons_of_mem _ hc)) with e | h1
      · subst e; exact absurd (hm.1 _ hc) (b_irr _)
      · exact h1
def insU (a : Bs8) : List Bs8 → List Bs8
  | [] => [a]
  | b :: l => if b < a then b :: insU a l else if b = a then b :: l else a :: b :: l
theorem mem_insU {a c : Bs8} : ∀ {l : List Bs8}, c ∈ insU a l ↔ c = a ∨ c ∈ l
  | [] => by simp [insU]
  | b :: l => by
    unfold insU
    split
    · rw [List.mem_cons, mem_insU, List.mem_cons]
      constructor
      · rintro (h | h | h) <;> simp [h]
      · rintro (h | h | h) <;> simp [h]
    · split
      · rename_i h1 h2
        subst h2
        simp
      · simp
theorem insU_rise {a : Bs8} : ∀ {l : List Bs8}, l.Pairwise (· < ·) → (insU a l).Pairwise (· < ·)
  | [], _ => by simp [insU]
  | b :: l, h => by
    have h' := List.pairwise_cons.1 h
    unfold insU
    split
    · rename_i hb
      refine List.pairwise_cons.2 ⟨fun c hc => ?_, insU_rise h'.2⟩
      rcases mem_insU.1 hc with rfl | hc
      · exact hb
      · exact h'.1 c hc
    · split
      · exact h
      · rename_i h1 h2
        have hab : a < b := by
          rcases b_tri a b with h3 | h3 | h3
          · exact h3
          · exact absurd h3.symm h2
          · exact absurd h3 h1
        refine List.pairwise_cons.2 ⟨fun c hc => ?_, h⟩
        rcases List.mem_cons.1 hc with rfl | hc
        · exact hab
        · exact b_trans hab (h'.1 c hc)
theorem insU_len (a : Bs8) : ∀ l : List Bs8, (insU a l).length ≤ l.length + 1
  | [] => by simp [insU]
  | b :: l => by
    unfold insU
    split
    · have := insU_len a l; simp; omega
    · split <;> simp
def insAll (out l : List Bs8) : List Bs8 := l.foldl (fun o a => insU a o) out
theorem insAll_rise : ∀ (l out : List Bs8), out.Pairwise (· < ·) → (insAll out l).Pairwise (· < ·)
  | [], _, h => h
  | a :: l, out, h => insAll_rise l _ (insU_rise h)
theorem mem_insAll {c : Bs8} : ∀ {l out : List Bs8}, c ∈ insAll out l ↔ c ∈ out ∨ c ∈ l
  | [], out => by simp [insAll]
  | a :: l, out => by
    show c ∈ insAll (insU a out) l ↔ _
    rw [mem_insAll, mem_insU, List.mem_cons]
    constructor
    · rintro ((h | h) | h) <;> simp [h]
    · rintro (h | h | h) <;> simp [h]
theorem insAll_len : ∀ (l out : List Bs8), (insAll out l).length ≤ out.length + l.length
  | [], out => by simp [insAll]
  | a :: l, out => by
    show (insAll (insU a out) l).length ≤ _
    have := insAll_len l (insU a out)
    have := insU_len a out
    simp; omega
theorem insAll_take {l out : List Bs8} {k : Nat} {a : Bs8} (h : l[k]? = some a) : insAll out (l.take (k + 1)) = insU a (insAll out (l.take k)) := by
  unfold insAll
  rw [List.take_add_one, h, List.foldl_append]; rfl
mutual
def mvars : XT → List Bs8
  | .mk o nm u l => mvarss (if o = 4 then [nm] else []) l
def mvarss (out : List Bs8) : List XT → List Bs8
  | [] => out
  | x :: l => mvarss (insAll out (mvars x)) l
end
theorem mvars_eq (x : XT) : mvars x = mvarss (if x.op = 4 then [x.name] else []) x.args := by cases x; rw [mvars]; rfl
theorem mvarss_step {l : List XT} {i : Nat} {y : XT} {out : List Bs8} (h : l[i]? = some y) : mvarss out (l.drop i) = mvarss (insAll out (mvars y)) (l.drop (i + 1)) := by
  obtain ⟨hl, rfl⟩ := List.getElem?_eq_some_iff.1 h
  rw [List.drop_eq_getElem_cons hl, mvarss]
mutual
theorem mvars_rise : ∀ x : XT, (mvars x).Pairwise (· < ·)
  | .mk o nm u l => by rw [mvars]; exact mvarss_rise l _ (by split <;> simp)
theorem mvarss_rise : ∀ (l : List XT) (out : List Bs8), out.Pairwise (· < ·) → (mvarss out l).Pairwise (· < ·)
  | [], out, h => by rw [mvarss]; exact h
  | x :: l, out, h => by rw [mvarss]; exact mvarss_rise l _ (insAll_rise _ _ h)
end
mutual
theorem mem_mvars {c : Bs8} : ∀ x : XT, c ∈ mvars x ↔ c ∈ varsL x
  | .mk o nm u l => by rw [mvars, varsL, mem_mvarss l, List.mem_append]
theorem mem_mvarss {c : Bs8} : ∀ (l : List XT) {out : List Bs8}, c ∈ mvarss out l ↔ c ∈ out ∨ c ∈ varsLs l
  | [], out => by rw [mvarss, varsLs]; simp
  | x :: l, out => by rw [mvarss, varsLs, mem_mvarss l, mem_insAll, mem_mvars x, List.mem_append, or_assoc]
end
mutual
theorem mvars_len : ∀ x : XT, (mvars x).length ≤ x.size
  | .mk o nm u l => by
    rw [mvars, XT.size]
    have := mvarss_len l (if o = 4 then [nm] else [])
    have h2 : (if o = 4 then [nm] else []).length ≤ 1 := by split <;> simp
    omega
theorem mvarss_len : ∀ (l : List XT) (out : List Bs8), (mvarss out l).length ≤ out.length + XT.sizes l
  | [], out => by rw [mvarss]; omega
  | x :: l, out => by
    rw [mvarss, XT.sizes]
    have := mvarss_len l (insAll out (mvars x))
    have := insAll_len (mvars x) out
    have := mvars_len x
    omega
end
theorem compact_rise {l : List Bs8} (h : l.Pairwise (· ≤ ·)) : (Lib.compact l).Pairwise (· < ·) ∧ ∀ a, a ∈ Lib.compact l ↔ a ∈ l := by
  have key : ∀ m, m ≤ l.length → (Lib.compactUpTo l.toArray m).Pairwise (· < ·) ∧ (∀ a, a ∈ Lib.compactUpTo l.toArray m ↔ a ∈ l.take m) := by
    intro m
    induction m with
    | zero => intro _; simp [Lib.compactUpTo]
    | succ m ih =>
      intro hm
      obtain ⟨i1, i2⟩ := ih (by omega)
      obtain ⟨z, hz⟩ : ∃ z, l[m]? = some z := ⟨l[m], List.getElem?_eq_getElem (by omega)⟩
      have hz' : l.toArray[m]! = z := by
        rw [getElem!_pos l.toArray m (by simp; omega)]
        obtain ⟨q1, q2⟩ := List.getElem?_eq_some_iff.1 hz
        simpa using q2
      rw [Lib.compactUpTo_succ, List.take_add_one, hz, hz']
      have hle : ∀ a ∈ l.take m, a ≤ z := fun a ha => by
        obtain ⟨j, hj, rfl⟩ := List.mem_take_iff_getElem.1 ha
        obtain ⟨q1, q2⟩ := List.getElem?_eq_some_iff.1 hz
        rw [← q2]
        exact List.pairwise_iff_getElem.1 h j m (by omega) q1 (by omega)
      by_cases hk : Lib.keeps l.toArray m = true
      · rw [if_pos hk]
        refine ⟨List.pairwise_append.2 ⟨i1, by simp, fun a ha b hb => ?_⟩, fun a => by simp [i2]⟩
        rw [List.mem_singleton.1 hb]
        have ha2 := (i2 a).1 ha
        rcases b_le.1 (hle a ha2) with h1 | rfl
        · exact h1
        · -- the one before is another one
          exfalso
          obtain ⟨j, hj, hja⟩ := List.mem_take_iff_getElem.1 ha2
          have hm0 : m ≠ 0 := by omega
          have hk2 : l.toArray[m]! ≠ l.toArray[m - 1]! := by
            unfold Lib.keeps at hk
            simp only [Bool.or_eq_true, beq_iff_eq, bne_iff_ne, decide_eq_true_eq, hm0, false_or] at hk
            exact hk
          rw [hz', getElem!_pos l.toArray (m - 1) (by simp; omega)] at hk2
          have hp : l.toArray[m - 1]'(by simp; omega) = l[m - 1]'(by omega) := by simp
          rw [hp] at hk2
          have h2 : l[m - 1]'(by omega) ≤ a := hle _ (List.mem_take_iff_getElem.2 ⟨m - 1, by omega, rfl⟩)
          have h3 : a ≤ l[m - 1]'(by omega) := by
            rw [← hja]
            by_cases e : j = m - 1
            · subst e; exact b_le.2 (.inr rfl)
            · exact List.pairwise_iff_getElem.1 h j (m - 1) (by omega) (by omega) (by omega)
          rcases b_le.1 h2 with h4 | h4
          · rcases b_le.1 h3 with h5 | h5
            · exact b_irr _ (b_trans h4 h5)
            · exact hk2 h5
          · exact hk2 h4.symm
      · rw [if_neg hk, List.append_nil]
        refine ⟨i1, fun a => ?_⟩
        rw [i2, List.mem_append]
        constructor
        · exact .inl
        · rintro (h1 | h1)
          · exact h1
          · have h1 : a = z := by simpa using h1
            subst h1
            have hm0 : m ≠ 0 := fun e => by subst e; simp [Lib.keeps] at hk
            have hk2 : l.toArray[m]! = l.toArray[m - 1]! := by
              unfold Lib.keeps at hk
              simpa [hm0] using hk
            rw [hz', getElem!_pos l.toArray (m - 1) (by simp; omega)] at hk2
            rw [hk2]
            exact List.mem_take_iff_getElem.2 ⟨m - 1, by omega, by simp⟩
  have := key l.length (Nat.le_refl _)
  rwa [List.take_of_length_le (Nat.le_refl _)] at this
end Go.Via
namespace Go.Proofs.YtfijbadahkmhbaaGreatDoor
open Go Go.RowKit Go.Via
theorem mvars_U (x : XT) : mvars x = varsU x := by
  have hs : (sortL (varsL x)).Pairwise (· ≤ ·) := by
    have := List.pairwise_mergeSort (le := fun (x y : Bs8) => decide (x ≤ y)) (fun a b c h1 h2 => by
      simp only [decide_eq_true_eq] at *
      rcases b_le.1 h1 with h3 | rfl
      · rcases b_le.1 h2 with h4 | rfl
        · exact b_le.2 (.inl (b_trans h3 h4))
        · exact h1
      · exact h2) (fun a b => by
      simp only [Bool.or_eq_true, decide_eq_true_eq]
      rcases b_tri a b with h | h | h
      · exact .inl (b_le.2 (.inl h))
      · exact .inl (b_le.2 (.inr h))
      · exact .inr (b_le.2 (.inl h))) (varsL x)
    exact this.imp (fun h => of_decide_eq_true h)
  obtain ⟨h1, h2⟩ := compact_rise hs
  refine rise_eq (mvars_rise x) h1 fun a => ?_
  rw [mem_mvars]
  show a ∈ varsL x ↔ a ∈ Lib.compact (sortL (varsL x))
  rw [h2]
  unfold sortL
  rw [List.mem_mergeSort]
end Go.Proofs.YtfijbadahkmhbaaGreatDoor
namespace Go.Via
open Go Go.RowKit
theorem at_seqX {P : Program} {B : Bs} {s : St} {Q : Exit → Act → World → Prop} {x y : Code} {nt : Nat} {X : Type} (T : X → List (Nat × Value)) (LL : X → List Blk)
    (h1 : At B s (x.wp P (Exit.then (fun a w => ∃ z, Rel B ⟨nt, T z, LL z⟩ a w) Q))) (h2 : ∀ z, At B ⟨nt, T z, LL z⟩ (y.wp P Q)) : At B s ((Code.seq x y).wp P Q) :=
  at_seq fun a w hr => Code.wp_mono (fun e a w h => by
    cases e with
    | normal => obtain ⟨z, h⟩ := h; exact h2 z a w h
    | _ => exact h) (h1 a w hr)
theorem at_intoX {B : Bs} {nt : Nat} {t : List (Nat × Value)} {L : List Blk} {X : Type} {T : X → List (Nat × Value)} {LL : X → List Blk} (z : X) (lk : LookAll t (T z)) (hw : Weak L (LL z)) : At B ⟨nt, t, L⟩ (fun a w => ∃ z, Rel B ⟨nt, T z, LL z⟩ a w) := fun a w hr =>
  ⟨z, hr.df, hr.size, fun d v hd => hr.tmp d v (lk.mem (d, v) (look_mem hd)), hw _ _ hr.mem⟩
theorem SB_takeC (l : List Bs8) (k : Nat) : (SB l).take (k * 1) = SB (l.take k) := by simp [SB, List.map_take]
theorem SB_dropC (l : List Bs8) (k : Nat) : ((SB l).drop (k * 1)).take ((l.length - k) * 1) = SB (l.drop k) := by
  rw [Nat.mul_one, Nat.mul_one]
  have e : (SB l).drop k = SB (l.drop k) := by simp [SB, List.map_drop]
  rw [e]
  exact List.take_of_length_le (by rw [SB_length, List.length_drop]; exact Nat.le_refl _)
theorem sb_cons (l : List Bs8) (k : Nat) (a : Bs8) (hk : k ≤ l.length) : ((([.string (strU a)] : List Value) ++ SB (l.drop k)).drop 0).take ((1 + (l.length - k)) * 1) = [.string (strU a)] ++ SB (l.drop k) := by
  rw [List.drop_zero]
  exact List.take_of_length_le (by rw [List.length_append, SB_length, List.length_drop]; simp)
theorem sb_clen (l : List Bs8) (k : Nat) (a : Bs8) (hk : k ≤ l.length) : (([.string (strU a)] : List Value) ++ SB (l.drop k)).length = (1 + (l.length - k)) * 1 := by
  rw [List.length_append, SB_length, List.length_drop]; simp
theorem sb_cone (a : Bs8) (l : List Bs8) : ∀ v ∈ ([.string (strU a)] : List Value) ++ SB l, v.oneCell' = true := fun v h => by
  rcases List.mem_append.1 h with h | h
  · rw [List.mem_singleton.1 h]; rfl
  · exact SB_one l v h
theorem mv_init {x : XT} {l0 : List Bs8} (h : l0 = if x.op = 4 then [x.name] else []) : l0.length + XT.sizes (x.args.drop 0) ≤ x.size := by
  have h2 : l0.length ≤ 1 := by rw [h]; split <;> simp
  have := XT.size_eq x
  rw [List.drop_zero]; omega
theorem sb_base {b : Option Nat} {l : List Bs8} (hl : 0 < l.length) (h : b = none → SB l = []) : ∃ g, b = some g := by
  cases b with
  | none => exact absurd (congrArg List.length (h rfl)) (by rw [SB_length, List.length_nil]; omega)
  | some g => exact ⟨g, rfl⟩
theorem insU_at : ∀ {l : List Bs8} {n : Bs8} {k : Nat}, k ≤ l.length → (∀ j z, j < k → l[j]? = some z → z < n) → (∀ z, l[k]? = some z → ¬ z < n ∧ z ≠ n) → insU n l = l.take k ++ n :: l.drop k
  | [], n, k, hk, h1, h2 => by
    have : k = 0 := by simpa using hk
    subst this; rfl
  | a :: l, n, 0, hk, h1, h2 => by
    have := h2 a rfl
    unfold insU
    rw [if_neg this.1, if_neg this.2]; rfl
  | a :: l, n, k + 1, hk, h1, h2 => by
    have ha := h1 0 a (by omega) rfl
    have ih := insU_at (l := l) (n := n) (k := k) (by simpa using hk) (fun j z hj hz => h1 (j + 1) z (by omega) (by simpa using hz)) (fun z hz => h2 z (by simpa using hz))
    unfold insU
    rw [if_pos ha, ih]; rfl
theorem insU_eq : ∀ {l : List Bs8} {n : Bs8} {k : Nat}, (∀ j z, j < k → l[j]? = some z → z < n) → l[k]? = some n → insU n l = l
  | [], n, k, h1, h2 => by simp at h2
  | a :: l, n, 0, h1, h2 => by
    simp at h2
    subst h2
    unfold insU
    rw [if_neg (b_irr a), if_pos rfl]
  | a :: l, n, k + 1, h1, h2 => by
    have ha := h1 0 a (by omega) rfl
    have ih := insU_eq (l := l) (n := n) (k := k) (fun j z hj hz => h1 (j + 1) z (by omega) (by simpa using hz)) (by simpa using h2)
    unfold insU
    rw [if_pos ha, ih]
theorem bl_eq : ∀ (x y : Bs8), Op.bytesLess x y = decide (x < y)
  | [], [] => by simp [Op.bytesLess]
  | _ :: _, [] => by simp [Op.bytesLess]
  | [], _ :: _ => by simp [Op.bytesLess]
  | a :: x, b :: y => by
    rw [Op.bytesLess, bl_eq x y]
    simp only [List.cons_lt_cons_iff]
    by_cases h1 : a < b <;> by_cases h2 : a = b <;> by_cases h3 : x < y <;> simp [h1, h2, h3]
section
variable {P : Program} {bl : List Nat} {ops : Array Oper} {K : St → Prop} {rest : List Oper} {nt : Nat} {t : List (Nat × Value)} {L : List Blk} {d : Nat} {ty : TypeId} {pos : String} {af : Array Edge} {g : Option (Nat × Bool)} {x y : Operand}
theorem r_lssStr {T U : Nat} {m n : Bs8} (hd : Nat.blt d nt = true) (hg : wantedS ops ⟨some d, .binOp .lss T x y U, ty, pos, af, g⟩ t = some true) (hx : ev t x = some (.string (strU m))) (hy : ev t y = some (.string (strU n)))
    (h : Run P bl ops rest ⟨nt, (d, .bool (decide (m < n))) :: t, L⟩ K) : Run P bl ops (⟨some d, .binOp .lss T x y U, ty, pos, af, g⟩ :: rest) ⟨nt, t, L⟩ K :=
  run_q hd hg rfl (fun B a w hrel => by
    have e : Op.bytesLess (strU m).toList (strU n).toList = decide (m < n) := by
      rw [Lib.toList_data, Lib.toList_data]
      exact bl_eq m n
    simp [execOp, hrel.ev hx, hrel.ev hy, eqGuard, binOp, Op.stringOp, e]) h
end
theorem ECall.toS {P : Program} {f : Nat} {L0 : List Blk} {args : List Value} {X : Type} {res : X → Value} {new : X → List Blk} (h : ECall P f L0 args X res new) : SCall P f L0 args X res new := ⟨h.1, fun w hL => h.2 (Bs.of w) w rfl hL⟩
end Go.Via
namespace Go.Proofs.YtfijbadahkmhbaaGreatDoor
open Go Go.RowKit Go.Via
def MvaC (y : XT) : Prop := ∀ (u : XR y), y.size ≤ 1000000 → ECall Tryz.prog 26 [gB u.T false] [u.v] (SRw (mvars y)) (fun s => slv s.b 0 (mvars y).length s.cap) (fun s => [VR s])
end Go.Proofs.YtfijbadahkmhbaaGreatDoor
set_option maxHeartbeats 20000000
namespace Go.Proofs.YtfijbadahkmhbaaGreatDoor
open Go Go.RowKit Go.Via
set_option maxRecDepth 20000 in
theorem c_sameStrings (b1 : Option Nat) (e1 : Nat) (p1 : List Value) (l1 : List Bs8) (n1 c1 : Nat) (b2 : Option Nat) (e2 : Nat) (p2 : List Value) (l2 : List Bs8) (n2 c2 : Nat) (hl1 : l1.length ≤ 1000000000) : ECall Tryz.prog 24 [VBk b1 e1 p1 l1 n1, VBk b2 e2 p2 l2 n2] [slv b1 p1.length l1.length c1, slv b2 p2.length l2.length c2] Unit (fun _ => .bool (decide (l1 = l2))) (fun _ => []) := by
 refine ⟨by kernel_rfl, fun B w hD hL0 => ?_⟩;refine cB2 26 Tryz.func24 hL0 ?_;refine A15 ?_;refine Cd ?_ ?_<;>intro hb0
 ·have hll : ((l1.length : Nat) : Int) ≠ (l2.length : Nat) := by have hh := hb0; simpa using hh
  refine A7 ?_;refine at_end1 rfl (res_tmp rfl) (fun w hL => ⟨(), congrArg (fun b => Ending.returned (.bool b)) (decide_eq_false (by intro e; rw [e] at hll; exact hll rfl)).symm, hL.pk []⟩)
 ·have hll : ((l1.length : Nat) : Int) = (l2.length : Nat) := by have hh := hb0; simpa using hh
  refine A9 ?_;refine El (ι := {i : Nat // i ≤ l1.length ∧ l1.take i = l2.take i}) (fun ⟨i, hi, hI⟩ => ([(0, slv b1 p1.length l1.length c1), (1, slv b2 p2.length l2.length c2), (5, .int .i64 (i : Nat))], [VBk b1 e1 p1 l1 n1, VBk b2 e2 p2 l2 n2], l1.length - i)) ⟨0, Nat.zero_le _, rfl⟩ ?_ (hL := Weak.auto);rintro ⟨i, hi, hI⟩;(try dsimp only);refine A9 ?_;refine Cd ?_ ?_<;>intro hb2
  ·have hlt : i < l1.length := (by have := of_decide_eq_true hb2; omega);obtain ⟨a, ha⟩ : ∃ a, l1[i]? = some a := ⟨l1[i], List.getElem?_eq_getElem hlt⟩;obtain ⟨c, hc⟩ : ∃ c, l2[i]? = some c := ⟨l2[i]'(by omega), List.getElem?_eq_getElem _⟩;refine A5 ?_;refine at_drawnI [] mixed (by kernel_rfl) (by kernel_rfl) ?_;refine A2 ?_;refine r_indexAddr 0 (p1.length + i * 1) u36 ti9 rfl rfl rfl rfl rfl (by omega) (by omega) (pre_ne (SB_ne (by omega))) (by show _ + Int.toNat _ * 1 = _; omega) ?_;refine r_load (v := .string (strU a)) 0 (p1.length + i * 1) _ rfl rfl rfl rfl ti9 (pre_get (SB_get ha) rfl) rfl (by decide) rfl ?_;refine A2 ?_;refine r_indexAddr 1 (p2.length + i * 1) u36 ti9 rfl rfl rfl rfl rfl (by omega) (by omega) (pre_ne (SB_ne (by omega))) (by show _ + Int.toNat _ * 1 = _; omega) ?_;refine r_load (v := .string (strU c)) 1 (p2.length + i * 1) _ rfl rfl rfl rfl ti9 (pre_get (SB_get hc) rfl) rfl (by decide) rfl ?_;refine A1 ?_;refine r_know 25 (.bool (a != c)) rfl (by rw [bne, strU_beq]; rfl) ?_;refine A2 ?_;refine Cd ?_ ?_<;>intro hb3
   ·have hac : a ≠ c := by have hh := hb3; simpa using hh
    refine A11 ?_;refine at_end1 rfl (res_tmp rfl) (fun w hL => ⟨(), congrArg (fun b => Ending.returned (.bool b)) (decide_eq_false (by intro e; subst e; rw [ha] at hc; exact hac (Option.some.inj hc))).symm, hL.pk []⟩)
   ·have hac : a = c := by have hh := hb3; simpa using hh
    refine A5 ?_;refine Ar (((i + 1 : Nat) : Int)) ?_;refine A3 ?_;exact Nl ⟨i + 1, hlt, by rw [List.take_add_one, List.take_add_one, hI, ha, hc, hac]⟩ (hL := Weak.auto)
  ·have hge : i = l1.length := (by have := of_decide_eq_false hb2; omega);refine A11 ?_;refine at_end1 rfl (res_tmp rfl) (fun w hL => ⟨(), congrArg (fun b => Ending.returned (.bool b)) (decide_eq_true (by have e1 := List.take_of_length_le (Nat.le_of_eq hge.symm) (l := l1); have e2 : l2.take i = l2 := List.take_of_length_le (by omega); rw [← e1, hI, e2])).symm, hL.pk []⟩)
set_option maxRecDepth 20000 in
theorem c_mvars_step {x : XT} (z : XR x) (H : ∀ y : XT, y.size < x.size → MvaC y) (hM : x.size ≤ 1000000) : ECall Tryz.prog 26 [gB z.T false] [z.v] (SRw (mvars x)) (fun s => slv s.b 0 (mvars x).length s.cap) (fun s => [VR s]) := by
 refine ⟨by kernel_rfl, fun B w hD hL0 => ?_⟩;obtain ⟨h1, h2, h3, h4, h5, h6⟩ := z.inv;refine cB1 80 Tryz.func26 hL0 ?_;refine A2 ?_;refine Bo [_, _, _, _, _, _, _] 7 (fun g => [_, ⟨some g, 30, _, 7, true⟩]) (fun g0 => ?_);refine A8 ?_;refine at_seqX (nt := 80) (X := {q : List Bs8 × Option Nat × Nat × Nat // q.1 = (if x.op = 4 then [x.name] else []) ∧ q.1.length ≤ q.2.2.2 ∧ q.2.2.2 ≤ q.2.2.1}) (fun ⟨⟨l0, ob, oN, oc⟩, hl0, h1o, h2o⟩ => [(1, .pointer (some ⟨g0, 0, none⟩)), (3, slv ob 0 l0.length oc)]) (fun ⟨⟨l0, ob, oN, oc⟩, hl0, h1o, h2o⟩ => [gB z.T false, XB g0 z, ⟨ob, 9, SB l0, oN, true⟩]) ?_ ?_
 ·refine A7 ?_;refine Cd ?_ ?_<;>intro hb0
  ·have hop : x.op = 4 := by rw [← h1]; have hh := hb0; simpa using hh
   refine A3 ?_;refine r_know 12 (.string (strU x.name)) rfl (by rw [h2]) ?_;refine r_buildSlice [(0, _)] (fun g => [_, _, ⟨some g, 9, _, 1, true⟩]) rfl rfl rfl (bs36_1) rfl (fun _ => rfl) (fun g1 => ?_);refine A3 ?_;exact at_intoX ⟨([x.name], some g1, 1, 1), (if_pos hop).symm, Nat.le_refl _, Nat.le_refl _⟩ ⟨rfl, rfl, trivial⟩ (weak_pk [some 0, some 1, some 2])
  ·have hop : x.op ≠ 4 := by rw [← h1]; have hh := hb0; simpa using hh
   refine A2 ?_;exact at_intoX ⟨([], none, 0, 0), (if_neg hop).symm, Nat.le_refl _, Nat.le_refl _⟩ ⟨rfl, rfl, trivial⟩ (weak_picks [some 0, some 1, none] ⟨⟨_, rfl, Blk.le_refl _⟩, ⟨_, rfl, Blk.le_refl _⟩, ⟨rfl, rfl, rfl⟩, trivial⟩ rfl rfl)
 rintro ⟨⟨l0, ob, oN, oc⟩, hl0, h1o, h2o⟩;show At _ ⟨80, [(1, .pointer (some ⟨g0, 0, none⟩)), (3, slv ob 0 l0.length oc)], [gB z.T false, XB g0 z, ⟨ob, 9, SB l0, oN, true⟩]⟩ _;dsimp only at hl0 h1o h2o;refine A7 ?_;refine El (ι := {q : Nat × List Bs8 × Option Nat × Nat × Nat // q.1 ≤ x.args.length ∧ mvars x = mvarss q.2.1 (x.args.drop q.1) ∧ q.2.1.length ≤ q.2.2.2.2 ∧ q.2.2.2.2 ≤ q.2.2.2.1 ∧ q.2.1.length + XT.sizes (x.args.drop q.1) ≤ 1000000}) (fun ⟨⟨i, m, ob, oN, oc⟩, hi, hI, h1o, h2o, hB⟩ => ([(1, .pointer (some ⟨g0, 0, none⟩)), (3, slv ob 0 m.length oc), (4, .int .i64 (i : Nat))], [gB z.T false, XB g0 z, ⟨ob, 9, SB m, oN, true⟩], x.args.length - i)) ⟨(0, l0, ob, oN, oc), Nat.zero_le _, by rw [mvars_eq, hl0, List.drop_zero], h1o, h2o, Nat.le_trans (mv_init hl0) hM⟩ ?_ (hL := Weak.auto);rintro ⟨⟨i, m, ob, oN, oc⟩, hi, hI, h1o, h2o, hB⟩;(try dsimp only);dsimp only at hi hI h1o h2o hB;refine A7 ?_;refine r_know 17 (.int .i64 (x.args.length : Nat)) rfl (by rw [h5]) ?_;refine A3 ?_;refine Cd ?_ ?_<;>intro hb2
 ·have hlt : i < x.args.length := by have := of_decide_eq_true hb2; omega
  obtain ⟨y, hy⟩ : ∃ y, x.args[i]? = some y := ⟨x.args[i], List.getElem?_eq_getElem hlt⟩;obtain ⟨ga, oa, ca, u, hza, hma, hra, hTa, hna⟩ := z.arg hy;have hyl := mvars_len y;have hys := XT.sizes_drop hy;have hsz := XT.size_eq x;have hal := XT.len_sizes x.args;refine A5 ?_;refine at_regionM ?_;refine A3 ?_;refine r_indexAddrG (gg := ga) (len := z.n) (cap := z.cap) (oa + i * 7) u28 ti30 rfl rfl (congrArg (fun a => some (Value.slice a z.n z.cap)) hza) rfl (by omega) (by omega) (by show oa + Int.toNat _ * 7 = _; omega) ?_;refine r_loadT (v := u.v) 0 (oa + i * 7) u.cs rfl rfl rfl z.hT hma hna rfl ti30 hra rfl rfl rfl ?_;refine Gm 0 [] [0] (fun s2 => [_, _, _, VR s2]) (by have h := H y (XT.arg_lt hy) u (by have := XT.sizes_get hy; omega); rw [hTa] at h; exact h) (fun s2 => ?_);refine A9 ?_;refine El (ι := {q : Nat × List Bs8 × Option Nat × Nat × Nat // q.1 ≤ (mvars y).length ∧ q.2.1 = insAll m ((mvars y).take q.1) ∧ q.2.1.length ≤ q.2.2.2.2 ∧ q.2.2.2.2 ≤ q.2.2.2.1 ∧ q.2.1.length + ((mvars y).length - q.1) + XT.sizes (x.args.drop (i + 1)) ≤ 1000000}) (fun ⟨⟨k, o, pb, pN, pc⟩, hk, ho, h1p, h2p, hBo⟩ => ([(1, .pointer (some ⟨g0, 0, none⟩)), (3, slv pb 0 o.length pc), (4, .int .i64 (i : Nat)), (5, slv s2.b 0 (mvars y).length s2.cap), (6, .int .i64 (k : Nat))], [gB z.T false, XB g0 z, ⟨pb, 9, SB o, pN, true⟩, VR s2], (mvars y).length - k)) ⟨(0, m, ob, oN, oc), Nat.zero_le _, rfl, h1o, h2o, by show m.length + ((mvars y).length - 0) + _ ≤ _; omega⟩ ?_ (hL := Weak.auto);rintro ⟨⟨k, o, pb, pN, pc⟩, hk, ho, h1p, h2p, hBo⟩;(try dsimp only);dsimp only at hk ho h1p h2p hBo;refine A9 ?_;refine Cd ?_ ?_<;>intro hb4
  ·have hkl : k < (mvars y).length := (by have := of_decide_eq_true hb4; omega);obtain ⟨a, ha⟩ : ∃ a, (mvars y)[k]? = some a := ⟨(mvars y)[k], List.getElem?_eq_getElem hkl⟩;refine A11 ?_;refine El (ι := {p : Nat // p ≤ o.length ∧ ∀ j z, j < p → o[j]? = some z → z < a}) (fun ⟨p, hp, hall⟩ => ([(1, .pointer (some ⟨g0, 0, none⟩)), (3, slv pb 0 o.length pc), (4, .int .i64 (i : Nat)), (5, slv s2.b 0 (mvars y).length s2.cap), (6, .int .i64 (k : Nat)), (7, .int .i64 (p : Nat))], [gB z.T false, XB g0 z, ⟨pb, 9, SB o, pN, true⟩, VR s2], o.length - p)) ⟨0, Nat.zero_le _, fun j z hj => absurd hj (by omega)⟩ ?_ (hL := Weak.auto);rintro ⟨p, hp, hall⟩;(try dsimp only);refine A2 ?_;refine at_drawnI [] mixed (by kernel_rfl) (by kernel_rfl) ?_;refine A5 ?_;refine Rs 37 ?_ ?_<;>intro hb6
   ·have hpl : p < o.length := (by have := of_decide_eq_true hb6; omega);obtain ⟨c, hc⟩ : ∃ c, o[p]? = some c := ⟨o[p], List.getElem?_eq_getElem hpl⟩;refine A2 ?_;refine Ix 2 (p * 1) ?_;refine r_load (v := .string (strU c)) 2 (p * 1) _ rfl rfl rfl rfl ti9 (SB_get hc) rfl (by decide) rfl ?_;refine A2 ?_;refine Ix 3 (k * 1) ?_;refine r_load (v := .string (strU a)) 3 (k * 1) _ rfl rfl rfl rfl ti9 (SB_get ha) rfl (by decide) rfl ?_;refine r_lssStr rfl rfl rfl rfl ?_;refine A3 ?_;refine Cd ?_ ?_<;>intro hb7
    ·have hca : c < a := of_decide_eq_true hb7;refine A5 ?_;refine Ar (((p + 1 : Nat) : Int)) ?_;refine A4 ?_;exact nextL ⟨p + 1, hpl, fun j z hj hz => by
      by_cases e : j = p
      · subst e; rw [hc] at hz; cases hz; exact hca
      · exact hall j z (by omega) hz⟩ (by simp only []; omega) ⟨rfl, rfl, rfl, rfl, rfl, rfl, trivial⟩ (weak_pk [some 0, some 1, some 2, some 3])
    ·have hca : ¬ c < a := of_decide_eq_false hb7;refine A6 ?_;refine at_drawnI [] mixed (by kernel_rfl) (by kernel_rfl) ?_;refine A4 ?_;refine r_know 53 (.bool false) rfl (congrArg Value.bool (beq_eq_false_iff_ne.2 (by omega))) ?_;refine A3 ?_;refine Ix 2 (p * 1) ?_;refine r_load (v := .string (strU c)) 2 (p * 1) _ rfl rfl rfl rfl ti9 (SB_get hc) rfl (by decide) rfl ?_;refine A2 ?_;refine Ix 3 (k * 1) ?_;refine r_load (v := .string (strU a)) 3 (k * 1) _ rfl rfl rfl rfl ti9 (SB_get ha) rfl (by decide) rfl ?_;refine A1 ?_;refine r_know 63 (.bool (c != a)) rfl (by rw [bne, strU_beq]; rfl) ?_;refine A3 ?_;refine Cd ?_ ?_<;>intro hb8
     ·have hne : c ≠ a := by have hh := hb8; simpa using hh
      have hins : insU a o = o.take p ++ a :: o.drop p := insU_at hp hall (fun z hz => by rw [hc] at hz; cases hz; exact ⟨hca, hne⟩);refine at_base 2 rfl (fun hbase => ?_);obtain ⟨go, hgo⟩ := sb_base (by omega) hbase;replace hgo : pb = some go := hgo;subst hgo;refine at_drawnE (l' := [⟨_,_,_,_,_,_⟩, ⟨_,_,_,_,_,_⟩, ⟨_,_,_,_,_,_⟩, ⟨_,_,_,_,_,_⟩, ⟨_,_,_,_,_,_⟩, ⟨_,_,_,_,_,_⟩, ⟨_,_,_,_,_,_⟩, ⟨_,_,_,_,_,_⟩, ⟨_,_,_,_,_,_⟩]) [0, 1, 2, 3, 4, 5, 9, 10, 11] 6 mixed (by kernel_rfl) rfl ?_;refine A3 ?_;refine r_sliceK p u36 ti9 rfl rfl rfl rfl rfl (by omega) ?_;refine A4 ?_;refine r_sliceM (off' := p * 1) (n' := o.length - p) (c' := pc - p) p u36 ti9 rfl rfl rfl rfl (by omega) (if_neg (by omega)) rfl rfl ?_;refine A1 ?_;refine Tn1 6 ?_
      ·refine Ix 3 (k * 1) ?_;refine A1 ?_;refine Tn1 7 ?_
       ·refine r_load (v := .string (strU a)) 3 (k * 1) _ rfl rfl rfl rfl ti9 (SB_get ha) rfl (by decide) rfl ?_;refine A1 ?_;refine Tn1 8 ?_
        ·refine r_buildSlice [(0, _)] (fun g => [_, _, _, _, ⟨some g, 9, _, 1, true⟩]) rfl rfl rfl (bs36_1) rfl (fun _ => rfl) (fun g1 => ?_);refine A1 ?_;refine Tn1 12 ?_
         ·refine q_appendG 4 2 [.string (strU a)] (SB (o.drop p)) (fun r => [_, _, _, _, _, ⟨some r.g, 9, [.string (strU a)] ++ SB (o.drop p), r.n, true⟩]) u36 el9 rfl rfl rfl rfl rfl rfl rfl rfl rfl rfl rfl (by omega) (Nat.le_refl _) (SB_dropC o p) (by rw [SB_length, List.length_drop, Nat.mul_one]) (SB_one _) (by omega) (fun _ => rfl) (fun r => ?_);refine A1 ?_;refine Tn1 13 ?_
          ·refine q_appendG 2 5 (SB (o.take p)) ([.string (strU a)] ++ SB (o.drop p)) (fun r2 => [_, _, _, _, _, _, ⟨some r2.g, 9, SB (o.take p) ++ ([.string (strU a)] ++ SB (o.drop p)), r2.n, true⟩]) u36 el9 rfl rfl rfl rfl rfl rfl rfl rfl rfl (SB_takeC o p) (by rw [SB_length, List.length_take]; omega) (by omega) (Nat.le_refl _) (sb_cons o p a hp) (sb_clen o p a hp) (sb_cone _ _) (by omega) (fun _ => rfl) (fun r2 => ?_);refine A1 ?_;refine Tn1 14 ?_
           ·refine A2 ?_;refine tr_nil (by kernel_rfl) ?_;refine A4 ?_;refine Ar (((k + 1 : Nat) : Int)) ?_;refine A3 ?_;exact Nl ⟨(k + 1, insU a o, some r2.g, r2.n, r2.cap), hkl, by rw [insAll_take ha, ← ho], by have := r2.h; have hl := congrArg List.length hins; simp at hl; show (insU a o).length ≤ r2.cap; omega, by have := r2.hn; show r2.cap ≤ r2.n; omega, by have hl := congrArg List.length hins; simp at hl; show (insU a o).length + ((mvars y).length - (k + 1)) + _ ≤ _; omega⟩ (ht := ⟨rfl, (look_val rfl (congrArg (fun n => slv (some r2.g) 0 n r2.cap) (by rw [hins]; simp; omega))), rfl, rfl, rfl, trivial⟩) (hL := (weak_picks [some 0, some 1, some 6, some 3] ⟨⟨_, rfl, Blk.le_refl _⟩, ⟨_, rfl, Blk.le_refl _⟩, ⟨_, rfl, le_same (congrArg (fun c => (⟨some r2.g, 9, c, r2.n, true⟩ : Blk)) (by rw [hins]; simp [SB]))⟩, ⟨_, rfl, Blk.le_refl _⟩, trivial⟩ rfl rfl))
     ·have hne : c = a := by have hh := hb8; simpa using hh
      have hins : insU a o = o := insU_eq hall (by rw [hc, hne]);refine A5 ?_;refine Ar (((k + 1 : Nat) : Int)) ?_;refine A3 ?_;exact Nl ⟨(k + 1, o, pb, pN, pc), hkl, by rw [insAll_take ha, ← ho, hins], h1p, h2p, by show o.length + ((mvars y).length - (k + 1)) + _ ≤ _; omega⟩ (hL := Weak.auto)
   ·have hpl : p = o.length := (by have := of_decide_eq_false hb6; omega);have hins : insU a o = o.take p ++ a :: o.drop p := insU_at hp hall (fun z hz => absurd (List.getElem?_eq_some_iff.1 hz).1 (by omega));refine A19 ?_;refine at_drawnI [] mixed (by kernel_rfl) (by kernel_rfl) ?_;refine A4 ?_;refine r_know 53 (.bool true) rfl (congrArg Value.bool (beq_iff_eq.2 (by omega))) ?_;refine A14 ?_;refine at_drawnE (l' := [⟨_,_,_,_,_,_⟩, ⟨_,_,_,_,_,_⟩, ⟨_,_,_,_,_,_⟩, ⟨_,_,_,_,_,_⟩, ⟨_,_,_,_,_,_⟩, ⟨_,_,_,_,_,_⟩, ⟨_,_,_,_,_,_⟩, ⟨_,_,_,_,_,_⟩, ⟨_,_,_,_,_,_⟩]) [0, 1, 2, 3, 4, 5, 9, 10, 11] 6 mixed (by kernel_rfl) rfl ?_;refine A3 ?_;refine r_sliceK p u36 ti9 rfl rfl rfl rfl rfl (by omega) ?_;refine A4 ?_;refine r_sliceM (off' := if pc = p then 0 else p * 1) (n' := 0) (c' := pc - p) p u36 ti9 rfl rfl rfl rfl (by omega) rfl (by omega) rfl ?_;refine A1 ?_;refine Tn1 6 ?_
    ·refine Ix 3 (k * 1) ?_;refine A1 ?_;refine Tn1 7 ?_
     ·refine r_load (v := .string (strU a)) 3 (k * 1) _ rfl rfl rfl rfl ti9 (SB_get ha) rfl (by decide) rfl ?_;refine A1 ?_;refine Tn1 8 ?_
      ·refine r_buildSlice [(0, _)] (fun g => [_, _, _, _, ⟨some g, 9, _, 1, true⟩]) rfl rfl rfl (bs36_1) rfl (fun _ => rfl) (fun g1 => ?_);refine A1 ?_;refine Tn1 12 ?_
       ·refine q_append0O u36 el9 rfl rfl rfl (Nat.le_refl _) rfl ?_;refine A1 ?_;refine Tn1 13 ?_
        ·refine q_appendG (n2 := 1) 2 4 (SB (o.take p)) [.string (strU a)] (fun r2 => [_, _, _, _, _, ⟨some r2.g, 9, SB (o.take p) ++ [.string (strU a)], r2.n, true⟩]) u36 el9 rfl rfl rfl rfl rfl rfl rfl rfl rfl (SB_takeC o p) (by rw [SB_length, List.length_take]; omega) (by omega) (Nat.le_refl _) rfl rfl (by intro v hv; rw [List.mem_singleton.1 hv]; rfl) (by omega) (fun _ => rfl) (fun r2 => ?_);refine A1 ?_;refine Tn1 14 ?_
         ·refine A2 ?_;refine tr_nil (by kernel_rfl) ?_;refine A4 ?_;refine Ar (((k + 1 : Nat) : Int)) ?_;refine A3 ?_;exact Nl ⟨(k + 1, insU a o, some r2.g, r2.n, r2.cap), hkl, by rw [insAll_take ha, ← ho], by have := r2.h; have hl := congrArg List.length hins; simp at hl; show (insU a o).length ≤ r2.cap; omega, by have := r2.hn; show r2.cap ≤ r2.n; omega, by have hl := congrArg List.length hins; simp at hl; show (insU a o).length + ((mvars y).length - (k + 1)) + _ ≤ _; omega⟩ (ht := ⟨rfl, (look_val rfl (congrArg (fun n => slv (some r2.g) 0 n r2.cap) (by rw [hins]; simp; omega))), rfl, rfl, rfl, trivial⟩) (hL := (weak_picks [some 0, some 1, some 5, some 3] ⟨⟨_, rfl, Blk.le_refl _⟩, ⟨_, rfl, Blk.le_refl _⟩, ⟨_, rfl, le_same (congrArg (fun c => (⟨some r2.g, 9, c, r2.n, true⟩ : Blk)) (by rw [hins]; simp [SB, hpl]))⟩, ⟨_, rfl, Blk.le_refl _⟩, trivial⟩ rfl rfl))
  ·have hkl : k = (mvars y).length := (by have := of_decide_eq_false hb4; omega);have htk : (mvars y).take k = mvars y := by rw [hkl]; exact List.take_of_length_le (Nat.le_refl _)
   refine A8 ?_;refine Ar (((i + 1 : Nat) : Int)) ?_;refine A3 ?_;exact Nl ⟨(i + 1, o, pb, pN, pc), hlt, by rw [hI, mvarss_step hy, ho, htk], h1p, h2p, by show o.length + XT.sizes (x.args.drop (i + 1)) ≤ _; omega⟩ (hL := Weak.auto)
 ·have hge : i = x.args.length := by have := of_decide_eq_false hb2; omega
  have hmx : m = mvars x := (by rw [hI, hge, List.drop_length, mvarss]);refine A12 ?_;refine at_end1 rfl (res_tmp rfl) (fun w hL => by
  subst hmx;exact ⟨⟨ob, oN, oc, h1o, h2o⟩, rfl, hL.pk [some 2]⟩)
end Go.Proofs.YtfijbadahkmhbaaGreatDoor
set_option maxHeartbeats 20000000
namespace Go.Proofs.YtfijbadahkmhbaaGreatDoor
open Go Go.RowKit Go.Via
set_option maxRecDepth 20000 in
theorem c_list_step {x : XT} (z : XR x) (m : Int) (H : ∀ y : XT, y.size < x.size → WriC m y) (hok : okX x) (hf : x.fit = true) (hM : x.size ≤ 1000000000) (op en : Bs8) (g : Nat) (a : Bool) (d : Bd) (hd : d.ok) (hb : d.s.length + (op ++ joinC (txtLs x.args) ++ en).length ≤ 17179869184) : ECall Tryz.prog 126 [BB g a d, BF d, gB z.T false, GM m] [.pointer (some ⟨g, 0, none⟩), .string (strU op), .slice z.a z.n z.cap, .string (strU en)] (BdX (d.s ++ (op ++ joinC (txtLs x.args) ++ en))) (fun _ => .tuple #[]) (fun d' => [BB g true d'.1, BF d'.1]) := by
 refine ⟨by kernel_rfl, fun B w hD hL0 => ?_⟩;obtain ⟨h1, h2, h3, h4, h5, h6⟩ := z.inv;have hsz := x.size_eq;have hal := XT.len_sizes x.args;have hjl := joinC_take_le x.args;have hks := (okX_parts hok).2;refine cB4 31 Tryz.func126 hL0 ?_;refine A1 ?_;refine at_regionM ?_;refine A2 ?_;refine Gm 2 [0, 1] [] (fun d1 => [BB g true d1.1, BF d1.1, _, _]) (c_b_WriteString g a d op hd (by rw [List.length_append, List.length_append] at hb; omega)) (fun ⟨d1, hd1, e1⟩ => ?_);refine A11 ?_;refine El (ι := {r : Nat × Bd // r.1 ≤ x.args.length ∧ r.2.ok ∧ r.2.s = d.s ++ op ++ joinC ((txtLs x.args).take r.1)}) (fun ⟨⟨i, q⟩, hi, hq, hs⟩ => ([(0, .pointer (some ⟨g, 0, none⟩)), (3, .string (strU en)), (13, .slice z.a z.n z.cap), (14, .int .i64 (z.n : Nat)), (15, .int .i64 (i : Nat))], [BB g true q, BF q, gB z.T false, GM m], x.args.length - i)) ⟨(0, d1), Nat.zero_le _, hd1, by rw [e1]; simp [joinC]⟩ ?_ (hL := Weak.auto);rintro ⟨⟨i, q⟩, hi, hq, hs⟩;(try dsimp only);dsimp only at hi hq hs;refine A6 ?_;refine Cd ?_ ?_<;>intro hb1
 ·have hlt : i < x.args.length := by have := of_decide_eq_true hb1; omega
  obtain ⟨y, hy⟩ : ∃ y, x.args[i]? = some y := ⟨x.args[i], List.getElem?_eq_getElem hlt⟩;obtain ⟨ga, oa, ca, u, hza, hma, hra, hTa, hna⟩ := z.arg hy;have hst := joinC_step hy;have hjl1 := hjl (i + 1);have hjs := congrArg List.length hst;simp only [List.length_append] at hjs hb;refine A7 ?_;refine r_indexAddrG (gg := ga) (len := z.n) (cap := z.cap) (oa + i * 7) u28 ti30 rfl rfl (congrArg (fun a => some (Value.slice a z.n z.cap)) hza) rfl (by omega) (by omega) (by show oa + Int.toNat _ * 7 = _; omega) ?_;refine r_loadT (v := u.v) 2 (oa + i * 7) u.cs rfl rfl rfl z.hT hma hna rfl ti30 hra rfl rfl rfl ?_;refine r_alloc [_, _, _, _, _, _, _] 7 (fun g => [_, _, _, _, ⟨some g, 30, _, 7, true⟩]) rfl rfl z30 rfl rfl (fun _ => rfl) (fun g0 => ?_);refine A1 ?_;refine So 4 0 [_, _, _, _, ⟨some g0, 30, _, 7, true⟩] [_, _, _, _, _, _, _] ?_;refine A9 ?_;refine Cd ?_ ?_<;>intro hb2
  ·have hi0 : i ≠ 0 := by have := of_decide_eq_true hb2; omega
   have hsp : sepS i = [44, 32] := if_neg hi0;rw [hsp] at hst hjs;have hjs : _ = _ + 2 + _ := hjs;refine at_regionM ?_;refine A1 ?_;refine r_gcallM (A := [BB g true q, BF q]) (C := []) [.pointer (some ⟨g, 0, none⟩), .string (strU [44, 32])] [0, 1] [] (fun d1 => [BB g true d1.1, BF d1.1, _, _, _]) rfl rfl rfl rfl (c_b_WriteString g true q [44, 32] hq (by simp only [hs, List.length_append]; show _ + 2 ≤ _; omega)) (by decide) rfl rfl trivial rfl rfl (fun _ => rfl) (fun _ => allOwn rfl) (fun _ => rfl) (fun ⟨d2, hd2, e2⟩ => ?_);refine A2 ?_;have hB2 : d2.s.length + (txt y 1).length ≤ 17179869184 := (by rw [e2, hs]; simp only [List.length_append]; show _ + 2 + _ ≤ _; omega);refine at_regionM ?_;refine A1 ?_;refine Ld 4 0 [_,_,_,_,_,_,_] ti30 ?_;refine Kr 25 (u.v) ?_;refine Gm 2 [0, 1] [2, 3] (fun (d3 : BdX (d2.s ++ txt y 1)) => [BB g true d3.1, BF d3.1, _, _, _]) (by have h := H y (XT.arg_lt hy) u 1 g true d2 hd2 (okXs_get hks hy) (XT.fits_get (XT.fit_parts hf).2.2 hy) (Nat.le_trans (Nat.le_of_lt (XT.arg_lt hy)) hM) (by decide) hB2; rw [hTa] at h; exact h) (fun ⟨d3, hd3, e3⟩ => ?_);refine A4 ?_;refine Ar (((i + 1 : Nat) : Int)) ?_;refine A3 ?_;exact Nl ⟨(i + 1, d3), hlt, hd3, by rw [e3, e2, hs, hst]; simp only [List.append_assoc]⟩ (hL := Weak.auto)
  ·have hi0 : i = 0 := by have := of_decide_eq_false hb2; omega
   have hsp : sepS i = [] := if_pos hi0;rw [hsp] at hst hjs;have hjs : _ = _ + 0 + _ := hjs;refine A2 ?_;have hB2 : q.s.length + (txt y 1).length ≤ 17179869184 := (by rw [hs]; simp only [List.length_append]; omega);refine at_regionM ?_;refine A1 ?_;refine Ld 4 0 [_,_,_,_,_,_,_] ti30 ?_;refine Kr 25 (u.v) ?_;refine Gm 2 [0, 1] [2, 3] (fun (d3 : BdX (q.s ++ txt y 1)) => [BB g true d3.1, BF d3.1, _, _, _]) (by have h := H y (XT.arg_lt hy) u 1 g true q hq (okXs_get hks hy) (XT.fits_get (XT.fit_parts hf).2.2 hy) (Nat.le_trans (Nat.le_of_lt (XT.arg_lt hy)) hM) (by decide) hB2; rw [hTa] at h; exact h) (fun ⟨d3, hd3, e3⟩ => ?_);refine A4 ?_;refine Ar (((i + 1 : Nat) : Int)) ?_;refine A3 ?_;exact Nl ⟨(i + 1, d3), hlt, hd3, by rw [e3, hs, hst]; simp only [List.append_assoc, List.append_nil, List.nil_append]⟩ (hL := Weak.auto)
 ·have hge : i = x.args.length := by have := of_decide_eq_false hb1; omega
  refine A5 ?_;refine at_regionM ?_;refine A2 ?_;refine Gm 2 [0, 1] [] (fun d1 => [BB g true d1.1, BF d1.1, _, _]) (c_b_WriteString g true q en hq (by simp only [hs, hge, txtLs_all, List.length_append] at hb ⊢; omega)) (fun ⟨d2, hd2, e2⟩ => ?_);refine A1 ?_
  refine at_end0n rfl  (fun w hL => ⟨⟨d2, hd2, by rw [e2, hs, hge, txtLs_all]; simp only [List.append_assoc]⟩, rfl, hL.pk [some 0, some 1]⟩)
end Go.Proofs.YtfijbadahkmhbaaGreatDoor
namespace Go.Via
open Go Go.RowKit
theorem quoS_none : ∀ (s : Bs8), s.count 34 = 0 → quoS s = s
  | [], _ => rfl
  | c :: s, h => by
    have hc : c ≠ 34 := fun e => by subst e; simp at h
    have h2 : s.count 34 = 0 := by rw [List.count_cons] at h; omega
    have ih := quoS_none s h2
    unfold quoS at ih ⊢
    rw [List.flatMap_cons, ih, if_neg hc]; rfl
theorem quoS_cons (c : UInt8) (s : Bs8) : quoS (c :: s) = (if c = 34 then [34, 34] else [c]) ++ quoS s := by
  unfold quoS; rw [List.flatMap_cons]
theorem replaceK_quo : ∀ (s : Bs8) (k : Nat), s.count 34 ≤ k → Lib.replaceK [34] [34, 34] k s = quoS s
  | s, 0, h => by rw [Lib.replaceK, quoS_none s (by omega)]
  | [], k + 1, h => by rw [Lib.replaceK]; rfl
  | c :: s, k + 1, h => by
    rw [quoS_cons]
    by_cases hc : c = 34
    · subst hc
      have h0 : Lib.index (34 :: s) [34] = (0 : Nat) := by rw [Lib.index_one, Lib.indexByte]; rfl
      rw [Lib.replaceK_hit _ _ _ _ 0 h0, if_pos rfl]
      have h2 : s.count 34 ≤ k := by rw [List.count_cons_self] at h; omega
      have ih := replaceK_quo s k h2
      show [] ++ [34, 34] ++ Lib.replaceK [34] [34, 34] k s = _
      rw [ih]; rfl
    · have h2 : s.count 34 ≤ k + 1 := by rw [List.count_cons] at h; omega
      have ih := replaceK_quo s (k + 1) h2
      rw [if_neg hc, ← ih, Lib.replaceK, Lib.replaceK, Lib.index_one, Lib.index_one, Lib.indexByte]
      have hc2 : (c == 34) = false := by simpa using hc
      rw [hc2]
      have hge := Lib.indexByte_ge s 34
      by_cases hm : Lib.indexByte s 34 = -1
      · rw [hm]; rfl
      · have hm2 : (Lib.indexByte s 34 == -1) = false := by simpa using hm
        obtain ⟨i, hi⟩ : ∃ i : Nat, Lib.indexByte s 34 = i := ⟨(Lib.indexByte s 34).toNat, by omega⟩
        have hm3 : (Lib.indexByte s 34 + 1 == -1) = false := by rw [hi]; simp; omega
        simp only [hm2, hm3, Bool.false_eq_true, if_false]
        rw [hi]
        have e1 : ((i : Int) + 1).toNat = i + 1 := by omega
        have e2 : (i : Int).toNat = i := by omega
        rw [e1, e2]
        simp [Nat.add_right_comm]
theorem replaceAll_quo (s : Bs8) : Lib.replaceAll s [34] [34, 34] = quoS s := by
  have h : ([34] == ([34, 34] : List UInt8)) = false := rfl
  rw [Lib.replaceAll, Lib.replace, h]
  simp only [Bool.false_eq_true, if_false]
  refine replaceK_quo s _ ?_
  unfold Lib.replaceNum
  rw [if_pos (.inl (by decide)), Lib.count_one]
  exact Nat.le_refl _
end Go.Via
namespace Go.Proofs.YtfijbadahkmhbaaGreatDoor
open Go Go.RowKit Go.Via
theorem c_ReplaceAll (m : Int) (s : Bs8) (hs : s.length ≤ 1000000) : SCall Tryz.prog 125 [GM m] [.string (strU s), .string (strU [34]), .string (strU [34, 34])] Unit (fun _ => .string (strU (quoS s))) (fun _ => []) := by
  refine ⟨by kernel_rfl, fun w hL => ?_⟩
  have hm : w.cell? ⟨0, 0, none⟩ = some (.int .i64 m) := by
    obtain ⟨g', hg', h2⟩ := hL.cell (k := 0) (j := 0) rfl (v := .int .i64 m) rfl
    cases hg'
    exact h2
  have hcnt : Lib.countB (strU s) (strU [34]) = s.count 34 := by
    show Lib.count (strU s).data.toList (strU [34]).data.toList = _
    simp only [strU]
    exact Lib.count_one 34 s
  have hc2 := List.count_le_length (a := (34 : UInt8)) (l := s)
  have hsz : (strU s).size = s.length := rfl
  have h1 := Tryz.strings_ReplaceAll (strU s) (strU [34]) (strU [34, 34]) m w (by rw [hsz]; omega) hm (Nat.le_refl _) (by rw [hcnt, hsz, show (strU [34, 34]).size = 2 from rfl]; omega)
  refine Calls.mono h1 ?_
  rintro e w' ⟨rfl, hb⟩
  refine ⟨(), ?_, (LRel.nil w).same hb⟩
  show _ = Ending.returned (Value.string (strU (quoS s)))
  rw [← replaceAll_quo]
  rfl
end Go.Proofs.YtfijbadahkmhbaaGreatDoor
namespace Go.Via
open Go Go.RowKit
theorem NumV.isId_ok {u : NumV} (h : u.isId = true) : u.ok = true := by
  cases u with
  | q r => rfl
  | raw b1 s1 b2 s2 =>
    unfold NumV.isId at h
    obtain ⟨q, hq, _⟩ := @of_decide_eq_true _ (Classical.propDecidable _) h
    show isQ b1 s1 b2 s2 = true
    unfold isQ
    exact @decide_eq_true _ (Classical.propDecidable _) ⟨q, hq⟩
theorem NumV.rat_ok {u : NumV} {b1 b2 : Bool} {s1 s2 : ByteArray} (h : u.cells = [.bool b1, .string s1, .bool b2, .string s2]) (hf : u.fit = true) (ho : u.ok = true) : (.agg #[.bool b1, .string s1, .bool b2, .string s2] : Value) = Q u.rat ∧ szQ u.rat ≤ 1000000 := by
  have h1 := NumV.rat_cells h ho
  refine ⟨h1, ?_⟩
  obtain ⟨q, e1, e2, e3, e4, _, h6⟩ := NumV.isId_yes h hf ho
  have e : Value.agg #[.bool b1, .string s1, .bool b2, .string s2] = Q q := by rw [e1, e2, e3, e4]; rfl
  rw [← Q_inj8 (e.symm.trans h1)]
  exact h6
theorem nodeE_num {x : XT} (h : nodeE x = 0) : (x.op = 1 → x.num.ok = true) ∧ (x.op = 3 → x.num.ok = true) := by
  unfold nodeE at h
  split at h
  · cases h
  split at h
  · cases h
  split at h
  · cases h
  rename_i h1
  split at h
  · cases h
  split at h
  · cases h
  rename_i h3
  refine ⟨fun e => ?_, fun e => NumV.isId_ok ?_⟩
  · cases hh : x.num.ok with
    | true => rfl
    | false => exact absurd ⟨e, hh⟩ h1
  · cases hh : x.num.isId with
    | true => rfl
    | false => exact absurd ⟨e, hh⟩ h3
def sw6 (o : Int) : Prop := o = 1 ∨ o = 4 ∨ o = 3 ∨ o = 5 ∨ o = 6 ∨ o = 2
noncomputable def swS (x : XT) : Bs8 :=
  if x.op = 1 then ratS x.num.rat else if x.op = 4 then x.name else if x.op = 3 then sObject ++ ratS x.num.rat ++ [41] else if x.op = 5 then sZone ++ quoS x.name ++ [34, 41]
  else if x.op = 6 then [91] ++ joinC (txtLs x.args) ++ [93] else if x.op = 2 then sPoint ++ joinC (txtLs x.args) ++ [41] else []
noncomputable def fnL (x : XT) (L : List (Bs8 × Nat × Nat)) : Bs8 := L.flatMap fun f => if (f.2.1 : Int) = x.op then (f.1 ++ [40]) ++ joinC (txtLs x.args) ++ [41] else []
theorem fnL_step (x : XT) {L : List (Bs8 × Nat × Nat)} {i : Nat} {o : Bs8 × Nat × Nat} (h : L[i]? = some o) : fnL x (L.take (i + 1)) = fnL x (L.take i) ++ (if (o.2.1 : Int) = x.op then (o.1 ++ [40]) ++ joinC (txtLs x.args) ++ [41] else []) := by
  have hlt := (List.getElem?_eq_some_iff.1 h).1
  rw [List.take_add_one, h]
  unfold fnL
  rw [List.flatMap_append]
  simp
theorem fnL_le (x : XT) (L : List (Bs8 × Nat × Nat)) (i : Nat) : (fnL x (L.take i)).length ≤ (fnL x L).length := by
  have h : fnL x L = fnL x (L.take i) ++ fnL x (L.drop i) := by
    conv => lhs; rw [← List.take_append_drop i L]
    unfold fnL
    rw [List.flatMap_append]
  rw [h, List.length_append]
  omega
theorem fnL_none (x : XT) (L : List (Bs8 × Nat × Nat)) (h : ∀ f ∈ L, (f.2.1 : Int) ≠ x.op) : fnL x L = [] := by
  unfold fnL
  rw [List.flatMap_eq_nil_iff]
  intro f hf
  rw [if_neg (h f hf)]
theorem fnL_one (x : XT) : ∀ (L : List (Bs8 × Nat × Nat)) (f : Bs8 × Nat × Nat), (L.map (fun o => o.2.1)).Nodup → L.find? (fun f => decide ((f.2.1 : Int) = x.op)) = some f → fnL x L = (f.1 ++ [40]) ++ joinC (txtLs x.args) ++ [41]
  | [], f, _, h => by simp at h
  | o :: L, f, hn, h => by
    rw [List.map_cons, List.nodup_cons] at hn
    have e : fnL x (o :: L) = (if (o.2.1 : Int) = x.op then (o.1 ++ [40]) ++ joinC (txtLs x.args) ++ [41] else []) ++ fnL x L := by unfold fnL; rw [List.flatMap_cons]
    rw [e]
    by_cases ho : (o.2.1 : Int) = x.op
    · rw [List.find?_cons_of_pos (by simpa using ho)] at h
      cases h
      rw [if_pos ho, fnL_none x L (fun g hg hgo => hn.1 (List.mem_map.2 ⟨g, hg, by omega⟩)), List.append_nil]
    · rw [List.find?_cons_of_neg (by simpa using ho)] at h
      rw [if_neg ho, List.nil_append]
      exact fnL_one x L f hn.2 h
theorem txt_leaf {x : XT} (h : opsT.find? (fun f => decide ((f.2.1 : Int) = x.op)) = none) (lv : Nat) : txt x lv = swS x ++ fnL x funT := by
  cases x with
  | mk o nm u l =>
    have hop : (XT.mk o nm u l).op = o := rfl
    rw [hop] at h
    rw [txt, h]
    have hsm : ∀ k : Int, o = k → (∀ f ∈ funT, (f.2.1 : Int) ≠ k) → fnL (.mk o nm u l) funT = [] := fun k hk hf => fnL_none _ _ (by rw [hop, hk]; exact hf)
    unfold swS
    rw [hop]
    by_cases h1 : o = 1
    · rw [hsm 1 h1 (by decide)]; simp only [if_pos h1, List.append_nil]; rfl
    by_cases h4 : o = 4
    · rw [hsm 4 h4 (by decide)]; simp only [if_neg h1, if_pos h4, List.append_nil]; rfl
    by_cases h3 : o = 3
    · rw [hsm 3 h3 (by decide)]; simp only [if_neg h1, if_neg h4, if_pos h3, List.append_nil]; rfl
    by_cases h5 : o = 5
    · rw [hsm 5 h5 (by decide)]; simp only [if_neg h1, if_neg h4, if_neg h3, if_pos h5, List.append_nil]; rfl
    by_cases h6 : o = 6
    · rw [hsm 6 h6 (by decide)]; simp only [if_neg h1, if_neg h4, if_neg h3, if_neg h5, if_pos h6, List.append_nil]; rfl
    by_cases h2 : o = 2
    · rw [hsm 2 h2 (by decide)]; simp only [if_neg h1, if_neg h4, if_neg h3, if_neg h5, if_neg h6, if_pos h2, List.append_nil]; rfl
    simp only [if_neg h1, if_neg h4, if_neg h3, if_neg h5, if_neg h6, if_neg h2, List.nil_append]
    cases hf : funT.find? (fun f => decide ((f.2.1 : Int) = o)) with
    | none =>
      dsimp only
      exact (fnL_none _ _ (fun f hm he => by have := List.find?_eq_none.1 hf f hm; exact this (by rw [hop] at he; simpa using he))).symm
    | some f =>
      dsimp only
      exact (fnL_one (.mk o nm u l) funT f (by decide) hf).symm
end Go.Via
set_option maxHeartbeats 20000000
namespace Go.Proofs.YtfijbadahkmhbaaGreatDoor
open Go Go.RowKit Go.Via
set_option maxRecDepth 20000 in
theorem c_write_leaf {x : XT} (z : XR x) (m : Int) (H : ∀ y : XT, y.size < x.size → WriC m y) (hok : okX x) (hf : x.fit = true) (hM : x.size ≤ 1000000000) (lv g : Nat) (a : Bool) (d : Bd) (hd : d.ok) (hop : opsT.find? (fun f => decide ((f.2.1 : Int) = x.op)) = none) (hkind : ¬ sw6 x.op → funT.find? (fun f => decide ((f.2.1 : Int) = x.op)) ≠ none) (hb : d.s.length + (swS x ++ fnL x funT).length ≤ 17179869184) : ECall Tryz.prog 96 [BB g a d, BF d, gB z.T false, GM m] [.pointer (some ⟨g, 0, none⟩), z.v, .int .i64 (lv : Nat)] (BdX (d.s ++ (swS x ++ fnL x funT))) (fun _ => .tuple #[]) (fun d' => [BB g true d'.1, BF d'.1]) := by
 refine ⟨by kernel_rfl, fun B w hD hL0 => ?_⟩;obtain ⟨hfn, hfu, hfs⟩ := XT.fit_parts hf;have hnum := nodeE_num (okX_parts hok).1;refine calls_atD (args := [.pointer (some ⟨g, 0, none⟩), z.v, .int .i64 (lv : Nat)]) Tryz.func96 rfl (Nat.le_of_ble_eq_true rfl) hL0 ?_;show At B ⟨136, [(0, .pointer (some ⟨g, 0, none⟩)), (1, z.v), (2, .int .i64 (lv : Nat))], [BB g a d, BF d, gB z.T false, GM m]⟩ _;refine A2 ?_;refine Bo [_, _, _, _, _, _, _] 7 (fun g => [_, _, _, _, ⟨some g, 30, _, 7, true⟩]) (fun g0 => ?_);refine A5 ?_;refine r_scall [] [] rfl rfl rfl c_syntax_operators trivial rfl (.inr fun _ b hb => by rw [List.mem_singleton.1 hb]) (fun go => ?_);refine A5 ?_;refine El (ι := {i : Nat // i ≤ 12}) (fun ⟨i, hi⟩ => ([(0, .pointer (some ⟨g, 0, none⟩)), (2, .int .i64 (lv : Nat)), (4, .pointer (some ⟨g0, 0, none⟩)), (12, slv (some go) 0 12 12), (13, .int .i64 12), (14, .int .i64 (i : Nat))], [BB g a d, BF d, gB z.T false, GM m, XB g0 z, ⟨some go, 110, tabC opsT, 36, true⟩], 12 - i)) ⟨0, Nat.zero_le _⟩ ?_ (hL := Weak.auto);rintro ⟨i, hi⟩;(try dsimp only);refine A6 ?_;refine at_cond rfl (fun hb1 => ?_) (fun hb1 => ?_)
 ·
  have hlt : i < 12 := (by have := of_decide_eq_true hb1; omega)
  obtain ⟨o, ho⟩ : ∃ o, opsT[i]? = some o := ⟨opsT[i]'(by show i < 12; exact hlt), List.getElem?_eq_getElem _⟩
  have hne : (o.2.1 : Int) ≠ x.op := by have := List.find?_eq_none.1 hop o (List.mem_of_getElem? ho); simpa using this
  refine A6 ?_;refine Ix 5 (i * 3) ?_;refine r_load (v := .agg #[.string (strU o.1), .int .i64 (o.2.1 : Nat), .int .i64 (o.2.2 : Nat)]) 5 (i * 3) _ rfl rfl rfl rfl ti110 (tabC_get ho) rfl (by decide) rfl ?_;refine r_alloc [_, _, _] 3 (fun g => [_, _, _, _, _, _, ⟨some g, 110, _, 3, true⟩]) rfl rfl z110 rfl rfl (fun _ => rfl) (fun g1 => ?_);refine So 6 0 [_, _, _, _, _, _, ⟨some g1, 110, _, 3, true⟩] [_, _, _] ?_;refine A9 ?_;refine r_know 21 (.int .i64 x.op) rfl (by rw [z.inv.1]) ?_;refine A3 ?_;refine at_cond rfl (fun hb2 => ?_) (fun hb2 => ?_)
  ·
   refine A5 ?_;refine Ar (((i + 1 : Nat) : Int)) ?_;refine A3 ?_;exact Nl ⟨i + 1, hlt⟩ (hL := Weak.auto)
  · exact absurd (by have hh := hb2; simpa using hh) hne
 ·
  refine A10 ?_;refine r_know 73 (.int .i64 x.op) rfl (by rw [z.inv.1]) ?_;refine A9 ?_;refine at_cond rfl (fun hb2 => ?_) (fun hb2 => ?_)
  ·
   have h1 : x.op = 1 := by simpa using hb2
   have hsw : swS x = ratS x.num.rat := by unfold swS; rw [if_pos h1]
   obtain ⟨hq1, hq2⟩ := NumV.rat_ok z.inv.2.2.1 hfu (hnum.1 h1);refine at_regionM ?_;refine A2 ?_;refine r_load 4 2 [_, _, _, _] rfl rfl rfl rfl ti27 rfl rfl rfl rfl ?_;refine r_know 78 (Q x.num.rat) rfl hq1 ?_;refine Pc (c_rational_Print x.num.rat hq2) ?_;refine Gm 2 [0, 1] [] (fun d1 => [BB g true d1.1, BF d1.1, _, _, _, _]) (c_b_WriteString g a d (ratS x.num.rat) hd (by have h := hb; simp only [hsw, List.length_append, List.length_cons, List.length_nil] at h ⊢; omega)) (fun ⟨d1, hd1, e1⟩ => ?_);refine A5 ?_;refine r_scall [] [] rfl rfl rfl c_syntax_functions trivial rfl (.inr fun _ b hb => by rw [List.mem_singleton.1 hb]) (fun gf => ?_);refine A5 ?_;refine El (ι := {r : Nat × Bool × Bd // r.1 ≤ 12 ∧ r.2.2.ok ∧ r.2.2.s = d.s ++ (swS x ++ fnL x (funT.take r.1)) ∧ (r.2.1 = true ∨ ((funT.take r.1).find? (fun f => decide ((f.2.1 : Int) = x.op)) = none ∧ ¬ sw6 x.op))}) (fun ⟨⟨i, a2, q⟩, hi, hq, hs, hA⟩ => ([(0, .pointer (some ⟨g, 0, none⟩)), (4, .pointer (some ⟨g0, 0, none⟩)), (117, slv (some gf) 0 12 12), (118, .int .i64 12), (119, .int .i64 (i : Nat))], [BB g a2 q, BF q, gB z.T false, GM m, XB g0 z, ⟨some gf, 114, tabC funT, 36, true⟩], 12 - i)) ⟨(0, true, d1), Nat.zero_le _, hd1, by rw [e1]; rw [hsw]; simp [fnL], .inl rfl⟩ ?_ (hL := (weak_pk [some 0, some 1, some 2, some 3, some 4, some 6]));rintro ⟨⟨i, a2, q⟩, hi, hq, hs, hA⟩;(try dsimp only);dsimp only at hi hq hs hA;refine A6 ?_;refine at_cond rfl (fun hb4 => ?_) (fun hb4 => ?_)
   ·
    have hlt : i < 12 := (by have := of_decide_eq_true hb4; omega)
    obtain ⟨o, ho⟩ : ∃ o, funT[i]? = some o := ⟨funT[i]'(by show i < 12; exact hlt), List.getElem?_eq_getElem _⟩
    have hst := fnL_step x ho;have hle := fnL_le x funT (i + 1);refine A6 ?_;refine Ix 5 (i * 3) ?_;refine r_load (v := .agg #[.string (strU o.1), .int .i64 (o.2.1 : Nat), .int .i64 (o.2.2 : Nat)]) 5 (i * 3) _ rfl rfl rfl rfl ti114 (tabC_get ho) rfl (by decide) rfl ?_;refine r_alloc [_, _, _] 3 (fun g => [_, _, _, _, _, _, ⟨some g, 114, _, 3, true⟩]) rfl rfl z114 rfl rfl (fun _ => rfl) (fun g1 => ?_);refine So 6 0 [_, _, _, _, _, _, ⟨some g1, 114, _, 3, true⟩] [_, _, _] ?_;refine A8 ?_;refine r_know 126 (.int .i64 x.op) rfl (by rw [z.inv.1]) ?_;refine A3 ?_;refine at_cond rfl (fun hb5 => ?_) (fun hb5 => ?_)
    ·
     have hm : (o.2.1 : Int) = x.op := by simpa using hb5
     rw [if_pos hm] at hst;have hjs := congrArg List.length hst;refine at_regionM ?_;refine A3 ?_;refine r_addS (p := o.1) (q := [40]) rfl rfl rfl rfl rfl rfl rfl (by have h := hb; simp only [List.length_append, List.length_cons, List.length_nil] at h hjs ⊢; omega) ?_;refine A2 ?_;refine Gm 2 [0, 1] [2, 3] (fun (d1 : BdX (q.s ++ ((o.1 ++ [40]) ++ joinC (txtLs x.args) ++ [41]))) => [BB g true d1.1, BF d1.1, _, _, _, _, _]) (c_list_step z m H hok hf hM (o.1 ++ [40]) [41] g a2 q hq (by have h := hb; simp only [hs, List.length_append, List.length_cons, List.length_nil] at h hjs ⊢; omega)) (fun ⟨d3, hd3, e3⟩ => ?_);refine A4 ?_;refine Ar (((i + 1 : Nat) : Int)) ?_;refine A3 ?_;exact Nl ⟨(i + 1, true, d3), hlt, hd3, by rw [e3, hs, hst]; simp only [List.append_assoc], .inl rfl⟩ (hL := Weak.auto)
    ·
     have hm : (o.2.1 : Int) ≠ x.op := by simpa using hb5
     rw [if_neg hm] at hst;have hjs := congrArg List.length hst;refine A4 ?_;refine Ar (((i + 1 : Nat) : Int)) ?_;refine A3 ?_;exact Nl ⟨(i + 1, a2, q), hlt, hq, by rw [hs, hst, List.append_nil], hA.imp id (fun h => ⟨find_none_step h.1 ho (by simpa using hm), h.2⟩)⟩ (hL := Weak.auto)
   ·
    have hge : i = 12 := (by have := of_decide_eq_false hb4; omega)
    subst hge;refine A4 ?_
    refine at_end0nD rfl  (fun w hL => by
  have ha : a2 = true := by
   rcases hA with h | ⟨h, hk⟩
   · exact h
   · exact absurd (find_none_all h (Nat.le_refl _)) (hkind hk)
  subst ha
  exact ⟨⟨q, hq, hs⟩, rfl, hL.pk [some 0, some 1]⟩)
  ·
   have h1 : x.op ≠ 1 := by simpa using hb2
   refine A6 ?_;refine at_cond rfl (fun hb3 => ?_) (fun hb3 => ?_)
   ·
    have h4 : x.op = 4 := by simpa using hb3
    have hsw : swS x = x.name := by unfold swS; rw [if_neg h1, if_pos h4]
    refine at_regionM ?_;refine A3 ?_;refine r_know 85 (.string (strU x.name)) rfl (by rw [z.inv.2.1]) ?_;refine Gm 2 [0, 1] [] (fun d1 => [BB g true d1.1, BF d1.1, _, _, _, _]) (c_b_WriteString g a d x.name hd (by have h := hb; simp only [hsw, List.length_append, List.length_cons, List.length_nil] at h ⊢; omega)) (fun ⟨d1, hd1, e1⟩ => ?_);refine A5 ?_;refine r_scall [] [] rfl rfl rfl c_syntax_functions trivial rfl (.inr fun _ b hb => by rw [List.mem_singleton.1 hb]) (fun gf => ?_);refine A5 ?_;refine El (ι := {r : Nat × Bool × Bd // r.1 ≤ 12 ∧ r.2.2.ok ∧ r.2.2.s = d.s ++ (swS x ++ fnL x (funT.take r.1)) ∧ (r.2.1 = true ∨ ((funT.take r.1).find? (fun f => decide ((f.2.1 : Int) = x.op)) = none ∧ ¬ sw6 x.op))}) (fun ⟨⟨i, a2, q⟩, hi, hq, hs, hA⟩ => ([(0, .pointer (some ⟨g, 0, none⟩)), (4, .pointer (some ⟨g0, 0, none⟩)), (117, slv (some gf) 0 12 12), (118, .int .i64 12), (119, .int .i64 (i : Nat))], [BB g a2 q, BF q, gB z.T false, GM m, XB g0 z, ⟨some gf, 114, tabC funT, 36, true⟩], 12 - i)) ⟨(0, true, d1), Nat.zero_le _, hd1, by rw [e1]; rw [hsw]; simp [fnL], .inl rfl⟩ ?_ (hL := (weak_pk [some 0, some 1, some 2, some 3, some 4, some 6]));rintro ⟨⟨i, a2, q⟩, hi, hq, hs, hA⟩;(try dsimp only);dsimp only at hi hq hs hA;refine A6 ?_;refine at_cond rfl (fun hb5 => ?_) (fun hb5 => ?_)
    ·
     have hlt : i < 12 := (by have := of_decide_eq_true hb5; omega)
     obtain ⟨o, ho⟩ : ∃ o, funT[i]? = some o := ⟨funT[i]'(by show i < 12; exact hlt), List.getElem?_eq_getElem _⟩
     have hst := fnL_step x ho;have hle := fnL_le x funT (i + 1);refine A6 ?_;refine Ix 5 (i * 3) ?_;refine r_load (v := .agg #[.string (strU o.1), .int .i64 (o.2.1 : Nat), .int .i64 (o.2.2 : Nat)]) 5 (i * 3) _ rfl rfl rfl rfl ti114 (tabC_get ho) rfl (by decide) rfl ?_;refine r_alloc [_, _, _] 3 (fun g => [_, _, _, _, _, _, ⟨some g, 114, _, 3, true⟩]) rfl rfl z114 rfl rfl (fun _ => rfl) (fun g1 => ?_);refine So 6 0 [_, _, _, _, _, _, ⟨some g1, 114, _, 3, true⟩] [_, _, _] ?_;refine A8 ?_;refine r_know 126 (.int .i64 x.op) rfl (by rw [z.inv.1]) ?_;refine A3 ?_;refine at_cond rfl (fun hb6 => ?_) (fun hb6 => ?_)
     ·
      have hm : (o.2.1 : Int) = x.op := by simpa using hb6
      rw [if_pos hm] at hst;have hjs := congrArg List.length hst;refine at_regionM ?_;refine A3 ?_;refine r_addS (p := o.1) (q := [40]) rfl rfl rfl rfl rfl rfl rfl (by have h := hb; simp only [List.length_append, List.length_cons, List.length_nil] at h hjs ⊢; omega) ?_;refine A2 ?_;refine Gm 2 [0, 1] [2, 3] (fun (d1 : BdX (q.s ++ ((o.1 ++ [40]) ++ joinC (txtLs x.args) ++ [41]))) => [BB g true d1.1, BF d1.1, _, _, _, _, _]) (c_list_step z m H hok hf hM (o.1 ++ [40]) [41] g a2 q hq (by have h := hb; simp only [hs, List.length_append, List.length_cons, List.length_nil] at h hjs ⊢; omega)) (fun ⟨d3, hd3, e3⟩ => ?_);refine A4 ?_;refine Ar (((i + 1 : Nat) : Int)) ?_;refine A3 ?_;exact Nl ⟨(i + 1, true, d3), hlt, hd3, by rw [e3, hs, hst]; simp only [List.append_assoc], .inl rfl⟩ (hL := Weak.auto)
     ·
      have hm : (o.2.1 : Int) ≠ x.op := by simpa using hb6
      rw [if_neg hm] at hst;have hjs := congrArg List.length hst;refine A4 ?_;refine Ar (((i + 1 : Nat) : Int)) ?_;refine A3 ?_;exact Nl ⟨(i + 1, a2, q), hlt, hq, by rw [hs, hst, List.append_nil], hA.imp id (fun h => ⟨find_none_step h.1 ho (by simpa using hm), h.2⟩)⟩ (hL := Weak.auto)
    ·
     have hge : i = 12 := (by have := of_decide_eq_false hb5; omega)
     subst hge;refine A4 ?_
     refine at_end0nD rfl  (fun w hL => by
  have ha : a2 = true := by
   rcases hA with h | ⟨h, hk⟩
   · exact h
   · exact absurd (find_none_all h (Nat.le_refl _)) (hkind hk)
  subst ha
  exact ⟨⟨q, hq, hs⟩, rfl, hL.pk [some 0, some 1]⟩)
   ·
    have h4 : x.op ≠ 4 := by simpa using hb3
    refine A6 ?_;refine at_cond rfl (fun hb4 => ?_) (fun hb4 => ?_)
    ·
     have h3 : x.op = 3 := by simpa using hb4
     have hsw : swS x = sObject ++ ratS x.num.rat ++ [41] := by unfold swS; rw [if_neg h1, if_neg h4, if_pos h3]
     obtain ⟨hq1, hq2⟩ := NumV.rat_ok z.inv.2.2.1 hfu (hnum.2 h3);refine at_regionM ?_;refine A2 ?_;refine r_load 4 2 [_, _, _, _] rfl rfl rfl rfl ti27 rfl rfl rfl rfl ?_;refine r_know 91 (Q x.num.rat) rfl hq1 ?_;refine Pc (c_rational_Print x.num.rat hq2) ?_;refine r_addS (p := sObject) (q := ratS x.num.rat) rfl rfl rfl rfl rfl rfl rfl (by have h := hb; simp only [hsw, List.length_append, List.length_cons, List.length_nil] at h ⊢; omega) ?_;refine r_addS (p := sObject ++ ratS x.num.rat) (q := [41]) rfl rfl rfl rfl rfl rfl rfl (by have h := hb; simp only [hsw, List.length_append, List.length_cons, List.length_nil] at h ⊢; omega) ?_;refine Gm 2 [0, 1] [] (fun d1 => [BB g true d1.1, BF d1.1, _, _, _, _]) (c_b_WriteString g a d (sObject ++ ratS x.num.rat ++ [41]) hd (by have h := hb; simp only [hsw, List.length_append, List.length_cons, List.length_nil] at h ⊢; omega)) (fun ⟨d1, hd1, e1⟩ => ?_);refine A5 ?_;refine r_scall [] [] rfl rfl rfl c_syntax_functions trivial rfl (.inr fun _ b hb => by rw [List.mem_singleton.1 hb]) (fun gf => ?_);refine A5 ?_;refine El (ι := {r : Nat × Bool × Bd // r.1 ≤ 12 ∧ r.2.2.ok ∧ r.2.2.s = d.s ++ (swS x ++ fnL x (funT.take r.1)) ∧ (r.2.1 = true ∨ ((funT.take r.1).find? (fun f => decide ((f.2.1 : Int) = x.op)) = none ∧ ¬ sw6 x.op))}) (fun ⟨⟨i, a2, q⟩, hi, hq, hs, hA⟩ => ([(0, .pointer (some ⟨g, 0, none⟩)), (4, .pointer (some ⟨g0, 0, none⟩)), (117, slv (some gf) 0 12 12), (118, .int .i64 12), (119, .int .i64 (i : Nat))], [BB g a2 q, BF q, gB z.T false, GM m, XB g0 z, ⟨some gf, 114, tabC funT, 36, true⟩], 12 - i)) ⟨(0, true, d1), Nat.zero_le _, hd1, by rw [e1]; rw [hsw]; simp [fnL], .inl rfl⟩ ?_ (hL := (weak_pk [some 0, some 1, some 2, some 3, some 4, some 6]));rintro ⟨⟨i, a2, q⟩, hi, hq, hs, hA⟩;(try dsimp only);dsimp only at hi hq hs hA;refine A6 ?_;refine at_cond rfl (fun hb6 => ?_) (fun hb6 => ?_)
     ·
      have hlt : i < 12 := (by have := of_decide_eq_true hb6; omega)
      obtain ⟨o, ho⟩ : ∃ o, funT[i]? = some o := ⟨funT[i]'(by show i < 12; exact hlt), List.getElem?_eq_getElem _⟩
      have hst := fnL_step x ho;have hle := fnL_le x funT (i + 1);refine A6 ?_;refine Ix 5 (i * 3) ?_;refine r_load (v := .agg #[.string (strU o.1), .int .i64 (o.2.1 : Nat), .int .i64 (o.2.2 : Nat)]) 5 (i * 3) _ rfl rfl rfl rfl ti114 (tabC_get ho) rfl (by decide) rfl ?_;refine r_alloc [_, _, _] 3 (fun g => [_, _, _, _, _, _, ⟨some g, 114, _, 3, true⟩]) rfl rfl z114 rfl rfl (fun _ => rfl) (fun g1 => ?_);refine So 6 0 [_, _, _, _, _, _, ⟨some g1, 114, _, 3, true⟩] [_, _, _] ?_;refine A8 ?_;refine r_know 126 (.int .i64 x.op) rfl (by rw [z.inv.1]) ?_;refine A3 ?_;refine at_cond rfl (fun hb7 => ?_) (fun hb7 => ?_)
      ·
       have hm : (o.2.1 : Int) = x.op := by simpa using hb7
       rw [if_pos hm] at hst;have hjs := congrArg List.length hst;refine at_regionM ?_;refine A3 ?_;refine r_addS (p := o.1) (q := [40]) rfl rfl rfl rfl rfl rfl rfl (by have h := hb; simp only [List.length_append, List.length_cons, List.length_nil] at h hjs ⊢; omega) ?_;refine A2 ?_;refine Gm 2 [0, 1] [2, 3] (fun (d1 : BdX (q.s ++ ((o.1 ++ [40]) ++ joinC (txtLs x.args) ++ [41]))) => [BB g true d1.1, BF d1.1, _, _, _, _, _]) (c_list_step z m H hok hf hM (o.1 ++ [40]) [41] g a2 q hq (by have h := hb; simp only [hs, List.length_append, List.length_cons, List.length_nil] at h hjs ⊢; omega)) (fun ⟨d3, hd3, e3⟩ => ?_);refine A4 ?_;refine Ar (((i + 1 : Nat) : Int)) ?_;refine A3 ?_;exact Nl ⟨(i + 1, true, d3), hlt, hd3, by rw [e3, hs, hst]; simp only [List.append_assoc], .inl rfl⟩ (hL := Weak.auto)
      ·
       have hm : (o.2.1 : Int) ≠ x.op := by simpa using hb7
       rw [if_neg hm] at hst;have hjs := congrArg List.length hst;refine A4 ?_;refine Ar (((i + 1 : Nat) : Int)) ?_;refine A3 ?_;exact Nl ⟨(i + 1, a2, q), hlt, hq, by rw [hs, hst, List.append_nil], hA.imp id (fun h => ⟨find_none_step h.1 ho (by simpa using hm), h.2⟩)⟩ (hL := Weak.auto)
     ·
      have hge : i = 12 := (by have := of_decide_eq_false hb6; omega)
      subst hge;refine A4 ?_
      refine at_end0nD rfl  (fun w hL => by
  have ha : a2 = true := by
   rcases hA with h | ⟨h, hk⟩
   · exact h
   · exact absurd (find_none_all h (Nat.le_refl _)) (hkind hk)
  subst ha
  exact ⟨⟨q, hq, hs⟩, rfl, hL.pk [some 0, some 1]⟩)
    ·
     have h3 : x.op ≠ 3 := by simpa using hb4
     refine A6 ?_;refine at_cond rfl (fun hb5 => ?_) (fun hb5 => ?_)
     ·
      have h5 : x.op = 5 := by simpa using hb5
      have hsw : swS x = sZone ++ quoS x.name ++ [34, 41] := by unfold swS; rw [if_neg h1, if_neg h4, if_neg h3, if_pos h5]
      refine at_regionM ?_;refine A3 ?_;refine r_know 100 (.string (strU x.name)) rfl (by rw [z.inv.2.1]) ?_;refine r_scall0 [.string (strU x.name), .string (strU [34]), .string (strU [34, 34])] [3] rfl rfl rfl (c_ReplaceAll m x.name hfn) ⟨⟨_, rfl, Blk.le_refl _⟩, trivial⟩ rfl ?_;refine r_addS (p := sZone) (q := quoS x.name) rfl rfl rfl rfl rfl rfl rfl (by have h := hb; simp only [hsw, List.length_append, List.length_cons, List.length_nil] at h ⊢; omega) ?_;refine r_addS (p := sZone ++ quoS x.name) (q := [34, 41]) rfl rfl rfl rfl rfl rfl rfl (by have h := hb; simp only [hsw, List.length_append, List.length_cons, List.length_nil] at h ⊢; omega) ?_;refine Gm 2 [0, 1] [] (fun d1 => [BB g true d1.1, BF d1.1, _, _, _, _]) (c_b_WriteString g a d (sZone ++ quoS x.name ++ [34, 41]) hd (by have h := hb; simp only [hsw, List.length_append, List.length_cons, List.length_nil] at h ⊢; omega)) (fun ⟨d1, hd1, e1⟩ => ?_);refine A5 ?_;refine r_scall [] [] rfl rfl rfl c_syntax_functions trivial rfl (.inr fun _ b hb => by rw [List.mem_singleton.1 hb]) (fun gf => ?_);refine A5 ?_;refine El (ι := {r : Nat × Bool × Bd // r.1 ≤ 12 ∧ r.2.2.ok ∧ r.2.2.s = d.s ++ (swS x ++ fnL x (funT.take r.1)) ∧ (r.2.1 = true ∨ ((funT.take r.1).find? (fun f => decide ((f.2.1 : Int) = x.op)) = none ∧ ¬ sw6 x.op))}) (fun ⟨⟨i, a2, q⟩, hi, hq, hs, hA⟩ => ([(0, .pointer (some ⟨g, 0, none⟩)), (4, .pointer (some ⟨g0, 0, none⟩)), (117, slv (some gf) 0 12 12), (118, .int .i64 12), (119, .int .i64 (i : Nat))], [BB g a2 q, BF q, gB z.T false, GM m, XB g0 z, ⟨some gf, 114, tabC funT, 36, true⟩], 12 - i)) ⟨(0, true, d1), Nat.zero_le _, hd1, by rw [e1]; rw [hsw]; simp [fnL], .inl rfl⟩ ?_ (hL := (weak_pk [some 0, some 1, some 2, some 3, some 4, some 6]));rintro ⟨⟨i, a2, q⟩, hi, hq, hs, hA⟩;(try dsimp only);dsimp only at hi hq hs hA;refine A6 ?_;refine at_cond rfl (fun hb7 => ?_) (fun hb7 => ?_)
      ·
       have hlt : i < 12 := (by have := of_decide_eq_true hb7; omega)
       obtain ⟨o, ho⟩ : ∃ o, funT[i]? = some o := ⟨funT[i]'(by show i < 12; exact hlt), List.getElem?_eq_getElem _⟩
       have hst := fnL_step x ho;have hle := fnL_le x funT (i + 1);refine A6 ?_;refine Ix 5 (i * 3) ?_;refine r_load (v := .agg #[.string (strU o.1), .int .i64 (o.2.1 : Nat), .int .i64 (o.2.2 : Nat)]) 5 (i * 3) _ rfl rfl rfl rfl ti114 (tabC_get ho) rfl (by decide) rfl ?_;refine r_alloc [_, _, _] 3 (fun g => [_, _, _, _, _, _, ⟨some g, 114, _, 3, true⟩]) rfl rfl z114 rfl rfl (fun _ => rfl) (fun g1 => ?_);refine So 6 0 [_, _, _, _, _, _, ⟨some g1, 114, _, 3, true⟩] [_, _, _] ?_;refine A8 ?_;refine r_know 126 (.int .i64 x.op) rfl (by rw [z.inv.1]) ?_;refine A3 ?_;refine at_cond rfl (fun hb8 => ?_) (fun hb8 => ?_)
       ·
        have hm : (o.2.1 : Int) = x.op := by simpa using hb8
        rw [if_pos hm] at hst;have hjs := congrArg List.length hst;refine at_regionM ?_;refine A3 ?_;refine r_addS (p := o.1) (q := [40]) rfl rfl rfl rfl rfl rfl rfl (by have h := hb; simp only [List.length_append, List.length_cons, List.length_nil] at h hjs ⊢; omega) ?_;refine A2 ?_;refine Gm 2 [0, 1] [2, 3] (fun (d1 : BdX (q.s ++ ((o.1 ++ [40]) ++ joinC (txtLs x.args) ++ [41]))) => [BB g true d1.1, BF d1.1, _, _, _, _, _]) (c_list_step z m H hok hf hM (o.1 ++ [40]) [41] g a2 q hq (by have h := hb; simp only [hs, List.length_append, List.length_cons, List.length_nil] at h hjs ⊢; omega)) (fun ⟨d3, hd3, e3⟩ => ?_);refine A4 ?_;refine Ar (((i + 1 : Nat) : Int)) ?_;refine A3 ?_;exact Nl ⟨(i + 1, true, d3), hlt, hd3, by rw [e3, hs, hst]; simp only [List.append_assoc], .inl rfl⟩ (hL := Weak.auto)
       ·
        have hm : (o.2.1 : Int) ≠ x.op := by simpa using hb8
        rw [if_neg hm] at hst;have hjs := congrArg List.length hst;refine A4 ?_;refine Ar (((i + 1 : Nat) : Int)) ?_;refine A3 ?_;exact Nl ⟨(i + 1, a2, q), hlt, hq, by rw [hs, hst, List.append_nil], hA.imp id (fun h => ⟨find_none_step h.1 ho (by simpa using hm), h.2⟩)⟩ (hL := Weak.auto)
      ·
       have hge : i = 12 := (by have := of_decide_eq_false hb7; omega)
       subst hge;refine A4 ?_
       refine at_end0nD rfl  (fun w hL => by
  have ha : a2 = true := by
   rcases hA with h | ⟨h, hk⟩
   · exact h
   · exact absurd (find_none_all h (Nat.le_refl _)) (hkind hk)
  subst ha
  exact ⟨⟨q, hq, hs⟩, rfl, hL.pk [some 0, some 1]⟩)
     ·
      have h5 : x.op ≠ 5 := by simpa using hb5
      refine A6 ?_;refine at_cond rfl (fun hb6 => ?_) (fun hb6 => ?_)
      ·
       have h6 : x.op = 6 := by simpa using hb6
       have hsw : swS x = [91] ++ joinC (txtLs x.args) ++ [93] := by unfold swS; rw [if_neg h1, if_neg h4, if_neg h3, if_neg h5, if_pos h6]
       refine at_regionM ?_;refine A3 ?_;refine Gm 2 [0, 1] [2, 3] (fun (d1 : BdX (d.s ++ ([91] ++ joinC (txtLs x.args) ++ [93]))) => [BB g true d1.1, BF d1.1, _, _, _, _]) (c_list_step z m H hok hf hM [91] [93] g a d hd (by have h := hb; simp only [hsw, List.length_append, List.length_cons, List.length_nil] at h ⊢; omega)) (fun ⟨d1, hd1, e1⟩ => ?_);refine A5 ?_;refine r_scall [] [] rfl rfl rfl c_syntax_functions trivial rfl (.inr fun _ b hb => by rw [List.mem_singleton.1 hb]) (fun gf => ?_);refine A5 ?_;refine El (ι := {r : Nat × Bool × Bd // r.1 ≤ 12 ∧ r.2.2.ok ∧ r.2.2.s = d.s ++ (swS x ++ fnL x (funT.take r.1)) ∧ (r.2.1 = true ∨ ((funT.take r.1).find? (fun f => decide ((f.2.1 : Int) = x.op)) = none ∧ ¬ sw6 x.op))}) (fun ⟨⟨i, a2, q⟩, hi, hq, hs, hA⟩ => ([(0, .pointer (some ⟨g, 0, none⟩)), (4, .pointer (some ⟨g0, 0, none⟩)), (117, slv (some gf) 0 12 12), (118, .int .i64 12), (119, .int .i64 (i : Nat))], [BB g a2 q, BF q, gB z.T false, GM m, XB g0 z, ⟨some gf, 114, tabC funT, 36, true⟩], 12 - i)) ⟨(0, true, d1), Nat.zero_le _, hd1, by rw [e1]; rw [hsw]; simp [fnL], .inl rfl⟩ ?_ (hL := (weak_pk [some 0, some 1, some 2, some 3, some 4, some 6]));rintro ⟨⟨i, a2, q⟩, hi, hq, hs, hA⟩;(try dsimp only);dsimp only at hi hq hs hA;refine A6 ?_;refine at_cond rfl (fun hb8 => ?_) (fun hb8 => ?_)
       ·
        have hlt : i < 12 := (by have := of_decide_eq_true hb8; omega)
        obtain ⟨o, ho⟩ : ∃ o, funT[i]? = some o := ⟨funT[i]'(by show i < 12; exact hlt), List.getElem?_eq_getElem _⟩
        have hst := fnL_step x ho;have hle := fnL_le x funT (i + 1);refine A6 ?_;refine Ix 5 (i * 3) ?_;refine r_load (v := .agg #[.string (strU o.1), .int .i64 (o.2.1 : Nat), .int .i64 (o.2.2 : Nat)]) 5 (i * 3) _ rfl rfl rfl rfl ti114 (tabC_get ho) rfl (by decide) rfl ?_;refine r_alloc [_, _, _] 3 (fun g => [_, _, _, _, _, _, ⟨some g, 114, _, 3, true⟩]) rfl rfl z114 rfl rfl (fun _ => rfl) (fun g1 => ?_);refine So 6 0 [_, _, _, _, _, _, ⟨some g1, 114, _, 3, true⟩] [_, _, _] ?_;refine A8 ?_;refine r_know 126 (.int .i64 x.op) rfl (by rw [z.inv.1]) ?_;refine A3 ?_;refine at_cond rfl (fun hb9 => ?_) (fun hb9 => ?_)
        ·
         have hm : (o.2.1 : Int) = x.op := by simpa using hb9
         rw [if_pos hm] at hst;have hjs := congrArg List.length hst;refine at_regionM ?_;refine A3 ?_;refine r_addS (p := o.1) (q := [40]) rfl rfl rfl rfl rfl rfl rfl (by have h := hb; simp only [List.length_append, List.length_cons, List.length_nil] at h hjs ⊢; omega) ?_;refine A2 ?_;refine Gm 2 [0, 1] [2, 3] (fun (d1 : BdX (q.s ++ ((o.1 ++ [40]) ++ joinC (txtLs x.args) ++ [41]))) => [BB g true d1.1, BF d1.1, _, _, _, _, _]) (c_list_step z m H hok hf hM (o.1 ++ [40]) [41] g a2 q hq (by have h := hb; simp only [hs, List.length_append, List.length_cons, List.length_nil] at h hjs ⊢; omega)) (fun ⟨d3, hd3, e3⟩ => ?_);refine A4 ?_;refine Ar (((i + 1 : Nat) : Int)) ?_;refine A3 ?_;exact Nl ⟨(i + 1, true, d3), hlt, hd3, by rw [e3, hs, hst]; simp only [List.append_assoc], .inl rfl⟩ (hL := Weak.auto)
        ·
         have hm : (o.2.1 : Int) ≠ x.op := by simpa using hb9
         rw [if_neg hm] at hst;have hjs := congrArg List.length hst;refine A4 ?_;refine Ar (((i + 1 : Nat) : Int)) ?_;refine A3 ?_;exact Nl ⟨(i + 1, a2, q), hlt, hq, by rw [hs, hst, List.append_nil], hA.imp id (fun h => ⟨find_none_step h.1 ho (by simpa using hm), h.2⟩)⟩ (hL := Weak.auto)
       ·
        have hge : i = 12 := (by have := of_decide_eq_false hb8; omega)
        subst hge;refine A4 ?_
        refine at_end0nD rfl  (fun w hL => by
  have ha : a2 = true := by
   rcases hA with h | ⟨h, hk⟩
   · exact h
   · exact absurd (find_none_all h (Nat.le_refl _)) (hkind hk)
  subst ha
  exact ⟨⟨q, hq, hs⟩, rfl, hL.pk [some 0, some 1]⟩)
      ·
       have h6 : x.op ≠ 6 := by simpa using hb6
       refine A6 ?_;refine at_cond rfl (fun hb7 => ?_) (fun hb7 => ?_)
       ·
        have h2 : x.op = 2 := by simpa using hb7
        have hsw : swS x = sPoint ++ joinC (txtLs x.args) ++ [41] := by unfold swS; rw [if_neg h1, if_neg h4, if_neg h3, if_neg h5, if_neg h6, if_pos h2]
        refine at_regionM ?_;refine A3 ?_;refine Gm 2 [0, 1] [2, 3] (fun (d1 : BdX (d.s ++ (sPoint ++ joinC (txtLs x.args) ++ [41]))) => [BB g true d1.1, BF d1.1, _, _, _, _]) (c_list_step z m H hok hf hM sPoint [41] g a d hd (by have h := hb; simp only [hsw, List.length_append, List.length_cons, List.length_nil] at h ⊢; omega)) (fun ⟨d1, hd1, e1⟩ => ?_);refine A5 ?_;refine r_scall [] [] rfl rfl rfl c_syntax_functions trivial rfl (.inr fun _ b hb => by rw [List.mem_singleton.1 hb]) (fun gf => ?_);refine A5 ?_;refine El (ι := {r : Nat × Bool × Bd // r.1 ≤ 12 ∧ r.2.2.ok ∧ r.2.2.s = d.s ++ (swS x ++ fnL x (funT.take r.1)) ∧ (r.2.1 = true ∨ ((funT.take r.1).find? (fun f => decide ((f.2.1 : Int) = x.op)) = none ∧ ¬ sw6 x.op))}) (fun ⟨⟨i, a2, q⟩, hi, hq, hs, hA⟩ => ([(0, .pointer (some ⟨g, 0, none⟩)), (4, .pointer (some ⟨g0, 0, none⟩)), (117, slv (some gf) 0 12 12), (118, .int .i64 12), (119, .int .i64 (i : Nat))], [BB g a2 q, BF q, gB z.T false, GM m, XB g0 z, ⟨some gf, 114, tabC funT, 36, true⟩], 12 - i)) ⟨(0, true, d1), Nat.zero_le _, hd1, by rw [e1]; rw [hsw]; simp [fnL], .inl rfl⟩ ?_ (hL := (weak_pk [some 0, some 1, some 2, some 3, some 4, some 6]));rintro ⟨⟨i, a2, q⟩, hi, hq, hs, hA⟩;(try dsimp only);dsimp only at hi hq hs hA;refine A6 ?_;refine at_cond rfl (fun hb9 => ?_) (fun hb9 => ?_)
        ·
         have hlt : i < 12 := (by have := of_decide_eq_true hb9; omega)
         obtain ⟨o, ho⟩ : ∃ o, funT[i]? = some o := ⟨funT[i]'(by show i < 12; exact hlt), List.getElem?_eq_getElem _⟩
         have hst := fnL_step x ho;have hle := fnL_le x funT (i + 1);refine A6 ?_;refine Ix 5 (i * 3) ?_;refine r_load (v := .agg #[.string (strU o.1), .int .i64 (o.2.1 : Nat), .int .i64 (o.2.2 : Nat)]) 5 (i * 3) _ rfl rfl rfl rfl ti114 (tabC_get ho) rfl (by decide) rfl ?_;refine r_alloc [_, _, _] 3 (fun g => [_, _, _, _, _, _, ⟨some g, 114, _, 3, true⟩]) rfl rfl z114 rfl rfl (fun _ => rfl) (fun g1 => ?_);refine So 6 0 [_, _, _, _, _, _, ⟨some g1, 114, _, 3, true⟩] [_, _, _] ?_;refine A8 ?_;refine r_know 126 (.int .i64 x.op) rfl (by rw [z.inv.1]) ?_;refine A3 ?_;refine at_cond rfl (fun hb10 => ?_) (fun hb10 => ?_)
         ·
          have hm : (o.2.1 : Int) = x.op := by simpa using hb10
          rw [if_pos hm] at hst;have hjs := congrArg List.length hst;refine at_regionM ?_;refine A3 ?_;refine r_addS (p := o.1) (q := [40]) rfl rfl rfl rfl rfl rfl rfl (by have h := hb; simp only [List.length_append, List.length_cons, List.length_nil] at h hjs ⊢; omega) ?_;refine A2 ?_;refine Gm 2 [0, 1] [2, 3] (fun (d1 : BdX (q.s ++ ((o.1 ++ [40]) ++ joinC (txtLs x.args) ++ [41]))) => [BB g true d1.1, BF d1.1, _, _, _, _, _]) (c_list_step z m H hok hf hM (o.1 ++ [40]) [41] g a2 q hq (by have h := hb; simp only [hs, List.length_append, List.length_cons, List.length_nil] at h hjs ⊢; omega)) (fun ⟨d3, hd3, e3⟩ => ?_);refine A4 ?_;refine Ar (((i + 1 : Nat) : Int)) ?_;refine A3 ?_;exact Nl ⟨(i + 1, true, d3), hlt, hd3, by rw [e3, hs, hst]; simp only [List.append_assoc], .inl rfl⟩ (hL := Weak.auto)
         ·
          have hm : (o.2.1 : Int) ≠ x.op := by simpa using hb10
          rw [if_neg hm] at hst;have hjs := congrArg List.length hst;refine A4 ?_;refine Ar (((i + 1 : Nat) : Int)) ?_;refine A3 ?_;exact Nl ⟨(i + 1, a2, q), hlt, hq, by rw [hs, hst, List.append_nil], hA.imp id (fun h => ⟨find_none_step h.1 ho (by simpa using hm), h.2⟩)⟩ (hL := Weak.auto)
        ·
         have hge : i = 12 := (by have := of_decide_eq_false hb9; omega)
         subst hge;refine A4 ?_
         refine at_end0nD rfl  (fun w hL => by
  have ha : a2 = true := by
   rcases hA with h | ⟨h, hk⟩
   · exact h
   · exact absurd (find_none_all h (Nat.le_refl _)) (hkind hk)
  subst ha
  exact ⟨⟨q, hq, hs⟩, rfl, hL.pk [some 0, some 1]⟩)
       ·
        have h2 : x.op ≠ 2 := by simpa using hb7
        have hsw : swS x = [] := by unfold swS; rw [if_neg h1, if_neg h4, if_neg h3, if_neg h5, if_neg h6, if_neg h2]
        have hk6 : ¬ sw6 x.op := fun h => by unfold sw6 at h; omega
        refine A5 ?_;refine r_scall [] [] rfl rfl rfl c_syntax_functions trivial rfl (.inr fun _ b hb => by rw [List.mem_singleton.1 hb]) (fun gf => ?_);refine A5 ?_;refine El (ι := {r : Nat × Bool × Bd // r.1 ≤ 12 ∧ r.2.2.ok ∧ r.2.2.s = d.s ++ (swS x ++ fnL x (funT.take r.1)) ∧ (r.2.1 = true ∨ ((funT.take r.1).find? (fun f => decide ((f.2.1 : Int) = x.op)) = none ∧ ¬ sw6 x.op))}) (fun ⟨⟨i, a2, q⟩, hi, hq, hs, hA⟩ => ([(0, .pointer (some ⟨g, 0, none⟩)), (4, .pointer (some ⟨g0, 0, none⟩)), (117, slv (some gf) 0 12 12), (118, .int .i64 12), (119, .int .i64 (i : Nat))], [BB g a2 q, BF q, gB z.T false, GM m, XB g0 z, ⟨some gf, 114, tabC funT, 36, true⟩], 12 - i)) ⟨(0, a, d), Nat.zero_le _, hd, by show d.s = _; rw [hsw]; simp [fnL], .inr ⟨rfl, hk6⟩⟩ ?_ (hL := (weak_pk [some 0, some 1, some 2, some 3, some 4, some 6]));rintro ⟨⟨i, a2, q⟩, hi, hq, hs, hA⟩;(try dsimp only);dsimp only at hi hq hs hA;refine A6 ?_;refine at_cond rfl (fun hb9 => ?_) (fun hb9 => ?_)
        ·
         have hlt : i < 12 := (by have := of_decide_eq_true hb9; omega)
         obtain ⟨o, ho⟩ : ∃ o, funT[i]? = some o := ⟨funT[i]'(by show i < 12; exact hlt), List.getElem?_eq_getElem _⟩
         have hst := fnL_step x ho;have hle := fnL_le x funT (i + 1);refine A6 ?_;refine Ix 5 (i * 3) ?_;refine r_load (v := .agg #[.string (strU o.1), .int .i64 (o.2.1 : Nat), .int .i64 (o.2.2 : Nat)]) 5 (i * 3) _ rfl rfl rfl rfl ti114 (tabC_get ho) rfl (by decide) rfl ?_;refine r_alloc [_, _, _] 3 (fun g => [_, _, _, _, _, _, ⟨some g, 114, _, 3, true⟩]) rfl rfl z114 rfl rfl (fun _ => rfl) (fun g1 => ?_);refine So 6 0 [_, _, _, _, _, _, ⟨some g1, 114, _, 3, true⟩] [_, _, _] ?_;refine A8 ?_;refine r_know 126 (.int .i64 x.op) rfl (by rw [z.inv.1]) ?_;refine A3 ?_;refine at_cond rfl (fun hb10 => ?_) (fun hb10 => ?_)
         ·
          have hm : (o.2.1 : Int) = x.op := by simpa using hb10
          rw [if_pos hm] at hst;have hjs := congrArg List.length hst;refine at_regionM ?_;refine A3 ?_;refine r_addS (p := o.1) (q := [40]) rfl rfl rfl rfl rfl rfl rfl (by have h := hb; simp only [List.length_append, List.length_cons, List.length_nil] at h hjs ⊢; omega) ?_;refine A2 ?_;refine Gm 2 [0, 1] [2, 3] (fun (d1 : BdX (q.s ++ ((o.1 ++ [40]) ++ joinC (txtLs x.args) ++ [41]))) => [BB g true d1.1, BF d1.1, _, _, _, _, _]) (c_list_step z m H hok hf hM (o.1 ++ [40]) [41] g a2 q hq (by have h := hb; simp only [hs, List.length_append, List.length_cons, List.length_nil] at h hjs ⊢; omega)) (fun ⟨d3, hd3, e3⟩ => ?_);refine A4 ?_;refine Ar (((i + 1 : Nat) : Int)) ?_;refine A3 ?_;exact Nl ⟨(i + 1, true, d3), hlt, hd3, by rw [e3, hs, hst]; simp only [List.append_assoc], .inl rfl⟩ (hL := Weak.auto)
         ·
          have hm : (o.2.1 : Int) ≠ x.op := by simpa using hb10
          rw [if_neg hm] at hst;have hjs := congrArg List.length hst;refine A4 ?_;refine Ar (((i + 1 : Nat) : Int)) ?_;refine A3 ?_;exact Nl ⟨(i + 1, a2, q), hlt, hq, by rw [hs, hst, List.append_nil], hA.imp id (fun h => ⟨find_none_step h.1 ho (by simpa using hm), h.2⟩)⟩ (hL := Weak.auto)
        ·
         have hge : i = 12 := (by have := of_decide_eq_false hb9; omega)
         subst hge;refine A4 ?_
         refine at_end0nD rfl  (fun w hL => by
  have ha : a2 = true := by
   rcases hA with h | ⟨h, hk⟩
   · exact h
   · exact absurd (find_none_all h (Nat.le_refl _)) (hkind hk)
  subst ha
  exact ⟨⟨q, hq, hs⟩, rfl, hL.pk [some 0, some 1]⟩)
end Go.Proofs.YtfijbadahkmhbaaGreatDoor
set_option maxHeartbeats 20000000
namespace Go.Proofs.YtfijbadahkmhbaaGreatDoor
open Go Go.RowKit Go.Via
set_option maxRecDepth 20000 in
theorem c_b_WriteByteD (g : Nat) (a : Bool) (d : Bd) (c : UInt8) (hd : d.ok) (hm : d.s.length + 1 ≤ 17179869184) : ECallD Tryz.prog 124 [BB g a d, BF d] [.pointer (some ⟨g, 0, none⟩), .int .u8 (c.toNat : Nat)] (BdX (d.s ++ [c])) (fun _ => .nilIface) (fun x => [BB g true x.1, BF x.1]) := by
 refine ⟨by kernel_rfl, fun B w hD hL0 => ?_⟩;obtain ⟨hd1, hd2, hd3⟩ := hd;refine callsD_atB (args := [.pointer (some ⟨g, 0, none⟩), .int .u8 (c.toNat : Nat)]) Tryz.func124 rfl (Nat.le_of_ble_eq_true rfl) hL0 ?_;show At B ⟨17, [(0, .pointer (some ⟨g, 0, none⟩)), (1, .int .u8 (c.toNat : Nat))], [BB g a d, BF d]⟩ _;refine A6 ?_;refine at_regionM ?_;refine A1 ?_;refine Gm 1 [0] [] (fun _ => [BB g true d, BF d]) (c_b_copyCheck g a d) (fun _ => ?_);refine A10 ?_;refine r_buildSlice [(0, _)] (fun g => [_, _, ⟨some g, 5, _, 1, true⟩]) rfl rfl rfl (bs125_1) rfl (fun _ => rfl) (fun g0 => ?_);refine q_append (b2o := g0) (b := BF d) (len := d.s.length) (n2 := 1) 1 2 (fun r => [BB g true d, ⟨some r.g, 5, NB d.s ++ [.int .u8 (c.toNat : Nat)], r.n, true⟩, _]) u125 el5 rfl rfl rfl rfl rfl rfl rfl rfl rfl rfl rfl rfl (by rw [NB_length, Nat.mul_one]) hd1 (by rw [Nat.mul_one]; exact hd2) rfl (fun v hv => by rw [List.mem_singleton.1 hv]; rfl) hm (fun r => rfl) (fun r => ?_);refine A2 ?_;refine So 0 1 [⟨some g, 127, _, 2, true⟩, _, _] [_, _] ?_;refine A8 ?_;refine at_end1 rfl (res_tmp rfl) (fun w hL => wb_fin r _ hL)
end Go.Proofs.YtfijbadahkmhbaaGreatDoor
namespace Go.Via
open Go Go.RowKit
noncomputable def inS (x : XT) (o : Bs8 × Nat × Nat) : Bs8 :=
  if o.2.2 = 3 then sNot ++ txtAt x.args 0 3 else txtAt x.args 0 (if o.2.2 = 4 then 5 else o.2.2) ++ ([32] ++ o.1 ++ [32]) ++ txtAt x.args 1 (o.2.2 + 1)
theorem txt_op {x : XT} {o : Bs8 × Nat × Nat} (h : opsT.find? (fun f => decide ((f.2.1 : Int) = x.op)) = some o) (lv : Nat) : txt x lv = if o.2.2 < lv then [40] ++ inS x o ++ [41] else inS x o := by
  cases x with
  | mk op nm u l =>
    have hop : (XT.mk op nm u l).op = op := rfl
    rw [hop] at h
    rw [txt, h]
    rfl
theorem op_args {x : XT} {o : Bs8 × Nat × Nat} (hn : nodeE x = 0) (h : opsT.find? (fun f => decide ((f.2.1 : Int) = x.op)) = some o) : (o.2.2 = 3 → x.args.length = 1) ∧ (o.2.2 ≠ 3 → x.args.length = 2) := by
  have hm := List.mem_of_find?_eq_some h
  have hp := List.find?_some h
  have he : (o.2.1 : Int) = x.op := by simpa using hp
  have hc : ∀ o ∈ opsT, cntL (o.2.1 : Nat) = if o.2.2 = 3 then 1 else 2 := by decide
  have h1 := hc o hm
  rw [he] at h1
  unfold nodeE at hn
  split at hn
  · cases hn
  split at hn
  · cases hn
  rename_i h2
  have h3 : ((x.args.length : Nat) : Int) = cntL x.op := by
    by_cases e : ((x.args.length : Nat) : Int) = cntL x.op
    · exact e
    · exact absurd (.inl e) h2
  rw [h1] at h3
  refine ⟨fun e => ?_, fun e => ?_⟩
  · rw [if_pos e] at h3; omega
  · rw [if_neg e] at h3; omega
theorem ops_small {o : Bs8 × Nat × Nat} (h : o ∈ opsT) : o.2.2 ≤ 7 ∧ o.1.length ≤ 6 := by
  have : ∀ o ∈ opsT, o.2.2 ≤ 7 ∧ o.1.length ≤ 6 := by decide
  exact this o h
theorem kind_ok {x : XT} (hn : nodeE x = 0) (h : opsT.find? (fun f => decide ((f.2.1 : Int) = x.op)) = none) : ¬ sw6 x.op → funT.find? (fun f => decide ((f.2.1 : Int) = x.op)) ≠ none := by
  intro h6 hf
  unfold nodeE at hn
  split at hn
  · cases hn
  rename_i h1
  have ho : ∀ f ∈ opsT, (f.2.1 : Int) ≠ x.op := fun f hm => by have := List.find?_eq_none.1 h f hm; simpa using this
  have e25 : x.op ≠ 25 := fun e => ho ([110, 111, 116], 25, 3) (by decide) (by rw [e]; rfl)
  refine h1 ?_
  unfold sw6 at h6
  unfold cntL
  rw [if_neg (by omega), if_neg e25, if_neg (by omega), hf]
  dsimp only
  rw [h]
  decide
end Go.Via
