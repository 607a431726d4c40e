/-
  Part 12: lemmas, and walks through the functions that the laws of chapter 43 call. Each theorem states its own conditions.
-/
import Derived.Lib.Replace
import Derived.Test.YtfijbadahkmhbaaGreatDoorA04
import Derived.Test.YtfijbadahkmhbaaGreatDoorA07
import Derived.Test.YtfijbadahkmhbaaGreatDoorA11
set_option linter.unusedVariables false
set_option linter.unusedSimpArgs false
set_option maxHeartbeats 20000000
namespace Go.Proofs.YtfijbadahkmhbaaGreatDoor
open Go Go.RowKit Go.Via
set_option maxRecDepth 20000 in
theorem c_Variables_1 {x : XT} (z : XR x) (lv gv : Nat) {l : List Bs8} (s : SRw l) (hl : l.length + 1 ≤ 17179869184) : ECall Tryz.prog 54 [VV gv s, VR s] [z.v, .int .i64 (lv : Nat), .pointer (some ⟨gv, 0, none⟩)] (SRw (l ++ (if x.op = 4 then [x.name] else []))) (fun _ => .tuple #[]) (fun s1 => [VV gv s1, VR s1]) := by
 refine ⟨by kernel_rfl, fun B w hD hL0 => ?_⟩;refine cB3 13 Tryz.func54 hL0 ?_;refine A2 ?_;refine Bo [_, _, _, _, _, _, _] 7 (fun g => [_, _, ⟨some g, 30, _, 7, true⟩]) (fun g0 => ?_);refine A6 ?_;refine r_know 6 (.int .i64 x.op) rfl (by rw [z.inv.1]) ?_;refine A3 ?_;refine at_cond rfl (fun hb0 => ?_) (fun hb0 => ?_)
 ·
  have hop : x.op = 4 := by simpa using hb0
  refine A4 ?_;refine r_know 10 (.string (strU x.name)) rfl (by rw [z.inv.2.1]) ?_;refine r_buildSlice [(0, _)] (fun g => [_, _, _, ⟨some g, 9, _, 1, true⟩]) rfl rfl rfl (bs36_1) rfl (fun _ => rfl) (fun g1 => ?_);refine q_append (b := VR s) (len := l.length) (cap := s.cap) (n2 := 1) 1 3 (fun r => [_, ⟨some r.g, 9, SB l ++ [.string (strU x.name)], r.n, true⟩, _, _]) u36 el9 rfl rfl rfl rfl rfl rfl rfl rfl rfl rfl rfl rfl (by rw [SB_length, Nat.mul_one]) s.h1 (by rw [Nat.mul_one]; exact s.h2) rfl (fun v hv => by rw [List.mem_singleton.1 hv]; rfl) hl (fun r => rfl) (fun r => ?_);refine So 0 0 [⟨some gv, 36, _, 1, true⟩, _, _, _] [_] ?_;refine A1 ?_
  refine at_end0n rfl  (fun w hL => by
  refine ⟨(SRw.add x.name r).cast (by rw [if_pos hop]), rfl, ?_⟩;(try dsimp only);rw [SRw.cast_blk]
  exact SRw.add_blk x.name r s gv hL)
 ·
  have hop : x.op ≠ 4 := by simpa using hb0
  refine A1 ?_
  refine at_end0n rfl  (fun w hL => by
  refine ⟨s.cast (by rw [if_neg hop, List.append_nil]), rfl, ?_⟩;(try dsimp only);rw [SRw.cast_blk]
  exact hL.pk [some 0, some 1])
set_option maxRecDepth 20000 in
theorem c_each_stepV {x : XT} (z : XR x) (gv : Nat) (H : ∀ y : XT, y.size < x.size → EachV gv y) (lv : Nat) {l : List Bs8} (s : SRw l) (hM : l.length + x.size ≤ 1000000000) (hN : lv + x.size ≤ 1099511627776) : ECall Tryz.prog 51 [VV gv s, VR s, gB z.T false] [z.v, .int .i64 (lv : Nat), .func (.func 54) #[] #[.pointer (some ⟨gv, 0, none⟩)]] (SRw (l ++ varsL x)) (fun _ => .tuple #[]) (fun s1 => [VV gv s1, VR s1]) := by
 refine ⟨by kernel_rfl, fun B w hD hL0 => ?_⟩;obtain ⟨h1, h2, h3, h4, h5, h6⟩ := z.inv;have hsz := x.size_eq;have hal := XT.len_sizes x.args
 have hite : (if x.op = 4 then [x.name] else []).length ≤ 1 := by split <;> simp
 refine cB3 25 Tryz.func51 hL0 ?_;refine A2 ?_;refine Bo [_, _, _, _, _, _, _] 7 (fun g => [_, _, _, ⟨some g, 30, _, 7, true⟩]) (fun g0 => ?_);refine A3 ?_;refine at_regionM ?_;refine A1 ?_;refine r_load 3 0 [_, _, _, _, _, _, _] rfl rfl rfl rfl ti30 rfl rfl rfl rfl ?_;refine r_know 9 (z.v) rfl rfl ?_;refine A1 ?_;refine r_gfcallM (f := 54) (A := [VV gv s, VR s]) (C := []) [z.v, .int .i64 (lv : Nat)] [.pointer (some ⟨gv, 0, none⟩)] [0, 1] [] (fun s1 => [VV gv s1, VR s1, _, _]) rfl rfl rfl rfl rfl (c_Variables_1 z lv gv s (by omega)) (by decide) rfl rfl trivial rfl rfl (fun _ => rfl) (fun _ => allOwn rfl) (fun _ => rfl) (fun s1 => ?_);refine A11 ?_;refine El (ι := {q : Nat × (m : List Bs8) × SRw m // q.1 ≤ x.args.length ∧ l ++ varsL x = q.2.1 ++ varsLs (x.args.drop q.1) ∧ q.2.1.length + XT.sizes (x.args.drop q.1) ≤ 1000000000}) (fun ⟨⟨i, m, s2⟩, hi, hI, hB⟩ => ([(1, .int .i64 (lv : Nat)), (2, .func (.func 54) #[] #[.pointer (some ⟨gv, 0, none⟩)]), (13, .slice z.a z.n z.cap), (14, .int .i64 (z.n : Nat)), (15, .int .i64 (i : Nat))], [VV gv s2, VR s2, gB z.T false], x.args.length - i)) ⟨(0, ⟨_, s1⟩), Nat.zero_le _, by rw [varsL_eq, List.append_assoc]; rfl, by rw [List.length_append]; show _ + XT.sizes x.args ≤ _; omega⟩ ?_ (hL := Weak.auto);rintro ⟨⟨i, m, s2⟩, hi, hI, hB⟩;(try dsimp only);dsimp only at hi hI hB;refine A6 ?_;refine at_cond rfl (fun hb1 => ?_) (fun hb1 => ?_)
 ·
  have hlt : i < x.args.length := by have := of_decide_eq_true hb1; omega
  obtain ⟨y, hy⟩ : ∃ y, x.args[i]? = some y := ⟨x.args[i], List.getElem?_eq_getElem hlt⟩
  obtain ⟨ga, oa, ca, u, hza, hma, hra, hTa, hna⟩ := z.arg hy;have hsd := XT.sizes_drop hy;have hyg := XT.sizes_get hy;refine A6 ?_;refine r_indexAddrG (gg := ga) (len := z.n) (cap := z.cap) (oa + i * 7) u28 ti30 rfl rfl (congrArg (fun a => some (Value.slice a z.n z.cap)) hza) rfl (by omega) (by omega) (by show oa + Int.toNat _ * 7 = _; omega) ?_;refine r_loadT (v := u.v) 2 (oa + i * 7) u.cs rfl rfl rfl z.hT hma hna rfl ti30 hra rfl rfl rfl ?_;refine r_alloc [_, _, _, _, _, _, _] 7 (fun g => [_, _, _, ⟨some g, 30, _, 7, true⟩]) rfl rfl z30 rfl rfl (fun _ => rfl) (fun g1 => ?_);refine So 3 0 [_, _, _, ⟨some g1, 30, _, 7, true⟩] [_, _, _, _, _, _, _] ?_;refine A2 ?_;refine at_regionM ?_;refine r_load 3 0 [_, _, _, _, _, _, _] rfl rfl rfl rfl ti30 rfl rfl rfl rfl ?_;refine r_know 19 (u.v) rfl rfl ?_;refine A1 ?_;refine Ar (((lv + 1 : Nat) : Int)) ?_;refine A1 ?_;refine Gm 2 [0, 1] [2] (fun s3 => [VV gv s3, VR s3, _, _]) (by have h := H y (XT.arg_lt hy) u (lv + 1) m s2 (by omega) (by omega); rw [hTa] at h; exact h) (fun s3 => ?_);refine A4 ?_;refine Ar (((i + 1 : Nat) : Int)) ?_;refine A3 ?_;exact Nl ⟨(i + 1, ⟨_, s3⟩), hlt, by rw [hI, varsLs_step hy, List.append_assoc], by have := varsL_len y; rw [List.length_append]; show _ + XT.sizes (x.args.drop (i + 1)) ≤ _; omega⟩ (hL := Weak.auto)
 ·
  have hge : i = x.args.length := by have := of_decide_eq_false hb1; omega
  refine A4 ?_
  refine at_end0n rfl  (fun w hL => by
  have e : m = l ++ varsL x := by rw [hI, hge, List.drop_length, varsLs, List.append_nil]
  refine ⟨s2.cast e, rfl, ?_⟩;(try dsimp only);rw [SRw.cast_blk]
  exact hL.pk [some 0, some 1])
end Go.Proofs.YtfijbadahkmhbaaGreatDoor
namespace Go.Proofs.YtfijbadahkmhbaaGreatDoor
open Go Go.RowKit Go.Via
theorem c_eachV (gv : Nat) (x : XT) : EachV gv x := by
  suffices h : ∀ k : Nat, ∀ x : XT, x.size < k → EachV gv x from h _ x (Nat.lt_succ_self _)
  intro k
  induction k with
  | zero => intro x h; omega
  | succ k ih => exact fun x hx u lv l s hM hN => c_each_stepV u gv (fun y hy => ih y (by omega)) lv s hM hN
end Go.Proofs.YtfijbadahkmhbaaGreatDoor
set_option maxHeartbeats 20000000
namespace Go.Proofs.YtfijbadahkmhbaaGreatDoor
open Go Go.RowKit Go.Via
set_option maxRecDepth 20000 in
theorem c_Variables {x : XT} (z : XR x) (hM : x.size ≤ 1000000) : ECall Tryz.prog 25 [gB z.T false] [z.v] (SRw (varsU x)) (fun s => slv s.b 0 (varsU x).length s.cap) (fun s => [VR s]) := by
 refine ⟨by kernel_rfl, fun B w hD hL0 => ?_⟩;have hvl := varsL_len x
 have hul : (varsU x).length ≤ (varsL x).length := by have := compact_le (sortL (varsL x)); rw [sortL_len] at this; exact this
 refine cB1 11 Tryz.func25 hL0 ?_;refine A2 ?_;refine Bo [_, _, _, _, _, _, _] 7 (fun g => [_, ⟨some g, 30, _, 7, true⟩]) (fun g0 => ?_);refine A5 ?_;refine r_alloc [_] 1 (fun g => [_, _, ⟨some g, 36, _, 1, true⟩]) rfl rfl z36 rfl rfl (fun _ => rfl) (fun g1 => ?_);refine A3 ?_;refine at_weakL (L' := [_, _, VV g1 SRw.zero, VR SRw.zero]) (Weak.nilB _ (by decide)) ?_;refine at_regionM ?_;refine r_load 1 0 [_, _, _, _, _, _, _] rfl rfl rfl rfl ti30 rfl rfl rfl rfl ?_;refine r_know 4 (z.v) rfl rfl ?_;refine A1 ?_;refine r_gcallM (A := [VV g1 SRw.zero, VR SRw.zero]) (C := [gB z.T false]) [z.v, .int .i64 (1 : Nat), .func (.func 54) #[] #[.pointer (some ⟨g1, 0, none⟩)]] [2, 3] [0] (fun s1 => [_, _, VV g1 s1, VR s1]) rfl rfl rfl rfl (c_eachV g1 x z 1 [] SRw.zero (by show 0 + _ ≤ _; omega) (by omega)) (by decide) rfl rfl ⟨⟨_, rfl, Blk.le_refl _⟩, trivial⟩ rfl rfl (fun _ => rfl) (fun _ => allOwn rfl) (fun _ => rfl) (fun s1 => ?_);refine A3 ?_;refine at_regionM ?_;refine A1 ?_;refine Gm 1 [3] [] (fun _ => [_, _, _, SBk s1.b (sortL (varsL x)) s1.n]) (c_Sort s1.b (varsL x) s1.n s1.cap (by omega) (Nat.le_trans s1.h1 s1.h2)) (fun _ => ?_);refine A3 ?_;refine at_regionM ?_;refine A1 ?_;refine Gm 1 [3] [] (fun _ => [_, _, _, SBk s1.b (varsU x) s1.n]) (by have h := c_Compact s1.b (sortL (varsL x)) s1.n s1.cap (by rw [sortL_len]; omega) s1.h2 (by rw [sortL_len]; exact s1.h1); rw [sortL_len] at h; exact h) (fun _ => ?_);refine A4 ?_;refine at_end1 rfl (res_tmp rfl) (fun w hL => ⟨⟨s1.b, s1.n, s1.cap, Nat.le_trans hul s1.h1, s1.h2⟩, rfl, hL.pk [some 3]⟩)
end Go.Proofs.YtfijbadahkmhbaaGreatDoor
namespace Go.Proofs.YtfijbadahkmhbaaGreatDoor
open Go Go.RowKit Go.Via
noncomputable def chkQ (kind : Int) (l : List Bs8) (x : XT) : Nat :=
  if kind < 1 ∨ 3 < kind then 4
  else if ((l.length : Nat) : Int) ≠ kind - 1 then 5
  else if l.all nameL = false then 34
  else if l.length = 2 ∧ l[0]? = l[1]? then 8
  else if chkE x ≠ 0 then chkE x
  else if (varsU x).all l.contains = false then 16
  else 0
abbrev QBx (g : Nat) (kind : Int) (b : Option Nat) (pre : List Value) (l : List Bs8) (cap : Nat) {x : XT} (z : XR x) : Blk := ⟨some g, 39, [.int .i64 kind, slv b pre.length l.length cap, .int .i64 z.op, .string z.nm, .bool z.b1, .string z.s1, .bool z.b2, .string z.s2, .slice z.a z.n z.cap], 9, true⟩
abbrev QV (kind : Int) (b : Option Nat) (pre : List Value) (l : List Bs8) (cap : Nat) {x : XT} (z : XR x) : Value := .agg #[.int .i64 kind, slv b pre.length l.length cap, .int .i64 z.op, .string z.nm, .bool z.b1, .string z.s1, .bool z.b2, .string z.s2, .slice z.a z.n z.cap]
theorem all_false_at {α : Type} {f : α → Bool} {l : List α} {i : Nat} {v : α} (h : l[i]? = some v) (hf : f v = false) : l.all f = false := by
  rw [← Bool.not_eq_true]
  intro h2
  have := List.all_eq_true.1 h2 v (List.mem_of_getElem? h)
  rw [hf] at this; cases this
theorem all_step {α : Type} {f : α → Bool} {l : List α} {i : Nat} {v : α} (hl : (l.take i).all f = true) (h : l[i]? = some v) (hf : f v = true) : (l.take (i + 1)).all f = true := by
  rw [List.take_add_one, h, List.all_append, hl]
  simp [hf]
theorem all_full {α : Type} {f : α → Bool} {l : List α} {i : Nat} (hl : (l.take i).all f = true) (h : l.length ≤ i) : l.all f = true := by
  rwa [List.take_of_length_le h] at hl
theorem SB_ne {l : List Bs8} (h : 0 < l.length) : SB l ≠ [] := fun e => by
  have := congrArg List.length e
  rw [SB_length] at this
  simp at this
  subst this
  simp at h
end Go.Proofs.YtfijbadahkmhbaaGreatDoor
set_option maxRecDepth 20000
namespace Go.Proofs.YtfijbadahkmhbaaGreatDoor
open Go Go.RowKit Go.Via Go.ChangeShapes Go.WideShapes
theorem rowAt_le {p : Program} {fits : TypeId → Bool} {d e count off n : Nat} (h : rowAt p fits d e count off n = true) : off ≤ count * p.cellsOf e := by
  cases d with
  | zero => cases h
  | succ d =>
    unfold rowAt at h
    dsimp only at h
    split at h
    · cases h
    · rename_i hs
      have hd := Nat.div_add_mod off (p.cellsOf e)
      have hlt := Nat.mod_lt off (Nat.pos_of_ne_zero hs)
      rw [Bool.or_eq_true] at h
      rcases h with h | h
      · simp only [Bool.and_eq_true, beq_iff_eq, decide_eq_true_eq] at h
        have : p.cellsOf e * (off / p.cellsOf e) ≤ p.cellsOf e * count := Nat.mul_le_mul_left _ (by omega)
        rw [Nat.mul_comm count]
        omega
      · rw [Bool.and_eq_true, decide_eq_true_eq] at h
        have : p.cellsOf e * (off / p.cellsOf e + 1) ≤ p.cellsOf e * count := Nat.mul_le_mul_left _ (by omega)
        rw [Nat.mul_add, Nat.mul_one] at this
        rw [Nat.mul_comm count]
        omega
theorem liesAt_le {p : Program} : ∀ {d e count off u n : Nat}, liesAt p d e count off u n = true → off ≤ count * p.cellsOf e
  | 0, _, _, _, _, _, h => by cases h
  | d + 1, e, count, off, u, n, h => by
    unfold liesAt at h
    rw [Bool.or_eq_true] at h
    rcases h with h | h
    · exact rowAt_le h
    · split at h
      · exact liesAt_le h
      · cases h
theorem has_blk {W : World} {r : Reach} {base : Nat} {a : Addr} {e n : Nat} (h : W.has Tryz.prog r base a e n) : ∃ (g : Nat) (pre : List Value) (N : Nat), a = ⟨g, pre.length, none⟩ ∧ BlkAt (Bs.of W) W ⟨some g, 9, pre ++ [], N, false⟩ g := by
  obtain ⟨_, hsp, row, cells, hsh, hl⟩ := h
  obtain ⟨g, off, spot⟩ := a
  simp only at hsp hsh hl
  subst hsp
  unfold World.shape? at hsh
  split at hsh
  · rename_i cur elem fr heq
    cases hsh
    have h1 := liesAt_le hl
    have h2 : off ≤ cur.size := Nat.le_trans h1 (Nat.div_mul_le_self _ _)
    have hpl : (cur.toList.take off).length = off := by simp; omega
    refine ⟨g, cur.toList.take off, cur.size, by rw [hpl], .inl ⟨cur, ⟨_, _, heq, (fun h => by cases h), (show 9 < mapMark by decide)⟩, rfl, ?_⟩, fun h => by cases h⟩
    show cur.toList.take (cur.toList.take off ++ []).length = cur.toList.take off ++ []
    rw [List.append_nil, hpl]
  · cases hsh
section
variable {H : Type} {enc : TypeId × Value → H} {w : World}
theorem ce36 : Tryz.prog.cellsOf 36 = 1 := by kernel_rfl
theorem ce39 : Tryz.prog.cellsOf 39 = 9 := by kernel_rfl
theorem oStrs {r : Reach} {b0 fuel : Nat} {v : Value} {x : DataW H × List MemPlace} (hval : Cell.ok Tryz.prog w r b0 36 v) (h : DataW.trod enc Tryz.prog w 0 (fun _ => true) true fuel 36 [v] = some x) :
    ∃ (l : List Bs8) (b : Option Nat) (pre : List Value) (N cap : Nat), v = slv b pre.length l.length cap ∧ l.length ≤ cap ∧ (∀ g, b = some g → BlkAt (Bs.of w) w (VBk b 9 pre l N) g) ∧ (b = none → pre ++ SB l = [] ∧ N = 0) := by
  rcases DataW.trod_slice Tryz.underlying36 h with ⟨h1, _⟩ | ⟨a, len, cap, elems, rest, m, hm, h1, h2, _, hlc, _, hel, hx, _, _⟩
  · obtain rfl : v = .slice none 0 0 := by simpa using h1
    exact ⟨[], none, [], 0, 0, rfl, Nat.le_refl _, (fun g hg => by cases hg), fun _ => ⟨rfl, rfl⟩⟩
  · obtain rfl : v = .slice (some a) len cap := by simpa using h1
    rw [ce9] at hx
    obtain ⟨F, hF⟩ := choose_n (α := Bs8) [] (n := len) (p := fun i s => w.cells? 0 (a.add (i * 1)) 1 = some [.string (strU s)]) (fun i hi => by
      obtain ⟨y, hy⟩ : ∃ y, elems[i]? = some y := ⟨_, List.getElem?_eq_getElem (by omega)⟩
      have hxi := hx i hi
      rw [hy] at hxi
      obtain ⟨row, r1, r2⟩ := Option.bind_eq_some_iff.1 hxi
      obtain ⟨s, e, _, _⟩ := DataW.trod_string Tryz.underlying9 r2
      exact ⟨s.data.toList, by rw [r1, e, ← str_strU]⟩)
    by_cases h0 : len = 0
    · subst h0
      unfold Cell.ok at hval
      rw [Tryz.underlying36] at hval
      obtain ⟨g, pre, N, rfl, hB⟩ := has_blk hval.2.2
      exact ⟨[], some g, pre, N, cap, rfl, Nat.zero_le _, fun g' hg' => by cases hg'; exact hB, fun h => by cases h⟩
    · have hSB : SB ((List.range len).map F) = (List.range len).flatMap fun i => [.string (strU (F i))] := by
        unfold SB
        rw [List.map_map]
        induction (List.range len) with
        | nil => rfl
        | cons a l ih => rw [List.map_cons, List.flatMap_cons, ih]; rfl
      have hne : SB ((List.range len).map F) ≠ [] := fun e => by
        have := congrArg List.length e
        rw [SB_length] at this
        simp at this
        omega
      obtain ⟨g, pre, N, rfl, hB⟩ := blk_flat (w := w) (a := a) 9 (by decide) hne (by
        rw [hSB]
        exact cells_flat (k := 1) (fun i hi => hF i hi) (fun i hi => rfl) (by decide))
      have hlen : ((List.range len).map F).length = len := by simp
      exact ⟨(List.range len).map F, some g, pre, N, cap, by rw [hlen]; rfl, by rw [hlen]; exact hlc, fun g' hg' => by cases hg'; exact hB, fun h => by cases h⟩
theorem w39 {a b c : DataW H} (h : wOK 39 (.agg [a, b, c])) : wOK 30 c := by
  simp [wOK, DataW.weights, DataW.weightsEach, Tryz.underlying39] at h ⊢
  exact h.2.2
theorem openQ {r : Reach} {b0 : Nat} {v : Value} {d : DataW H} {ps : List MemPlace} (hval : Value.okWide Tryz.prog w r b0 39 v) (hd : DataW.Trod enc Tryz.prog w 0 (fun _ => true) true 39 v d ps) (hw : wOK 39 d) :
    ∃ (kind : Int) (l : List Bs8) (b : Option Nat) (pre : List Value) (N cap : Nat) (x : XT) (z : XR x), v = QV kind b pre l cap z ∧ (-9223372036854775808 ≤ kind ∧ kind ≤ 9223372036854775807) ∧ l.length ≤ cap ∧
      (∀ g, b = some g → BlkAt (Bs.of w) w (VBk b 9 pre l N) g) ∧ (b = none → pre ++ SB l = [] ∧ N = 0) ∧ (∀ p ∈ z.T, TabCell w p) ∧ x.lim = true := by
  obtain ⟨cs, rfl, hcs⟩ := okWide_struct Tryz.underlying39 hval
  obtain ⟨fuel, hf⟩ := hd
  have hrow : Row.okWide Tryz.prog w r b0 39 cs := by
    unfold Value.okWide at hval
    rw [Tryz.underlying39] at hval
    obtain ⟨cs', e, _, h⟩ := hval
    cases e; exact h
  obtain ⟨ts, hts, _, hall⟩ := hrow
  obtain rfl : ts = [3, 36, 3, 9, 4, 9, 4, 9, 28] := Option.some.inj (hts.symm.trans (show Tryz.prog.cellTypes Tryz.prog.depth 39 = some [3, 36, 3, 9, 4, 9, 4, 9, 28] by kernel_rfl))
  obtain ⟨xs, n, hn, hx, hl, hlen, hf⟩ := DataW.trod_struct Tryz.underlying39 hf
  rw [ce39] at hl
  obtain ⟨cl⟩ := cs
  match cl, hl, xs, hlen with
  | [c0, c1, c2, c3, c4, c5, c6, c7, c8], _, [y0, y1, y2], _ =>
    have f0 : DataW.trod enc Tryz.prog w 0 (fun _ => true) true n 3 ((([c0, c1, c2, c3, c4, c5, c6, c7, c8] : List Value).drop 0).take (Tryz.prog.cellsOf 3)) = some y0 := hf 0 _ rfl
    have f1 : DataW.trod enc Tryz.prog w 0 (fun _ => true) true n 36 ((([c0, c1, c2, c3, c4, c5, c6, c7, c8] : List Value).drop 1).take (Tryz.prog.cellsOf 36)) = some y1 := hf 1 _ rfl
    have f2 : DataW.trod enc Tryz.prog w 0 (fun _ => true) true n 30 ((([c0, c1, c2, c3, c4, c5, c6, c7, c8] : List Value).drop 2).take (Tryz.prog.cellsOf 30)) = some y2 := hf 2 _ rfl
    rw [ce3] at f0; rw [ce36] at f1; rw [ce30] at f2
    obtain ⟨kind, e0, _, hk⟩ := DataW.trod_int Tryz.underlying3 f0
    obtain ⟨u1, hu1, hok1⟩ := hall 1 c1 rfl
    obtain rfl : u1 = 36 := by simpa using hu1.symm
    have hok2 : Cell.ok Tryz.prog w r b0 36 c1 := by
      unfold Cell.okWide at hok1
      rw [Tryz.underlying36] at hok1
      exact hok1
    obtain ⟨l, b, pre, N, cap, e1, q1, q2, q3⟩ := oStrs hok2 f1
    have hxd : d = .agg [y0.1, y1.1, y2.1] := (Prod.ext_iff.1 hx).1
    rw [hxd] at hw
    obtain ⟨⟨x, T⟩, k1, k2, k3, k4⟩ := oX n _ _ f2 (w39 hw)
    obtain ⟨z, hz1, hz2⟩ := k2.toXR k1
    refine ⟨kind, l, b, pre, N, cap, x, z, ?_, ?_, q1, q2, q3, by rw [hz1]; exact k3, k4⟩
    · have e : z.cs = [c2, c3, c4, c5, c6, c7, c8] := hz2
      unfold XR.cs at e
      simp only [List.cons.injEq, and_true] at e
      obtain ⟨rfl, rfl, rfl, rfl, rfl, rfl, rfl⟩ := e
      have e0 : c0 = .int .i64 kind := by simpa using e0
      rw [e0, e1]
    · simp only [Lit.wf, Bool.and_eq_true, decide_eq_true_eq] at hk
      exact hk
end
abbrev BlkIn (W : World) (b : Blk) : Prop := (∀ g, b.base = some g → BlkAt (Bs.of W) W b g) ∧ (b.base = none → b.cs = [] ∧ b.n = 0 ∧ ∀ T : Tab, gtOK T = true → b.e = gE T → ∀ p ∈ T, TabCell W p)
theorem blk_gm {W : World} {m : Int} (hm : BlkAt (Bs.of W) W (GM m) 0) : BlkIn W (GM m) := ⟨fun g hg => by cases hg; exact hm, fun hn => by cases hn⟩
theorem blk_tab {W : World} {T : Tab} (hT : gtOK T = true) (h : ∀ p ∈ T, TabCell W p) : BlkIn W (gB T false) := ⟨fun g hg => (by cases hg), fun _ => ⟨rfl, rfl, tab_blk hT h⟩⟩
theorem blk_vb {W : World} {b : Option Nat} {pre : List Value} {l : List Bs8} {N : Nat} (h1 : ∀ g, b = some g → BlkAt (Bs.of W) W (VBk b 9 pre l N) g) (h2 : b = none → pre ++ SB l = [] ∧ N = 0) : BlkIn W (VBk b 9 pre l N) :=
  ⟨h1, fun hn => ⟨(h2 hn).1, (h2 hn).2, fun T _ he => absurd (he ▸ (show 9 < mapMark by decide)) (gE_ge T)⟩⟩
theorem allIn {W : World} : ∀ {L : List Blk}, List.foldr (fun b p => (b.own = false ∧ BlkIn W b) ∧ p) True L → LRel (Bs.of W) L W := fun {L} h => by
  have key : ∀ L : List Blk, List.foldr (fun b p => (b.own = false ∧ BlkIn W b) ∧ p) True L → ∀ b ∈ L, b.own = false ∧ BlkIn W b := by
    intro L
    induction L with
    | nil => intro _ b hb; cases hb
    | cons a L ih =>
      intro h b hb
      rcases List.mem_cons.1 hb with rfl | hb
      · exact h.1
      · exact ih h.2 b hb
  exact relAll (fun b hb => (key L h b hb).1) (fun b hb => (key L h b hb).2)
end Go.Proofs.YtfijbadahkmhbaaGreatDoor
namespace Go.Via
open Go Go.RowKit
section
variable {P : Program} {bl : List Nat} {ops : Array Oper} {K : St → Prop} {rest : List Oper} {nt : Nat} {t : List (Nat × Value)} {L : List Blk} {d : Nat} {ty : TypeId} {pos : String} {af : Array Edge} {g : Option (Nat × Bool)} {x y : Operand}
end
theorem ECall.toS {P : Program} {f : Nat} {L0 : List Blk} {args : List Value} {X : Type} {res : X → Value} {new : X → List Blk} (h : ECall P f L0 args X res new) : SCall P f L0 args X res new := ⟨h.1, fun w hL => h.2 (Bs.of w) w rfl hL⟩
end Go.Via
namespace Go.Proofs.YtfijbadahkmhbaaGreatDoor
open Go Go.RowKit Go.Via
end Go.Proofs.YtfijbadahkmhbaaGreatDoor
namespace Go.Via
open Go Go.RowKit
def NumV.parts : NumV → Bool × ByteArray × Bool × ByteArray
  | .q r => (decide (r.num < 0), mag r.num.natAbs, false, dm r)
  | .raw b1 s1 b2 s2 => (b1, s1, b2, s2)
theorem NumV.parts_cells {u : NumV} {b1 b2 : Bool} {s1 s2 : ByteArray} (h : u.cells = [.bool b1, .string s1, .bool b2, .string s2]) : u.parts = (b1, s1, b2, s2) := by
  cases u with
  | q r => obtain ⟨rfl, rfl, rfl, rfl⟩ := NumV.of_q h; rfl
  | raw c1 t1 c2 t2 => obtain ⟨rfl, rfl, rfl, rfl⟩ := NumV.of_raw h; rfl
def numE (a b : NumV) : Bool := (a.parts.1 == b.parts.1) && ((a.parts.2.1 == b.parts.2.1) && ((a.parts.2.2.1 == b.parts.2.2.1) && (a.parts.2.2.2 == b.parts.2.2.2)))
theorem numE_cells {u v : NumV} {b1 b2 c1 c2 : Bool} {s1 s2 t1 t2 : ByteArray} (h : u.cells = [.bool b1, .string s1, .bool b2, .string s2]) (k : v.cells = [.bool c1, .string t1, .bool c2, .string t2]) :
    ((b1 == c1) && ((s1 == t1) && ((b2 == c2) && (s2 == t2)))) = numE u v := by
  unfold numE
  rw [NumV.parts_cells h, NumV.parts_cells k]
theorem numE_refl (u : NumV) : numE u u = true := by
  unfold numE
  simp [bb_self]
mutual
def sameX : XT → XT → Bool
  | .mk o n u l, .mk o' n' u' l' => decide (o = o') && ((n == n') && (numE u u' && sames l l'))
def sames : List XT → List XT → Bool
  | [], [] => true
  | x :: l, y :: m => sameX x y && sames l m
  | [], _ :: _ => false
  | _ :: _, [] => false
end
theorem sameX_eq (x y : XT) : sameX x y = (decide (x.op = y.op) && ((x.name == y.name) && (numE x.num y.num && sames x.args y.args))) := by
  cases x; cases y; rw [sameX]; rfl
theorem sames_len : ∀ {l m : List XT}, l.length ≠ m.length → sames l m = false
  | [], [], h => absurd rfl h
  | [], _ :: _, _ => by rw [sames]
  | _ :: _, [], _ => by rw [sames]
  | x :: l, y :: m, h => by rw [sames, sames_len (l := l) (m := m) (fun e => h (by simp [e])), Bool.and_false]
theorem sames_step {l m : List XT} {i : Nat} {x y : XT} (hx : l[i]? = some x) (hy : m[i]? = some y) : sames (l.drop i) (m.drop i) = (sameX x y && sames (l.drop (i + 1)) (m.drop (i + 1))) := by
  obtain ⟨hl, rfl⟩ := List.getElem?_eq_some_iff.1 hx
  obtain ⟨hm, rfl⟩ := List.getElem?_eq_some_iff.1 hy
  rw [List.drop_eq_getElem_cons hl, List.drop_eq_getElem_cons hm, sames]
theorem sames_end {l m : List XT} {i : Nat} (h : i = l.length) (e : l.length = m.length) : sames (l.drop i) (m.drop i) = true := by
  subst h
  rw [List.drop_length, e, List.drop_length, sames]
mutual
theorem sameX_refl : ∀ x : XT, sameX x x = true
  | .mk o n u l => by rw [sameX, numE_refl, sames_refl l]; simp
theorem sames_refl : ∀ l : List XT, sames l l = true
  | [] => by rw [sames]
  | x :: l => by rw [sames, sameX_refl x, sames_refl l]; rfl
end
theorem byS2 {p : XT → XT → Prop} (h : ∀ x : XT, (∀ x' : XT, x'.size < x.size → ∀ y', p x' y') → ∀ y, p x y) (x y : XT) : p x y := by
  suffices k : ∀ n : Nat, ∀ x : XT, x.size < n → ∀ y, p x y from k _ x (Nat.lt_succ_self _) y
  intro n
  induction n with
  | zero => intro x hx; omega
  | succ n ih => exact fun x hx y => h x (fun x' hx' y' => ih x' (by omega) y') y
end Go.Via
namespace Go.Proofs.YtfijbadahkmhbaaGreatDoor
open Go Go.RowKit Go.Via
def SamC (x y : XT) : Prop := ∀ (z : XR x) (u : XR y), x.size ≤ 1000000000 → ECall Tryz.prog 32 [gB z.T false, gB u.T false] [z.v, u.v] Unit (fun _ => .bool (sameX x y)) (fun _ => [])
def EqlC (x y : XT) : Prop := ∀ (z : XR x) (u : XR y), x.size ≤ 1000000000 → ECall Tryz.prog 41 [gB z.T false, gB u.T false] [z.v, u.v] Unit (fun _ => .bool (sameX x y)) (fun _ => [])
end Go.Proofs.YtfijbadahkmhbaaGreatDoor
set_option maxHeartbeats 20000000
namespace Go.Proofs.YtfijbadahkmhbaaGreatDoor
open Go Go.RowKit Go.Via
set_option maxRecDepth 20000 in
theorem c_same_step {x y : XT} (z : XR x) (u : XR y) (H : ∀ x1 : XT, x1.size < x.size → ∀ y1, SamC x1 y1) (hM : x.size ≤ 1000000000) : ECall Tryz.prog 32 [gB z.T false, gB u.T false] [z.v, u.v] Unit (fun _ => .bool (sameX x y)) (fun _ => []) := by
 refine ⟨by kernel_rfl, fun B w hD hL0 => ?_⟩;obtain ⟨h1, h2, h3, h4, h5, h6⟩ := z.inv;obtain ⟨k1, k2, k3, k4, k5, k6⟩ := u.inv;have hlx := XT.len_sizes x.args;have hsx := XT.size_eq x;refine cB2 53 Tryz.func32 hL0 ?_;refine A2 ?_;refine Bo [_, _, _, _, _, _, _] 7 (fun g => [_, _, ⟨some g, 30, _, 7, true⟩]) (fun g0 => ?_);refine Bo [_, _, _, _, _, _, _] 7 (fun g => [_, _, _, ⟨some g, 30, _, 7, true⟩]) (fun g1 => ?_);refine A12 ?_;refine r_split 11 rfl (fun hb0 => ?_) (fun hb0 => ?_)
 ·
  have q1 : x.op ≠ y.op := by rw [← h1, ← k1]; have hh := hb0; simpa using hh
  refine A32 ?_;refine at_end1 rfl (res_tmp rfl) (fun w hL => ⟨(), congrArg (fun b => Ending.returned (.bool b)) (show sameX x y = false from by rw [sameX_eq, decide_eq_false q1]; rfl).symm, hL.pk []⟩)
 ·
  have q1 : x.op = y.op := by rw [← h1, ← k1]; have hh := hb0; simpa using hh
  refine A5 ?_;refine r_know 16 (.bool (!(x.name == y.name))) rfl (by rw [h2, k2, bne, strU_beq]) ?_;refine A2 ?_;refine r_split 18 rfl (fun hb1 => ?_) (fun hb1 => ?_)
  ·
   have q2 : (x.name == y.name) = false := by have hh := hb1; simpa using hh
   refine A25 ?_;refine at_end1 rfl (res_tmp rfl) (fun w hL => ⟨(), congrArg (fun b => Ending.returned (.bool b)) (show sameX x y = false from by rw [sameX_eq, q2, Bool.false_and, Bool.and_false]).symm, hL.pk []⟩)
  ·
   have q2 : (x.name == y.name) = true := by have hh := hb1; simpa using hh
   refine A1 ?_;refine r_load 2 2 [_, _, _, _] rfl rfl rfl rfl ti27 rfl rfl rfl rfl ?_;refine A1 ?_;refine r_load 3 2 [_, _, _, _] rfl rfl rfl rfl ti27 rfl rfl rfl rfl ?_;refine r_neqAgg rfl rfl rfl rfl gd27 (eq27r _ _ _ _ _ _ _ _) ?_;refine r_know 23 (.bool (!numE x.num y.num)) rfl (by rw [numE_cells h3 k3]) ?_;refine A2 ?_;refine r_split 25 rfl (fun hb2 => ?_) (fun hb2 => ?_)
   ·
    have q3 : numE x.num y.num = false := by have hh := hb2; simpa using hh
    refine A18 ?_;refine at_end1 rfl (res_tmp rfl) (fun w hL => ⟨(), congrArg (fun b => Ending.returned (.bool b)) (show sameX x y = false from by rw [sameX_eq, q3, Bool.false_and, Bool.and_false, Bool.and_false]).symm, hL.pk []⟩)
   ·
    have q3 : numE x.num y.num = true := by have hh := hb2; simpa using hh
    refine A3 ?_;refine r_know 28 (.int .i64 (x.args.length : Nat)) rfl (by rw [h5]) ?_;refine A3 ?_;refine r_know 31 (.int .i64 (y.args.length : Nat)) rfl (by rw [k5]) ?_;refine A4 ?_;refine at_cond rfl (fun hb3 => ?_) (fun hb3 => ?_)
    ·
     have q4 : x.args.length ≠ y.args.length := by have hh := hb3; simp at hh; omega
     refine A7 ?_;refine at_end1 rfl (res_tmp rfl) (fun w hL => ⟨(), congrArg (fun b => Ending.returned (.bool b)) (show sameX x y = false from by rw [sameX_eq, sames_len q4, Bool.and_false, Bool.and_false, Bool.and_false]).symm, hL.pk []⟩)
    ·
     have q4 : x.args.length = y.args.length := by have hh := hb3; simp at hh; omega
     refine A9 ?_;refine El (ι := {i : Nat // i ≤ x.args.length ∧ sames x.args y.args = sames (x.args.drop i) (y.args.drop i)}) (fun ⟨i, hi, hI⟩ => ([(2, .pointer (some ⟨g0, 0, none⟩)), (3, .pointer (some ⟨g1, 0, none⟩)), (5, .int .i64 (i : Nat))], [gB z.T false, gB u.T false, XB g0 z, XB g1 u], x.args.length - i)) ⟨0, Nat.zero_le _, by rw [List.drop_zero, List.drop_zero]⟩ ?_ (hL := Weak.auto);rintro ⟨i, hi, hI⟩;(try dsimp only);refine A7 ?_;refine r_know 37 (.int .i64 (x.args.length : Nat)) rfl (by rw [h5]) ?_;refine A3 ?_;refine at_cond rfl (fun hb5 => ?_) (fun hb5 => ?_)
     ·
      have hlt : i < x.args.length := by have := of_decide_eq_true hb5; omega
      obtain ⟨x1, hx1⟩ : ∃ x1, x.args[i]? = some x1 := ⟨x.args[i], List.getElem?_eq_getElem hlt⟩
      obtain ⟨y1, hy1⟩ : ∃ y1, y.args[i]? = some y1 := ⟨y.args[i]'(by omega), List.getElem?_eq_getElem _⟩
      obtain ⟨ga, oa, ca, v1, hza, hma, hra, hTa, hna⟩ := z.arg hx1;obtain ⟨gb, ob, cb, v2, hzb, hmb, hrb, hTb, hnb⟩ := u.arg hy1
      have hs1 : x1.size ≤ 1000000000 := by have := XT.arg_lt hx1; omega
      refine A5 ?_;refine at_drawnI [] mixed (by kernel_rfl) (by kernel_rfl) ?_;refine A3 ?_;refine r_indexAddrG (gg := ga) (len := z.n) (cap := z.cap) (oa + i * 7) u28 ti30 rfl rfl (congrArg (fun a => some (Value.slice a z.n z.cap)) hza) rfl (by omega) (by omega) (by show oa + Int.toNat _ * 7 = _; omega) ?_;refine r_loadT (v := v1.v) 0 (oa + i * 7) v1.cs rfl rfl rfl z.hT hma hna rfl ti30 hra rfl rfl rfl ?_;refine A3 ?_;refine r_indexAddrG (gg := gb) (len := u.n) (cap := u.cap) (ob + i * 7) u28 ti30 rfl rfl (congrArg (fun a => some (Value.slice a u.n u.cap)) hzb) rfl (by omega) (by omega) (by show ob + Int.toNat _ * 7 = _; omega) ?_;refine r_loadT (v := v2.v) 1 (ob + i * 7) v2.cs rfl rfl rfl u.hT hmb hnb rfl ti30 hrb rfl rfl rfl ?_;have hcx := H x1 (XT.arg_lt hx1) y1 v1 v2 hs1;rw [hTa, hTb] at hcx;refine r_scall0 [v1.v, v2.v] [0, 1] rfl rfl rfl (ECall.toS hcx) ⟨⟨_, rfl, Blk.le_refl _⟩, ⟨_, rfl, Blk.le_refl _⟩, trivial⟩ rfl ?_;refine A3 ?_;refine at_cond rfl (fun hb6 => ?_) (fun hb6 => ?_)
      ·
       have hs : sameX x1 y1 = false := by have hh := hb6; simpa using hh
       refine A11 ?_;refine at_end1 rfl (res_tmp rfl) (fun w hL => ⟨(), congrArg (fun b => Ending.returned (.bool b)) (show sameX x y = false from by rw [sameX_eq, decide_eq_true q1, q2, q3, hI, sames_step hx1 hy1, hs]; rfl).symm, hL.pk []⟩)
      ·
       have hs : sameX x1 y1 = true := by have hh := hb6; simpa using hh
       refine A5 ?_;refine Ar (((i + 1 : Nat) : Int)) ?_;refine A3 ?_;exact Nl ⟨i + 1, hlt, by rw [hI, sames_step hx1 hy1, hs]; rfl⟩ (hL := Weak.auto)
     ·
      have hge : i = x.args.length := by have := of_decide_eq_false hb5; omega
      refine A11 ?_;refine at_end1 rfl (res_tmp rfl) (fun w hL => ⟨(), congrArg (fun b => Ending.returned (.bool b)) (show sameX x y = true from by rw [sameX_eq, decide_eq_true q1, q2, q3, hI, sames_end hge q4]; rfl).symm, hL.pk []⟩)
set_option maxRecDepth 20000 in
theorem c_EqualFunc_step {x y : XT} (z : XR x) (u : XR y) (H : ∀ x1 : XT, x1.size < x.size → ∀ y1, EqlC x1 y1) (hM : x.size ≤ 1000000000) : ECall Tryz.prog 74 [gB z.T false, gB u.T false] [.slice z.a z.n z.cap, .slice u.a u.n u.cap, .func (.func 41) #[] #[]] Unit (fun _ => .bool (sames x.args y.args)) (fun _ => []) := by
 refine ⟨by kernel_rfl, fun B w hD hL0 => ?_⟩;obtain ⟨h1, h2, h3, h4, h5, h6⟩ := z.inv;obtain ⟨k1, k2, k3, k4, k5, k6⟩ := u.inv;have hlx := XT.len_sizes x.args;have hsx := XT.size_eq x;refine cB3 32 Tryz.func74 hL0 ?_;refine A10 ?_;refine r_know 11 (.int .i64 (x.args.length : Nat)) rfl (by rw [h5]) ?_;refine A2 ?_;refine r_know 13 (.int .i64 (y.args.length : Nat)) rfl (by rw [k5]) ?_;refine A3 ?_;refine at_cond rfl (fun hb0 => ?_) (fun hb0 => ?_)
 ·
  have q4 : x.args.length ≠ y.args.length := by have hh := hb0; simp at hh; omega
  refine A7 ?_;refine at_end1 rfl (res_tmp rfl) (fun w hL => ⟨(), congrArg (fun b => Ending.returned (.bool b)) (show sames x.args y.args = false from by rw [sames_len q4]).symm, hL.pk []⟩)
 ·
  have q4 : x.args.length = y.args.length := by have hh := hb0; simp at hh; omega
  refine A7 ?_;refine r_know 16 (.int .i64 (x.args.length : Nat)) rfl (by rw [h5]) ?_;refine A4 ?_;refine El (ι := {i : Nat // i ≤ x.args.length ∧ sames x.args y.args = sames (x.args.drop i) (y.args.drop i)}) (fun ⟨i, hi, hI⟩ => ([(1, .slice u.a u.n u.cap), (2, .func (.func 41) #[] #[]), (15, .slice z.a z.n z.cap), (16, .int .i64 (x.args.length : Nat)), (17, .int .i64 (i : Nat))], [gB z.T false, gB u.T false], x.args.length - i)) ⟨0, Nat.zero_le _, by rw [List.drop_zero, List.drop_zero]⟩ ?_ (hL := Weak.auto);rintro ⟨i, hi, hI⟩;(try dsimp only);refine A6 ?_;refine at_cond rfl (fun hb2 => ?_) (fun hb2 => ?_)
  ·
   have hlt : i < x.args.length := by have := of_decide_eq_true hb2; omega
   obtain ⟨x1, hx1⟩ : ∃ x1, x.args[i]? = some x1 := ⟨x.args[i], List.getElem?_eq_getElem hlt⟩
   obtain ⟨y1, hy1⟩ : ∃ y1, y.args[i]? = some y1 := ⟨y.args[i]'(by omega), List.getElem?_eq_getElem _⟩
   obtain ⟨ga, oa, ca, v1, hza, hma, hra, hTa, hna⟩ := z.arg hx1;obtain ⟨gb, ob, cb, v2, hzb, hmb, hrb, hTb, hnb⟩ := u.arg hy1
   have hs1 : x1.size ≤ 1000000000 := by have := XT.arg_lt hx1; omega
   refine A7 ?_;refine r_indexAddrG (gg := ga) (len := z.n) (cap := z.cap) (oa + i * 7) u28 ti30 rfl rfl (congrArg (fun a => some (Value.slice a z.n z.cap)) hza) rfl (by omega) (by omega) (by show oa + Int.toNat _ * 7 = _; omega) ?_;refine r_loadT (v := v1.v) 0 (oa + i * 7) v1.cs rfl rfl rfl z.hT hma hna rfl ti30 hra rfl rfl rfl ?_;refine r_alloc [_, _, _, _, _, _, _] 7 (fun g => [_, _, ⟨some g, 30, _, 7, true⟩]) rfl rfl z30 rfl rfl (fun _ => rfl) (fun g0 => ?_);refine A1 ?_;refine So 2 0 [_, _, ⟨some g0, 30, _, 7, true⟩] [_, _, _, _, _, _, _] ?_;refine A6 ?_;refine r_indexAddrG (gg := gb) (len := u.n) (cap := u.cap) (ob + i * 7) u28 ti30 rfl rfl (congrArg (fun a => some (Value.slice a u.n u.cap)) hzb) rfl (by omega) (by omega) (by show ob + Int.toNat _ * 7 = _; omega) ?_;refine r_loadT (v := v2.v) 1 (ob + i * 7) v2.cs rfl rfl rfl u.hT hmb hnb rfl ti30 hrb rfl rfl rfl ?_;refine r_alloc [_, _, _, _, _, _, _] 7 (fun g => [_, _, _, ⟨some g, 30, _, 7, true⟩]) rfl rfl z30 rfl rfl (fun _ => rfl) (fun g1 => ?_);refine So 3 0 [_, _, _, ⟨some g1, 30, _, 7, true⟩] [_, _, _, _, _, _, _] ?_;refine A3 ?_;refine at_regionM ?_;refine A1 ?_;refine r_load 2 0 [_, _, _, _, _, _, _] rfl rfl rfl rfl ti30 rfl rfl rfl rfl ?_;refine r_know 27 (v1.v) rfl rfl ?_;refine r_load 3 0 [_, _, _, _, _, _, _] rfl rfl rfl rfl ti30 rfl rfl rfl rfl ?_;refine r_know 28 (v2.v) rfl rfl ?_;refine r_gfcallM (f := 41) (A := []) (C := [gB z.T false, gB u.T false]) [v1.v, v2.v] [] [] [0, 1] (fun _ => [_, _, _, _]) rfl rfl rfl rfl rfl (by have h := H x1 (XT.arg_lt hx1) y1 v1 v2 hs1; rw [hTa, hTb] at h; exact h) (by decide) rfl rfl ⟨⟨_, rfl, Blk.le_refl _⟩, ⟨_, rfl, Blk.le_refl _⟩, trivial⟩ rfl rfl (fun _ => rfl) (fun _ => allOwn rfl) (fun _ => rfl) (fun _ => ?_);refine A3 ?_;refine at_cond rfl (fun hb3 => ?_) (fun hb3 => ?_)
   ·
    have hs : sameX x1 y1 = false := by have hh := hb3; simpa using hh
    refine A11 ?_;refine at_end1 rfl (res_tmp rfl) (fun w hL => ⟨(), congrArg (fun b => Ending.returned (.bool b)) (show sames x.args y.args = false from by rw [hI, sames_step hx1 hy1, hs]; rfl).symm, hL.pk []⟩)
   ·
    have hs : sameX x1 y1 = true := by have hh := hb3; simpa using hh
    refine A4 ?_;refine Ar (((i + 1 : Nat) : Int)) ?_;refine A3 ?_;exact Nl ⟨i + 1, hlt, by rw [hI, sames_step hx1 hy1, hs]; rfl⟩ (hL := Weak.auto)
  ·
   have hge : i = x.args.length := by have := of_decide_eq_false hb2; omega
   refine A11 ?_;refine at_end1 rfl (res_tmp rfl) (fun w hL => ⟨(), congrArg (fun b => Ending.returned (.bool b)) (show sames x.args y.args = true from by rw [hI, sames_end hge q4]).symm, hL.pk []⟩)
set_option maxRecDepth 20000 in
theorem c_EqualExpr_step {x y : XT} (z : XR x) (u : XR y) (H : ∀ x1 : XT, x1.size < x.size → ∀ y1, EqlC x1 y1) (hM : x.size ≤ 1000000000) : ECall Tryz.prog 41 [gB z.T false, gB u.T false] [z.v, u.v] Unit (fun _ => .bool (sameX x y)) (fun _ => []) := by
 refine ⟨by kernel_rfl, fun B w hD hL0 => ?_⟩;obtain ⟨h1, h2, h3, h4, h5, h6⟩ := z.inv;obtain ⟨k1, k2, k3, k4, k5, k6⟩ := u.inv;have hlx := XT.len_sizes x.args;have hsx := XT.size_eq x;refine cB2 31 Tryz.func41 hL0 ?_;refine A2 ?_;refine Bo [_, _, _, _, _, _, _] 7 (fun g => [_, _, ⟨some g, 30, _, 7, true⟩]) (fun g0 => ?_);refine Bo [_, _, _, _, _, _, _] 7 (fun g => [_, _, _, ⟨some g, 30, _, 7, true⟩]) (fun g1 => ?_);refine A4 ?_;refine at_regionM ?_;refine A6 ?_;refine r_split 10 rfl (fun hb0 => ?_) (fun hb0 => ?_)
 ·
  have q1 : x.op = y.op := by rw [← h1, ← k1]; have hh := hb0; simpa using hh
  refine A5 ?_;refine r_know 15 (.bool (x.name == y.name)) rfl (by rw [h2, k2, strU_beq]) ?_;refine A2 ?_;refine r_split 17 rfl (fun hb1 => ?_) (fun hb1 => ?_)
  ·
   have q2 : (x.name == y.name) = true := by have hh := hb1; simpa using hh
   refine A1 ?_;refine r_load 2 2 [_, _, _, _] rfl rfl rfl rfl ti27 rfl rfl rfl rfl ?_;refine A1 ?_;refine r_load 3 2 [_, _, _, _] rfl rfl rfl rfl ti27 rfl rfl rfl rfl ?_;refine r_eqlAgg rfl rfl rfl rfl gd27 (eq27r _ _ _ _ _ _ _ _) ?_;refine r_know 22 (.bool (numE x.num y.num)) rfl (by rw [numE_cells h3 k3]) ?_;refine A2 ?_;refine r_split 24 rfl (fun hb2 => ?_) (fun hb2 => ?_)
   ·
    have q3 : numE x.num y.num = true := by have hh := hb2; simpa using hh
    refine A4 ?_;refine Gm 0 [] [0, 1] (fun _ => [_, _, _, _]) (c_EqualFunc_step z u H hM) (fun _ => ?_);refine A5 ?_;refine at_end1 rfl (res_tmp rfl) (fun w hL => ⟨(), congrArg (fun b => Ending.returned (.bool b)) (show sameX x y = sames x.args y.args from by rw [sameX_eq, decide_eq_true q1, q2, q3]; rfl).symm, hL.pk []⟩)
   ·
    have q3 : numE x.num y.num = false := by have hh := hb2; simpa using hh
    refine A10 ?_;refine at_end1 rfl (res_tmp rfl) (fun w hL => ⟨(), congrArg (fun b => Ending.returned (.bool b)) (show sameX x y = false from by rw [sameX_eq, q3, Bool.false_and, Bool.and_false, Bool.and_false]).symm, hL.pk []⟩)
  ·
   have q2 : (x.name == y.name) = false := by have hh := hb1; simpa using hh
   refine A17 ?_;refine at_end1 rfl (res_tmp rfl) (fun w hL => ⟨(), congrArg (fun b => Ending.returned (.bool b)) (show sameX x y = false from by rw [sameX_eq, q2, Bool.false_and, Bool.and_false]).symm, hL.pk []⟩)
 ·
  have q1 : x.op ≠ y.op := by rw [← h1, ← k1]; have hh := hb0; simpa using hh
  refine A24 ?_;refine at_end1 rfl (res_tmp rfl) (fun w hL => ⟨(), congrArg (fun b => Ending.returned (.bool b)) (show sameX x y = false from by rw [sameX_eq, decide_eq_false q1]; rfl).symm, hL.pk []⟩)
end Go.Proofs.YtfijbadahkmhbaaGreatDoor
namespace Go.Proofs.YtfijbadahkmhbaaGreatDoor
open Go Go.RowKit Go.Via
theorem c_same (x y : XT) : SamC x y := byS2 (fun x H y z u hM => c_same_step z u H hM) x y
theorem c_EqualExpr (x y : XT) : EqlC x y := byS2 (fun x H y z u hM => c_EqualExpr_step z u H hM) x y
end Go.Proofs.YtfijbadahkmhbaaGreatDoor
set_option maxHeartbeats 20000000
namespace Go.Proofs.YtfijbadahkmhbaaGreatDoor
open Go Go.RowKit Go.Via
set_option maxRecDepth 20000 in
theorem c_slEqual (b1 : Option Nat) (e1 : Nat) (p1 : List Value) (l1 : List Bs8) (n1 c1 : Nat) (b2 : Option Nat) (e2 : Nat) (p2 : List Value) (l2 : List Bs8) (n2 c2 : Nat) (hl1 : l1.length ≤ 1000000000) : ECall Tryz.prog 73 [VBk b1 e1 p1 l1 n1, VBk b2 e2 p2 l2 n2] [slv b1 p1.length l1.length c1, slv b2 p2.length l2.length c2] Unit (fun _ => .bool (decide (l1 = l2))) (fun _ => []) := by
 refine ⟨by kernel_rfl, fun B w hD hL0 => ?_⟩;refine cB2 26 Tryz.func73 hL0 ?_;refine A15 ?_;refine at_cond rfl (fun hb0 => ?_) (fun hb0 => ?_)
 ·
  have hll : ((l1.length : Nat) : Int) ≠ (l2.length : Nat) := by have hh := hb0; simpa using hh
  refine A7 ?_;refine at_end1 rfl (res_tmp rfl) (fun w hL => ⟨(), congrArg (fun b => Ending.returned (.bool b)) (decide_eq_false (by intro e; rw [e] at hll; exact hll rfl)).symm, hL.pk []⟩)
 ·
  have hll : ((l1.length : Nat) : Int) = (l2.length : Nat) := by have hh := hb0; simpa using hh
  refine A11 ?_;refine El (ι := {i : Nat // i ≤ l1.length ∧ l1.take i = l2.take i}) (fun ⟨i, hi, hI⟩ => ([(0, slv b1 p1.length l1.length c1), (1, slv b2 p2.length l2.length c2), (12, .int .i64 (l1.length : Nat)), (13, .int .i64 (i : Nat))], [VBk b1 e1 p1 l1 n1, VBk b2 e2 p2 l2 n2], l1.length - i)) ⟨0, Nat.zero_le _, rfl⟩ ?_ (hL := Weak.auto);rintro ⟨i, hi, hI⟩;(try dsimp only);refine A6 ?_;refine at_cond rfl (fun hb2 => ?_) (fun hb2 => ?_)
  ·
   have hlt : i < l1.length := (by have := of_decide_eq_true hb2; omega)
   obtain ⟨a, ha⟩ : ∃ a, l1[i]? = some a := ⟨l1[i], List.getElem?_eq_getElem hlt⟩
   obtain ⟨c, hc⟩ : ∃ c, l2[i]? = some c := ⟨l2[i]'(by omega), List.getElem?_eq_getElem _⟩
   refine A11 ?_;refine at_drawnI [] mixed (by kernel_rfl) (by kernel_rfl) ?_;refine A2 ?_;refine r_indexAddr 0 (p1.length + i * 1) u36 ti9 rfl rfl rfl rfl rfl (by omega) (by omega) (pre_ne (SB_ne (by omega))) (by show _ + Int.toNat _ * 1 = _; omega) ?_;refine r_load (v := .string (strU a)) 0 (p1.length + i * 1) _ rfl rfl rfl rfl ti9 (pre_get (SB_get ha) rfl) rfl (by decide) rfl ?_;refine A2 ?_;refine r_indexAddr 1 (p2.length + i * 1) u36 ti9 rfl rfl rfl rfl rfl (by omega) (by omega) (pre_ne (SB_ne (by omega))) (by show _ + Int.toNat _ * 1 = _; omega) ?_;refine r_load (v := .string (strU c)) 1 (p2.length + i * 1) _ rfl rfl rfl rfl ti9 (pre_get (SB_get hc) rfl) rfl (by decide) rfl ?_;refine A1 ?_;refine r_know 24 (.bool (a != c)) rfl (by rw [bne, strU_beq]; rfl) ?_;refine A2 ?_;refine at_cond rfl (fun hb3 => ?_) (fun hb3 => ?_)
   ·
    have hac : a ≠ c := by have hh := hb3; simpa using hh
    refine A11 ?_;refine at_end1 rfl (res_tmp rfl) (fun w hL => ⟨(), congrArg (fun b => Ending.returned (.bool b)) (decide_eq_false (by intro e; subst e; rw [ha] at hc; exact hac (Option.some.inj hc))).symm, hL.pk []⟩)
   ·
    have hac : a = c := by have hh := hb3; simpa using hh
    refine A4 ?_;refine Ar (((i + 1 : Nat) : Int)) ?_;refine A3 ?_;exact Nl ⟨i + 1, hlt, by rw [List.take_add_one, List.take_add_one, hI, ha, hc, hac]⟩ (hL := Weak.auto)
  ·
   have hge : i = l1.length := (by have := of_decide_eq_false hb2; omega)
   refine A11 ?_;refine at_end1 rfl (res_tmp rfl) (fun w hL => ⟨(), congrArg (fun b => Ending.returned (.bool b)) (decide_eq_true (by have e1 := List.take_of_length_le (Nat.le_of_eq hge.symm) (l := l1); have e2 : l2.take i = l2 := List.take_of_length_le (by omega); rw [← e1, hI, e2])).symm, hL.pk []⟩)
end Go.Proofs.YtfijbadahkmhbaaGreatDoor
set_option maxHeartbeats 20000000
namespace Go.Proofs.YtfijbadahkmhbaaGreatDoor
open Go Go.RowKit Go.Via
set_option maxRecDepth 20000 in
theorem c_sameStrings (b1 : Option Nat) (e1 : Nat) (p1 : List Value) (l1 : List Bs8) (n1 c1 : Nat) (b2 : Option Nat) (e2 : Nat) (p2 : List Value) (l2 : List Bs8) (n2 c2 : Nat) (hl1 : l1.length ≤ 1000000000) : ECall Tryz.prog 24 [VBk b1 e1 p1 l1 n1, VBk b2 e2 p2 l2 n2] [slv b1 p1.length l1.length c1, slv b2 p2.length l2.length c2] Unit (fun _ => .bool (decide (l1 = l2))) (fun _ => []) := by
 refine ⟨by kernel_rfl, fun B w hD hL0 => ?_⟩;refine cB2 26 Tryz.func24 hL0 ?_;refine A15 ?_;refine at_cond rfl (fun hb0 => ?_) (fun hb0 => ?_)
 ·
  have hll : ((l1.length : Nat) : Int) ≠ (l2.length : Nat) := by have hh := hb0; simpa using hh
  refine A7 ?_;refine at_end1 rfl (res_tmp rfl) (fun w hL => ⟨(), congrArg (fun b => Ending.returned (.bool b)) (decide_eq_false (by intro e; rw [e] at hll; exact hll rfl)).symm, hL.pk []⟩)
 ·
  have hll : ((l1.length : Nat) : Int) = (l2.length : Nat) := by have hh := hb0; simpa using hh
  refine A9 ?_;refine El (ι := {i : Nat // i ≤ l1.length ∧ l1.take i = l2.take i}) (fun ⟨i, hi, hI⟩ => ([(0, slv b1 p1.length l1.length c1), (1, slv b2 p2.length l2.length c2), (5, .int .i64 (i : Nat))], [VBk b1 e1 p1 l1 n1, VBk b2 e2 p2 l2 n2], l1.length - i)) ⟨0, Nat.zero_le _, rfl⟩ ?_ (hL := Weak.auto);rintro ⟨i, hi, hI⟩;(try dsimp only);refine A9 ?_;refine at_cond rfl (fun hb2 => ?_) (fun hb2 => ?_)
  ·
   have hlt : i < l1.length := (by have := of_decide_eq_true hb2; omega)
   obtain ⟨a, ha⟩ : ∃ a, l1[i]? = some a := ⟨l1[i], List.getElem?_eq_getElem hlt⟩
   obtain ⟨c, hc⟩ : ∃ c, l2[i]? = some c := ⟨l2[i]'(by omega), List.getElem?_eq_getElem _⟩
   refine A5 ?_;refine at_drawnI [] mixed (by kernel_rfl) (by kernel_rfl) ?_;refine A2 ?_;refine r_indexAddr 0 (p1.length + i * 1) u36 ti9 rfl rfl rfl rfl rfl (by omega) (by omega) (pre_ne (SB_ne (by omega))) (by show _ + Int.toNat _ * 1 = _; omega) ?_;refine r_load (v := .string (strU a)) 0 (p1.length + i * 1) _ rfl rfl rfl rfl ti9 (pre_get (SB_get ha) rfl) rfl (by decide) rfl ?_;refine A2 ?_;refine r_indexAddr 1 (p2.length + i * 1) u36 ti9 rfl rfl rfl rfl rfl (by omega) (by omega) (pre_ne (SB_ne (by omega))) (by show _ + Int.toNat _ * 1 = _; omega) ?_;refine r_load (v := .string (strU c)) 1 (p2.length + i * 1) _ rfl rfl rfl rfl ti9 (pre_get (SB_get hc) rfl) rfl (by decide) rfl ?_;refine A1 ?_;refine r_know 25 (.bool (a != c)) rfl (by rw [bne, strU_beq]; rfl) ?_;refine A2 ?_;refine at_cond rfl (fun hb3 => ?_) (fun hb3 => ?_)
   ·
    have hac : a ≠ c := by have hh := hb3; simpa using hh
    refine A11 ?_;refine at_end1 rfl (res_tmp rfl) (fun w hL => ⟨(), congrArg (fun b => Ending.returned (.bool b)) (decide_eq_false (by intro e; subst e; rw [ha] at hc; exact hac (Option.some.inj hc))).symm, hL.pk []⟩)
   ·
    have hac : a = c := by have hh := hb3; simpa using hh
    refine A5 ?_;refine Ar (((i + 1 : Nat) : Int)) ?_;refine A3 ?_;exact Nl ⟨i + 1, hlt, by rw [List.take_add_one, List.take_add_one, hI, ha, hc, hac]⟩ (hL := Weak.auto)
  ·
   have hge : i = l1.length := (by have := of_decide_eq_false hb2; omega)
   refine A11 ?_;refine at_end1 rfl (res_tmp rfl) (fun w hL => ⟨(), congrArg (fun b => Ending.returned (.bool b)) (decide_eq_true (by have e1 := List.take_of_length_le (Nat.le_of_eq hge.symm) (l := l1); have e2 : l2.take i = l2 := List.take_of_length_le (by omega); rw [← e1, hI, e2])).symm, hL.pk []⟩)
end Go.Proofs.YtfijbadahkmhbaaGreatDoor
set_option maxHeartbeats 20000000
namespace Go.Proofs.YtfijbadahkmhbaaGreatDoor
open Go Go.RowKit Go.Via
set_option maxRecDepth 20000 in
theorem c_Equal (ka : Int) (b1 : Option Nat) (e1 : Nat) (p1 : List Value) (l1 : List Bs8) (n1 c1 : Nat) {x : XT} (z : XR x) (kb : Int) (b2 : Option Nat) (e2 : Nat) (p2 : List Value) (l2 : List Bs8) (n2 c2 : Nat) {y : XT} (u : XR y) (hl1 : l1.length ≤ 1000000000) (hM : x.size ≤ 1000000000) : ECall Tryz.prog 39 [VBk b1 e1 p1 l1 n1, gB z.T false, VBk b2 e2 p2 l2 n2, gB u.T false] [QV ka b1 p1 l1 c1 z, QV kb b2 p2 l2 c2 u] Unit (fun _ => .bool (decide (ka = kb) && (decide (l1 = l2) && sameX x y))) (fun _ => []) := by
 refine ⟨by kernel_rfl, fun B w hD hL0 => ?_⟩;refine cB2 24 Tryz.func39 hL0 ?_;refine A2 ?_;refine Bo [_, _, _, _, _, _, _, _, _] 9 (fun g => [_, _, _, _, ⟨some g, 39, _, 9, true⟩]) (fun g0 => ?_);refine Bo [_, _, _, _, _, _, _, _, _] 9 (fun g => [_, _, _, _, _, ⟨some g, 39, _, 9, true⟩]) (fun g1 => ?_);refine A11 ?_;refine r_split 10 rfl (fun hb0 => ?_) (fun hb0 => ?_)
 ·
  have q1 : ka = kb := by have hh := hb0; simpa using hh
  refine A4 ?_;refine r_scall0 [slv b1 p1.length l1.length c1, slv b2 p2.length l2.length c2] [0, 2] rfl rfl rfl (ECall.toS (c_slEqual b1 e1 p1 l1 n1 c1 b2 e2 p2 l2 n2 c2 hl1)) ⟨⟨_, rfl, Blk.le_refl _⟩, ⟨_, rfl, Blk.le_refl _⟩, trivial⟩ rfl ?_;refine A2 ?_;refine r_split 17 rfl (fun hb1 => ?_) (fun hb1 => ?_)
  ·
   have q2 : decide (l1 = l2) = true := hb1;refine A1 ?_;refine r_load 4 2 [_, _, _, _, _, _, _] rfl rfl rfl rfl ti30 rfl rfl rfl rfl ?_;refine r_know 19 (z.v) rfl rfl ?_;refine A1 ?_;refine r_load 5 2 [_, _, _, _, _, _, _] rfl rfl rfl rfl ti30 rfl rfl rfl rfl ?_;refine r_know 21 (u.v) rfl rfl ?_;refine r_scall0 [z.v, u.v] [1, 3] rfl rfl rfl (ECall.toS (c_EqualExpr x y z u hM)) ⟨⟨_, rfl, Blk.le_refl _⟩, ⟨_, rfl, Blk.le_refl _⟩, trivial⟩ rfl ?_;refine A5 ?_;refine at_end1 rfl (res_tmp rfl) (fun w hL => ⟨(), congrArg (fun b => Ending.returned (.bool b)) (show (decide (ka = kb) && (decide (l1 = l2) && sameX x y)) = sameX x y from by rw [decide_eq_true q1, q2]; rfl).symm, hL.pk []⟩)
  ·
   have q2 : decide (l1 = l2) = false := hb1;refine A10 ?_;refine at_end1 rfl (res_tmp rfl) (fun w hL => ⟨(), congrArg (fun b => Ending.returned (.bool b)) (show (decide (ka = kb) && (decide (l1 = l2) && sameX x y)) = false from by rw [q2, Bool.false_and, Bool.and_false]).symm, hL.pk []⟩)
 ·
  have q1 : ka ≠ kb := by have hh := hb0; simpa using hh
  refine A17 ?_;refine at_end1 rfl (res_tmp rfl) (fun w hL => ⟨(), congrArg (fun b => Ending.returned (.bool b)) (show (decide (ka = kb) && (decide (l1 = l2) && sameX x y)) = false from by rw [decide_eq_false q1]; rfl).symm, hL.pk []⟩)
set_option maxRecDepth 20000 in
theorem c_sameQuery (ka : Int) (b1 : Option Nat) (e1 : Nat) (p1 : List Value) (l1 : List Bs8) (n1 c1 : Nat) {x : XT} (z : XR x) (kb : Int) (b2 : Option Nat) (e2 : Nat) (p2 : List Value) (l2 : List Bs8) (n2 c2 : Nat) {y : XT} (u : XR y) (hl1 : l1.length ≤ 1000000000) (hM : x.size ≤ 1000000000) : ECall Tryz.prog 40 [VBk b1 e1 p1 l1 n1, gB z.T false, VBk b2 e2 p2 l2 n2, gB u.T false] [QV ka b1 p1 l1 c1 z, QV kb b2 p2 l2 c2 u] Unit (fun _ => .bool (decide (ka = kb) && (decide (l1 = l2) && sameX x y))) (fun _ => []) := by
 refine ⟨by kernel_rfl, fun B w hD hL0 => ?_⟩;refine cB2 24 Tryz.func40 hL0 ?_;refine A2 ?_;refine Bo [_, _, _, _, _, _, _, _, _] 9 (fun g => [_, _, _, _, ⟨some g, 39, _, 9, true⟩]) (fun g0 => ?_);refine Bo [_, _, _, _, _, _, _, _, _] 9 (fun g => [_, _, _, _, _, ⟨some g, 39, _, 9, true⟩]) (fun g1 => ?_);refine A11 ?_;refine r_split 10 rfl (fun hb0 => ?_) (fun hb0 => ?_)
 ·
  have q1 : ka = kb := by have hh := hb0; simpa using hh
  refine A4 ?_;refine r_scall0 [slv b1 p1.length l1.length c1, slv b2 p2.length l2.length c2] [0, 2] rfl rfl rfl (ECall.toS (c_sameStrings b1 e1 p1 l1 n1 c1 b2 e2 p2 l2 n2 c2 hl1)) ⟨⟨_, rfl, Blk.le_refl _⟩, ⟨_, rfl, Blk.le_refl _⟩, trivial⟩ rfl ?_;refine A2 ?_;refine r_split 17 rfl (fun hb1 => ?_) (fun hb1 => ?_)
  ·
   have q2 : decide (l1 = l2) = true := hb1;refine A1 ?_;refine r_load 4 2 [_, _, _, _, _, _, _] rfl rfl rfl rfl ti30 rfl rfl rfl rfl ?_;refine r_know 19 (z.v) rfl rfl ?_;refine A1 ?_;refine r_load 5 2 [_, _, _, _, _, _, _] rfl rfl rfl rfl ti30 rfl rfl rfl rfl ?_;refine r_know 21 (u.v) rfl rfl ?_;refine r_scall0 [z.v, u.v] [1, 3] rfl rfl rfl (ECall.toS (c_same x y z u hM)) ⟨⟨_, rfl, Blk.le_refl _⟩, ⟨_, rfl, Blk.le_refl _⟩, trivial⟩ rfl ?_;refine A5 ?_;refine at_end1 rfl (res_tmp rfl) (fun w hL => ⟨(), congrArg (fun b => Ending.returned (.bool b)) (show (decide (ka = kb) && (decide (l1 = l2) && sameX x y)) = sameX x y from by rw [decide_eq_true q1, q2]; rfl).symm, hL.pk []⟩)
  ·
   have q2 : decide (l1 = l2) = false := hb1;refine A10 ?_;refine at_end1 rfl (res_tmp rfl) (fun w hL => ⟨(), congrArg (fun b => Ending.returned (.bool b)) (show (decide (ka = kb) && (decide (l1 = l2) && sameX x y)) = false from by rw [q2, Bool.false_and, Bool.and_false]).symm, hL.pk []⟩)
 ·
  have q1 : ka ≠ kb := by have hh := hb0; simpa using hh
  refine A17 ?_;refine at_end1 rfl (res_tmp rfl) (fun w hL => ⟨(), congrArg (fun b => Ending.returned (.bool b)) (show (decide (ka = kb) && (decide (l1 = l2) && sameX x y)) = false from by rw [decide_eq_false q1]; rfl).symm, hL.pk []⟩)
end Go.Proofs.YtfijbadahkmhbaaGreatDoor
namespace Go.Via
open Go Go.RowKit
abbrev VI (gv : Nat) (n : Int) : Blk := ⟨some gv, 3, [.int .i64 n], 1, true⟩
end Go.Via
namespace Go.Proofs.YtfijbadahkmhbaaGreatDoor
open Go Go.RowKit Go.Via
def FewC (y : XT) : Prop := ∀ (u : XR y) (lv : Nat) (n : Int) (gv : Nat), (0 ≤ n ∧ n ≤ 1000000) → lv ≤ 1000000 → y.lim = true →
  ECall Tryz.prog 47 [VI gv n, gB u.T false] [u.v, .int .i64 (lv : Nat), .pointer (some ⟨gv, 0, none⟩)] Unit (fun _ => .bool (few y lv n).1) (fun _ => [VI gv (few y lv n).2])
theorem byS {p : XT → Prop} (h : ∀ x : XT, (∀ y : XT, y.size < x.size → p y) → p x) (x : XT) : p x := by
  suffices k : ∀ n : Nat, ∀ x : XT, x.size < n → p x from k _ x (Nat.lt_succ_self _)
  intro n
  induction n with
  | zero => intro x hx; omega
  | succ n ih => exact fun x hx => h x fun y hy => ih y (by omega)
end Go.Proofs.YtfijbadahkmhbaaGreatDoor
set_option maxHeartbeats 20000000
namespace Go.Proofs.YtfijbadahkmhbaaGreatDoor
open Go Go.RowKit Go.Via
set_option maxRecDepth 20000 in
theorem c_few_step {x : XT} (z : XR x) (H : ∀ y : XT, y.size < x.size → FewC y) (lv : Nat) (n : Int) (gv : Nat) (hn : 0 ≤ n ∧ n ≤ 1000000) (hlv : lv ≤ 1000000) (hw : x.lim = true) : ECall Tryz.prog 47 [VI gv n, gB z.T false] [z.v, .int .i64 (lv : Nat), .pointer (some ⟨gv, 0, none⟩)] Unit (fun _ => .bool (few x lv n).1) (fun _ => [VI gv (few x lv n).2]) := by
 refine ⟨by kernel_rfl, fun B w hD hL0 => ?_⟩;obtain ⟨h1, h2, h3, h4, h5, h6⟩ := z.inv;have hbc := NumV.bytes_cells h3;have hwx := XT.lim_parts hw;refine cB3 65 Tryz.func47 hL0 ?_;refine A2 ?_;refine Bo [_, _, _, _, _, _, _] 7 (fun g => [_, _, ⟨some g, 30, _, 7, true⟩]) (fun g0 => ?_);refine A9 ?_;refine Ar ((n - 1)) ?_;refine A1 ?_;refine So 0 0 [⟨some gv, 3, _, 1, true⟩, _, _] [_] ?_;refine A10 ?_;refine r_split 18 rfl (fun hb0 => ?_) (fun hb0 => ?_)
 ·
  have q0 : n - 1 < 0 := by have hh := of_decide_eq_true hb0; omega
  have hbig : bigX x lv (n - 1) = true := by unfold bigX; rw [decide_eq_true q0]; rfl
  refine A39 ?_
  refine at_end1 rfl (res_tmp rfl) (fun w hL => by
  have e : few x lv n = (false, n - 1) := by rw [few_eq, if_pos hbig]
  rw [e]
  exact ⟨(), rfl, hL.pk [some 0]⟩)
 ·
  have q0 : ¬ n - 1 < 0 := by have hh := of_decide_eq_false hb0; omega
  refine A4 ?_;refine r_split 22 rfl (fun hb1 => ?_) (fun hb1 => ?_)
  ·
   have q1 : 40 < lv := by have hh := of_decide_eq_true hb1; omega
   have hbig : bigX x lv (n - 1) = true := by unfold bigX; rw [decide_eq_false q0, decide_eq_true q1]; rfl
   refine A35 ?_
   refine at_end1 rfl (res_tmp rfl) (fun w hL => by
  have e : few x lv n = (false, n - 1) := by rw [few_eq, if_pos hbig]
  rw [e]
  exact ⟨(), rfl, hL.pk [some 0]⟩)
  ·
   have q1 : ¬ 40 < lv := by have hh := of_decide_eq_false hb1; omega
   refine A3 ?_;refine r_know 25 (.int .i64 (x.args.length : Nat)) rfl (by rw [h5]) ?_;refine A3 ?_;refine r_split 28 rfl (fun hb2 => ?_) (fun hb2 => ?_)
   ·
    have q2 : 4 < x.args.length := by have hh := of_decide_eq_true hb2; omega
    have hbig : bigX x lv (n - 1) = true := by unfold bigX; rw [decide_eq_false q0, decide_eq_false q1, decide_eq_true q2]; rfl
    refine A29 ?_
    refine at_end1 rfl (res_tmp rfl) (fun w hL => by
  have e : few x lv n = (false, n - 1) := by rw [few_eq, if_pos hbig]
  rw [e]
  exact ⟨(), rfl, hL.pk [some 0]⟩)
   ·
    have q2 : ¬ 4 < x.args.length := by have hh := of_decide_eq_false hb2; omega
    refine A3 ?_;refine r_know 31 (.int .i64 (x.name.length : Nat)) rfl (by rw [h2, strU_size]) ?_;refine A3 ?_;refine r_split 34 rfl (fun hb3 => ?_) (fun hb3 => ?_)
    ·
     have q3 : 60 < x.name.length := by have hh := of_decide_eq_true hb3; omega
     have hbig : bigX x lv (n - 1) = true := by unfold bigX; rw [decide_eq_false q0, decide_eq_false q1, decide_eq_false q2, decide_eq_true q3]; rfl
     refine A23 ?_
     refine at_end1 rfl (res_tmp rfl) (fun w hL => by
  have e : few x lv n = (false, n - 1) := by rw [few_eq, if_pos hbig]
  rw [e]
  exact ⟨(), rfl, hL.pk [some 0]⟩)
    ·
     have q3 : ¬ 60 < x.name.length := by have hh := of_decide_eq_false hb3; omega
     refine A5 ?_;refine r_know 39 (.int .i64 (z.s1.size : Nat)) rfl rfl ?_;refine A5 ?_;refine r_know 44 (.int .i64 (z.s2.size : Nat)) rfl rfl ?_;refine Ar (((x.num.bytes : Nat) : Int)) ?_;refine A4 ?_;refine at_cond rfl (fun hb4 => ?_) (fun hb4 => ?_)
     ·
      have q4 : 20 < x.num.bytes := by have hh := of_decide_eq_true hb4; omega
      have hbig : bigX x lv (n - 1) = true := by unfold bigX; rw [decide_eq_false q0, decide_eq_false q1, decide_eq_false q2, decide_eq_false q3, decide_eq_true q4]; rfl
      refine A7 ?_
      refine at_end1 rfl (res_tmp rfl) (fun w hL => by
  have e : few x lv n = (false, n - 1) := by rw [few_eq, if_pos hbig]
  rw [e]
  exact ⟨(), rfl, hL.pk [some 0]⟩)
     ·
      have q4 : ¬ 20 < x.num.bytes := by have hh := of_decide_eq_false hb4; omega
      have hbig : ¬ bigX x lv (n - 1) = true := by unfold bigX; rw [decide_eq_false q0, decide_eq_false q1, decide_eq_false q2, decide_eq_false q3, decide_eq_false q4]; decide
      refine A9 ?_;refine El (ι := {q : Nat × Int // q.1 ≤ x.args.length ∧ fews x.args (lv + 1) (n - 1) = fews (x.args.drop q.1) (lv + 1) q.2 ∧ 0 ≤ q.2 ∧ q.2 ≤ n}) (fun ⟨⟨i, m⟩, hi, hI, hm0, hmn⟩ => ([(1, .int .i64 (lv : Nat)), (2, .pointer (some ⟨gv, 0, none⟩)), (3, .pointer (some ⟨g0, 0, none⟩)), (7, .int .i64 (i : Nat))], [VI gv m, gB z.T false, XB g0 z], x.args.length - i)) ⟨(0, n - 1), Nat.zero_le _, by rw [List.drop_zero], by omega, by omega⟩ ?_ (hL := Weak.auto);rintro ⟨⟨i, m⟩, hi, hI, hm0, hmn⟩;(try dsimp only);dsimp only at hi hI hm0 hmn;refine A7 ?_;refine r_know 51 (.int .i64 (x.args.length : Nat)) rfl (by rw [h5]) ?_;refine A3 ?_;refine at_cond rfl (fun hb6 => ?_) (fun hb6 => ?_)
      ·
       have hlt : i < x.args.length := by have := of_decide_eq_true hb6; omega
       obtain ⟨y, hy⟩ : ∃ y, x.args[i]? = some y := ⟨x.args[i], List.getElem?_eq_getElem hlt⟩
       obtain ⟨ga, oa, ca, u, hza, hma, hra, hTa, hna⟩ := z.arg hy;refine A5 ?_;refine at_regionM ?_;refine A3 ?_;refine r_indexAddrG (gg := ga) (len := z.n) (cap := z.cap) (oa + i * 7) u28 ti30 rfl rfl (congrArg (fun a => some (Value.slice a z.n z.cap)) hza) rfl (by omega) (by omega) (by show oa + Int.toNat _ * 7 = _; omega) ?_;refine r_loadT (v := u.v) 1 (oa + i * 7) u.cs rfl rfl rfl z.hT hma hna rfl ti30 hra rfl rfl rfl ?_;refine A1 ?_;refine Ar (((lv + 1 : Nat) : Int)) ?_;refine A1 ?_;refine Gm 1 [0] [1] (fun _ => [VI gv (few y (lv + 1) m).2, _, _]) (by have h := H y (XT.arg_lt hy) u (lv + 1) m gv ⟨hm0, by omega⟩ (by omega) (XT.lims_get hwx.2.2 hy); rw [hTa] at h; exact h) (fun _ => ?_);refine A3 ?_;refine at_cond rfl (fun hb7 => ?_) (fun hb7 => ?_)
       ·
        have hey : (few y (lv + 1) m).1 = false := by simpa using hb7
        refine A11 ?_
        refine at_end1 rfl (res_tmp rfl) (fun w hL => by
  have e : few x lv n = few y (lv + 1) m := by rw [few_eq, if_neg hbig, hI, fews_step hy, if_neg (by rw [hey]; decide)]
  rw [e]
  exact ⟨(), by rw [hey], hL.pk [some 0]⟩)
       ·
        have hey : (few y (lv + 1) m).1 = true := by simpa using hb7
        refine A5 ?_;refine Ar (((i + 1 : Nat) : Int)) ?_;refine A3 ?_;exact Nl ⟨(i + 1, (few y (lv + 1) m).2), hlt, by rw [hI, fews_step hy, if_pos hey], (few_ok _ _ _ hey).2.2.1, Int.le_trans (few_le _ _ _ hey) hmn⟩ (hL := Weak.auto)
      ·
       have hge : i = x.args.length := by have := of_decide_eq_false hb6; omega
       refine A11 ?_
       refine at_end1 rfl (res_tmp rfl) (fun w hL => by
  have e : few x lv n = (true, m) := by rw [few_eq, if_neg hbig, hI, hge, List.drop_length, fews]
  rw [e]
  exact ⟨(), rfl, hL.pk [some 0]⟩)
end Go.Proofs.YtfijbadahkmhbaaGreatDoor
namespace Go.Proofs.YtfijbadahkmhbaaGreatDoor
open Go Go.RowKit Go.Via
theorem c_few (x : XT) : FewC x := byS (fun x H u lv n gv hn hl hw => c_few_step u H lv n gv hn hl hw) x
end Go.Proofs.YtfijbadahkmhbaaGreatDoor
set_option maxHeartbeats 20000000
namespace Go.Proofs.YtfijbadahkmhbaaGreatDoor
open Go Go.RowKit Go.Via
set_option maxRecDepth 20000 in
theorem c_small {x : XT} (z : XR x) (hw : x.lim = true) : ECall Tryz.prog 17 [gB z.T false] [z.v] Unit (fun _ => .bool (few x 1 300).1) (fun _ => []) := by
 refine ⟨by kernel_rfl, fun B w hD hL0 => ?_⟩;refine cB1 6 Tryz.func17 hL0 ?_;refine A2 ?_;refine Bo [_, _, _, _, _, _, _] 7 (fun g => [_, ⟨some g, 30, _, 7, true⟩]) (fun g0 => ?_);refine A5 ?_;refine r_alloc [_] 1 (fun g => [_, _, ⟨some g, 3, _, 1, true⟩]) rfl rfl z3 rfl rfl (fun _ => rfl) (fun g1 => ?_);refine So 2 0 [_, _, ⟨some g1, 3, _, 1, true⟩] [_] ?_;refine A3 ?_;refine at_regionM ?_;refine r_load 1 0 [_, _, _, _, _, _, _] rfl rfl rfl rfl ti30 rfl rfl rfl rfl ?_;refine r_know 4 (z.v) rfl rfl ?_;refine Gm 1 [2] [0] (fun _ => [_, _, VI g1 (few x 1 300).2]) (c_few x z 1 300 g1 (by decide) (by decide) hw) (fun _ => ?_);refine A4 ?_;refine at_end1 rfl (res_tmp rfl) (fun w hL => ⟨(), rfl, hL.pk []⟩)
end Go.Proofs.YtfijbadahkmhbaaGreatDoor
set_option maxHeartbeats 20000000
namespace Go.Proofs.YtfijbadahkmhbaaGreatDoor
open Go Go.RowKit Go.Via
set_option maxRecDepth 20000 in
theorem c_list_step {x : XT} (z : XR x) (m : Int) (H : ∀ y : XT, y.size < x.size → WriC m y) (hok : okX x) (hf : x.fit = true) (hM : x.size ≤ 1000000000) (op en : Bs8) (g : Nat) (a : Bool) (d : Bd) (hd : d.ok) (hb : d.s.length + (op ++ joinC (txtLs x.args) ++ en).length ≤ 17179869184) : ECall Tryz.prog 126 [BB g a d, BF d, gB z.T false, GM m] [.pointer (some ⟨g, 0, none⟩), .string (strU op), .slice z.a z.n z.cap, .string (strU en)] (BdX (d.s ++ (op ++ joinC (txtLs x.args) ++ en))) (fun _ => .tuple #[]) (fun d' => [BB g true d'.1, BF d'.1]) := by
 refine ⟨by kernel_rfl, fun B w hD hL0 => ?_⟩;obtain ⟨h1, h2, h3, h4, h5, h6⟩ := z.inv;have hsz := x.size_eq;have hal := XT.len_sizes x.args;have hjl := joinC_take_le x.args;have hks := (okX_parts hok).2;refine cB4 31 Tryz.func126 hL0 ?_;refine A1 ?_;refine at_regionM ?_;refine A2 ?_;refine Gm 2 [0, 1] [] (fun d1 => [BB g true d1.1, BF d1.1, _, _]) (c_b_WriteString g a d op hd (by rw [List.length_append, List.length_append] at hb; omega)) (fun ⟨d1, hd1, e1⟩ => ?_);refine A11 ?_;refine El (ι := {r : Nat × Bd // r.1 ≤ x.args.length ∧ r.2.ok ∧ r.2.s = d.s ++ op ++ joinC ((txtLs x.args).take r.1)}) (fun ⟨⟨i, q⟩, hi, hq, hs⟩ => ([(0, .pointer (some ⟨g, 0, none⟩)), (3, .string (strU en)), (13, .slice z.a z.n z.cap), (14, .int .i64 (z.n : Nat)), (15, .int .i64 (i : Nat))], [BB g true q, BF q, gB z.T false, GM m], x.args.length - i)) ⟨(0, d1), Nat.zero_le _, hd1, by rw [e1]; simp [joinC]⟩ ?_ (hL := Weak.auto);rintro ⟨⟨i, q⟩, hi, hq, hs⟩;(try dsimp only);dsimp only at hi hq hs;refine A6 ?_;refine at_cond rfl (fun hb1 => ?_) (fun hb1 => ?_)
 ·
  have hlt : i < x.args.length := by have := of_decide_eq_true hb1; omega
  obtain ⟨y, hy⟩ : ∃ y, x.args[i]? = some y := ⟨x.args[i], List.getElem?_eq_getElem hlt⟩
  obtain ⟨ga, oa, ca, u, hza, hma, hra, hTa, hna⟩ := z.arg hy;have hst := joinC_step hy;have hjl1 := hjl (i + 1);have hjs := congrArg List.length hst;simp only [List.length_append] at hjs hb;refine A7 ?_;refine r_indexAddrG (gg := ga) (len := z.n) (cap := z.cap) (oa + i * 7) u28 ti30 rfl rfl (congrArg (fun a => some (Value.slice a z.n z.cap)) hza) rfl (by omega) (by omega) (by show oa + Int.toNat _ * 7 = _; omega) ?_;refine r_loadT (v := u.v) 2 (oa + i * 7) u.cs rfl rfl rfl z.hT hma hna rfl ti30 hra rfl rfl rfl ?_;refine r_alloc [_, _, _, _, _, _, _] 7 (fun g => [_, _, _, _, ⟨some g, 30, _, 7, true⟩]) rfl rfl z30 rfl rfl (fun _ => rfl) (fun g0 => ?_);refine A1 ?_;refine So 4 0 [_, _, _, _, ⟨some g0, 30, _, 7, true⟩] [_, _, _, _, _, _, _] ?_;refine A9 ?_;refine at_cond rfl (fun hb2 => ?_) (fun hb2 => ?_)
  ·
   have hi0 : i ≠ 0 := by have := of_decide_eq_true hb2; omega
   have hsp : sepS i = [44, 32] := if_neg hi0;rw [hsp] at hst hjs;have hjs : _ = _ + 2 + _ := hjs;refine at_regionM ?_;refine A1 ?_;refine r_gcallM (A := [BB g true q, BF q]) (C := []) [.pointer (some ⟨g, 0, none⟩), .string (strU [44, 32])] [0, 1] [] (fun d1 => [BB g true d1.1, BF d1.1, _, _, _]) rfl rfl rfl rfl (c_b_WriteString g true q [44, 32] hq (by simp only [hs, List.length_append]; show _ + 2 ≤ _; omega)) (by decide) rfl rfl trivial rfl rfl (fun _ => rfl) (fun _ => allOwn rfl) (fun _ => rfl) (fun ⟨d2, hd2, e2⟩ => ?_);refine A2 ?_
   have hB2 : d2.s.length + (txt y 1).length ≤ 17179869184 := by rw [e2, hs]; simp only [List.length_append]; show _ + 2 + _ ≤ _; omega
   refine at_regionM ?_;refine A1 ?_;refine r_load 4 0 [_, _, _, _, _, _, _] rfl rfl rfl rfl ti30 rfl rfl rfl rfl ?_;refine r_know 25 (u.v) rfl rfl ?_;refine Gm 2 [0, 1] [2, 3] (fun (d3 : BdX (d2.s ++ txt y 1)) => [BB g true d3.1, BF d3.1, _, _, _]) (by have h := H y (XT.arg_lt hy) u 1 g true d2 hd2 (okXs_get hks hy) (XT.fits_get (XT.fit_parts hf).2.2 hy) (Nat.le_trans (Nat.le_of_lt (XT.arg_lt hy)) hM) (by decide) hB2; rw [hTa] at h; exact h) (fun ⟨d3, hd3, e3⟩ => ?_);refine A4 ?_;refine Ar (((i + 1 : Nat) : Int)) ?_;refine A3 ?_;exact Nl ⟨(i + 1, d3), hlt, hd3, by rw [e3, e2, hs, hst]; simp only [List.append_assoc]⟩ (hL := Weak.auto)
  ·
   have hi0 : i = 0 := by have := of_decide_eq_false hb2; omega
   have hsp : sepS i = [] := if_pos hi0;rw [hsp] at hst hjs;have hjs : _ = _ + 0 + _ := hjs;refine A2 ?_
   have hB2 : q.s.length + (txt y 1).length ≤ 17179869184 := by rw [hs]; simp only [List.length_append]; omega
   refine at_regionM ?_;refine A1 ?_;refine r_load 4 0 [_, _, _, _, _, _, _] rfl rfl rfl rfl ti30 rfl rfl rfl rfl ?_;refine r_know 25 (u.v) rfl rfl ?_;refine Gm 2 [0, 1] [2, 3] (fun (d3 : BdX (q.s ++ txt y 1)) => [BB g true d3.1, BF d3.1, _, _, _]) (by have h := H y (XT.arg_lt hy) u 1 g true q hq (okXs_get hks hy) (XT.fits_get (XT.fit_parts hf).2.2 hy) (Nat.le_trans (Nat.le_of_lt (XT.arg_lt hy)) hM) (by decide) hB2; rw [hTa] at h; exact h) (fun ⟨d3, hd3, e3⟩ => ?_);refine A4 ?_;refine Ar (((i + 1 : Nat) : Int)) ?_;refine A3 ?_;exact Nl ⟨(i + 1, d3), hlt, hd3, by rw [e3, hs, hst]; simp only [List.append_assoc, List.append_nil, List.nil_append]⟩ (hL := Weak.auto)
 ·
  have hge : i = x.args.length := by have := of_decide_eq_false hb1; omega
  refine A5 ?_;refine at_regionM ?_;refine A2 ?_;refine Gm 2 [0, 1] [] (fun d1 => [BB g true d1.1, BF d1.1, _, _]) (c_b_WriteString g true q en hq (by simp only [hs, hge, txtLs_all, List.length_append] at hb ⊢; omega)) (fun ⟨d2, hd2, e2⟩ => ?_);refine A1 ?_
  refine at_end0n rfl  (fun w hL => ⟨⟨d2, hd2, by rw [e2, hs, hge, txtLs_all]; simp only [List.append_assoc]⟩, rfl, hL.pk [some 0, some 1]⟩)
end Go.Proofs.YtfijbadahkmhbaaGreatDoor
namespace Go.Via
open Go Go.RowKit
theorem quoS_none : ∀ (s : Bs8), s.count 34 = 0 → quoS s = s
  | [], _ => rfl
  | c :: s, h => by
    have hc : c ≠ 34 := fun e => by subst e; simp at h
    have h2 : s.count 34 = 0 := by rw [List.count_cons] at h; omega
    have ih := quoS_none s h2
    unfold quoS at ih ⊢
    rw [List.flatMap_cons, ih, if_neg hc]; rfl
theorem quoS_cons (c : UInt8) (s : Bs8) : quoS (c :: s) = (if c = 34 then [34, 34] else [c]) ++ quoS s := by
  unfold quoS; rw [List.flatMap_cons]
theorem replaceK_quo : ∀ (s : Bs8) (k : Nat), s.count 34 ≤ k → Lib.replaceK [34] [34, 34] k s = quoS s
  | s, 0, h => by rw [Lib.replaceK, quoS_none s (by omega)]
  | [], k + 1, h => by rw [Lib.replaceK]; rfl
  | c :: s, k + 1, h => by
    rw [quoS_cons]
    by_cases hc : c = 34
    · subst hc
      have h0 : Lib.index (34 :: s) [34] = (0 : Nat) := by rw [Lib.index_one, Lib.indexByte]; rfl
      rw [Lib.replaceK_hit _ _ _ _ 0 h0, if_pos rfl]
      have h2 : s.count 34 ≤ k := by rw [List.count_cons_self] at h; omega
      have ih := replaceK_quo s k h2
      show [] ++ [34, 34] ++ Lib.replaceK [34] [34, 34] k s = _
      rw [ih]; rfl
    · have h2 : s.count 34 ≤ k + 1 := by rw [List.count_cons] at h; omega
      have ih := replaceK_quo s (k + 1) h2
      rw [if_neg hc, ← ih, Lib.replaceK, Lib.replaceK, Lib.index_one, Lib.index_one, Lib.indexByte]
      have hc2 : (c == 34) = false := by simpa using hc
      rw [hc2]
      have hge := Lib.indexByte_ge s 34
      by_cases hm : Lib.indexByte s 34 = -1
      · rw [hm]; rfl
      · have hm2 : (Lib.indexByte s 34 == -1) = false := by simpa using hm
        obtain ⟨i, hi⟩ : ∃ i : Nat, Lib.indexByte s 34 = i := ⟨(Lib.indexByte s 34).toNat, by omega⟩
        have hm3 : (Lib.indexByte s 34 + 1 == -1) = false := by rw [hi]; simp; omega
        simp only [hm2, hm3, Bool.false_eq_true, if_false]
        rw [hi]
        have e1 : ((i : Int) + 1).toNat = i + 1 := by omega
        have e2 : (i : Int).toNat = i := by omega
        rw [e1, e2]
        simp [Nat.add_right_comm]
theorem replaceAll_quo (s : Bs8) : Lib.replaceAll s [34] [34, 34] = quoS s := by
  have h : ([34] == ([34, 34] : List UInt8)) = false := rfl
  rw [Lib.replaceAll, Lib.replace, h]
  simp only [Bool.false_eq_true, if_false]
  refine replaceK_quo s _ ?_
  unfold Lib.replaceNum
  rw [if_pos (.inl (by decide)), Lib.count_one]
  exact Nat.le_refl _
end Go.Via
namespace Go.Proofs.YtfijbadahkmhbaaGreatDoor
open Go Go.RowKit Go.Via
theorem c_ReplaceAll (m : Int) (s : Bs8) (hs : s.length ≤ 1000000) : SCall Tryz.prog 125 [GM m] [.string (strU s), .string (strU [34]), .string (strU [34, 34])] Unit (fun _ => .string (strU (quoS s))) (fun _ => []) := by
  refine ⟨by kernel_rfl, fun w hL => ?_⟩
  have hm : w.cell? ⟨0, 0, none⟩ = some (.int .i64 m) := by
    obtain ⟨g', hg', h2⟩ := hL.cell (k := 0) (j := 0) rfl (v := .int .i64 m) rfl
    cases hg'
    exact h2
  have hcnt : Lib.countB (strU s) (strU [34]) = s.count 34 := by
    show Lib.count (strU s).data.toList (strU [34]).data.toList = _
    simp only [strU]
    exact Lib.count_one 34 s
  have hc2 := List.count_le_length (a := (34 : UInt8)) (l := s)
  have hsz : (strU s).size = s.length := rfl
  have h1 := Tryz.strings_ReplaceAll (strU s) (strU [34]) (strU [34, 34]) m w (by rw [hsz]; omega) hm (Nat.le_refl _) (by rw [hcnt, hsz, show (strU [34, 34]).size = 2 from rfl]; omega)
  refine Calls.mono h1 ?_
  rintro e w' ⟨rfl, hb⟩
  refine ⟨(), ?_, (LRel.nil w).same hb⟩
  show _ = Ending.returned (Value.string (strU (quoS s)))
  rw [← replaceAll_quo]
  rfl
end Go.Proofs.YtfijbadahkmhbaaGreatDoor
namespace Go.Via
open Go Go.RowKit
theorem NumV.isId_ok {u : NumV} (h : u.isId = true) : u.ok = true := by
  cases u with
  | q r => rfl
  | raw b1 s1 b2 s2 =>
    unfold NumV.isId at h
    obtain ⟨q, hq, _⟩ := @of_decide_eq_true _ (Classical.propDecidable _) h
    show isQ b1 s1 b2 s2 = true
    unfold isQ
    exact @decide_eq_true _ (Classical.propDecidable _) ⟨q, hq⟩
theorem NumV.rat_ok {u : NumV} {b1 b2 : Bool} {s1 s2 : ByteArray} (h : u.cells = [.bool b1, .string s1, .bool b2, .string s2]) (hf : u.fit = true) (ho : u.ok = true) : (.agg #[.bool b1, .string s1, .bool b2, .string s2] : Value) = Q u.rat ∧ szQ u.rat ≤ 1000000 := by
  have h1 := NumV.rat_cells h ho
  refine ⟨h1, ?_⟩
  obtain ⟨q, e1, e2, e3, e4, _, h6⟩ := NumV.isId_yes h hf ho
  have e : Value.agg #[.bool b1, .string s1, .bool b2, .string s2] = Q q := by rw [e1, e2, e3, e4]; rfl
  rw [← Q_inj8 (e.symm.trans h1)]
  exact h6
theorem nodeE_num {x : XT} (h : nodeE x = 0) : (x.op = 1 → x.num.ok = true) ∧ (x.op = 3 → x.num.ok = true) := by
  unfold nodeE at h
  split at h
  · cases h
  split at h
  · cases h
  split at h
  · cases h
  rename_i h1
  split at h
  · cases h
  split at h
  · cases h
  rename_i h3
  refine ⟨fun e => ?_, fun e => NumV.isId_ok ?_⟩
  · cases hh : x.num.ok with
    | true => rfl
    | false => exact absurd ⟨e, hh⟩ h1
  · cases hh : x.num.isId with
    | true => rfl
    | false => exact absurd ⟨e, hh⟩ h3
def sw6 (o : Int) : Prop := o = 1 ∨ o = 4 ∨ o = 3 ∨ o = 5 ∨ o = 6 ∨ o = 2
noncomputable def swS (x : XT) : Bs8 :=
  if x.op = 1 then ratS x.num.rat else if x.op = 4 then x.name else if x.op = 3 then sObject ++ ratS x.num.rat ++ [41] else if x.op = 5 then sZone ++ quoS x.name ++ [34, 41]
  else if x.op = 6 then [91] ++ joinC (txtLs x.args) ++ [93] else if x.op = 2 then sPoint ++ joinC (txtLs x.args) ++ [41] else []
noncomputable def fnL (x : XT) (L : List (Bs8 × Nat × Nat)) : Bs8 := L.flatMap fun f => if (f.2.1 : Int) = x.op then (f.1 ++ [40]) ++ joinC (txtLs x.args) ++ [41] else []
theorem fnL_step (x : XT) {L : List (Bs8 × Nat × Nat)} {i : Nat} {o : Bs8 × Nat × Nat} (h : L[i]? = some o) : fnL x (L.take (i + 1)) = fnL x (L.take i) ++ (if (o.2.1 : Int) = x.op then (o.1 ++ [40]) ++ joinC (txtLs x.args) ++ [41] else []) := by
  have hlt := (List.getElem?_eq_some_iff.1 h).1
  rw [List.take_add_one, h]
  unfold fnL
  rw [List.flatMap_append]
  simp
theorem fnL_le (x : XT) (L : List (Bs8 × Nat × Nat)) (i : Nat) : (fnL x (L.take i)).length ≤ (fnL x L).length := by
  have h : fnL x L = fnL x (L.take i) ++ fnL x (L.drop i) := by
    conv => lhs; rw [← List.take_append_drop i L]
    unfold fnL
    rw [List.flatMap_append]
  rw [h, List.length_append]
  omega
theorem fnL_none (x : XT) (L : List (Bs8 × Nat × Nat)) (h : ∀ f ∈ L, (f.2.1 : Int) ≠ x.op) : fnL x L = [] := by
  unfold fnL
  rw [List.flatMap_eq_nil_iff]
  intro f hf
  rw [if_neg (h f hf)]
theorem fnL_one (x : XT) : ∀ (L : List (Bs8 × Nat × Nat)) (f : Bs8 × Nat × Nat), (L.map (fun o => o.2.1)).Nodup → L.find? (fun f => decide ((f.2.1 : Int) = x.op)) = some f → fnL x L = (f.1 ++ [40]) ++ joinC (txtLs x.args) ++ [41]
  | [], f, _, h => by simp at h
  | o :: L, f, hn, h => by
    rw [List.map_cons, List.nodup_cons] at hn
    have e : fnL x (o :: L) = (if (o.2.1 : Int) = x.op then (o.1 ++ [40]) ++ joinC (txtLs x.args) ++ [41] else []) ++ fnL x L := by unfold fnL; rw [List.flatMap_cons]
    rw [e]
    by_cases ho : (o.2.1 : Int) = x.op
    · rw [List.find?_cons_of_pos (by simpa using ho)] at h
      cases h
      rw [if_pos ho, fnL_none x L (fun g hg hgo => hn.1 (List.mem_map.2 ⟨g, hg, by omega⟩)), List.append_nil]
    · rw [List.find?_cons_of_neg (by simpa using ho)] at h
      rw [if_neg ho, List.nil_append]
      exact fnL_one x L f hn.2 h
theorem txt_leaf {x : XT} (h : opsT.find? (fun f => decide ((f.2.1 : Int) = x.op)) = none) (lv : Nat) : txt x lv = swS x ++ fnL x funT := by
  cases x with
  | mk o nm u l =>
    have hop : (XT.mk o nm u l).op = o := rfl
    rw [hop] at h
    rw [txt, h]
    have hsm : ∀ k : Int, o = k → (∀ f ∈ funT, (f.2.1 : Int) ≠ k) → fnL (.mk o nm u l) funT = [] := fun k hk hf => fnL_none _ _ (by rw [hop, hk]; exact hf)
    unfold swS
    rw [hop]
    by_cases h1 : o = 1
    · rw [hsm 1 h1 (by decide)]; simp only [if_pos h1, List.append_nil]; rfl
    by_cases h4 : o = 4
    · rw [hsm 4 h4 (by decide)]; simp only [if_neg h1, if_pos h4, List.append_nil]; rfl
    by_cases h3 : o = 3
    · rw [hsm 3 h3 (by decide)]; simp only [if_neg h1, if_neg h4, if_pos h3, List.append_nil]; rfl
    by_cases h5 : o = 5
    · rw [hsm 5 h5 (by decide)]; simp only [if_neg h1, if_neg h4, if_neg h3, if_pos h5, List.append_nil]; rfl
    by_cases h6 : o = 6
    · rw [hsm 6 h6 (by decide)]; simp only [if_neg h1, if_neg h4, if_neg h3, if_neg h5, if_pos h6, List.append_nil]; rfl
    by_cases h2 : o = 2
    · rw [hsm 2 h2 (by decide)]; simp only [if_neg h1, if_neg h4, if_neg h3, if_neg h5, if_neg h6, if_pos h2, List.append_nil]; rfl
    simp only [if_neg h1, if_neg h4, if_neg h3, if_neg h5, if_neg h6, if_neg h2, List.nil_append]
    cases hf : funT.find? (fun f => decide ((f.2.1 : Int) = o)) with
    | none =>
      dsimp only
      exact (fnL_none _ _ (fun f hm he => by have := List.find?_eq_none.1 hf f hm; exact this (by rw [hop] at he; simpa using he))).symm
    | some f =>
      dsimp only
      exact (fnL_one (.mk o nm u l) funT f (by decide) hf).symm
end Go.Via
set_option maxHeartbeats 20000000
namespace Go.Proofs.YtfijbadahkmhbaaGreatDoor
open Go Go.RowKit Go.Via
set_option maxRecDepth 20000 in
theorem c_write_leaf {x : XT} (z : XR x) (m : Int) (H : ∀ y : XT, y.size < x.size → WriC m y) (hok : okX x) (hf : x.fit = true) (hM : x.size ≤ 1000000000) (lv g : Nat) (a : Bool) (d : Bd) (hd : d.ok) (hop : opsT.find? (fun f => decide ((f.2.1 : Int) = x.op)) = none) (hkind : ¬ sw6 x.op → funT.find? (fun f => decide ((f.2.1 : Int) = x.op)) ≠ none) (hb : d.s.length + (swS x ++ fnL x funT).length ≤ 17179869184) : ECall Tryz.prog 96 [BB g a d, BF d, gB z.T false, GM m] [.pointer (some ⟨g, 0, none⟩), z.v, .int .i64 (lv : Nat)] (BdX (d.s ++ (swS x ++ fnL x funT))) (fun _ => .tuple #[]) (fun d' => [BB g true d'.1, BF d'.1]) := by
 refine ⟨by kernel_rfl, fun B w hD hL0 => ?_⟩;obtain ⟨hfn, hfu, hfs⟩ := XT.fit_parts hf;have hnum := nodeE_num (okX_parts hok).1;refine calls_atD (args := [.pointer (some ⟨g, 0, none⟩), z.v, .int .i64 (lv : Nat)]) Tryz.func96 rfl (Nat.le_of_ble_eq_true rfl) hL0 ?_;show At B ⟨136, [(0, .pointer (some ⟨g, 0, none⟩)), (1, z.v), (2, .int .i64 (lv : Nat))], [BB g a d, BF d, gB z.T false, GM m]⟩ _;refine A2 ?_;refine Bo [_, _, _, _, _, _, _] 7 (fun g => [_, _, _, _, ⟨some g, 30, _, 7, true⟩]) (fun g0 => ?_);refine A5 ?_;refine r_scall [] [] rfl rfl rfl c_syntax_operators trivial rfl (.inr fun _ b hb => by rw [List.mem_singleton.1 hb]) (fun go => ?_);refine A5 ?_;refine El (ι := {i : Nat // i ≤ 12}) (fun ⟨i, hi⟩ => ([(0, .pointer (some ⟨g, 0, none⟩)), (2, .int .i64 (lv : Nat)), (4, .pointer (some ⟨g0, 0, none⟩)), (12, slv (some go) 0 12 12), (13, .int .i64 12), (14, .int .i64 (i : Nat))], [BB g a d, BF d, gB z.T false, GM m, XB g0 z, ⟨some go, 110, tabC opsT, 36, true⟩], 12 - i)) ⟨0, Nat.zero_le _⟩ ?_ (hL := Weak.auto);rintro ⟨i, hi⟩;(try dsimp only);refine A6 ?_;refine at_cond rfl (fun hb1 => ?_) (fun hb1 => ?_)
 ·
  have hlt : i < 12 := (by have := of_decide_eq_true hb1; omega)
  obtain ⟨o, ho⟩ : ∃ o, opsT[i]? = some o := ⟨opsT[i]'(by show i < 12; exact hlt), List.getElem?_eq_getElem _⟩
  have hne : (o.2.1 : Int) ≠ x.op := by have := List.find?_eq_none.1 hop o (List.mem_of_getElem? ho); simpa using this
  refine A6 ?_;refine Ix 5 (i * 3) ?_;refine r_load (v := .agg #[.string (strU o.1), .int .i64 (o.2.1 : Nat), .int .i64 (o.2.2 : Nat)]) 5 (i * 3) _ rfl rfl rfl rfl ti110 (tabC_get ho) rfl (by decide) rfl ?_;refine r_alloc [_, _, _] 3 (fun g => [_, _, _, _, _, _, ⟨some g, 110, _, 3, true⟩]) rfl rfl z110 rfl rfl (fun _ => rfl) (fun g1 => ?_);refine So 6 0 [_, _, _, _, _, _, ⟨some g1, 110, _, 3, true⟩] [_, _, _] ?_;refine A9 ?_;refine r_know 21 (.int .i64 x.op) rfl (by rw [z.inv.1]) ?_;refine A3 ?_;refine at_cond rfl (fun hb2 => ?_) (fun hb2 => ?_)
  ·
   refine A5 ?_;refine Ar (((i + 1 : Nat) : Int)) ?_;refine A3 ?_;exact Nl ⟨i + 1, hlt⟩ (hL := Weak.auto)
  · exact absurd (by have hh := hb2; simpa using hh) hne
 ·
  refine A10 ?_;refine r_know 73 (.int .i64 x.op) rfl (by rw [z.inv.1]) ?_;refine A9 ?_;refine at_cond rfl (fun hb2 => ?_) (fun hb2 => ?_)
  ·
   have h1 : x.op = 1 := by simpa using hb2
   have hsw : swS x = ratS x.num.rat := by unfold swS; rw [if_pos h1]
   obtain ⟨hq1, hq2⟩ := NumV.rat_ok z.inv.2.2.1 hfu (hnum.1 h1);refine at_regionM ?_;refine A2 ?_;refine r_load 4 2 [_, _, _, _] rfl rfl rfl rfl ti27 rfl rfl rfl rfl ?_;refine r_know 78 (Q x.num.rat) rfl hq1 ?_;refine Pc (c_rational_Print x.num.rat hq2) ?_;refine Gm 2 [0, 1] [] (fun d1 => [BB g true d1.1, BF d1.1, _, _, _, _]) (c_b_WriteString g a d (ratS x.num.rat) hd (by have h := hb; simp only [hsw, List.length_append, List.length_cons, List.length_nil] at h ⊢; omega)) (fun ⟨d1, hd1, e1⟩ => ?_);refine A5 ?_;refine r_scall [] [] rfl rfl rfl c_syntax_functions trivial rfl (.inr fun _ b hb => by rw [List.mem_singleton.1 hb]) (fun gf => ?_);refine A5 ?_;refine El (ι := {r : Nat × Bool × Bd // r.1 ≤ 12 ∧ r.2.2.ok ∧ r.2.2.s = d.s ++ (swS x ++ fnL x (funT.take r.1)) ∧ (r.2.1 = true ∨ ((funT.take r.1).find? (fun f => decide ((f.2.1 : Int) = x.op)) = none ∧ ¬ sw6 x.op))}) (fun ⟨⟨i, a2, q⟩, hi, hq, hs, hA⟩ => ([(0, .pointer (some ⟨g, 0, none⟩)), (4, .pointer (some ⟨g0, 0, none⟩)), (117, slv (some gf) 0 12 12), (118, .int .i64 12), (119, .int .i64 (i : Nat))], [BB g a2 q, BF q, gB z.T false, GM m, XB g0 z, ⟨some gf, 114, tabC funT, 36, true⟩], 12 - i)) ⟨(0, true, d1), Nat.zero_le _, hd1, by rw [e1]; rw [hsw]; simp [fnL], .inl rfl⟩ ?_ (hL := (weak_pk [some 0, some 1, some 2, some 3, some 4, some 6]));rintro ⟨⟨i, a2, q⟩, hi, hq, hs, hA⟩;(try dsimp only);dsimp only at hi hq hs hA;refine A6 ?_;refine at_cond rfl (fun hb4 => ?_) (fun hb4 => ?_)
   ·
    have hlt : i < 12 := (by have := of_decide_eq_true hb4; omega)
    obtain ⟨o, ho⟩ : ∃ o, funT[i]? = some o := ⟨funT[i]'(by show i < 12; exact hlt), List.getElem?_eq_getElem _⟩
    have hst := fnL_step x ho;have hle := fnL_le x funT (i + 1);refine A6 ?_;refine Ix 5 (i * 3) ?_;refine r_load (v := .agg #[.string (strU o.1), .int .i64 (o.2.1 : Nat), .int .i64 (o.2.2 : Nat)]) 5 (i * 3) _ rfl rfl rfl rfl ti114 (tabC_get ho) rfl (by decide) rfl ?_;refine r_alloc [_, _, _] 3 (fun g => [_, _, _, _, _, _, ⟨some g, 114, _, 3, true⟩]) rfl rfl z114 rfl rfl (fun _ => rfl) (fun g1 => ?_);refine So 6 0 [_, _, _, _, _, _, ⟨some g1, 114, _, 3, true⟩] [_, _, _] ?_;refine A8 ?_;refine r_know 126 (.int .i64 x.op) rfl (by rw [z.inv.1]) ?_;refine A3 ?_;refine at_cond rfl (fun hb5 => ?_) (fun hb5 => ?_)
    ·
     have hm : (o.2.1 : Int) = x.op := by simpa using hb5
     rw [if_pos hm] at hst;have hjs := congrArg List.length hst;refine at_regionM ?_;refine A3 ?_;refine r_addS (p := o.1) (q := [40]) rfl rfl rfl rfl rfl rfl rfl (by have h := hb; simp only [List.length_append, List.length_cons, List.length_nil] at h hjs ⊢; omega) ?_;refine A2 ?_;refine Gm 2 [0, 1] [2, 3] (fun (d1 : BdX (q.s ++ ((o.1 ++ [40]) ++ joinC (txtLs x.args) ++ [41]))) => [BB g true d1.1, BF d1.1, _, _, _, _, _]) (c_list_step z m H hok hf hM (o.1 ++ [40]) [41] g a2 q hq (by have h := hb; simp only [hs, List.length_append, List.length_cons, List.length_nil] at h hjs ⊢; omega)) (fun ⟨d3, hd3, e3⟩ => ?_);refine A4 ?_;refine Ar (((i + 1 : Nat) : Int)) ?_;refine A3 ?_;exact Nl ⟨(i + 1, true, d3), hlt, hd3, by rw [e3, hs, hst]; simp only [List.append_assoc], .inl rfl⟩ (hL := Weak.auto)
    ·
     have hm : (o.2.1 : Int) ≠ x.op := by simpa using hb5
     rw [if_neg hm] at hst;have hjs := congrArg List.length hst;refine A4 ?_;refine Ar (((i + 1 : Nat) : Int)) ?_;refine A3 ?_;exact Nl ⟨(i + 1, a2, q), hlt, hq, by rw [hs, hst, List.append_nil], hA.imp id (fun h => ⟨find_none_step h.1 ho (by simpa using hm), h.2⟩)⟩ (hL := Weak.auto)
   ·
    have hge : i = 12 := (by have := of_decide_eq_false hb4; omega)
    subst hge;refine A4 ?_
    refine at_end0nD rfl  (fun w hL => by
  have ha : a2 = true := by
   rcases hA with h | ⟨h, hk⟩
   · exact h
   · exact absurd (find_none_all h (Nat.le_refl _)) (hkind hk)
  subst ha
  exact ⟨⟨q, hq, hs⟩, rfl, hL.pk [some 0, some 1]⟩)
  ·
   have h1 : x.op ≠ 1 := by simpa using hb2
   refine A6 ?_;refine at_cond rfl (fun hb3 => ?_) (fun hb3 => ?_)
   ·
    have h4 : x.op = 4 := by simpa using hb3
    have hsw : swS x = x.name := by unfold swS; rw [if_neg h1, if_pos h4]
    refine at_regionM ?_;refine A3 ?_;refine r_know 85 (.string (strU x.name)) rfl (by rw [z.inv.2.1]) ?_;refine Gm 2 [0, 1] [] (fun d1 => [BB g true d1.1, BF d1.1, _, _, _, _]) (c_b_WriteString g a d x.name hd (by have h := hb; simp only [hsw, List.length_append, List.length_cons, List.length_nil] at h ⊢; omega)) (fun ⟨d1, hd1, e1⟩ => ?_);refine A5 ?_;refine r_scall [] [] rfl rfl rfl c_syntax_functions trivial rfl (.inr fun _ b hb => by rw [List.mem_singleton.1 hb]) (fun gf => ?_);refine A5 ?_;refine El (ι := {r : Nat × Bool × Bd // r.1 ≤ 12 ∧ r.2.2.ok ∧ r.2.2.s = d.s ++ (swS x ++ fnL x (funT.take r.1)) ∧ (r.2.1 = true ∨ ((funT.take r.1).find? (fun f => decide ((f.2.1 : Int) = x.op)) = none ∧ ¬ sw6 x.op))}) (fun ⟨⟨i, a2, q⟩, hi, hq, hs, hA⟩ => ([(0, .pointer (some ⟨g, 0, none⟩)), (4, .pointer (some ⟨g0, 0, none⟩)), (117, slv (some gf) 0 12 12), (118, .int .i64 12), (119, .int .i64 (i : Nat))], [BB g a2 q, BF q, gB z.T false, GM m, XB g0 z, ⟨some gf, 114, tabC funT, 36, true⟩], 12 - i)) ⟨(0, true, d1), Nat.zero_le _, hd1, by rw [e1]; rw [hsw]; simp [fnL], .inl rfl⟩ ?_ (hL := (weak_pk [some 0, some 1, some 2, some 3, some 4, some 6]));rintro ⟨⟨i, a2, q⟩, hi, hq, hs, hA⟩;(try dsimp only);dsimp only at hi hq hs hA;refine A6 ?_;refine at_cond rfl (fun hb5 => ?_) (fun hb5 => ?_)
    ·
     have hlt : i < 12 := (by have := of_decide_eq_true hb5; omega)
     obtain ⟨o, ho⟩ : ∃ o, funT[i]? = some o := ⟨funT[i]'(by show i < 12; exact hlt), List.getElem?_eq_getElem _⟩
     have hst := fnL_step x ho;have hle := fnL_le x funT (i + 1);refine A6 ?_;refine Ix 5 (i * 3) ?_;refine r_load (v := .agg #[.string (strU o.1), .int .i64 (o.2.1 : Nat), .int .i64 (o.2.2 : Nat)]) 5 (i * 3) _ rfl rfl rfl rfl ti114 (tabC_get ho) rfl (by decide) rfl ?_;refine r_alloc [_, _, _] 3 (fun g => [_, _, _, _, _, _, ⟨some g, 114, _, 3, true⟩]) rfl rfl z114 rfl rfl (fun _ => rfl) (fun g1 => ?_);refine So 6 0 [_, _, _, _, _, _, ⟨some g1, 114, _, 3, true⟩] [_, _, _] ?_;refine A8 ?_;refine r_know 126 (.int .i64 x.op) rfl (by rw [z.inv.1]) ?_;refine A3 ?_;refine at_cond rfl (fun hb6 => ?_) (fun hb6 => ?_)
     ·
      have hm : (o.2.1 : Int) = x.op := by simpa using hb6
      rw [if_pos hm] at hst;have hjs := congrArg List.length hst;refine at_regionM ?_;refine A3 ?_;refine r_addS (p := o.1) (q := [40]) rfl rfl rfl rfl rfl rfl rfl (by have h := hb; simp only [List.length_append, List.length_cons, List.length_nil] at h hjs ⊢; omega) ?_;refine A2 ?_;refine Gm 2 [0, 1] [2, 3] (fun (d1 : BdX (q.s ++ ((o.1 ++ [40]) ++ joinC (txtLs x.args) ++ [41]))) => [BB g true d1.1, BF d1.1, _, _, _, _, _]) (c_list_step z m H hok hf hM (o.1 ++ [40]) [41] g a2 q hq (by have h := hb; simp only [hs, List.length_append, List.length_cons, List.length_nil] at h hjs ⊢; omega)) (fun ⟨d3, hd3, e3⟩ => ?_);refine A4 ?_;refine Ar (((i + 1 : Nat) : Int)) ?_;refine A3 ?_;exact Nl ⟨(i + 1, true, d3), hlt, hd3, by rw [e3, hs, hst]; simp only [List.append_assoc], .inl rfl⟩ (hL := Weak.auto)
     ·
      have hm : (o.2.1 : Int) ≠ x.op := by simpa using hb6
      rw [if_neg hm] at hst;have hjs := congrArg List.length hst;refine A4 ?_;refine Ar (((i + 1 : Nat) : Int)) ?_;refine A3 ?_;exact Nl ⟨(i + 1, a2, q), hlt, hq, by rw [hs, hst, List.append_nil], hA.imp id (fun h => ⟨find_none_step h.1 ho (by simpa using hm), h.2⟩)⟩ (hL := Weak.auto)
    ·
     have hge : i = 12 := (by have := of_decide_eq_false hb5; omega)
     subst hge;refine A4 ?_
     refine at_end0nD rfl  (fun w hL => by
  have ha : a2 = true := by
   rcases hA with h | ⟨h, hk⟩
   · exact h
   · exact absurd (find_none_all h (Nat.le_refl _)) (hkind hk)
  subst ha
  exact ⟨⟨q, hq, hs⟩, rfl, hL.pk [some 0, some 1]⟩)
   ·
    have h4 : x.op ≠ 4 := by simpa using hb3
    refine A6 ?_;refine at_cond rfl (fun hb4 => ?_) (fun hb4 => ?_)
    ·
     have h3 : x.op = 3 := by simpa using hb4
     have hsw : swS x = sObject ++ ratS x.num.rat ++ [41] := by unfold swS; rw [if_neg h1, if_neg h4, if_pos h3]
     obtain ⟨hq1, hq2⟩ := NumV.rat_ok z.inv.2.2.1 hfu (hnum.2 h3);refine at_regionM ?_;refine A2 ?_;refine r_load 4 2 [_, _, _, _] rfl rfl rfl rfl ti27 rfl rfl rfl rfl ?_;refine r_know 91 (Q x.num.rat) rfl hq1 ?_;refine Pc (c_rational_Print x.num.rat hq2) ?_;refine r_addS (p := sObject) (q := ratS x.num.rat) rfl rfl rfl rfl rfl rfl rfl (by have h := hb; simp only [hsw, List.length_append, List.length_cons, List.length_nil] at h ⊢; omega) ?_;refine r_addS (p := sObject ++ ratS x.num.rat) (q := [41]) rfl rfl rfl rfl rfl rfl rfl (by have h := hb; simp only [hsw, List.length_append, List.length_cons, List.length_nil] at h ⊢; omega) ?_;refine Gm 2 [0, 1] [] (fun d1 => [BB g true d1.1, BF d1.1, _, _, _, _]) (c_b_WriteString g a d (sObject ++ ratS x.num.rat ++ [41]) hd (by have h := hb; simp only [hsw, List.length_append, List.length_cons, List.length_nil] at h ⊢; omega)) (fun ⟨d1, hd1, e1⟩ => ?_);refine A5 ?_;refine r_scall [] [] rfl rfl rfl c_syntax_functions trivial rfl (.inr fun _ b hb => by rw [List.mem_singleton.1 hb]) (fun gf => ?_);refine A5 ?_;refine El (ι := {r : Nat × Bool × Bd // r.1 ≤ 12 ∧ r.2.2.ok ∧ r.2.2.s = d.s ++ (swS x ++ fnL x (funT.take r.1)) ∧ (r.2.1 = true ∨ ((funT.take r.1).find? (fun f => decide ((f.2.1 : Int) = x.op)) = none ∧ ¬ sw6 x.op))}) (fun ⟨⟨i, a2, q⟩, hi, hq, hs, hA⟩ => ([(0, .pointer (some ⟨g, 0, none⟩)), (4, .pointer (some ⟨g0, 0, none⟩)), (117, slv (some gf) 0 12 12), (118, .int .i64 12), (119, .int .i64 (i : Nat))], [BB g a2 q, BF q, gB z.T false, GM m, XB g0 z, ⟨some gf, 114, tabC funT, 36, true⟩], 12 - i)) ⟨(0, true, d1), Nat.zero_le _, hd1, by rw [e1]; rw [hsw]; simp [fnL], .inl rfl⟩ ?_ (hL := (weak_pk [some 0, some 1, some 2, some 3, some 4, some 6]));rintro ⟨⟨i, a2, q⟩, hi, hq, hs, hA⟩;(try dsimp only);dsimp only at hi hq hs hA;refine A6 ?_;refine at_cond rfl (fun hb6 => ?_) (fun hb6 => ?_)
     ·
      have hlt : i < 12 := (by have := of_decide_eq_true hb6; omega)
      obtain ⟨o, ho⟩ : ∃ o, funT[i]? = some o := ⟨funT[i]'(by show i < 12; exact hlt), List.getElem?_eq_getElem _⟩
      have hst := fnL_step x ho;have hle := fnL_le x funT (i + 1);refine A6 ?_;refine Ix 5 (i * 3) ?_;refine r_load (v := .agg #[.string (strU o.1), .int .i64 (o.2.1 : Nat), .int .i64 (o.2.2 : Nat)]) 5 (i * 3) _ rfl rfl rfl rfl ti114 (tabC_get ho) rfl (by decide) rfl ?_;refine r_alloc [_, _, _] 3 (fun g => [_, _, _, _, _, _, ⟨some g, 114, _, 3, true⟩]) rfl rfl z114 rfl rfl (fun _ => rfl) (fun g1 => ?_);refine So 6 0 [_, _, _, _, _, _, ⟨some g1, 114, _, 3, true⟩] [_, _, _] ?_;refine A8 ?_;refine r_know 126 (.int .i64 x.op) rfl (by rw [z.inv.1]) ?_;refine A3 ?_;refine at_cond rfl (fun hb7 => ?_) (fun hb7 => ?_)
      ·
       have hm : (o.2.1 : Int) = x.op := by simpa using hb7
       rw [if_pos hm] at hst;have hjs := congrArg List.length hst;refine at_regionM ?_;refine A3 ?_;refine r_addS (p := o.1) (q := [40]) rfl rfl rfl rfl rfl rfl rfl (by have h := hb; simp only [List.length_append, List.length_cons, List.length_nil] at h hjs ⊢; omega) ?_;refine A2 ?_;refine Gm 2 [0, 1] [2, 3] (fun (d1 : BdX (q.s ++ ((o.1 ++ [40]) ++ joinC (txtLs x.args) ++ [41]))) => [BB g true d1.1, BF d1.1, _, _, _, _, _]) (c_list_step z m H hok hf hM (o.1 ++ [40]) [41] g a2 q hq (by have h := hb; simp only [hs, List.length_append, List.length_cons, List.length_nil] at h hjs ⊢; omega)) (fun ⟨d3, hd3, e3⟩ => ?_);refine A4 ?_;refine Ar (((i + 1 : Nat) : Int)) ?_;refine A3 ?_;exact Nl ⟨(i + 1, true, d3), hlt, hd3, by rw [e3, hs, hst]; simp only [List.append_assoc], .inl rfl⟩ (hL := Weak.auto)
      ·
       have hm : (o.2.1 : Int) ≠ x.op := by simpa using hb7
       rw [if_neg hm] at hst;have hjs := congrArg List.length hst;refine A4 ?_;refine Ar (((i + 1 : Nat) : Int)) ?_;refine A3 ?_;exact Nl ⟨(i + 1, a2, q), hlt, hq, by rw [hs, hst, List.append_nil], hA.imp id (fun h => ⟨find_none_step h.1 ho (by simpa using hm), h.2⟩)⟩ (hL := Weak.auto)
     ·
      have hge : i = 12 := (by have := of_decide_eq_false hb6; omega)
      subst hge;refine A4 ?_
      refine at_end0nD rfl  (fun w hL => by
  have ha : a2 = true := by
   rcases hA with h | ⟨h, hk⟩
   · exact h
   · exact absurd (find_none_all h (Nat.le_refl _)) (hkind hk)
  subst ha
  exact ⟨⟨q, hq, hs⟩, rfl, hL.pk [some 0, some 1]⟩)
    ·
     have h3 : x.op ≠ 3 := by simpa using hb4
     refine A6 ?_;refine at_cond rfl (fun hb5 => ?_) (fun hb5 => ?_)
     ·
      have h5 : x.op = 5 := by simpa using hb5
      have hsw : swS x = sZone ++ quoS x.name ++ [34, 41] := by unfold swS; rw [if_neg h1, if_neg h4, if_neg h3, if_pos h5]
      refine at_regionM ?_;refine A3 ?_;refine r_know 100 (.string (strU x.name)) rfl (by rw [z.inv.2.1]) ?_;refine r_scall0 [.string (strU x.name), .string (strU [34]), .string (strU [34, 34])] [3] rfl rfl rfl (c_ReplaceAll m x.name hfn) ⟨⟨_, rfl, Blk.le_refl _⟩, trivial⟩ rfl ?_;refine r_addS (p := sZone) (q := quoS x.name) rfl rfl rfl rfl rfl rfl rfl (by have h := hb; simp only [hsw, List.length_append, List.length_cons, List.length_nil] at h ⊢; omega) ?_;refine r_addS (p := sZone ++ quoS x.name) (q := [34, 41]) rfl rfl rfl rfl rfl rfl rfl (by have h := hb; simp only [hsw, List.length_append, List.length_cons, List.length_nil] at h ⊢; omega) ?_;refine Gm 2 [0, 1] [] (fun d1 => [BB g true d1.1, BF d1.1, _, _, _, _]) (c_b_WriteString g a d (sZone ++ quoS x.name ++ [34, 41]) hd (by have h := hb; simp only [hsw, List.length_append, List.length_cons, List.length_nil] at h ⊢; omega)) (fun ⟨d1, hd1, e1⟩ => ?_);refine A5 ?_;refine r_scall [] [] rfl rfl rfl c_syntax_functions trivial rfl (.inr fun _ b hb => by rw [List.mem_singleton.1 hb]) (fun gf => ?_);refine A5 ?_;refine El (ι := {r : Nat × Bool × Bd // r.1 ≤ 12 ∧ r.2.2.ok ∧ r.2.2.s = d.s ++ (swS x ++ fnL x (funT.take r.1)) ∧ (r.2.1 = true ∨ ((funT.take r.1).find? (fun f => decide ((f.2.1 : Int) = x.op)) = none ∧ ¬ sw6 x.op))}) (fun ⟨⟨i, a2, q⟩, hi, hq, hs, hA⟩ => ([(0, .pointer (some ⟨g, 0, none⟩)), (4, .pointer (some ⟨g0, 0, none⟩)), (117, slv (some gf) 0 12 12), (118, .int .i64 12), (119, .int .i64 (i : Nat))], [BB g a2 q, BF q, gB z.T false, GM m, XB g0 z, ⟨some gf, 114, tabC funT, 36, true⟩], 12 - i)) ⟨(0, true, d1), Nat.zero_le _, hd1, by rw [e1]; rw [hsw]; simp [fnL], .inl rfl⟩ ?_ (hL := (weak_pk [some 0, some 1, some 2, some 3, some 4, some 6]));rintro ⟨⟨i, a2, q⟩, hi, hq, hs, hA⟩;(try dsimp only);dsimp only at hi hq hs hA;refine A6 ?_;refine at_cond rfl (fun hb7 => ?_) (fun hb7 => ?_)
      ·
       have hlt : i < 12 := (by have := of_decide_eq_true hb7; omega)
       obtain ⟨o, ho⟩ : ∃ o, funT[i]? = some o := ⟨funT[i]'(by show i < 12; exact hlt), List.getElem?_eq_getElem _⟩
       have hst := fnL_step x ho;have hle := fnL_le x funT (i + 1);refine A6 ?_;refine Ix 5 (i * 3) ?_;refine r_load (v := .agg #[.string (strU o.1), .int .i64 (o.2.1 : Nat), .int .i64 (o.2.2 : Nat)]) 5 (i * 3) _ rfl rfl rfl rfl ti114 (tabC_get ho) rfl (by decide) rfl ?_;refine r_alloc [_, _, _] 3 (fun g => [_, _, _, _, _, _, ⟨some g, 114, _, 3, true⟩]) rfl rfl z114 rfl rfl (fun _ => rfl) (fun g1 => ?_);refine So 6 0 [_, _, _, _, _, _, ⟨some g1, 114, _, 3, true⟩] [_, _, _] ?_;refine A8 ?_;refine r_know 126 (.int .i64 x.op) rfl (by rw [z.inv.1]) ?_;refine A3 ?_;refine at_cond rfl (fun hb8 => ?_) (fun hb8 => ?_)
       ·
        have hm : (o.2.1 : Int) = x.op := by simpa using hb8
        rw [if_pos hm] at hst;have hjs := congrArg List.length hst;refine at_regionM ?_;refine A3 ?_;refine r_addS (p := o.1) (q := [40]) rfl rfl rfl rfl rfl rfl rfl (by have h := hb; simp only [List.length_append, List.length_cons, List.length_nil] at h hjs ⊢; omega) ?_;refine A2 ?_;refine Gm 2 [0, 1] [2, 3] (fun (d1 : BdX (q.s ++ ((o.1 ++ [40]) ++ joinC (txtLs x.args) ++ [41]))) => [BB g true d1.1, BF d1.1, _, _, _, _, _]) (c_list_step z m H hok hf hM (o.1 ++ [40]) [41] g a2 q hq (by have h := hb; simp only [hs, List.length_append, List.length_cons, List.length_nil] at h hjs ⊢; omega)) (fun ⟨d3, hd3, e3⟩ => ?_);refine A4 ?_;refine Ar (((i + 1 : Nat) : Int)) ?_;refine A3 ?_;exact Nl ⟨(i + 1, true, d3), hlt, hd3, by rw [e3, hs, hst]; simp only [List.append_assoc], .inl rfl⟩ (hL := Weak.auto)
       ·
        have hm : (o.2.1 : Int) ≠ x.op := by simpa using hb8
        rw [if_neg hm] at hst;have hjs := congrArg List.length hst;refine A4 ?_;refine Ar (((i + 1 : Nat) : Int)) ?_;refine A3 ?_;exact Nl ⟨(i + 1, a2, q), hlt, hq, by rw [hs, hst, List.append_nil], hA.imp id (fun h => ⟨find_none_step h.1 ho (by simpa using hm), h.2⟩)⟩ (hL := Weak.auto)
      ·
       have hge : i = 12 := (by have := of_decide_eq_false hb7; omega)
       subst hge;refine A4 ?_
       refine at_end0nD rfl  (fun w hL => by
  have ha : a2 = true := by
   rcases hA with h | ⟨h, hk⟩
   · exact h
   · exact absurd (find_none_all h (Nat.le_refl _)) (hkind hk)
  subst ha
  exact ⟨⟨q, hq, hs⟩, rfl, hL.pk [some 0, some 1]⟩)
     ·
      have h5 : x.op ≠ 5 := by simpa using hb5
      refine A6 ?_;refine at_cond rfl (fun hb6 => ?_) (fun hb6 => ?_)
      ·
       have h6 : x.op = 6 := by simpa using hb6
       have hsw : swS x = [91] ++ joinC (txtLs x.args) ++ [93] := by unfold swS; rw [if_neg h1, if_neg h4, if_neg h3, if_neg h5, if_pos h6]
       refine at_regionM ?_;refine A3 ?_;refine Gm 2 [0, 1] [2, 3] (fun (d1 : BdX (d.s ++ ([91] ++ joinC (txtLs x.args) ++ [93]))) => [BB g true d1.1, BF d1.1, _, _, _, _]) (c_list_step z m H hok hf hM [91] [93] g a d hd (by have h := hb; simp only [hsw, List.length_append, List.length_cons, List.length_nil] at h ⊢; omega)) (fun ⟨d1, hd1, e1⟩ => ?_);refine A5 ?_;refine r_scall [] [] rfl rfl rfl c_syntax_functions trivial rfl (.inr fun _ b hb => by rw [List.mem_singleton.1 hb]) (fun gf => ?_);refine A5 ?_;refine El (ι := {r : Nat × Bool × Bd // r.1 ≤ 12 ∧ r.2.2.ok ∧ r.2.2.s = d.s ++ (swS x ++ fnL x (funT.take r.1)) ∧ (r.2.1 = true ∨ ((funT.take r.1).find? (fun f => decide ((f.2.1 : Int) = x.op)) = none ∧ ¬ sw6 x.op))}) (fun ⟨⟨i, a2, q⟩, hi, hq, hs, hA⟩ => ([(0, .pointer (some ⟨g, 0, none⟩)), (4, .pointer (some ⟨g0, 0, none⟩)), (117, slv (some gf) 0 12 12), (118, .int .i64 12), (119, .int .i64 (i : Nat))], [BB g a2 q, BF q, gB z.T false, GM m, XB g0 z, ⟨some gf, 114, tabC funT, 36, true⟩], 12 - i)) ⟨(0, true, d1), Nat.zero_le _, hd1, by rw [e1]; rw [hsw]; simp [fnL], .inl rfl⟩ ?_ (hL := (weak_pk [some 0, some 1, some 2, some 3, some 4, some 6]));rintro ⟨⟨i, a2, q⟩, hi, hq, hs, hA⟩;(try dsimp only);dsimp only at hi hq hs hA;refine A6 ?_;refine at_cond rfl (fun hb8 => ?_) (fun hb8 => ?_)
       ·
        have hlt : i < 12 := (by have := of_decide_eq_true hb8; omega)
        obtain ⟨o, ho⟩ : ∃ o, funT[i]? = some o := ⟨funT[i]'(by show i < 12; exact hlt), List.getElem?_eq_getElem _⟩
        have hst := fnL_step x ho;have hle := fnL_le x funT (i + 1);refine A6 ?_;refine Ix 5 (i * 3) ?_;refine r_load (v := .agg #[.string (strU o.1), .int .i64 (o.2.1 : Nat), .int .i64 (o.2.2 : Nat)]) 5 (i * 3) _ rfl rfl rfl rfl ti114 (tabC_get ho) rfl (by decide) rfl ?_;refine r_alloc [_, _, _] 3 (fun g => [_, _, _, _, _, _, ⟨some g, 114, _, 3, true⟩]) rfl rfl z114 rfl rfl (fun _ => rfl) (fun g1 => ?_);refine So 6 0 [_, _, _, _, _, _, ⟨some g1, 114, _, 3, true⟩] [_, _, _] ?_;refine A8 ?_;refine r_know 126 (.int .i64 x.op) rfl (by rw [z.inv.1]) ?_;refine A3 ?_;refine at_cond rfl (fun hb9 => ?_) (fun hb9 => ?_)
        ·
         have hm : (o.2.1 : Int) = x.op := by simpa using hb9
         rw [if_pos hm] at hst;have hjs := congrArg List.length hst;refine at_regionM ?_;refine A3 ?_;refine r_addS (p := o.1) (q := [40]) rfl rfl rfl rfl rfl rfl rfl (by have h := hb; simp only [List.length_append, List.length_cons, List.length_nil] at h hjs ⊢; omega) ?_;refine A2 ?_;refine Gm 2 [0, 1] [2, 3] (fun (d1 : BdX (q.s ++ ((o.1 ++ [40]) ++ joinC (txtLs x.args) ++ [41]))) => [BB g true d1.1, BF d1.1, _, _, _, _, _]) (c_list_step z m H hok hf hM (o.1 ++ [40]) [41] g a2 q hq (by have h := hb; simp only [hs, List.length_append, List.length_cons, List.length_nil] at h hjs ⊢; omega)) (fun ⟨d3, hd3, e3⟩ => ?_);refine A4 ?_;refine Ar (((i + 1 : Nat) : Int)) ?_;refine A3 ?_;exact Nl ⟨(i + 1, true, d3), hlt, hd3, by rw [e3, hs, hst]; simp only [List.append_assoc], .inl rfl⟩ (hL := Weak.auto)
        ·
         have hm : (o.2.1 : Int) ≠ x.op := by simpa using hb9
         rw [if_neg hm] at hst;have hjs := congrArg List.length hst;refine A4 ?_;refine Ar (((i + 1 : Nat) : Int)) ?_;refine A3 ?_;exact Nl ⟨(i + 1, a2, q), hlt, hq, by rw [hs, hst, List.append_nil], hA.imp id (fun h => ⟨find_none_step h.1 ho (by simpa using hm), h.2⟩)⟩ (hL := Weak.auto)
       ·
        have hge : i = 12 := (by have := of_decide_eq_false hb8; omega)
        subst hge;refine A4 ?_
        refine at_end0nD rfl  (fun w hL => by
  have ha : a2 = true := by
   rcases hA with h | ⟨h, hk⟩
   · exact h
   · exact absurd (find_none_all h (Nat.le_refl _)) (hkind hk)
  subst ha
  exact ⟨⟨q, hq, hs⟩, rfl, hL.pk [some 0, some 1]⟩)
      ·
       have h6 : x.op ≠ 6 := by simpa using hb6
       refine A6 ?_;refine at_cond rfl (fun hb7 => ?_) (fun hb7 => ?_)
       ·
        have h2 : x.op = 2 := by simpa using hb7
        have hsw : swS x = sPoint ++ joinC (txtLs x.args) ++ [41] := by unfold swS; rw [if_neg h1, if_neg h4, if_neg h3, if_neg h5, if_neg h6, if_pos h2]
        refine at_regionM ?_;refine A3 ?_;refine Gm 2 [0, 1] [2, 3] (fun (d1 : BdX (d.s ++ (sPoint ++ joinC (txtLs x.args) ++ [41]))) => [BB g true d1.1, BF d1.1, _, _, _, _]) (c_list_step z m H hok hf hM sPoint [41] g a d hd (by have h := hb; simp only [hsw, List.length_append, List.length_cons, List.length_nil] at h ⊢; omega)) (fun ⟨d1, hd1, e1⟩ => ?_);refine A5 ?_;refine r_scall [] [] rfl rfl rfl c_syntax_functions trivial rfl (.inr fun _ b hb => by rw [List.mem_singleton.1 hb]) (fun gf => ?_);refine A5 ?_;refine El (ι := {r : Nat × Bool × Bd // r.1 ≤ 12 ∧ r.2.2.ok ∧ r.2.2.s = d.s ++ (swS x ++ fnL x (funT.take r.1)) ∧ (r.2.1 = true ∨ ((funT.take r.1).find? (fun f => decide ((f.2.1 : Int) = x.op)) = none ∧ ¬ sw6 x.op))}) (fun ⟨⟨i, a2, q⟩, hi, hq, hs, hA⟩ => ([(0, .pointer (some ⟨g, 0, none⟩)), (4, .pointer (some ⟨g0, 0, none⟩)), (117, slv (some gf) 0 12 12), (118, .int .i64 12), (119, .int .i64 (i : Nat))], [BB g a2 q, BF q, gB z.T false, GM m, XB g0 z, ⟨some gf, 114, tabC funT, 36, true⟩], 12 - i)) ⟨(0, true, d1), Nat.zero_le _, hd1, by rw [e1]; rw [hsw]; simp [fnL], .inl rfl⟩ ?_ (hL := (weak_pk [some 0, some 1, some 2, some 3, some 4, some 6]));rintro ⟨⟨i, a2, q⟩, hi, hq, hs, hA⟩;(try dsimp only);dsimp only at hi hq hs hA;refine A6 ?_;refine at_cond rfl (fun hb9 => ?_) (fun hb9 => ?_)
        ·
         have hlt : i < 12 := (by have := of_decide_eq_true hb9; omega)
         obtain ⟨o, ho⟩ : ∃ o, funT[i]? = some o := ⟨funT[i]'(by show i < 12; exact hlt), List.getElem?_eq_getElem _⟩
         have hst := fnL_step x ho;have hle := fnL_le x funT (i + 1);refine A6 ?_;refine Ix 5 (i * 3) ?_;refine r_load (v := .agg #[.string (strU o.1), .int .i64 (o.2.1 : Nat), .int .i64 (o.2.2 : Nat)]) 5 (i * 3) _ rfl rfl rfl rfl ti114 (tabC_get ho) rfl (by decide) rfl ?_;refine r_alloc [_, _, _] 3 (fun g => [_, _, _, _, _, _, ⟨some g, 114, _, 3, true⟩]) rfl rfl z114 rfl rfl (fun _ => rfl) (fun g1 => ?_);refine So 6 0 [_, _, _, _, _, _, ⟨some g1, 114, _, 3, true⟩] [_, _, _] ?_;refine A8 ?_;refine r_know 126 (.int .i64 x.op) rfl (by rw [z.inv.1]) ?_;refine A3 ?_;refine at_cond rfl (fun hb10 => ?_) (fun hb10 => ?_)
         ·
          have hm : (o.2.1 : Int) = x.op := by simpa using hb10
          rw [if_pos hm] at hst;have hjs := congrArg List.length hst;refine at_regionM ?_;refine A3 ?_;refine r_addS (p := o.1) (q := [40]) rfl rfl rfl rfl rfl rfl rfl (by have h := hb; simp only [List.length_append, List.length_cons, List.length_nil] at h hjs ⊢; omega) ?_;refine A2 ?_;refine Gm 2 [0, 1] [2, 3] (fun (d1 : BdX (q.s ++ ((o.1 ++ [40]) ++ joinC (txtLs x.args) ++ [41]))) => [BB g true d1.1, BF d1.1, _, _, _, _, _]) (c_list_step z m H hok hf hM (o.1 ++ [40]) [41] g a2 q hq (by have h := hb; simp only [hs, List.length_append, List.length_cons, List.length_nil] at h hjs ⊢; omega)) (fun ⟨d3, hd3, e3⟩ => ?_);refine A4 ?_;refine Ar (((i + 1 : Nat) : Int)) ?_;refine A3 ?_;exact Nl ⟨(i + 1, true, d3), hlt, hd3, by rw [e3, hs, hst]; simp only [List.append_assoc], .inl rfl⟩ (hL := Weak.auto)
         ·
          have hm : (o.2.1 : Int) ≠ x.op := by simpa using hb10
          rw [if_neg hm] at hst;have hjs := congrArg List.length hst;refine A4 ?_;refine Ar (((i + 1 : Nat) : Int)) ?_;refine A3 ?_;exact Nl ⟨(i + 1, a2, q), hlt, hq, by rw [hs, hst, List.append_nil], hA.imp id (fun h => ⟨find_none_step h.1 ho (by simpa using hm), h.2⟩)⟩ (hL := Weak.auto)
        ·
         have hge : i = 12 := (by have := of_decide_eq_false hb9; omega)
         subst hge;refine A4 ?_
         refine at_end0nD rfl  (fun w hL => by
  have ha : a2 = true := by
   rcases hA with h | ⟨h, hk⟩
   · exact h
   · exact absurd (find_none_all h (Nat.le_refl _)) (hkind hk)
  subst ha
  exact ⟨⟨q, hq, hs⟩, rfl, hL.pk [some 0, some 1]⟩)
       ·
        have h2 : x.op ≠ 2 := by simpa using hb7
        have hsw : swS x = [] := by unfold swS; rw [if_neg h1, if_neg h4, if_neg h3, if_neg h5, if_neg h6, if_neg h2]
        have hk6 : ¬ sw6 x.op := fun h => by unfold sw6 at h; omega
        refine A5 ?_;refine r_scall [] [] rfl rfl rfl c_syntax_functions trivial rfl (.inr fun _ b hb => by rw [List.mem_singleton.1 hb]) (fun gf => ?_);refine A5 ?_;refine El (ι := {r : Nat × Bool × Bd // r.1 ≤ 12 ∧ r.2.2.ok ∧ r.2.2.s = d.s ++ (swS x ++ fnL x (funT.take r.1)) ∧ (r.2.1 = true ∨ ((funT.take r.1).find? (fun f => decide ((f.2.1 : Int) = x.op)) = none ∧ ¬ sw6 x.op))}) (fun ⟨⟨i, a2, q⟩, hi, hq, hs, hA⟩ => ([(0, .pointer (some ⟨g, 0, none⟩)), (4, .pointer (some ⟨g0, 0, none⟩)), (117, slv (some gf) 0 12 12), (118, .int .i64 12), (119, .int .i64 (i : Nat))], [BB g a2 q, BF q, gB z.T false, GM m, XB g0 z, ⟨some gf, 114, tabC funT, 36, true⟩], 12 - i)) ⟨(0, a, d), Nat.zero_le _, hd, by show d.s = _; rw [hsw]; simp [fnL], .inr ⟨rfl, hk6⟩⟩ ?_ (hL := (weak_pk [some 0, some 1, some 2, some 3, some 4, some 6]));rintro ⟨⟨i, a2, q⟩, hi, hq, hs, hA⟩;(try dsimp only);dsimp only at hi hq hs hA;refine A6 ?_;refine at_cond rfl (fun hb9 => ?_) (fun hb9 => ?_)
        ·
         have hlt : i < 12 := (by have := of_decide_eq_true hb9; omega)
         obtain ⟨o, ho⟩ : ∃ o, funT[i]? = some o := ⟨funT[i]'(by show i < 12; exact hlt), List.getElem?_eq_getElem _⟩
         have hst := fnL_step x ho;have hle := fnL_le x funT (i + 1);refine A6 ?_;refine Ix 5 (i * 3) ?_;refine r_load (v := .agg #[.string (strU o.1), .int .i64 (o.2.1 : Nat), .int .i64 (o.2.2 : Nat)]) 5 (i * 3) _ rfl rfl rfl rfl ti114 (tabC_get ho) rfl (by decide) rfl ?_;refine r_alloc [_, _, _] 3 (fun g => [_, _, _, _, _, _, ⟨some g, 114, _, 3, true⟩]) rfl rfl z114 rfl rfl (fun _ => rfl) (fun g1 => ?_);refine So 6 0 [_, _, _, _, _, _, ⟨some g1, 114, _, 3, true⟩] [_, _, _] ?_;refine A8 ?_;refine r_know 126 (.int .i64 x.op) rfl (by rw [z.inv.1]) ?_;refine A3 ?_;refine at_cond rfl (fun hb10 => ?_) (fun hb10 => ?_)
         ·
          have hm : (o.2.1 : Int) = x.op := by simpa using hb10
          rw [if_pos hm] at hst;have hjs := congrArg List.length hst;refine at_regionM ?_;refine A3 ?_;refine r_addS (p := o.1) (q := [40]) rfl rfl rfl rfl rfl rfl rfl (by have h := hb; simp only [List.length_append, List.length_cons, List.length_nil] at h hjs ⊢; omega) ?_;refine A2 ?_;refine Gm 2 [0, 1] [2, 3] (fun (d1 : BdX (q.s ++ ((o.1 ++ [40]) ++ joinC (txtLs x.args) ++ [41]))) => [BB g true d1.1, BF d1.1, _, _, _, _, _]) (c_list_step z m H hok hf hM (o.1 ++ [40]) [41] g a2 q hq (by have h := hb; simp only [hs, List.length_append, List.length_cons, List.length_nil] at h hjs ⊢; omega)) (fun ⟨d3, hd3, e3⟩ => ?_);refine A4 ?_;refine Ar (((i + 1 : Nat) : Int)) ?_;refine A3 ?_;exact Nl ⟨(i + 1, true, d3), hlt, hd3, by rw [e3, hs, hst]; simp only [List.append_assoc], .inl rfl⟩ (hL := Weak.auto)
         ·
          have hm : (o.2.1 : Int) ≠ x.op := by simpa using hb10
          rw [if_neg hm] at hst;have hjs := congrArg List.length hst;refine A4 ?_;refine Ar (((i + 1 : Nat) : Int)) ?_;refine A3 ?_;exact Nl ⟨(i + 1, a2, q), hlt, hq, by rw [hs, hst, List.append_nil], hA.imp id (fun h => ⟨find_none_step h.1 ho (by simpa using hm), h.2⟩)⟩ (hL := Weak.auto)
        ·
         have hge : i = 12 := (by have := of_decide_eq_false hb9; omega)
         subst hge;refine A4 ?_
         refine at_end0nD rfl  (fun w hL => by
  have ha : a2 = true := by
   rcases hA with h | ⟨h, hk⟩
   · exact h
   · exact absurd (find_none_all h (Nat.le_refl _)) (hkind hk)
  subst ha
  exact ⟨⟨q, hq, hs⟩, rfl, hL.pk [some 0, some 1]⟩)
end Go.Proofs.YtfijbadahkmhbaaGreatDoor
set_option maxHeartbeats 20000000
namespace Go.Proofs.YtfijbadahkmhbaaGreatDoor
open Go Go.RowKit Go.Via
set_option maxRecDepth 20000 in
theorem c_b_WriteByteD (g : Nat) (a : Bool) (d : Bd) (c : UInt8) (hd : d.ok) (hm : d.s.length + 1 ≤ 17179869184) : ECallD Tryz.prog 124 [BB g a d, BF d] [.pointer (some ⟨g, 0, none⟩), .int .u8 (c.toNat : Nat)] (BdX (d.s ++ [c])) (fun _ => .nilIface) (fun x => [BB g true x.1, BF x.1]) := by
 refine ⟨by kernel_rfl, fun B w hD hL0 => ?_⟩;obtain ⟨hd1, hd2, hd3⟩ := hd;refine callsD_atB (args := [.pointer (some ⟨g, 0, none⟩), .int .u8 (c.toNat : Nat)]) Tryz.func124 rfl (Nat.le_of_ble_eq_true rfl) hL0 ?_;show At B ⟨17, [(0, .pointer (some ⟨g, 0, none⟩)), (1, .int .u8 (c.toNat : Nat))], [BB g a d, BF d]⟩ _;refine A6 ?_;refine at_regionM ?_;refine A1 ?_;refine Gm 1 [0] [] (fun _ => [BB g true d, BF d]) (c_b_copyCheck g a d) (fun _ => ?_);refine A10 ?_;refine r_buildSlice [(0, _)] (fun g => [_, _, ⟨some g, 5, _, 1, true⟩]) rfl rfl rfl (bs125_1) rfl (fun _ => rfl) (fun g0 => ?_);refine q_append (b2o := g0) (b := BF d) (len := d.s.length) (n2 := 1) 1 2 (fun r => [BB g true d, ⟨some r.g, 5, NB d.s ++ [.int .u8 (c.toNat : Nat)], r.n, true⟩, _]) u125 el5 rfl rfl rfl rfl rfl rfl rfl rfl rfl rfl rfl rfl (by rw [NB_length, Nat.mul_one]) hd1 (by rw [Nat.mul_one]; exact hd2) rfl (fun v hv => by rw [List.mem_singleton.1 hv]; rfl) hm (fun r => rfl) (fun r => ?_);refine A2 ?_;refine So 0 1 [⟨some g, 127, _, 2, true⟩, _, _] [_, _] ?_;refine A8 ?_;refine at_end1 rfl (res_tmp rfl) (fun w hL => wb_fin r _ hL)
end Go.Proofs.YtfijbadahkmhbaaGreatDoor
