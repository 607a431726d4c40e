/-
  Part 14: lemmas, and walks through the functions that the laws of chapter 43 call. Each theorem states its own conditions.
-/
import Derived.Test.YtfijbadahkmhbaaGreatDoorA04
import Derived.Test.YtfijbadahkmhbaaGreatDoorA11
import Derived.Test.YtfijbadahkmhbaaGreatDoorA12
import Derived.Test.YtfijbadahkmhbaaGreatDoorA13
set_option linter.unusedVariables false
set_option linter.unusedSimpArgs false
set_option maxHeartbeats 20000000
namespace Go.Proofs.YtfijbadahkmhbaaGreatDoor
open Go Go.RowKit Go.Via
set_option maxRecDepth 20000 in
theorem c_mnode_1 {x : XT} (z : XR x) (hfn : x.name.length ≤ 1000000) (hfu : x.num.fit = true) (lv n gc : Nat) (hn : n ≤ 256) (hlv : lv ≤ 1000) (hop : x.op = 1) : ECall Tryz.prog 90 [VK gc n, gB z.T false] [.pointer (some ⟨gc, 0, none⟩), z.v, .int .i64 (lv : Nat)] Unit (fun _ => .int .i64 (mnode x lv n : Nat)) (fun _ => [VK gc (n + 1)]) := by
 refine ⟨by kernel_rfl, fun B w hD hL0 => ?_⟩;obtain ⟨h1, h2, h3, h4, h5, h6⟩ := z.inv;have hs := NumV.fit_cells h3 hfu
 have hcn : cntL x.op = 0 := (by rw [hop]; rfl);refine cB3 126 Tryz.func90 hL0 ?_;refine A2 ?_;refine Bo [_, _, _, _, _, _, _] 7 (fun g => [_, _, ⟨some g, 30, _, 7, true⟩]) (fun g0 => ?_);refine A9 ?_;refine Ar (((n + 1 : Nat) : Int)) ?_;refine A2 ?_;refine So 0 0 [⟨some gc, 73, _, 1, true⟩, _, _] [_] ?_;refine A12 ?_;refine Cd ?_ ?_<;>intro hb0
 ·have hn1 : 256 ≤ n := by have := of_decide_eq_true hb0; omega
  refine A7 ?_;refine at_end1 rfl (res_tmp rfl) (fun w hL => ⟨(), congrArg (fun z : Nat => Ending.returned (.int .i64 (z : Int))) (by unfold mnode; rw [if_pos hn1]), hL.pk [some 0]⟩)
 ·have hn1 : ¬ 256 ≤ n := by have := of_decide_eq_false hb0; omega
  refine A9 ?_;refine Cd ?_ ?_<;>intro hb1
  ·have hl1 : 32 < lv := by have := of_decide_eq_true hb1; omega
   refine A7 ?_;refine at_end1 rfl (res_tmp rfl) (fun w hL => ⟨(), congrArg (fun z : Nat => Ending.returned (.int .i64 (z : Int))) (by unfold mnode; rw [if_neg hn1, if_pos hl1]), hL.pk [some 0]⟩)
  ·have hl1 : ¬ 32 < lv := by have := of_decide_eq_false hb1; omega
   refine A3 ?_;refine at_regionM ?_;refine A2 ?_;refine r_know 26 (.int .i64 x.op) rfl (by rw [h1]) ?_;refine Gm 0 [] [] (fun _ => [_,_,_]) (c_law_of x.op) (fun _ => ?_);refine r_know 27 (.tuple #[.agg #[.int .i64 1, .int .i64 0, .int .i64 8, .string (strU [])], .bool true]) rfl (by rw [hop]; kernel_rfl) ?_;refine A3 ?_;refine r_alloc [_, _, _, _] 4 (fun g => [_, _, _, ⟨some g, 94, _, 4, true⟩]) rfl rfl z94 rfl rfl (fun _ => rfl) (fun g1 => ?_);refine So 3 0 [_, _, _, ⟨some g1, 94, _, 4, true⟩] [_, _, _, _] ?_;refine A19 ?_;refine r_know 34 (.int .i64 (x.args.length : Nat)) rfl (by rw [h5]) ?_;refine A4 ?_;refine Rs 38 ?_ ?_<;>intro hb2
   ·have hlen : ((x.args.length : Nat) : Int) ≠ cntL x.op := by rw [hcn]; have hh := hb2; simpa using hh
    refine A40 ?_;refine at_end1 rfl (res_tmp rfl) (fun w hL => ⟨(), congrArg (fun z : Nat => Ending.returned (.int .i64 (z : Int))) (by unfold mnode nodeE; rw [if_neg hn1, if_neg hl1, if_neg (by rw [hcn]; omega), if_pos (.inl hlen)]), hL.pk [some 0]⟩)
   ·have hlen : ((x.args.length : Nat) : Int) = cntL x.op := by rw [hcn]; have hh := hb2; simpa using hh
    have hl2 : x.args.length = 0 := (by rw [hcn] at hlen; omega);refine A2 ?_;refine r_know 40 (.string (strU x.name)) rfl (by rw [h2]) ?_;refine A1 ?_;refine r_know 41 (.bool (x.name != [])) rfl (by rw [show (strU x.name != ⟨#[]⟩) = (strU x.name != strU []) from rfl, bne, strU_beq]; rfl) ?_;refine A1 ?_;refine Rs 42 ?_ ?_<;>intro hb3
    ·have hnm : x.name ≠ [] := by simpa using hb3
     refine A2 ?_;refine r_know 44 (.int .i64 x.op) rfl (by rw [h1]) ?_;refine A1 ?_;refine r_know 45 (.bool true) rfl (by rw [hop]; rfl) ?_;refine A4 ?_;refine r_know 49 (.int .i64 x.op) rfl (by rw [h1]) ?_;refine A1 ?_;refine r_know 50 (.bool true) rfl (by rw [hop]; rfl) ?_;refine A28 ?_;refine at_end1 rfl (res_tmp rfl) (fun w hL => ⟨(), congrArg (fun z : Nat => Ending.returned (.int .i64 (z : Int))) (by unfold mnode nodeE; rw [if_neg hn1, if_neg hl1, if_neg (by rw [hcn]; omega), if_pos (.inr (.inr ⟨(by rw [hop]; decide), (by rw [hop]; decide), hnm⟩))]), hL.pk [some 0]⟩)
    ·have hnm : x.name = [] := by simpa using hb3
     refine A12 ?_;refine Ld 2 2 [_,_,_,_] ti27 ?_;refine r_build [] rfl rfl rfl (bd27_0) ?_;refine r_neqAgg rfl rfl rfl rfl gd27 (eq27r _ _ _ _ _ _ _ _) ?_;refine r_know 57 (.bool (!x.num.isZ)) rfl (by rw [NumV.isZ_cells h3]) ?_;refine A1 ?_;refine Rs 58 ?_ ?_<;>intro hb4
     ·have hz : x.num.isZ = false := by simpa using hb4
      refine A2 ?_;refine r_know 60 (.int .i64 x.op) rfl (by rw [h1]) ?_;refine A1 ?_;refine r_know 61 (.bool false) rfl (by rw [hop]; rfl) ?_;refine A17 ?_;refine r_know 70 (.int .i64 x.op) rfl (by rw [h1]) ?_;refine A1 ?_;refine r_know 71 (.bool true) rfl (by rw [hop]; rfl) ?_;refine A2 ?_;refine Ld 2 2 [_,_,_,_] ti27 ?_;refine Pc (c_rational_Check z.b1 z.s1 z.b2 z.s2 hs.1 hs.2) ?_;refine r_know 75 (.int .i64 (if x.num.ok = true then 0 else 5)) rfl (by rw [NumV.ok_cells h3]) ?_;refine A4 ?_;refine Cd ?_ ?_<;>intro hb5
      ·have hok : x.num.ok = false := by have hh := hb5; revert hh; cases x.num.ok <;> simp
       refine A7 ?_;refine at_end1 rfl (res_tmp rfl) (fun w hL => ⟨(), congrArg (fun z : Nat => Ending.returned (.int .i64 (z : Int))) (by unfold mnode nodeE; rw [if_neg hn1, if_neg hl1, if_neg (by rw [hcn]; omega), if_neg (fun h => by
  rcases h with h | ⟨ha, hb, h⟩ | ⟨ha, hb, h⟩
  · exact h hlen
  · exact ha hop
  · exact h hnm), if_pos ⟨hop, hok⟩]), hL.pk [some 0]⟩)
      ·have hok : x.num.ok = true := by have hh := hb5; revert hh; cases x.num.ok <;> simp
       refine A9 ?_;refine El (ι := Unit) (fun ⟨⟩ => ([(0, .pointer (some ⟨gc, 0, none⟩)), (4, .pointer (some ⟨g0, 0, none⟩)), (9, .int .i64 0)], [VK gc (n + 1), gB z.T false, XB g0 z], 0)) () ?_ (hL := Weak.auto);rintro ⟨⟩;(try dsimp only);refine A7 ?_;refine r_know 81 (.int .i64 (x.args.length : Nat)) rfl (by rw [h5]) ?_;refine A1 ?_;refine r_know 82 (.bool false) rfl (congrArg Value.bool (decide_eq_false (by omega))) ?_;refine A19 ?_;refine r_know 99 (.int .i64 x.op) rfl (by rw [h1]) ?_;refine A1 ?_;refine r_know 100 (.bool false) rfl (by rw [hop]; rfl) ?_;refine A15 ?_;refine r_know 109 (.int .i64 x.op) rfl (by rw [h1]) ?_;refine A1 ?_;refine r_know 110 (.bool false) rfl (by rw [hop]; rfl) ?_;refine A13 ?_;refine r_know 118 (.int .i64 x.op) rfl (by rw [h1]) ?_;refine A1 ?_;refine r_know 119 (.bool false) rfl (by rw [hop]; rfl) ?_;refine A19 ?_;refine at_end1 rfl (res_tmp rfl) (fun w hL => ⟨(), congrArg (fun z : Nat => Ending.returned (.int .i64 (z : Int))) (by unfold mnode nodeE; rw [if_neg hn1, if_neg hl1, if_neg (by rw [hcn]; omega), if_neg (fun h => by
  rcases h with h | ⟨ha, hb, h⟩ | ⟨ha, hb, h⟩
  · exact h hlen
  · exact ha hop
  · exact h hnm), if_neg (fun h => by rw [hok] at h; cases h.2), if_neg (fun h => absurd h.1 (by rw [hop]; decide)), if_neg (fun h => absurd h.1 (by rw [hop]; decide)), if_neg (fun h => by
  rcases h with h | h
  · exact absurd h.1 (by rw [hop]; decide)
  · exact absurd h.1 (by rw [hop]; decide))]), hL.pk [some 0]⟩)
     ·have hz : x.num.isZ = true := by simpa using hb4
      refine A20 ?_;refine r_know 70 (.int .i64 x.op) rfl (by rw [h1]) ?_;refine A1 ?_;refine r_know 71 (.bool true) rfl (by rw [hop]; rfl) ?_;refine A2 ?_;refine Ld 2 2 [_,_,_,_] ti27 ?_;refine Pc (c_rational_Check z.b1 z.s1 z.b2 z.s2 hs.1 hs.2) ?_;refine r_know 75 (.int .i64 (if x.num.ok = true then 0 else 5)) rfl (by rw [NumV.ok_cells h3]) ?_;refine A4 ?_;refine Cd ?_ ?_<;>intro hb5
      ·have hok : x.num.ok = false := by have hh := hb5; revert hh; cases x.num.ok <;> simp
       refine A7 ?_;refine at_end1 rfl (res_tmp rfl) (fun w hL => ⟨(), congrArg (fun z : Nat => Ending.returned (.int .i64 (z : Int))) (by unfold mnode nodeE; rw [if_neg hn1, if_neg hl1, if_neg (by rw [hcn]; omega), if_neg (fun h => by
  rcases h with h | ⟨ha, hb, h⟩ | ⟨ha, hb, h⟩
  · exact h hlen
  · exact ha hop
  · exact h hnm), if_pos ⟨hop, hok⟩]), hL.pk [some 0]⟩)
      ·have hok : x.num.ok = true := by have hh := hb5; revert hh; cases x.num.ok <;> simp
       refine A9 ?_;refine El (ι := Unit) (fun ⟨⟩ => ([(0, .pointer (some ⟨gc, 0, none⟩)), (4, .pointer (some ⟨g0, 0, none⟩)), (9, .int .i64 0)], [VK gc (n + 1), gB z.T false, XB g0 z], 0)) () ?_ (hL := Weak.auto);rintro ⟨⟩;(try dsimp only);refine A7 ?_;refine r_know 81 (.int .i64 (x.args.length : Nat)) rfl (by rw [h5]) ?_;refine A1 ?_;refine r_know 82 (.bool false) rfl (congrArg Value.bool (decide_eq_false (by omega))) ?_;refine A19 ?_;refine r_know 99 (.int .i64 x.op) rfl (by rw [h1]) ?_;refine A1 ?_;refine r_know 100 (.bool false) rfl (by rw [hop]; rfl) ?_;refine A15 ?_;refine r_know 109 (.int .i64 x.op) rfl (by rw [h1]) ?_;refine A1 ?_;refine r_know 110 (.bool false) rfl (by rw [hop]; rfl) ?_;refine A13 ?_;refine r_know 118 (.int .i64 x.op) rfl (by rw [h1]) ?_;refine A1 ?_;refine r_know 119 (.bool false) rfl (by rw [hop]; rfl) ?_;refine A19 ?_;refine at_end1 rfl (res_tmp rfl) (fun w hL => ⟨(), congrArg (fun z : Nat => Ending.returned (.int .i64 (z : Int))) (by unfold mnode nodeE; rw [if_neg hn1, if_neg hl1, if_neg (by rw [hcn]; omega), if_neg (fun h => by
  rcases h with h | ⟨ha, hb, h⟩ | ⟨ha, hb, h⟩
  · exact h hlen
  · exact ha hop
  · exact h hnm), if_neg (fun h => by rw [hok] at h; cases h.2), if_neg (fun h => absurd h.1 (by rw [hop]; decide)), if_neg (fun h => absurd h.1 (by rw [hop]; decide)), if_neg (fun h => by
  rcases h with h | h
  · exact absurd h.1 (by rw [hop]; decide)
  · exact absurd h.1 (by rw [hop]; decide))]), hL.pk [some 0]⟩)
set_option maxRecDepth 20000 in
theorem c_mnode_2 {x : XT} (z : XR x) (hfn : x.name.length ≤ 1000000) (hfu : x.num.fit = true) (lv n gc : Nat) (hn : n ≤ 256) (hlv : lv ≤ 1000) (hop : x.op = 2) : ECall Tryz.prog 90 [VK gc n, gB z.T false] [.pointer (some ⟨gc, 0, none⟩), z.v, .int .i64 (lv : Nat)] Unit (fun _ => .int .i64 (mnode x lv n : Nat)) (fun _ => [VK gc (n + 1)]) := by
 refine ⟨by kernel_rfl, fun B w hD hL0 => ?_⟩;obtain ⟨h1, h2, h3, h4, h5, h6⟩ := z.inv;have hs := NumV.fit_cells h3 hfu
 have hcn : cntL x.op = 2 := (by rw [hop]; rfl);refine cB3 126 Tryz.func90 hL0 ?_;refine A2 ?_;refine Bo [_, _, _, _, _, _, _] 7 (fun g => [_, _, ⟨some g, 30, _, 7, true⟩]) (fun g0 => ?_);refine A6 ?_;refine Kr 10 (.pointer (some ⟨gc, 0, none⟩)) ?_;refine A3 ?_;refine Ar (((n + 1 : Nat) : Int)) ?_;refine A2 ?_;refine So 0 0 [⟨some gc, 73, _, 1, true⟩, _, _] [_] ?_;refine A12 ?_;refine Cd ?_ ?_<;>intro hb0
 ·have hn1 : 256 ≤ n := by have := of_decide_eq_true hb0; omega
  refine A7 ?_;refine at_end1 rfl (res_tmp rfl) (fun w hL => ⟨(), congrArg (fun z : Nat => Ending.returned (.int .i64 (z : Int))) (by unfold mnode; rw [if_pos hn1]), hL.pk [some 0]⟩)
 ·have hn1 : ¬ 256 ≤ n := by have := of_decide_eq_false hb0; omega
  refine A9 ?_;refine Cd ?_ ?_<;>intro hb1
  ·have hl1 : 32 < lv := by have := of_decide_eq_true hb1; omega
   refine A7 ?_;refine at_end1 rfl (res_tmp rfl) (fun w hL => ⟨(), congrArg (fun z : Nat => Ending.returned (.int .i64 (z : Int))) (by unfold mnode; rw [if_neg hn1, if_pos hl1]), hL.pk [some 0]⟩)
  ·have hl1 : ¬ 32 < lv := by have := of_decide_eq_false hb1; omega
   refine A3 ?_;refine at_regionM ?_;refine A2 ?_;refine r_know 26 (.int .i64 x.op) rfl (by rw [h1]) ?_;refine Gm 0 [] [] (fun _ => [_,_,_]) (c_law_of x.op) (fun _ => ?_);refine r_know 27 (.tuple #[.agg #[.int .i64 2, .int .i64 2, .int .i64 8, .string (strU [112, 111, 105, 110, 116])], .bool true]) rfl (by rw [hop]; kernel_rfl) ?_;refine A3 ?_;refine r_alloc [_, _, _, _] 4 (fun g => [_, _, _, ⟨some g, 94, _, 4, true⟩]) rfl rfl z94 rfl rfl (fun _ => rfl) (fun g1 => ?_);refine So 3 0 [_, _, _, ⟨some g1, 94, _, 4, true⟩] [_, _, _, _] ?_;refine A19 ?_;refine r_know 34 (.int .i64 (x.args.length : Nat)) rfl (by rw [h5]) ?_;refine A4 ?_;refine Rs 38 ?_ ?_<;>intro hb2
   ·have hlen : ((x.args.length : Nat) : Int) ≠ cntL x.op := by rw [hcn]; have hh := hb2; simpa using hh
    refine A40 ?_;refine at_end1 rfl (res_tmp rfl) (fun w hL => ⟨(), congrArg (fun z : Nat => Ending.returned (.int .i64 (z : Int))) (by unfold mnode nodeE; rw [if_neg hn1, if_neg hl1, if_neg (by rw [hcn]; omega), if_pos (.inl hlen)]), hL.pk [some 0]⟩)
   ·have hlen : ((x.args.length : Nat) : Int) = cntL x.op := by rw [hcn]; have hh := hb2; simpa using hh
    have hl2 : x.args.length = 2 := (by rw [hcn] at hlen; omega);refine A2 ?_;refine r_know 40 (.string (strU x.name)) rfl (by rw [h2]) ?_;refine A1 ?_;refine r_know 41 (.bool (x.name != [])) rfl (by rw [show (strU x.name != ⟨#[]⟩) = (strU x.name != strU []) from rfl, bne, strU_beq]; rfl) ?_;refine A1 ?_;refine Rs 42 ?_ ?_<;>intro hb3
    ·have hnm : x.name ≠ [] := by simpa using hb3
     refine A2 ?_;refine r_know 44 (.int .i64 x.op) rfl (by rw [h1]) ?_;refine A1 ?_;refine r_know 45 (.bool true) rfl (by rw [hop]; rfl) ?_;refine A4 ?_;refine r_know 49 (.int .i64 x.op) rfl (by rw [h1]) ?_;refine A1 ?_;refine r_know 50 (.bool true) rfl (by rw [hop]; rfl) ?_;refine A28 ?_;refine at_end1 rfl (res_tmp rfl) (fun w hL => ⟨(), congrArg (fun z : Nat => Ending.returned (.int .i64 (z : Int))) (by unfold mnode nodeE; rw [if_neg hn1, if_neg hl1, if_neg (by rw [hcn]; omega), if_pos (.inr (.inr ⟨(by rw [hop]; decide), (by rw [hop]; decide), hnm⟩))]), hL.pk [some 0]⟩)
    ·have hnm : x.name = [] := by simpa using hb3
     refine A12 ?_;refine Ld 2 2 [_,_,_,_] ti27 ?_;refine r_build [] rfl rfl rfl (bd27_0) ?_;refine r_neqAgg rfl rfl rfl rfl gd27 (eq27r _ _ _ _ _ _ _ _) ?_;refine r_know 57 (.bool (!x.num.isZ)) rfl (by rw [NumV.isZ_cells h3]) ?_;refine A1 ?_;refine Rs 58 ?_ ?_<;>intro hb4
     ·have hz : x.num.isZ = false := by simpa using hb4
      refine A2 ?_;refine r_know 60 (.int .i64 x.op) rfl (by rw [h1]) ?_;refine A1 ?_;refine r_know 61 (.bool true) rfl (by rw [hop]; rfl) ?_;refine A4 ?_;refine r_know 65 (.int .i64 x.op) rfl (by rw [h1]) ?_;refine A1 ?_;refine r_know 66 (.bool true) rfl (by rw [hop]; rfl) ?_;refine A12 ?_;refine at_end1 rfl (res_tmp rfl) (fun w hL => ⟨(), congrArg (fun z : Nat => Ending.returned (.int .i64 (z : Int))) (by unfold mnode nodeE; rw [if_neg hn1, if_neg hl1, if_neg (by rw [hcn]; omega), if_pos (.inr (.inl ⟨(by rw [hop]; decide), (by rw [hop]; decide), hz⟩))]), hL.pk [some 0]⟩)
     ·have hz : x.num.isZ = true := by simpa using hb4
      refine A20 ?_;refine r_know 70 (.int .i64 x.op) rfl (by rw [h1]) ?_;refine A1 ?_;refine r_know 71 (.bool false) rfl (by rw [hop]; rfl) ?_;refine A18 ?_;refine El (ι := {i : Nat // i ≤ x.args.length ∧ ∀ k, k < i → (x.args.map XT.op)[k]? = some 1}) (fun ⟨i, hi, hI⟩ => ([(0, .pointer (some ⟨gc, 0, none⟩)), (4, .pointer (some ⟨g0, 0, none⟩)), (9, .int .i64 (i : Nat))], [VK gc (n + 1), gB z.T false, XB g0 z], x.args.length - i)) ⟨0, Nat.zero_le _, fun k hk => absurd hk (by omega)⟩ ?_ (hL := Weak.auto);rintro ⟨i, hi, hI⟩;(try dsimp only);refine A7 ?_;refine r_know 81 (.int .i64 (x.args.length : Nat)) rfl (by rw [h5]) ?_;refine A2 ?_;refine Rs 83 ?_ ?_<;>intro hb6
      ·have hlt : i < x.args.length := by have := of_decide_eq_true hb6; omega
       obtain ⟨y, hy⟩ : ∃ y, x.args[i]? = some y := ⟨x.args[i], List.getElem?_eq_getElem hlt⟩;obtain ⟨ga, oa, ca, u, hza, hma, hra, hTa, hna⟩ := z.arg hy;refine A2 ?_;refine r_know 85 (.int .i64 x.op) rfl (by rw [h1]) ?_;refine A1 ?_;refine r_know 86 (.bool true) rfl (by rw [hop]; rfl) ?_;refine A13 ?_;refine r_indexAddrG (gg := ga) (len := z.n) (cap := z.cap) (oa + i * 7) u28 ti30 rfl rfl (congrArg (fun a => some (Value.slice a z.n z.cap)) hza) rfl (by omega) (by omega) (by show oa + Int.toNat _ * 7 = _; omega) ?_;refine r_fieldAddrG (oa + i * 7) 0 rfl rfl rfl ti30 rfl rfl ?_;refine r_loadT (v := .int .i64 u.op) 1 (oa + i * 7) _ rfl rfl rfl z.hT hma hna rfl ti3 (row_op hra) rfl rfl rfl ?_;refine A3 ?_;refine Cd ?_ ?_<;>intro hb7
       ·have ha : y.op ≠ 1 := by rw [← u.inv.1]; have hh := hb7; simpa using hh
        refine A11 ?_;refine at_end1 rfl (res_tmp rfl) (fun w hL => ⟨(), congrArg (fun z : Nat => Ending.returned (.int .i64 (z : Int))) (by unfold mnode nodeE; rw [if_neg hn1, if_neg hl1, if_neg (by rw [hcn]; omega), if_neg (fun h => by
  rcases h with h | ⟨ha, hb, h⟩ | ⟨ha, hb, h⟩
  · exact h hlen
  · rw [hz] at h; cases h
  · exact h hnm), if_neg (fun h => absurd h.1 (by rw [hop]; decide)), if_pos ⟨hop, mn_arg hy ha (by omega)⟩]), hL.pk [some 0]⟩)
       ·have ha : y.op = 1 := by rw [← u.inv.1]; have hh := hb7; simpa using hh
        refine A5 ?_;refine Ar (((i + 1 : Nat) : Int)) ?_;refine A3 ?_;exact nextL ⟨i + 1, hlt, fun k hk => by
         by_cases e : k = i
         · subst e; rw [List.getElem?_map, hy, Option.map_some, ha]
         · exact hI k (by omega)⟩ (by simp only []; omega) ⟨rfl, rfl, rfl, trivial⟩ (weak_pk [some 0, some 1, some 2])
      ·have hge : i = x.args.length := by have := of_decide_eq_false hb6; omega
       refine A18 ?_;refine r_know 99 (.int .i64 x.op) rfl (by rw [h1]) ?_;refine A1 ?_;refine r_know 100 (.bool false) rfl (by rw [hop]; rfl) ?_;refine A15 ?_;refine r_know 109 (.int .i64 x.op) rfl (by rw [h1]) ?_;refine A1 ?_;refine r_know 110 (.bool false) rfl (by rw [hop]; rfl) ?_;refine A13 ?_;refine r_know 118 (.int .i64 x.op) rfl (by rw [h1]) ?_;refine A1 ?_;refine r_know 119 (.bool false) rfl (by rw [hop]; rfl) ?_;refine A19 ?_;refine at_end1 rfl (res_tmp rfl) (fun w hL => ⟨(), congrArg (fun z : Nat => Ending.returned (.int .i64 (z : Int))) (by unfold mnode nodeE; rw [if_neg hn1, if_neg hl1, if_neg (by rw [hcn]; omega), if_neg (fun h => by
  rcases h with h | ⟨ha, hb, h⟩ | ⟨ha, hb, h⟩
  · exact h hlen
  · rw [hz] at h; cases h
  · exact h hnm), if_neg (fun h => absurd h.1 (by rw [hop]; decide)), if_neg (fun h => by
  rcases h.2 with h | h
  · exact h (hI 0 (by omega))
  · exact h (hI 1 (by omega))), if_neg (fun h => absurd h.1 (by rw [hop]; decide)), if_neg (fun h => by
  rcases h with h | h
  · exact absurd h.1 (by rw [hop]; decide)
  · exact absurd h.1 (by rw [hop]; decide))]), hL.pk [some 0]⟩)
set_option maxRecDepth 20000 in
theorem c_mnode_3 {x : XT} (z : XR x) (hfn : x.name.length ≤ 1000000) (hfu : x.num.fit = true) (lv n gc : Nat) (hn : n ≤ 256) (hlv : lv ≤ 1000) (hop : x.op = 3) : ECall Tryz.prog 90 [VK gc n, gB z.T false] [.pointer (some ⟨gc, 0, none⟩), z.v, .int .i64 (lv : Nat)] Unit (fun _ => .int .i64 (mnode x lv n : Nat)) (fun _ => [VK gc (n + 1)]) := by
 refine ⟨by kernel_rfl, fun B w hD hL0 => ?_⟩;obtain ⟨h1, h2, h3, h4, h5, h6⟩ := z.inv;have hs := NumV.fit_cells h3 hfu
 have hcn : cntL x.op = 0 := (by rw [hop]; rfl);refine cB3 126 Tryz.func90 hL0 ?_;refine A2 ?_;refine Bo [_, _, _, _, _, _, _] 7 (fun g => [_, _, ⟨some g, 30, _, 7, true⟩]) (fun g0 => ?_);refine A9 ?_;refine Ar (((n + 1 : Nat) : Int)) ?_;refine A2 ?_;refine So 0 0 [⟨some gc, 73, _, 1, true⟩, _, _] [_] ?_;refine A12 ?_;refine Cd ?_ ?_<;>intro hb0
 ·have hn1 : 256 ≤ n := by have := of_decide_eq_true hb0; omega
  refine A7 ?_;refine at_end1 rfl (res_tmp rfl) (fun w hL => ⟨(), congrArg (fun z : Nat => Ending.returned (.int .i64 (z : Int))) (by unfold mnode; rw [if_pos hn1]), hL.pk [some 0]⟩)
 ·have hn1 : ¬ 256 ≤ n := by have := of_decide_eq_false hb0; omega
  refine A9 ?_;refine Cd ?_ ?_<;>intro hb1
  ·have hl1 : 32 < lv := by have := of_decide_eq_true hb1; omega
   refine A7 ?_;refine at_end1 rfl (res_tmp rfl) (fun w hL => ⟨(), congrArg (fun z : Nat => Ending.returned (.int .i64 (z : Int))) (by unfold mnode; rw [if_neg hn1, if_pos hl1]), hL.pk [some 0]⟩)
  ·have hl1 : ¬ 32 < lv := by have := of_decide_eq_false hb1; omega
   refine A3 ?_;refine at_regionM ?_;refine A2 ?_;refine r_know 26 (.int .i64 x.op) rfl (by rw [h1]) ?_;refine Gm 0 [] [] (fun _ => [_,_,_]) (c_law_of x.op) (fun _ => ?_);refine r_know 27 (.tuple #[.agg #[.int .i64 3, .int .i64 0, .int .i64 8, .string (strU [111, 98, 106, 101, 99, 116])], .bool true]) rfl (by rw [hop]; kernel_rfl) ?_;refine A3 ?_;refine r_alloc [_, _, _, _] 4 (fun g => [_, _, _, ⟨some g, 94, _, 4, true⟩]) rfl rfl z94 rfl rfl (fun _ => rfl) (fun g1 => ?_);refine So 3 0 [_, _, _, ⟨some g1, 94, _, 4, true⟩] [_, _, _, _] ?_;refine A19 ?_;refine r_know 34 (.int .i64 (x.args.length : Nat)) rfl (by rw [h5]) ?_;refine A4 ?_;refine Rs 38 ?_ ?_<;>intro hb2
   ·have hlen : ((x.args.length : Nat) : Int) ≠ cntL x.op := by rw [hcn]; have hh := hb2; simpa using hh
    refine A40 ?_;refine at_end1 rfl (res_tmp rfl) (fun w hL => ⟨(), congrArg (fun z : Nat => Ending.returned (.int .i64 (z : Int))) (by unfold mnode nodeE; rw [if_neg hn1, if_neg hl1, if_neg (by rw [hcn]; omega), if_pos (.inl hlen)]), hL.pk [some 0]⟩)
   ·have hlen : ((x.args.length : Nat) : Int) = cntL x.op := by rw [hcn]; have hh := hb2; simpa using hh
    have hl2 : x.args.length = 0 := (by rw [hcn] at hlen; omega);refine A2 ?_;refine r_know 40 (.string (strU x.name)) rfl (by rw [h2]) ?_;refine A1 ?_;refine r_know 41 (.bool (x.name != [])) rfl (by rw [show (strU x.name != ⟨#[]⟩) = (strU x.name != strU []) from rfl, bne, strU_beq]; rfl) ?_;refine A1 ?_;refine Rs 42 ?_ ?_<;>intro hb3
    ·have hnm : x.name ≠ [] := by simpa using hb3
     refine A2 ?_;refine r_know 44 (.int .i64 x.op) rfl (by rw [h1]) ?_;refine A1 ?_;refine r_know 45 (.bool true) rfl (by rw [hop]; rfl) ?_;refine A4 ?_;refine r_know 49 (.int .i64 x.op) rfl (by rw [h1]) ?_;refine A1 ?_;refine r_know 50 (.bool true) rfl (by rw [hop]; rfl) ?_;refine A28 ?_;refine at_end1 rfl (res_tmp rfl) (fun w hL => ⟨(), congrArg (fun z : Nat => Ending.returned (.int .i64 (z : Int))) (by unfold mnode nodeE; rw [if_neg hn1, if_neg hl1, if_neg (by rw [hcn]; omega), if_pos (.inr (.inr ⟨(by rw [hop]; decide), (by rw [hop]; decide), hnm⟩))]), hL.pk [some 0]⟩)
    ·have hnm : x.name = [] := by simpa using hb3
     refine A12 ?_;refine Ld 2 2 [_,_,_,_] ti27 ?_;refine r_build [] rfl rfl rfl (bd27_0) ?_;refine r_neqAgg rfl rfl rfl rfl gd27 (eq27r _ _ _ _ _ _ _ _) ?_;refine r_know 57 (.bool (!x.num.isZ)) rfl (by rw [NumV.isZ_cells h3]) ?_;refine A1 ?_;refine Rs 58 ?_ ?_<;>intro hb4
     ·have hz : x.num.isZ = false := by simpa using hb4
      refine A2 ?_;refine r_know 60 (.int .i64 x.op) rfl (by rw [h1]) ?_;refine A1 ?_;refine r_know 61 (.bool true) rfl (by rw [hop]; rfl) ?_;refine A4 ?_;refine r_know 65 (.int .i64 x.op) rfl (by rw [h1]) ?_;refine A1 ?_;refine r_know 66 (.bool false) rfl (by rw [hop]; rfl) ?_;refine A12 ?_;refine r_know 70 (.int .i64 x.op) rfl (by rw [h1]) ?_;refine A1 ?_;refine r_know 71 (.bool false) rfl (by rw [hop]; rfl) ?_;refine A18 ?_;refine El (ι := Unit) (fun ⟨⟩ => ([(0, .pointer (some ⟨gc, 0, none⟩)), (4, .pointer (some ⟨g0, 0, none⟩)), (9, .int .i64 0)], [VK gc (n + 1), gB z.T false, XB g0 z], 0)) () ?_ (hL := Weak.auto);rintro ⟨⟩;(try dsimp only);refine A7 ?_;refine r_know 81 (.int .i64 (x.args.length : Nat)) rfl (by rw [h5]) ?_;refine A1 ?_;refine r_know 82 (.bool false) rfl (congrArg Value.bool (decide_eq_false (by omega))) ?_;refine A19 ?_;refine r_know 99 (.int .i64 x.op) rfl (by rw [h1]) ?_;refine A1 ?_;refine r_know 100 (.bool true) rfl (by rw [hop]; rfl) ?_;refine A2 ?_;refine Ld 2 2 [_,_,_,_] ti27 ?_;refine Pc (c_law_isIdZ z hfu) ?_;refine A5 ?_;refine Cd ?_ ?_<;>intro hb6
      ·have hid : x.num.isId = false := by simpa using hb6
       refine A8 ?_;refine at_end1 rfl (res_tmp rfl) (fun w hL => ⟨(), congrArg (fun z : Nat => Ending.returned (.int .i64 (z : Int))) (by unfold mnode nodeE; rw [if_neg hn1, if_neg hl1, if_neg (by rw [hcn]; omega), if_neg (fun h => by
  rcases h with h | ⟨ha, hb, h⟩ | ⟨ha, hb, h⟩
  · exact h hlen
  · exact hb hop
  · exact h hnm), if_neg (fun h => absurd h.1 (by rw [hop]; decide)), if_neg (fun h => absurd h.1 (by rw [hop]; decide)), if_pos ⟨hop, hid⟩]), hL.pk [some 0]⟩)
      ·have hid : x.num.isId = true := by simpa using hb6
       refine A5 ?_;refine r_know 109 (.int .i64 x.op) rfl (by rw [h1]) ?_;refine A1 ?_;refine r_know 110 (.bool false) rfl (by rw [hop]; rfl) ?_;refine A13 ?_;refine r_know 118 (.int .i64 x.op) rfl (by rw [h1]) ?_;refine A1 ?_;refine r_know 119 (.bool false) rfl (by rw [hop]; rfl) ?_;refine A19 ?_;refine at_end1 rfl (res_tmp rfl) (fun w hL => ⟨(), congrArg (fun z : Nat => Ending.returned (.int .i64 (z : Int))) (by unfold mnode nodeE; rw [if_neg hn1, if_neg hl1, if_neg (by rw [hcn]; omega), if_neg (fun h => by
  rcases h with h | ⟨ha, hb, h⟩ | ⟨ha, hb, h⟩
  · exact h hlen
  · exact hb hop
  · exact h hnm), if_neg (fun h => absurd h.1 (by rw [hop]; decide)), if_neg (fun h => absurd h.1 (by rw [hop]; decide)), if_neg (fun h => by rw [hid] at h; cases h.2), if_neg (fun h => by
  rcases h with h | h
  · exact absurd h.1 (by rw [hop]; decide)
  · exact absurd h.1 (by rw [hop]; decide))]), hL.pk [some 0]⟩)
     ·have hz : x.num.isZ = true := by simpa using hb4
      refine A20 ?_;refine r_know 70 (.int .i64 x.op) rfl (by rw [h1]) ?_;refine A1 ?_;refine r_know 71 (.bool false) rfl (by rw [hop]; rfl) ?_;refine A18 ?_;refine El (ι := Unit) (fun ⟨⟩ => ([(0, .pointer (some ⟨gc, 0, none⟩)), (4, .pointer (some ⟨g0, 0, none⟩)), (9, .int .i64 0)], [VK gc (n + 1), gB z.T false, XB g0 z], 0)) () ?_ (hL := Weak.auto);rintro ⟨⟩;(try dsimp only);refine A7 ?_;refine r_know 81 (.int .i64 (x.args.length : Nat)) rfl (by rw [h5]) ?_;refine A1 ?_;refine r_know 82 (.bool false) rfl (congrArg Value.bool (decide_eq_false (by omega))) ?_;refine A19 ?_;refine r_know 99 (.int .i64 x.op) rfl (by rw [h1]) ?_;refine A1 ?_;refine r_know 100 (.bool true) rfl (by rw [hop]; rfl) ?_;refine A2 ?_;refine Ld 2 2 [_,_,_,_] ti27 ?_;refine Pc (c_law_isIdZ z hfu) ?_;refine A5 ?_;refine Cd ?_ ?_<;>intro hb6
      ·have hid : x.num.isId = false := by simpa using hb6
       refine A8 ?_;refine at_end1 rfl (res_tmp rfl) (fun w hL => ⟨(), congrArg (fun z : Nat => Ending.returned (.int .i64 (z : Int))) (by unfold mnode nodeE; rw [if_neg hn1, if_neg hl1, if_neg (by rw [hcn]; omega), if_neg (fun h => by
  rcases h with h | ⟨ha, hb, h⟩ | ⟨ha, hb, h⟩
  · exact h hlen
  · exact hb hop
  · exact h hnm), if_neg (fun h => absurd h.1 (by rw [hop]; decide)), if_neg (fun h => absurd h.1 (by rw [hop]; decide)), if_pos ⟨hop, hid⟩]), hL.pk [some 0]⟩)
      ·have hid : x.num.isId = true := by simpa using hb6
       refine A5 ?_;refine r_know 109 (.int .i64 x.op) rfl (by rw [h1]) ?_;refine A1 ?_;refine r_know 110 (.bool false) rfl (by rw [hop]; rfl) ?_;refine A13 ?_;refine r_know 118 (.int .i64 x.op) rfl (by rw [h1]) ?_;refine A1 ?_;refine r_know 119 (.bool false) rfl (by rw [hop]; rfl) ?_;refine A19 ?_;refine at_end1 rfl (res_tmp rfl) (fun w hL => ⟨(), congrArg (fun z : Nat => Ending.returned (.int .i64 (z : Int))) (by unfold mnode nodeE; rw [if_neg hn1, if_neg hl1, if_neg (by rw [hcn]; omega), if_neg (fun h => by
  rcases h with h | ⟨ha, hb, h⟩ | ⟨ha, hb, h⟩
  · exact h hlen
  · exact hb hop
  · exact h hnm), if_neg (fun h => absurd h.1 (by rw [hop]; decide)), if_neg (fun h => absurd h.1 (by rw [hop]; decide)), if_neg (fun h => by rw [hid] at h; cases h.2), if_neg (fun h => by
  rcases h with h | h
  · exact absurd h.1 (by rw [hop]; decide)
  · exact absurd h.1 (by rw [hop]; decide))]), hL.pk [some 0]⟩)
set_option maxRecDepth 20000 in
theorem c_mnode_4 {x : XT} (z : XR x) (hfn : x.name.length ≤ 1000000) (hfu : x.num.fit = true) (lv n gc : Nat) (hn : n ≤ 256) (hlv : lv ≤ 1000) (hop : x.op = 4) : ECall Tryz.prog 90 [VK gc n, gB z.T false] [.pointer (some ⟨gc, 0, none⟩), z.v, .int .i64 (lv : Nat)] Unit (fun _ => .int .i64 (mnode x lv n : Nat)) (fun _ => [VK gc (n + 1)]) := by
 refine ⟨by kernel_rfl, fun B w hD hL0 => ?_⟩;obtain ⟨h1, h2, h3, h4, h5, h6⟩ := z.inv;have hs := NumV.fit_cells h3 hfu
 have hcn : cntL x.op = 0 := (by rw [hop]; rfl);refine cB3 126 Tryz.func90 hL0 ?_;refine A2 ?_;refine Bo [_, _, _, _, _, _, _] 7 (fun g => [_, _, ⟨some g, 30, _, 7, true⟩]) (fun g0 => ?_);refine A9 ?_;refine Ar (((n + 1 : Nat) : Int)) ?_;refine A2 ?_;refine So 0 0 [⟨some gc, 73, _, 1, true⟩, _, _] [_] ?_;refine A12 ?_;refine Cd ?_ ?_<;>intro hb0
 ·have hn1 : 256 ≤ n := by have := of_decide_eq_true hb0; omega
  refine A7 ?_;refine at_end1 rfl (res_tmp rfl) (fun w hL => ⟨(), congrArg (fun z : Nat => Ending.returned (.int .i64 (z : Int))) (by unfold mnode; rw [if_pos hn1]), hL.pk [some 0]⟩)
 ·have hn1 : ¬ 256 ≤ n := by have := of_decide_eq_false hb0; omega
  refine A9 ?_;refine Cd ?_ ?_<;>intro hb1
  ·have hl1 : 32 < lv := by have := of_decide_eq_true hb1; omega
   refine A7 ?_;refine at_end1 rfl (res_tmp rfl) (fun w hL => ⟨(), congrArg (fun z : Nat => Ending.returned (.int .i64 (z : Int))) (by unfold mnode; rw [if_neg hn1, if_pos hl1]), hL.pk [some 0]⟩)
  ·have hl1 : ¬ 32 < lv := by have := of_decide_eq_false hb1; omega
   refine A3 ?_;refine at_regionM ?_;refine A2 ?_;refine r_know 26 (.int .i64 x.op) rfl (by rw [h1]) ?_;refine Gm 0 [] [] (fun _ => [_,_,_]) (c_law_of x.op) (fun _ => ?_);refine r_know 27 (.tuple #[.agg #[.int .i64 4, .int .i64 0, .int .i64 8, .string (strU [])], .bool true]) rfl (by rw [hop]; kernel_rfl) ?_;refine A3 ?_;refine r_alloc [_, _, _, _] 4 (fun g => [_, _, _, ⟨some g, 94, _, 4, true⟩]) rfl rfl z94 rfl rfl (fun _ => rfl) (fun g1 => ?_);refine So 3 0 [_, _, _, ⟨some g1, 94, _, 4, true⟩] [_, _, _, _] ?_;refine A19 ?_;refine r_know 34 (.int .i64 (x.args.length : Nat)) rfl (by rw [h5]) ?_;refine A4 ?_;refine Rs 38 ?_ ?_<;>intro hb2
   ·have hlen : ((x.args.length : Nat) : Int) ≠ cntL x.op := by rw [hcn]; have hh := hb2; simpa using hh
    refine A40 ?_;refine at_end1 rfl (res_tmp rfl) (fun w hL => ⟨(), congrArg (fun z : Nat => Ending.returned (.int .i64 (z : Int))) (by unfold mnode nodeE; rw [if_neg hn1, if_neg hl1, if_neg (by rw [hcn]; omega), if_pos (.inl hlen)]), hL.pk [some 0]⟩)
   ·have hlen : ((x.args.length : Nat) : Int) = cntL x.op := by rw [hcn]; have hh := hb2; simpa using hh
    have hl2 : x.args.length = 0 := (by rw [hcn] at hlen; omega);refine A2 ?_;refine r_know 40 (.string (strU x.name)) rfl (by rw [h2]) ?_;refine A1 ?_;refine r_know 41 (.bool (x.name != [])) rfl (by rw [show (strU x.name != ⟨#[]⟩) = (strU x.name != strU []) from rfl, bne, strU_beq]; rfl) ?_;refine A1 ?_;refine Rs 42 ?_ ?_<;>intro hb3
    ·have hnm : x.name ≠ [] := by simpa using hb3
     refine A2 ?_;refine r_know 44 (.int .i64 x.op) rfl (by rw [h1]) ?_;refine A1 ?_;refine r_know 45 (.bool false) rfl (by rw [hop]; rfl) ?_;refine A9 ?_;refine Ld 2 2 [_,_,_,_] ti27 ?_;refine r_build [] rfl rfl rfl (bd27_0) ?_;refine r_neqAgg rfl rfl rfl rfl gd27 (eq27r _ _ _ _ _ _ _ _) ?_;refine r_know 57 (.bool (!x.num.isZ)) rfl (by rw [NumV.isZ_cells h3]) ?_;refine A1 ?_;refine Rs 58 ?_ ?_<;>intro hb4
     ·have hz : x.num.isZ = false := by simpa using hb4
      refine A2 ?_;refine r_know 60 (.int .i64 x.op) rfl (by rw [h1]) ?_;refine A1 ?_;refine r_know 61 (.bool true) rfl (by rw [hop]; rfl) ?_;refine A4 ?_;refine r_know 65 (.int .i64 x.op) rfl (by rw [h1]) ?_;refine A1 ?_;refine r_know 66 (.bool true) rfl (by rw [hop]; rfl) ?_;refine A12 ?_;refine at_end1 rfl (res_tmp rfl) (fun w hL => ⟨(), congrArg (fun z : Nat => Ending.returned (.int .i64 (z : Int))) (by unfold mnode nodeE; rw [if_neg hn1, if_neg hl1, if_neg (by rw [hcn]; omega), if_pos (.inr (.inl ⟨(by rw [hop]; decide), (by rw [hop]; decide), hz⟩))]), hL.pk [some 0]⟩)
     ·have hz : x.num.isZ = true := by simpa using hb4
      refine A20 ?_;refine r_know 70 (.int .i64 x.op) rfl (by rw [h1]) ?_;refine A1 ?_;refine r_know 71 (.bool false) rfl (by rw [hop]; rfl) ?_;refine A18 ?_;refine El (ι := Unit) (fun ⟨⟩ => ([(0, .pointer (some ⟨gc, 0, none⟩)), (4, .pointer (some ⟨g0, 0, none⟩)), (9, .int .i64 0)], [VK gc (n + 1), gB z.T false, XB g0 z], 0)) () ?_ (hL := Weak.auto);rintro ⟨⟩;(try dsimp only);refine A7 ?_;refine r_know 81 (.int .i64 (x.args.length : Nat)) rfl (by rw [h5]) ?_;refine A1 ?_;refine r_know 82 (.bool false) rfl (congrArg Value.bool (decide_eq_false (by omega))) ?_;refine A19 ?_;refine r_know 99 (.int .i64 x.op) rfl (by rw [h1]) ?_;refine A1 ?_;refine r_know 100 (.bool false) rfl (by rw [hop]; rfl) ?_;refine A15 ?_;refine r_know 109 (.int .i64 x.op) rfl (by rw [h1]) ?_;refine A1 ?_;refine r_know 110 (.bool true) rfl (by rw [hop]; rfl) ?_;refine A3 ?_;refine r_know 113 (.string (strU x.name)) rfl (by rw [h2]) ?_;refine Pc (c_law_isName x.name hfn) ?_;refine r_know 114 (.bool (nameL x.name)) rfl (by rw [name_same]) ?_;refine A5 ?_;refine Cd ?_ ?_<;>intro hb6
      ·have hN : nameL x.name = false := by simpa using hb6
       refine A2 ?_;refine Cd ?_ ?_<;>intro hb7
       ·have hN : nameL x.name = false := by simpa using hb7
        refine A8 ?_;refine at_end1 rfl (res_tmp rfl) (fun w hL => ⟨(), congrArg (fun z : Nat => Ending.returned (.int .i64 (z : Int))) (by unfold mnode nodeE; rw [if_neg hn1, if_neg hl1, if_neg (by rw [hcn]; omega), if_neg (fun h => by
  rcases h with h | ⟨ha, hb, h⟩ | ⟨ha, hb, h⟩
  · exact h hlen
  · rw [hz] at h; cases h
  · exact ha hop), if_neg (fun h => absurd h.1 (by rw [hop]; decide)), if_neg (fun h => absurd h.1 (by rw [hop]; decide)), if_neg (fun h => absurd h.1 (by rw [hop]; decide)), if_pos (.inl ⟨hop, hN⟩)]), hL.pk [some 0]⟩)
       ·have hN : nameL x.name = true := by simpa using hb7
        refine A9 ?_;refine at_end1 rfl (res_tmp rfl) (fun w hL => ⟨(), congrArg (fun z : Nat => Ending.returned (.int .i64 (z : Int))) (by unfold mnode nodeE; rw [if_neg hn1, if_neg hl1, if_neg (by rw [hcn]; omega), if_neg (fun h => by
  rcases h with h | ⟨ha, hb, h⟩ | ⟨ha, hb, h⟩
  · exact h hlen
  · rw [hz] at h; cases h
  · exact ha hop), if_neg (fun h => absurd h.1 (by rw [hop]; decide)), if_neg (fun h => absurd h.1 (by rw [hop]; decide)), if_neg (fun h => absurd h.1 (by rw [hop]; decide)), if_neg (fun h => by
  rcases h with h | h
  · rw [hN] at h; cases h.2
  · exact absurd h.1 (by rw [hop]; decide))]), hL.pk [some 0]⟩)
      ·have hN : nameL x.name = true := by simpa using hb6
       refine A3 ?_;refine r_know 118 (.int .i64 x.op) rfl (by rw [h1]) ?_;refine A1 ?_;refine r_know 119 (.bool false) rfl (by rw [hop]; rfl) ?_;refine A19 ?_;refine at_end1 rfl (res_tmp rfl) (fun w hL => ⟨(), congrArg (fun z : Nat => Ending.returned (.int .i64 (z : Int))) (by unfold mnode nodeE; rw [if_neg hn1, if_neg hl1, if_neg (by rw [hcn]; omega), if_neg (fun h => by
  rcases h with h | ⟨ha, hb, h⟩ | ⟨ha, hb, h⟩
  · exact h hlen
  · rw [hz] at h; cases h
  · exact ha hop), if_neg (fun h => absurd h.1 (by rw [hop]; decide)), if_neg (fun h => absurd h.1 (by rw [hop]; decide)), if_neg (fun h => absurd h.1 (by rw [hop]; decide)), if_neg (fun h => by
  rcases h with h | h
  · rw [hN] at h; cases h.2
  · exact absurd h.1 (by rw [hop]; decide))]), hL.pk [some 0]⟩)
    ·have hnm : x.name = [] := by simpa using hb3
     refine A12 ?_;refine Ld 2 2 [_,_,_,_] ti27 ?_;refine r_build [] rfl rfl rfl (bd27_0) ?_;refine r_neqAgg rfl rfl rfl rfl gd27 (eq27r _ _ _ _ _ _ _ _) ?_;refine r_know 57 (.bool (!x.num.isZ)) rfl (by rw [NumV.isZ_cells h3]) ?_;refine A1 ?_;refine Rs 58 ?_ ?_<;>intro hb4
     ·have hz : x.num.isZ = false := by simpa using hb4
      refine A2 ?_;refine r_know 60 (.int .i64 x.op) rfl (by rw [h1]) ?_;refine A1 ?_;refine r_know 61 (.bool true) rfl (by rw [hop]; rfl) ?_;refine A4 ?_;refine r_know 65 (.int .i64 x.op) rfl (by rw [h1]) ?_;refine A1 ?_;refine r_know 66 (.bool true) rfl (by rw [hop]; rfl) ?_;refine A12 ?_;refine at_end1 rfl (res_tmp rfl) (fun w hL => ⟨(), congrArg (fun z : Nat => Ending.returned (.int .i64 (z : Int))) (by unfold mnode nodeE; rw [if_neg hn1, if_neg hl1, if_neg (by rw [hcn]; omega), if_pos (.inr (.inl ⟨(by rw [hop]; decide), (by rw [hop]; decide), hz⟩))]), hL.pk [some 0]⟩)
     ·have hz : x.num.isZ = true := by simpa using hb4
      refine A20 ?_;refine r_know 70 (.int .i64 x.op) rfl (by rw [h1]) ?_;refine A1 ?_;refine r_know 71 (.bool false) rfl (by rw [hop]; rfl) ?_;refine A18 ?_;refine El (ι := Unit) (fun ⟨⟩ => ([(0, .pointer (some ⟨gc, 0, none⟩)), (4, .pointer (some ⟨g0, 0, none⟩)), (9, .int .i64 0)], [VK gc (n + 1), gB z.T false, XB g0 z], 0)) () ?_ (hL := Weak.auto);rintro ⟨⟩;(try dsimp only);refine A7 ?_;refine r_know 81 (.int .i64 (x.args.length : Nat)) rfl (by rw [h5]) ?_;refine A1 ?_;refine r_know 82 (.bool false) rfl (congrArg Value.bool (decide_eq_false (by omega))) ?_;refine A19 ?_;refine r_know 99 (.int .i64 x.op) rfl (by rw [h1]) ?_;refine A1 ?_;refine r_know 100 (.bool false) rfl (by rw [hop]; rfl) ?_;refine A15 ?_;refine r_know 109 (.int .i64 x.op) rfl (by rw [h1]) ?_;refine A1 ?_;refine r_know 110 (.bool true) rfl (by rw [hop]; rfl) ?_;refine A3 ?_;refine r_know 113 (.string (strU x.name)) rfl (by rw [h2]) ?_;refine Pc (c_law_isName x.name hfn) ?_;refine r_know 114 (.bool (nameL x.name)) rfl (by rw [name_same]) ?_;refine A5 ?_;refine Cd ?_ ?_<;>intro hb6
      ·have hN : nameL x.name = false := by simpa using hb6
       refine A2 ?_;refine Cd ?_ ?_<;>intro hb7
       ·have hN : nameL x.name = false := by simpa using hb7
        refine A8 ?_;refine at_end1 rfl (res_tmp rfl) (fun w hL => ⟨(), congrArg (fun z : Nat => Ending.returned (.int .i64 (z : Int))) (by unfold mnode nodeE; rw [if_neg hn1, if_neg hl1, if_neg (by rw [hcn]; omega), if_neg (fun h => by
  rcases h with h | ⟨ha, hb, h⟩ | ⟨ha, hb, h⟩
  · exact h hlen
  · rw [hz] at h; cases h
  · exact ha hop), if_neg (fun h => absurd h.1 (by rw [hop]; decide)), if_neg (fun h => absurd h.1 (by rw [hop]; decide)), if_neg (fun h => absurd h.1 (by rw [hop]; decide)), if_pos (.inl ⟨hop, hN⟩)]), hL.pk [some 0]⟩)
       ·have hN : nameL x.name = true := by simpa using hb7
        refine A9 ?_;refine at_end1 rfl (res_tmp rfl) (fun w hL => ⟨(), congrArg (fun z : Nat => Ending.returned (.int .i64 (z : Int))) (by unfold mnode nodeE; rw [if_neg hn1, if_neg hl1, if_neg (by rw [hcn]; omega), if_neg (fun h => by
  rcases h with h | ⟨ha, hb, h⟩ | ⟨ha, hb, h⟩
  · exact h hlen
  · rw [hz] at h; cases h
  · exact ha hop), if_neg (fun h => absurd h.1 (by rw [hop]; decide)), if_neg (fun h => absurd h.1 (by rw [hop]; decide)), if_neg (fun h => absurd h.1 (by rw [hop]; decide)), if_neg (fun h => by
  rcases h with h | h
  · rw [hN] at h; cases h.2
  · exact absurd h.1 (by rw [hop]; decide))]), hL.pk [some 0]⟩)
      ·have hN : nameL x.name = true := by simpa using hb6
       refine A3 ?_;refine r_know 118 (.int .i64 x.op) rfl (by rw [h1]) ?_;refine A1 ?_;refine r_know 119 (.bool false) rfl (by rw [hop]; rfl) ?_;refine A19 ?_;refine at_end1 rfl (res_tmp rfl) (fun w hL => ⟨(), congrArg (fun z : Nat => Ending.returned (.int .i64 (z : Int))) (by unfold mnode nodeE; rw [if_neg hn1, if_neg hl1, if_neg (by rw [hcn]; omega), if_neg (fun h => by
  rcases h with h | ⟨ha, hb, h⟩ | ⟨ha, hb, h⟩
  · exact h hlen
  · rw [hz] at h; cases h
  · exact ha hop), if_neg (fun h => absurd h.1 (by rw [hop]; decide)), if_neg (fun h => absurd h.1 (by rw [hop]; decide)), if_neg (fun h => absurd h.1 (by rw [hop]; decide)), if_neg (fun h => by
  rcases h with h | h
  · rw [hN] at h; cases h.2
  · exact absurd h.1 (by rw [hop]; decide))]), hL.pk [some 0]⟩)
set_option maxRecDepth 20000 in
theorem c_mnode_5 {x : XT} (z : XR x) (hfn : x.name.length ≤ 1000000) (hfu : x.num.fit = true) (lv n gc : Nat) (hn : n ≤ 256) (hlv : lv ≤ 1000) (hop : x.op = 5) : ECall Tryz.prog 90 [VK gc n, gB z.T false] [.pointer (some ⟨gc, 0, none⟩), z.v, .int .i64 (lv : Nat)] Unit (fun _ => .int .i64 (mnode x lv n : Nat)) (fun _ => [VK gc (n + 1)]) := by
 refine ⟨by kernel_rfl, fun B w hD hL0 => ?_⟩;obtain ⟨h1, h2, h3, h4, h5, h6⟩ := z.inv;have hs := NumV.fit_cells h3 hfu
 have hcn : cntL x.op = 0 := (by rw [hop]; rfl);refine cB3 126 Tryz.func90 hL0 ?_;refine A2 ?_;refine Bo [_, _, _, _, _, _, _] 7 (fun g => [_, _, ⟨some g, 30, _, 7, true⟩]) (fun g0 => ?_);refine A9 ?_;refine Ar (((n + 1 : Nat) : Int)) ?_;refine A2 ?_;refine So 0 0 [⟨some gc, 73, _, 1, true⟩, _, _] [_] ?_;refine A12 ?_;refine Cd ?_ ?_<;>intro hb0
 ·have hn1 : 256 ≤ n := by have := of_decide_eq_true hb0; omega
  refine A7 ?_;refine at_end1 rfl (res_tmp rfl) (fun w hL => ⟨(), congrArg (fun z : Nat => Ending.returned (.int .i64 (z : Int))) (by unfold mnode; rw [if_pos hn1]), hL.pk [some 0]⟩)
 ·have hn1 : ¬ 256 ≤ n := by have := of_decide_eq_false hb0; omega
  refine A9 ?_;refine Cd ?_ ?_<;>intro hb1
  ·have hl1 : 32 < lv := by have := of_decide_eq_true hb1; omega
   refine A7 ?_;refine at_end1 rfl (res_tmp rfl) (fun w hL => ⟨(), congrArg (fun z : Nat => Ending.returned (.int .i64 (z : Int))) (by unfold mnode; rw [if_neg hn1, if_pos hl1]), hL.pk [some 0]⟩)
  ·have hl1 : ¬ 32 < lv := by have := of_decide_eq_false hb1; omega
   refine A3 ?_;refine at_regionM ?_;refine A2 ?_;refine r_know 26 (.int .i64 x.op) rfl (by rw [h1]) ?_;refine Gm 0 [] [] (fun _ => [_,_,_]) (c_law_of x.op) (fun _ => ?_);refine r_know 27 (.tuple #[.agg #[.int .i64 5, .int .i64 0, .int .i64 8, .string (strU [122, 111, 110, 101])], .bool true]) rfl (by rw [hop]; kernel_rfl) ?_;refine A3 ?_;refine r_alloc [_, _, _, _] 4 (fun g => [_, _, _, ⟨some g, 94, _, 4, true⟩]) rfl rfl z94 rfl rfl (fun _ => rfl) (fun g1 => ?_);refine So 3 0 [_, _, _, ⟨some g1, 94, _, 4, true⟩] [_, _, _, _] ?_;refine A19 ?_;refine r_know 34 (.int .i64 (x.args.length : Nat)) rfl (by rw [h5]) ?_;refine A4 ?_;refine Rs 38 ?_ ?_<;>intro hb2
   ·have hlen : ((x.args.length : Nat) : Int) ≠ cntL x.op := by rw [hcn]; have hh := hb2; simpa using hh
    refine A40 ?_;refine at_end1 rfl (res_tmp rfl) (fun w hL => ⟨(), congrArg (fun z : Nat => Ending.returned (.int .i64 (z : Int))) (by unfold mnode nodeE; rw [if_neg hn1, if_neg hl1, if_neg (by rw [hcn]; omega), if_pos (.inl hlen)]), hL.pk [some 0]⟩)
   ·have hlen : ((x.args.length : Nat) : Int) = cntL x.op := by rw [hcn]; have hh := hb2; simpa using hh
    have hl2 : x.args.length = 0 := (by rw [hcn] at hlen; omega);refine A2 ?_;refine r_know 40 (.string (strU x.name)) rfl (by rw [h2]) ?_;refine A1 ?_;refine r_know 41 (.bool (x.name != [])) rfl (by rw [show (strU x.name != ⟨#[]⟩) = (strU x.name != strU []) from rfl, bne, strU_beq]; rfl) ?_;refine A1 ?_;refine Rs 42 ?_ ?_<;>intro hb3
    ·have hnm : x.name ≠ [] := by simpa using hb3
     refine A2 ?_;refine r_know 44 (.int .i64 x.op) rfl (by rw [h1]) ?_;refine A1 ?_;refine r_know 45 (.bool true) rfl (by rw [hop]; rfl) ?_;refine A4 ?_;refine r_know 49 (.int .i64 x.op) rfl (by rw [h1]) ?_;refine A1 ?_;refine r_know 50 (.bool false) rfl (by rw [hop]; rfl) ?_;refine A4 ?_;refine Ld 2 2 [_,_,_,_] ti27 ?_;refine r_build [] rfl rfl rfl (bd27_0) ?_;refine r_neqAgg rfl rfl rfl rfl gd27 (eq27r _ _ _ _ _ _ _ _) ?_;refine r_know 57 (.bool (!x.num.isZ)) rfl (by rw [NumV.isZ_cells h3]) ?_;refine A1 ?_;refine Rs 58 ?_ ?_<;>intro hb4
     ·have hz : x.num.isZ = false := by simpa using hb4
      refine A2 ?_;refine r_know 60 (.int .i64 x.op) rfl (by rw [h1]) ?_;refine A1 ?_;refine r_know 61 (.bool true) rfl (by rw [hop]; rfl) ?_;refine A4 ?_;refine r_know 65 (.int .i64 x.op) rfl (by rw [h1]) ?_;refine A1 ?_;refine r_know 66 (.bool true) rfl (by rw [hop]; rfl) ?_;refine A12 ?_;refine at_end1 rfl (res_tmp rfl) (fun w hL => ⟨(), congrArg (fun z : Nat => Ending.returned (.int .i64 (z : Int))) (by unfold mnode nodeE; rw [if_neg hn1, if_neg hl1, if_neg (by rw [hcn]; omega), if_pos (.inr (.inl ⟨(by rw [hop]; decide), (by rw [hop]; decide), hz⟩))]), hL.pk [some 0]⟩)
     ·have hz : x.num.isZ = true := by simpa using hb4
      refine A20 ?_;refine r_know 70 (.int .i64 x.op) rfl (by rw [h1]) ?_;refine A1 ?_;refine r_know 71 (.bool false) rfl (by rw [hop]; rfl) ?_;refine A18 ?_;refine El (ι := Unit) (fun ⟨⟩ => ([(0, .pointer (some ⟨gc, 0, none⟩)), (4, .pointer (some ⟨g0, 0, none⟩)), (9, .int .i64 0)], [VK gc (n + 1), gB z.T false, XB g0 z], 0)) () ?_ (hL := Weak.auto);rintro ⟨⟩;(try dsimp only);refine A7 ?_;refine r_know 81 (.int .i64 (x.args.length : Nat)) rfl (by rw [h5]) ?_;refine A1 ?_;refine r_know 82 (.bool false) rfl (congrArg Value.bool (decide_eq_false (by omega))) ?_;refine A19 ?_;refine r_know 99 (.int .i64 x.op) rfl (by rw [h1]) ?_;refine A1 ?_;refine r_know 100 (.bool false) rfl (by rw [hop]; rfl) ?_;refine A15 ?_;refine r_know 109 (.int .i64 x.op) rfl (by rw [h1]) ?_;refine A1 ?_;refine r_know 110 (.bool false) rfl (by rw [hop]; rfl) ?_;refine A13 ?_;refine r_know 118 (.int .i64 x.op) rfl (by rw [h1]) ?_;refine A1 ?_;refine r_know 119 (.bool true) rfl (by rw [hop]; rfl) ?_;refine A3 ?_;refine r_know 122 (.string (strU x.name)) rfl (by rw [h2]) ?_;refine Pc (c_law_isZone x.name hfn) ?_;refine A5 ?_;refine Cd ?_ ?_<;>intro hb6
      ·have hZ : zoneL x.name = false := by simpa using hb6
       refine A8 ?_;refine at_end1 rfl (res_tmp rfl) (fun w hL => ⟨(), congrArg (fun z : Nat => Ending.returned (.int .i64 (z : Int))) (by unfold mnode nodeE; rw [if_neg hn1, if_neg hl1, if_neg (by rw [hcn]; omega), if_neg (fun h => by
  rcases h with h | ⟨ha, hb, h⟩ | ⟨ha, hb, h⟩
  · exact h hlen
  · rw [hz] at h; cases h
  · exact hb hop), if_neg (fun h => absurd h.1 (by rw [hop]; decide)), if_neg (fun h => absurd h.1 (by rw [hop]; decide)), if_neg (fun h => absurd h.1 (by rw [hop]; decide)), if_pos (.inr ⟨hop, hZ⟩)]), hL.pk [some 0]⟩)
      ·have hZ : zoneL x.name = true := by simpa using hb6
       refine A9 ?_;refine at_end1 rfl (res_tmp rfl) (fun w hL => ⟨(), congrArg (fun z : Nat => Ending.returned (.int .i64 (z : Int))) (by unfold mnode nodeE; rw [if_neg hn1, if_neg hl1, if_neg (by rw [hcn]; omega), if_neg (fun h => by
  rcases h with h | ⟨ha, hb, h⟩ | ⟨ha, hb, h⟩
  · exact h hlen
  · rw [hz] at h; cases h
  · exact hb hop), if_neg (fun h => absurd h.1 (by rw [hop]; decide)), if_neg (fun h => absurd h.1 (by rw [hop]; decide)), if_neg (fun h => absurd h.1 (by rw [hop]; decide)), if_neg (fun h => by
  rcases h with h | h
  · exact absurd h.1 (by rw [hop]; decide)
  · rw [hZ] at h; cases h.2)]), hL.pk [some 0]⟩)
    ·have hnm : x.name = [] := by simpa using hb3
     refine A12 ?_;refine Ld 2 2 [_,_,_,_] ti27 ?_;refine r_build [] rfl rfl rfl (bd27_0) ?_;refine r_neqAgg rfl rfl rfl rfl gd27 (eq27r _ _ _ _ _ _ _ _) ?_;refine r_know 57 (.bool (!x.num.isZ)) rfl (by rw [NumV.isZ_cells h3]) ?_;refine A1 ?_;refine Rs 58 ?_ ?_<;>intro hb4
     ·have hz : x.num.isZ = false := by simpa using hb4
      refine A2 ?_;refine r_know 60 (.int .i64 x.op) rfl (by rw [h1]) ?_;refine A1 ?_;refine r_know 61 (.bool true) rfl (by rw [hop]; rfl) ?_;refine A4 ?_;refine r_know 65 (.int .i64 x.op) rfl (by rw [h1]) ?_;refine A1 ?_;refine r_know 66 (.bool true) rfl (by rw [hop]; rfl) ?_;refine A12 ?_;refine at_end1 rfl (res_tmp rfl) (fun w hL => ⟨(), congrArg (fun z : Nat => Ending.returned (.int .i64 (z : Int))) (by unfold mnode nodeE; rw [if_neg hn1, if_neg hl1, if_neg (by rw [hcn]; omega), if_pos (.inr (.inl ⟨(by rw [hop]; decide), (by rw [hop]; decide), hz⟩))]), hL.pk [some 0]⟩)
     ·have hz : x.num.isZ = true := by simpa using hb4
      refine A20 ?_;refine r_know 70 (.int .i64 x.op) rfl (by rw [h1]) ?_;refine A1 ?_;refine r_know 71 (.bool false) rfl (by rw [hop]; rfl) ?_;refine A18 ?_;refine El (ι := Unit) (fun ⟨⟩ => ([(0, .pointer (some ⟨gc, 0, none⟩)), (4, .pointer (some ⟨g0, 0, none⟩)), (9, .int .i64 0)], [VK gc (n + 1), gB z.T false, XB g0 z], 0)) () ?_ (hL := Weak.auto);rintro ⟨⟩;(try dsimp only);refine A7 ?_;refine r_know 81 (.int .i64 (x.args.length : Nat)) rfl (by rw [h5]) ?_;refine A1 ?_;refine r_know 82 (.bool false) rfl (congrArg Value.bool (decide_eq_false (by omega))) ?_;refine A19 ?_;refine r_know 99 (.int .i64 x.op) rfl (by rw [h1]) ?_;refine A1 ?_;refine r_know 100 (.bool false) rfl (by rw [hop]; rfl) ?_;refine A15 ?_;refine r_know 109 (.int .i64 x.op) rfl (by rw [h1]) ?_;refine A1 ?_;refine r_know 110 (.bool false) rfl (by rw [hop]; rfl) ?_;refine A13 ?_;refine r_know 118 (.int .i64 x.op) rfl (by rw [h1]) ?_;refine A1 ?_;refine r_know 119 (.bool true) rfl (by rw [hop]; rfl) ?_;refine A3 ?_;refine r_know 122 (.string (strU x.name)) rfl (by rw [h2]) ?_;refine Pc (c_law_isZone x.name hfn) ?_;refine A5 ?_;refine Cd ?_ ?_<;>intro hb6
      ·have hZ : zoneL x.name = false := by simpa using hb6
       refine A8 ?_;refine at_end1 rfl (res_tmp rfl) (fun w hL => ⟨(), congrArg (fun z : Nat => Ending.returned (.int .i64 (z : Int))) (by unfold mnode nodeE; rw [if_neg hn1, if_neg hl1, if_neg (by rw [hcn]; omega), if_neg (fun h => by
  rcases h with h | ⟨ha, hb, h⟩ | ⟨ha, hb, h⟩
  · exact h hlen
  · rw [hz] at h; cases h
  · exact hb hop), if_neg (fun h => absurd h.1 (by rw [hop]; decide)), if_neg (fun h => absurd h.1 (by rw [hop]; decide)), if_neg (fun h => absurd h.1 (by rw [hop]; decide)), if_pos (.inr ⟨hop, hZ⟩)]), hL.pk [some 0]⟩)
      ·have hZ : zoneL x.name = true := by simpa using hb6
       refine A9 ?_;refine at_end1 rfl (res_tmp rfl) (fun w hL => ⟨(), congrArg (fun z : Nat => Ending.returned (.int .i64 (z : Int))) (by unfold mnode nodeE; rw [if_neg hn1, if_neg hl1, if_neg (by rw [hcn]; omega), if_neg (fun h => by
  rcases h with h | ⟨ha, hb, h⟩ | ⟨ha, hb, h⟩
  · exact h hlen
  · rw [hz] at h; cases h
  · exact hb hop), if_neg (fun h => absurd h.1 (by rw [hop]; decide)), if_neg (fun h => absurd h.1 (by rw [hop]; decide)), if_neg (fun h => absurd h.1 (by rw [hop]; decide)), if_neg (fun h => by
  rcases h with h | h
  · exact absurd h.1 (by rw [hop]; decide)
  · rw [hZ] at h; cases h.2)]), hL.pk [some 0]⟩)
set_option maxRecDepth 20000 in
theorem c_mnode_o {x : XT} (z : XR x) (hfn : x.name.length ≤ 1000000) (hfu : x.num.fit = true) (lv n gc : Nat) (hn : n ≤ 256) (hlv : lv ≤ 1000) (hop1 : x.op ≠ 1) (hop2 : x.op ≠ 2) (hop3 : x.op ≠ 3) (hop4 : x.op ≠ 4) (hop5 : x.op ≠ 5) : ECall Tryz.prog 90 [VK gc n, gB z.T false] [.pointer (some ⟨gc, 0, none⟩), z.v, .int .i64 (lv : Nat)] Unit (fun _ => .int .i64 (mnode x lv n : Nat)) (fun _ => [VK gc (n + 1)]) := by
 refine ⟨by kernel_rfl, fun B w hD hL0 => ?_⟩;obtain ⟨h1, h2, h3, h4, h5, h6⟩ := z.inv;have hs := NumV.fit_cells h3 hfu;refine cB3 126 Tryz.func90 hL0 ?_;refine A2 ?_;refine Bo [_, _, _, _, _, _, _] 7 (fun g => [_, _, ⟨some g, 30, _, 7, true⟩]) (fun g0 => ?_);refine A9 ?_;refine Ar (((n + 1 : Nat) : Int)) ?_;refine A2 ?_;refine So 0 0 [⟨some gc, 73, _, 1, true⟩, _, _] [_] ?_;refine A12 ?_;refine Cd ?_ ?_<;>intro hb0
 ·have hn1 : 256 ≤ n := by have := of_decide_eq_true hb0; omega
  refine A7 ?_;refine at_end1 rfl (res_tmp rfl) (fun w hL => ⟨(), congrArg (fun z : Nat => Ending.returned (.int .i64 (z : Int))) (by unfold mnode; rw [if_pos hn1]), hL.pk [some 0]⟩)
 ·have hn1 : ¬ 256 ≤ n := by have := of_decide_eq_false hb0; omega
  refine A9 ?_;refine Cd ?_ ?_<;>intro hb1
  ·have hl1 : 32 < lv := by have := of_decide_eq_true hb1; omega
   refine A7 ?_;refine at_end1 rfl (res_tmp rfl) (fun w hL => ⟨(), congrArg (fun z : Nat => Ending.returned (.int .i64 (z : Int))) (by unfold mnode; rw [if_neg hn1, if_pos hl1]), hL.pk [some 0]⟩)
  ·have hl1 : ¬ 32 < lv := by have := of_decide_eq_false hb1; omega
   refine A3 ?_;refine at_regionM ?_;refine A2 ?_;refine r_know 26 (.int .i64 x.op) rfl (by rw [h1]) ?_;rcases hmf : mfind x.op with _ | o
   ·have hcn := cnt_none hmf;refine Gm 0 [] [] (fun _ => [_,_,_]) (c_law_of x.op) (fun _ => ?_);refine r_know 27 (.tuple #[.agg #[.int .i64 0, .int .i64 0, .int .i64 0, .string ⟨#[]⟩], .bool false]) rfl (by unfold mofV; rw [hmf]) ?_;refine A3 ?_;refine r_alloc [_, _, _, _] 4 (fun g => [_, _, _, ⟨some g, 94, _, 4, true⟩]) rfl rfl z94 rfl rfl (fun _ => rfl) (fun g1 => ?_);refine So 3 0 [_, _, _, ⟨some g1, 94, _, 4, true⟩] [_, _, _, _] ?_;refine A18 ?_;refine at_end1 rfl (res_tmp rfl) (fun w hL => ⟨(), congrArg (fun z : Nat => Ending.returned (.int .i64 (z : Int))) (by unfold mnode nodeE; rw [if_neg hn1, if_neg hl1, if_pos (by rw [hcn]; decide)]), hL.pk [some 0]⟩)
   ·have hcn := cnt_some hmf;have hpos := cnt_pos hmf hop1 hop3 hop4 hop5;refine Gm 0 [] [] (fun _ => [_,_,_]) (c_law_of x.op) (fun _ => ?_);refine r_know 27 (.tuple #[.agg #[.int .i64 (o.1 : Nat), .int .i64 (o.2.1 : Nat), .int .i64 (o.2.2.1 : Nat), .string (strU o.2.2.2)], .bool true]) rfl (by unfold mofV; rw [hmf]; rfl) ?_;refine A3 ?_;refine r_alloc [_, _, _, _] 4 (fun g => [_, _, _, ⟨some g, 94, _, 4, true⟩]) rfl rfl z94 rfl rfl (fun _ => rfl) (fun g1 => ?_);refine So 3 0 [_, _, _, ⟨some g1, 94, _, 4, true⟩] [_, _, _, _] ?_;refine A19 ?_;refine r_know 34 (.int .i64 (x.args.length : Nat)) rfl (by rw [h5]) ?_;refine A4 ?_;refine Rs 38 ?_ ?_<;>intro hb3
    ·have hlen : ((x.args.length : Nat) : Int) ≠ cntL x.op := by rw [hcn]; have hh := hb3; simpa using hh
     refine A40 ?_;refine at_end1 rfl (res_tmp rfl) (fun w hL => ⟨(), congrArg (fun z : Nat => Ending.returned (.int .i64 (z : Int))) (by unfold mnode nodeE; rw [if_neg hn1, if_neg hl1, if_neg (by rw [hcn]; omega), if_pos (.inl hlen)]), hL.pk [some 0]⟩)
    ·have hlen : ((x.args.length : Nat) : Int) = cntL x.op := by rw [hcn]; have hh := hb3; simpa using hh
     have hl2 : 1 ≤ x.args.length := (by rw [hcn] at hlen; omega);refine A2 ?_;refine r_know 40 (.string (strU x.name)) rfl (by rw [h2]) ?_;refine A1 ?_;refine r_know 41 (.bool (x.name != [])) rfl (by rw [show (strU x.name != ⟨#[]⟩) = (strU x.name != strU []) from rfl, bne, strU_beq]; rfl) ?_;refine A1 ?_;refine Rs 42 ?_ ?_<;>intro hb4
     ·have hnm : x.name ≠ [] := by simpa using hb4
      refine A2 ?_;refine r_know 44 (.int .i64 x.op) rfl (by rw [h1]) ?_;refine A1 ?_;refine r_know 45 (.bool true) rfl (congrArg Value.bool (by simpa using hop4)) ?_;refine A4 ?_;refine r_know 49 (.int .i64 x.op) rfl (by rw [h1]) ?_;refine A1 ?_;refine r_know 50 (.bool true) rfl (congrArg Value.bool (by simpa using hop5)) ?_;refine A28 ?_;refine at_end1 rfl (res_tmp rfl) (fun w hL => ⟨(), congrArg (fun z : Nat => Ending.returned (.int .i64 (z : Int))) (by unfold mnode nodeE; rw [if_neg hn1, if_neg hl1, if_neg (by rw [hcn]; omega), if_pos (.inr (.inr ⟨hop4, hop5, hnm⟩))]), hL.pk [some 0]⟩)
     ·have hnm : x.name = [] := by simpa using hb4
      refine A12 ?_;refine Ld 2 2 [_,_,_,_] ti27 ?_;refine r_build [] rfl rfl rfl (bd27_0) ?_;refine r_neqAgg rfl rfl rfl rfl gd27 (eq27r _ _ _ _ _ _ _ _) ?_;refine r_know 57 (.bool (!x.num.isZ)) rfl (by rw [NumV.isZ_cells h3]) ?_;refine A1 ?_;refine Rs 58 ?_ ?_<;>intro hb5
      ·have hz : x.num.isZ = false := by simpa using hb5
       refine A2 ?_;refine r_know 60 (.int .i64 x.op) rfl (by rw [h1]) ?_;refine A1 ?_;refine r_know 61 (.bool true) rfl (congrArg Value.bool (by simpa using hop1)) ?_;refine A4 ?_;refine r_know 65 (.int .i64 x.op) rfl (by rw [h1]) ?_;refine A1 ?_;refine r_know 66 (.bool true) rfl (congrArg Value.bool (by simpa using hop3)) ?_;refine A12 ?_;refine at_end1 rfl (res_tmp rfl) (fun w hL => ⟨(), congrArg (fun z : Nat => Ending.returned (.int .i64 (z : Int))) (by unfold mnode nodeE; rw [if_neg hn1, if_neg hl1, if_neg (by rw [hcn]; omega), if_pos (.inr (.inl ⟨hop1, hop3, hz⟩))]), hL.pk [some 0]⟩)
      ·have hz : x.num.isZ = true := by simpa using hb5
       refine A20 ?_;refine r_know 70 (.int .i64 x.op) rfl (by rw [h1]) ?_;refine A1 ?_;refine r_know 71 (.bool false) rfl (congrArg Value.bool (by simpa using hop1)) ?_;refine A18 ?_;refine El (ι := Unit) (fun ⟨⟩ => ([(0, .pointer (some ⟨gc, 0, none⟩)), (4, .pointer (some ⟨g0, 0, none⟩)), (9, .int .i64 0)], [VK gc (n + 1), gB z.T false, XB g0 z], 0)) () ?_ (hL := Weak.auto);rintro ⟨⟩;(try dsimp only);refine A7 ?_;refine r_know 81 (.int .i64 (x.args.length : Nat)) rfl (by rw [h5]) ?_;refine A1 ?_;refine r_know 82 (.bool true) rfl (congrArg Value.bool (decide_eq_true (by omega))) ?_;refine A3 ?_;refine r_know 85 (.int .i64 x.op) rfl (by rw [h1]) ?_;refine A1 ?_;refine r_know 86 (.bool false) rfl (congrArg Value.bool (by simpa using hop2)) ?_;refine A15 ?_;refine r_know 99 (.int .i64 x.op) rfl (by rw [h1]) ?_;refine A1 ?_;refine r_know 100 (.bool false) rfl (congrArg Value.bool (by simpa using hop3)) ?_;refine A15 ?_;refine r_know 109 (.int .i64 x.op) rfl (by rw [h1]) ?_;refine A1 ?_;refine r_know 110 (.bool false) rfl (congrArg Value.bool (by simpa using hop4)) ?_;refine A13 ?_;refine r_know 118 (.int .i64 x.op) rfl (by rw [h1]) ?_;refine A1 ?_;refine r_know 119 (.bool false) rfl (congrArg Value.bool (by simpa using hop5)) ?_;refine A19 ?_;refine at_end1 rfl (res_tmp rfl) (fun w hL => ⟨(), congrArg (fun z : Nat => Ending.returned (.int .i64 (z : Int))) (by unfold mnode nodeE; rw [if_neg hn1, if_neg hl1, if_neg (by rw [hcn]; omega), if_neg (fun h => by
  rcases h with h | ⟨ha, hb, h⟩ | ⟨ha, hb, h⟩
  · exact h hlen
  · rw [hz] at h; cases h
  · exact h hnm), if_neg (fun h => absurd h.1 hop1), if_neg (fun h => absurd h.1 hop2), if_neg (fun h => absurd h.1 hop3), if_neg (fun h => by
  rcases h with h | h
  · exact absurd h.1 hop4
  · exact absurd h.1 hop5)]), hL.pk [some 0]⟩)
end Go.Proofs.YtfijbadahkmhbaaGreatDoor
namespace Go.Proofs.YtfijbadahkmhbaaGreatDoor
open Go Go.RowKit Go.Via
theorem c_mnode {x : XT} (z : XR x) (hfn : x.name.length ≤ 1000000) (hfu : x.num.fit = true) (lv n gc : Nat) (hn : n ≤ 256) (hlv : lv ≤ 1000) :
    ECall Tryz.prog 90 [VK gc n, gB z.T false] [.pointer (some ⟨gc, 0, none⟩), z.v, .int .i64 (lv : Nat)] Unit (fun _ => .int .i64 (mnode x lv n : Nat)) (fun _ => [VK gc (n + 1)]) := by
  by_cases h1 : x.op = 1
  · exact c_mnode_1 z hfn hfu lv n gc hn hlv h1
  by_cases h2 : x.op = 2
  · exact c_mnode_2 z hfn hfu lv n gc hn hlv h2
  by_cases h3 : x.op = 3
  · exact c_mnode_3 z hfn hfu lv n gc hn hlv h3
  by_cases h4 : x.op = 4
  · exact c_mnode_4 z hfn hfu lv n gc hn hlv h4
  by_cases h5 : x.op = 5
  · exact c_mnode_5 z hfn hfu lv n gc hn hlv h5
  exact c_mnode_o z hfn hfu lv n gc hn hlv h1 h2 h3 h4 h5
def MckC (y : XT) : Prop := ∀ (u : XR y), y.fit = true → ∀ lv n gc : Nat, n ≤ 256 → lv ≤ 1000 →
  ECall Tryz.prog 50 [VK gc n, gB u.T false] [.pointer (some ⟨gc, 0, none⟩), u.v, .int .i64 (lv : Nat)] Unit (fun _ => .int .i64 ((mch y lv n).1 : Nat)) (fun _ => [VK gc (mch y lv n).2])
end Go.Proofs.YtfijbadahkmhbaaGreatDoor
namespace Go.Via
open Go Go.RowKit
abbrev VI (gv : Nat) (n : Int) : Blk := ⟨some gv, 3, [.int .i64 n], 1, true⟩
end Go.Via
namespace Go.Proofs.YtfijbadahkmhbaaGreatDoor
open Go Go.RowKit Go.Via
def FewC (y : XT) : Prop := ∀ (u : XR y) (lv : Nat) (n : Int) (gv : Nat), (0 ≤ n ∧ n ≤ 1000000) → lv ≤ 1000000 → y.lim = true →
  ECall Tryz.prog 47 [VI gv n, gB u.T false] [u.v, .int .i64 (lv : Nat), .pointer (some ⟨gv, 0, none⟩)] Unit (fun _ => .bool (few y lv n).1) (fun _ => [VI gv (few y lv n).2])
def MszC (y : XT) : Prop := ∀ (u : XR y), y.size ≤ 1000000000 → ECall Tryz.prog 21 [gB u.T false] [u.v] Unit (fun _ => .int .i64 (y.size : Nat)) (fun _ => [])
def MdpC (y : XT) : Prop := ∀ (u : XR y), y.size ≤ 1000000000 → ECall Tryz.prog 23 [gB u.T false] [u.v] Unit (fun _ => .int .i64 (y.dep : Nat)) (fun _ => [])
theorem byS {p : XT → Prop} (h : ∀ x : XT, (∀ y : XT, y.size < x.size → p y) → p x) (x : XT) : p x := by
  suffices k : ∀ n : Nat, ∀ x : XT, x.size < n → p x from k _ x (Nat.lt_succ_self _)
  intro n
  induction n with
  | zero => intro x hx; omega
  | succ n ih => exact fun x hx => h x fun y hy => ih y (by omega)
end Go.Proofs.YtfijbadahkmhbaaGreatDoor
set_option maxHeartbeats 20000000
namespace Go.Proofs.YtfijbadahkmhbaaGreatDoor
open Go Go.RowKit Go.Via
set_option maxRecDepth 20000 in
theorem c_mexpr_step {x : XT} (z : XR x) (hf : x.fit = true) (H : ∀ y : XT, y.size < x.size → MckC y) (lv n gc : Nat) (hn : n ≤ 256) (hlv : lv ≤ 1000) : ECall Tryz.prog 50 [VK gc n, gB z.T false] [.pointer (some ⟨gc, 0, none⟩), z.v, .int .i64 (lv : Nat)] Unit (fun _ => .int .i64 ((mch x lv n).1 : Nat)) (fun _ => [VK gc (mch x lv n).2]) := by
 refine ⟨by kernel_rfl, fun B w hD hL0 => ?_⟩;obtain ⟨h1, h2, h3, h4, h5, h6⟩ := z.inv;have hfp := XT.fit_parts hf;refine cB3 34 Tryz.func50 hL0 ?_;refine A2 ?_;refine Bo [_, _, _, _, _, _, _] 7 (fun g => [_, _, ⟨some g, 30, _, 7, true⟩]) (fun g0 => ?_);refine A4 ?_;refine at_regionM ?_;refine A1 ?_;refine Ld 2 0 [_,_,_,_,_,_,_] ti30 ?_;refine Kr 10 (z.v) ?_;refine A1 ?_;refine Gm 1 [0] [1] (fun _ => [VK gc (n + 1), _, _]) (c_mnode z hfp.1 hfp.2.1 lv n gc hn hlv) (fun _ => ?_);refine A10 ?_;refine El (ι := {q : Nat × Nat × Nat // q.1 ≤ x.args.length ∧ (q.2.2 ≠ 0 → mch x lv n = (q.2.2, q.2.1)) ∧ (q.2.2 = 0 → q.2.1 ≤ 256 ∧ lv ≤ 32 ∧ x.args.length ≤ 3 ∧ mch x lv n = mchs (x.args.drop q.1) (lv + 1) q.2.1)}) (fun ⟨⟨i, m, e⟩, hi, hI1, hI2⟩ => ([(0, .pointer (some ⟨gc, 0, none⟩)), (2, .int .i64 (lv : Nat)), (4, .pointer (some ⟨g0, 0, none⟩)), (7, .int .i64 (e : Nat)), (8, .int .i64 (i : Nat))], [VK gc m, gB z.T false, XB g0 z], x.args.length - i)) ⟨(0, n + 1, mnode x lv n), Nat.zero_le _, fun h => by rw [mch_eq, if_pos h], fun h => ⟨by have := mnode_0 h; show n + 1 ≤ 256; omega, (mnode_0 h).2.1, nodeE_len (mnode_0 h).2.2, by have h : mnode x lv n = 0 := h; rw [mch_eq, if_neg (by rw [h]; simp), List.drop_zero]⟩⟩ ?_ (hL := Weak.auto);rintro ⟨⟨i, m, e⟩, hi, hI1, hI2⟩;(try dsimp only);dsimp only at hi hI1 hI2;refine A7 ?_;refine r_know 16 (.int .i64 (x.args.length : Nat)) rfl (by rw [h5]) ?_;refine A2 ?_;refine Rs 18 ?_ ?_<;>intro hb1
 ·have hlt : i < x.args.length := by have := of_decide_eq_true hb1; omega
  obtain ⟨y, hy⟩ : ∃ y, x.args[i]? = some y := ⟨x.args[i], List.getElem?_eq_getElem hlt⟩;obtain ⟨ga, oa, ca, u, hza, hma, hra, hTa, hna⟩ := z.arg hy;have hfy : y.fit = true := XT.fits_get hfp.2.2 hy;refine A5 ?_;refine Cd ?_ ?_<;>intro hb2
  ·have he : e = 0 := by have hh := hb2; simpa using hh
   obtain ⟨hm, hl32, hal, hE⟩ := hI2 he;refine A4 ?_;refine at_regionM ?_;refine A4 ?_;refine r_indexAddrG (gg := ga) (len := z.n) (cap := z.cap) (oa + i * 7) u28 ti30 rfl rfl (congrArg (fun a => some (Value.slice a z.n z.cap)) hza) rfl (by omega) (by omega) (by show oa + Int.toNat _ * 7 = _; omega) ?_;refine r_loadT (v := u.v) 1 (oa + i * 7) u.cs rfl rfl rfl z.hT hma hna rfl ti30 hra rfl rfl rfl ?_;refine A1 ?_;refine Ar (((lv + 1 : Nat) : Int)) ?_;refine Gm 1 [0] [1] (fun _ => [VK gc (mch y (lv + 1) m).2, _, _]) (by have h := H y (XT.arg_lt hy) u hfy (lv + 1) m gc hm (by omega); rw [hTa] at h; exact h) (fun _ => ?_);refine A6 ?_;refine Ar (((i + 1 : Nat) : Int)) ?_;refine A3 ?_;exact Nl ⟨(i + 1, (mch y (lv + 1) m).2, (mch y (lv + 1) m).1), hlt, fun h => by rw [hE, mchs_step hy, if_pos h], fun h => ⟨mch_le0 y (lv + 1) m hm h, hl32, hal, by have h : (mch y (lv + 1) m).1 = 0 := h; rw [hE, mchs_step hy, if_neg (by omega)]⟩⟩ (hL := Weak.auto)
  ·have he : e ≠ 0 := by have hh := hb2; simpa using hh
   refine A12 ?_;refine at_end1 rfl (res_tmp rfl) (fun w hL => by
  have ee : mch x lv n = (e, m) := hI1 he;rw [ee];exact ⟨(), rfl, hL.pk [some 0]⟩)
 ·have hge : i = x.args.length := by have := of_decide_eq_false hb1; omega
  refine A18 ?_;refine at_end1 rfl (res_tmp rfl) (fun w hL => by
  have ee : mch x lv n = (e, m) := by
   by_cases h0 : e = 0
   · obtain ⟨hm, hl32, hal, hE⟩ := hI2 h0;rw [hE, hge, List.drop_length, mchs, h0]
   · exact hI1 h0
  rw [ee];exact ⟨(), rfl, hL.pk [some 0]⟩)
end Go.Proofs.YtfijbadahkmhbaaGreatDoor
namespace Go.Proofs.YtfijbadahkmhbaaGreatDoor
open Go Go.RowKit Go.Via
theorem c_mexpr (x : XT) (u : XR x) (hf : x.fit = true) (lv n gc : Nat) (hn : n ≤ 256) (hl : lv ≤ 1000) :
    ECall Tryz.prog 50 [VK gc n, gB u.T false] [.pointer (some ⟨gc, 0, none⟩), u.v, .int .i64 (lv : Nat)] Unit (fun _ => .int .i64 ((mch x lv n).1 : Nat)) (fun _ => [VK gc (mch x lv n).2]) :=
  byS (p := MckC) (fun x H u hf lv n gc hn hl => c_mexpr_step u hf H lv n gc hn hl) x u hf lv n gc hn hl
end Go.Proofs.YtfijbadahkmhbaaGreatDoor
set_option maxHeartbeats 20000000
namespace Go.Proofs.YtfijbadahkmhbaaGreatDoor
open Go Go.RowKit Go.Via
set_option maxRecDepth 20000 in
theorem c_mcheckExpr {x : XT} (z : XR x) (hf : x.fit = true) : ECall Tryz.prog 19 [gB z.T false] [z.v] Unit (fun _ => .int .i64 (chkE x : Nat)) (fun _ => []) := by
 refine ⟨by kernel_rfl, fun B w hD hL0 => ?_⟩;refine cB1 9 Tryz.func19 hL0 ?_;refine A2 ?_;refine Bo [_, _, _, _, _, _, _] 7 (fun g => [_, ⟨some g, 30, _, 7, true⟩]) (fun g0 => ?_);refine A5 ?_;refine r_build [] rfl rfl rfl (bd73_0) ?_;refine Bo [_] 1 (fun g => [_, _, ⟨some g, 73, _, 1, true⟩]) (fun g1 => ?_);refine A4 ?_;refine at_regionM ?_;refine A1 ?_;refine Ld 1 0 [_,_,_,_,_,_,_] ti30 ?_;refine Kr 7 (z.v) ?_;refine Gm 1 [2] [0] (fun _ => [_, _, VK g1 (mch x 1 0).2]) (c_mexpr x z hf 1 0 g1 (by decide) (by decide)) (fun _ => ?_);refine A4 ?_;refine at_end1 rfl (res_tmp rfl) (fun w hL => ⟨(), congrArg (fun z : Nat => Ending.returned (.int .i64 (z : Int))) (mch_chk x 1 0).1, hL.pk []⟩)
end Go.Proofs.YtfijbadahkmhbaaGreatDoor
set_option maxHeartbeats 20000000
namespace Go.Proofs.YtfijbadahkmhbaaGreatDoor
open Go Go.RowKit Go.Via
set_option maxRecDepth 20000 in
theorem c_few_step {x : XT} (z : XR x) (H : ∀ y : XT, y.size < x.size → FewC y) (lv : Nat) (n : Int) (gv : Nat) (hn : 0 ≤ n ∧ n ≤ 1000000) (hlv : lv ≤ 1000000) (hw : x.lim = true) : ECall Tryz.prog 47 [VI gv n, gB z.T false] [z.v, .int .i64 (lv : Nat), .pointer (some ⟨gv, 0, none⟩)] Unit (fun _ => .bool (few x lv n).1) (fun _ => [VI gv (few x lv n).2]) := by
 refine ⟨by kernel_rfl, fun B w hD hL0 => ?_⟩;obtain ⟨h1, h2, h3, h4, h5, h6⟩ := z.inv;have hbc := NumV.bytes_cells h3;have hwx := XT.lim_parts hw;refine cB3 65 Tryz.func47 hL0 ?_;refine A2 ?_;refine Bo [_, _, _, _, _, _, _] 7 (fun g => [_, _, ⟨some g, 30, _, 7, true⟩]) (fun g0 => ?_);refine A9 ?_;refine Ar ((n - 1)) ?_;refine A1 ?_;refine So 0 0 [⟨some gv, 3, _, 1, true⟩, _, _] [_] ?_;refine A10 ?_;refine Rs 18 ?_ ?_<;>intro hb0
 ·have q0 : n - 1 < 0 := by have hh := of_decide_eq_true hb0; omega
  have hbig : bigX x lv (n - 1) = true := (by unfold bigX; rw [decide_eq_true q0]; rfl);refine A39 ?_;refine at_end1 rfl (res_tmp rfl) (fun w hL => by
  have e : few x lv n = (false, n - 1) := (by rw [few_eq, if_pos hbig]);rw [e];exact ⟨(), rfl, hL.pk [some 0]⟩)
 ·have q0 : ¬ n - 1 < 0 := by have hh := of_decide_eq_false hb0; omega
  refine A4 ?_;refine Rs 22 ?_ ?_<;>intro hb1
  ·have q1 : 40 < lv := by have hh := of_decide_eq_true hb1; omega
   have hbig : bigX x lv (n - 1) = true := (by unfold bigX; rw [decide_eq_false q0, decide_eq_true q1]; rfl);refine A35 ?_;refine at_end1 rfl (res_tmp rfl) (fun w hL => by
  have e : few x lv n = (false, n - 1) := (by rw [few_eq, if_pos hbig]);rw [e];exact ⟨(), rfl, hL.pk [some 0]⟩)
  ·have q1 : ¬ 40 < lv := by have hh := of_decide_eq_false hb1; omega
   refine A3 ?_;refine r_know 25 (.int .i64 (x.args.length : Nat)) rfl (by rw [h5]) ?_;refine A3 ?_;refine Rs 28 ?_ ?_<;>intro hb2
   ·have q2 : 4 < x.args.length := by have hh := of_decide_eq_true hb2; omega
    have hbig : bigX x lv (n - 1) = true := (by unfold bigX; rw [decide_eq_false q0, decide_eq_false q1, decide_eq_true q2]; rfl);refine A29 ?_;refine at_end1 rfl (res_tmp rfl) (fun w hL => by
  have e : few x lv n = (false, n - 1) := (by rw [few_eq, if_pos hbig]);rw [e];exact ⟨(), rfl, hL.pk [some 0]⟩)
   ·have q2 : ¬ 4 < x.args.length := by have hh := of_decide_eq_false hb2; omega
    refine A3 ?_;refine r_know 31 (.int .i64 (x.name.length : Nat)) rfl (by rw [h2, strU_size]) ?_;refine A3 ?_;refine Rs 34 ?_ ?_<;>intro hb3
    ·have q3 : 60 < x.name.length := by have hh := of_decide_eq_true hb3; omega
     have hbig : bigX x lv (n - 1) = true := (by unfold bigX; rw [decide_eq_false q0, decide_eq_false q1, decide_eq_false q2, decide_eq_true q3]; rfl);refine A23 ?_;refine at_end1 rfl (res_tmp rfl) (fun w hL => by
  have e : few x lv n = (false, n - 1) := (by rw [few_eq, if_pos hbig]);rw [e];exact ⟨(), rfl, hL.pk [some 0]⟩)
    ·have q3 : ¬ 60 < x.name.length := by have hh := of_decide_eq_false hb3; omega
     refine A5 ?_;refine Kr 39 (.int .i64 (z.s1.size : Nat)) ?_;refine A5 ?_;refine Kr 44 (.int .i64 (z.s2.size : Nat)) ?_;refine Ar (((x.num.bytes : Nat) : Int)) ?_;refine A4 ?_;refine Cd ?_ ?_<;>intro hb4
     ·have q4 : 20 < x.num.bytes := by have hh := of_decide_eq_true hb4; omega
      have hbig : bigX x lv (n - 1) = true := (by unfold bigX; rw [decide_eq_false q0, decide_eq_false q1, decide_eq_false q2, decide_eq_false q3, decide_eq_true q4]; rfl);refine A7 ?_;refine at_end1 rfl (res_tmp rfl) (fun w hL => by
  have e : few x lv n = (false, n - 1) := (by rw [few_eq, if_pos hbig]);rw [e];exact ⟨(), rfl, hL.pk [some 0]⟩)
     ·have q4 : ¬ 20 < x.num.bytes := by have hh := of_decide_eq_false hb4; omega
      have hbig : ¬ bigX x lv (n - 1) = true := (by unfold bigX; rw [decide_eq_false q0, decide_eq_false q1, decide_eq_false q2, decide_eq_false q3, decide_eq_false q4]; decide);refine A9 ?_;refine El (ι := {q : Nat × Int // q.1 ≤ x.args.length ∧ fews x.args (lv + 1) (n - 1) = fews (x.args.drop q.1) (lv + 1) q.2 ∧ 0 ≤ q.2 ∧ q.2 ≤ n}) (fun ⟨⟨i, m⟩, hi, hI, hm0, hmn⟩ => ([(1, .int .i64 (lv : Nat)), (2, .pointer (some ⟨gv, 0, none⟩)), (3, .pointer (some ⟨g0, 0, none⟩)), (7, .int .i64 (i : Nat))], [VI gv m, gB z.T false, XB g0 z], x.args.length - i)) ⟨(0, n - 1), Nat.zero_le _, by rw [List.drop_zero], by omega, by omega⟩ ?_ (hL := Weak.auto);rintro ⟨⟨i, m⟩, hi, hI, hm0, hmn⟩;(try dsimp only);dsimp only at hi hI hm0 hmn;refine A7 ?_;refine r_know 51 (.int .i64 (x.args.length : Nat)) rfl (by rw [h5]) ?_;refine A3 ?_;refine Cd ?_ ?_<;>intro hb6
      ·have hlt : i < x.args.length := by have := of_decide_eq_true hb6; omega
       obtain ⟨y, hy⟩ : ∃ y, x.args[i]? = some y := ⟨x.args[i], List.getElem?_eq_getElem hlt⟩;obtain ⟨ga, oa, ca, u, hza, hma, hra, hTa, hna⟩ := z.arg hy;refine A5 ?_;refine at_regionM ?_;refine A3 ?_;refine r_indexAddrG (gg := ga) (len := z.n) (cap := z.cap) (oa + i * 7) u28 ti30 rfl rfl (congrArg (fun a => some (Value.slice a z.n z.cap)) hza) rfl (by omega) (by omega) (by show oa + Int.toNat _ * 7 = _; omega) ?_;refine r_loadT (v := u.v) 1 (oa + i * 7) u.cs rfl rfl rfl z.hT hma hna rfl ti30 hra rfl rfl rfl ?_;refine A1 ?_;refine Ar (((lv + 1 : Nat) : Int)) ?_;refine A1 ?_;refine Gm 1 [0] [1] (fun _ => [VI gv (few y (lv + 1) m).2, _, _]) (by have h := H y (XT.arg_lt hy) u (lv + 1) m gv ⟨hm0, by omega⟩ (by omega) (XT.lims_get hwx.2.2 hy); rw [hTa] at h; exact h) (fun _ => ?_);refine A3 ?_;refine Cd ?_ ?_<;>intro hb7
       ·have hey : (few y (lv + 1) m).1 = false := by simpa using hb7
        refine A11 ?_;refine at_end1 rfl (res_tmp rfl) (fun w hL => by
  have e : few x lv n = few y (lv + 1) m := (by rw [few_eq, if_neg hbig, hI, fews_step hy, if_neg (by rw [hey]; decide)]);rw [e];exact ⟨(), by rw [hey], hL.pk [some 0]⟩)
       ·have hey : (few y (lv + 1) m).1 = true := by simpa using hb7
        refine A5 ?_;refine Ar (((i + 1 : Nat) : Int)) ?_;refine A3 ?_;exact Nl ⟨(i + 1, (few y (lv + 1) m).2), hlt, by rw [hI, fews_step hy, if_pos hey], (few_ok _ _ _ hey).2.2.1, Int.le_trans (few_le _ _ _ hey) hmn⟩ (hL := Weak.auto)
      ·have hge : i = x.args.length := by have := of_decide_eq_false hb6; omega
       refine A11 ?_;refine at_end1 rfl (res_tmp rfl) (fun w hL => by
  have e : few x lv n = (true, m) := (by rw [few_eq, if_neg hbig, hI, hge, List.drop_length, fews]);rw [e];exact ⟨(), rfl, hL.pk [some 0]⟩)
set_option maxRecDepth 20000 in
theorem c_msize_step {x : XT} (z : XR x) (H : ∀ y : XT, y.size < x.size → MszC y) (hM : x.size ≤ 1000000000) : ECall Tryz.prog 21 [gB z.T false] [z.v] Unit (fun _ => .int .i64 (x.size : Nat)) (fun _ => []) := by
 refine ⟨by kernel_rfl, fun B w hD hL0 => ?_⟩;obtain ⟨h1, h2, h3, h4, h5, h6⟩ := z.inv;refine cB1 21 Tryz.func21 hL0 ?_;refine A2 ?_;refine Bo [_, _, _, _, _, _, _] 7 (fun g => [_, ⟨some g, 30, _, 7, true⟩]) (fun g0 => ?_);refine A15 ?_;refine El (ι := {i : Nat // i ≤ x.args.length}) (fun ⟨i, hi⟩ => ([(1, .pointer (some ⟨g0, 0, none⟩)), (3, .int .i64 (1 + XT.sizes (x.args.take i) : Nat)), (4, .int .i64 (i : Nat))], [gB z.T false, XB g0 z], x.args.length - i)) ⟨0, Nat.zero_le _⟩ ?_ (hL := Weak.auto);rintro ⟨i, hi⟩;(try dsimp only);refine A7 ?_;refine r_know 8 (.int .i64 (x.args.length : Nat)) rfl (by rw [h5]) ?_;refine A3 ?_;refine Cd ?_ ?_<;>intro hb1
 ·have hlt : i < x.args.length := by have := of_decide_eq_true hb1; omega
  obtain ⟨y, hy⟩ : ∃ y, x.args[i]? = some y := ⟨x.args[i], List.getElem?_eq_getElem hlt⟩;obtain ⟨ga, oa, ca, u, hza, hma, hra, hTa, hna⟩ := z.arg hy;have hsz := XT.size_eq x;have hst := XT.sizes_take_le x.args (i + 1);have hdt := XT.deps_take_le x.args (i + 1);rw [XT.sizes_take hy] at hst;rw [XT.deps_take hy] at hdt;have hds := deps_le_sizes x.args;have hal := XT.len_sizes x.args;refine A4 ?_;refine at_regionM ?_;refine A4 ?_;refine r_indexAddrG (gg := ga) (len := z.n) (cap := z.cap) (oa + i * 7) u28 ti30 rfl rfl (congrArg (fun a => some (Value.slice a z.n z.cap)) hza) rfl (by omega) (by omega) (by show oa + Int.toNat _ * 7 = _; omega) ?_;refine r_loadT (v := u.v) 0 (oa + i * 7) u.cs rfl rfl rfl z.hT hma hna rfl ti30 hra rfl rfl rfl ?_;refine Gm 0 [] [0] (fun _ => [_,_]) (by have h := H y (XT.arg_lt hy) u (by have := XT.sizes_get hy; have := XT.size_eq x; omega); rw [hTa] at h; exact h) (fun _ => ?_);refine r_arith (r := ((1 + XT.sizes (x.args.take (i + 1)) : Nat) : Int)) rfl rfl rfl rfl (congrArg some (by rw [XT.sizes_take hy]; exact wi (by omega) (by omega) (by omega))) ?_;refine A6 ?_;refine Ar (((i + 1 : Nat) : Int)) ?_;refine A3 ?_;exact Nl ⟨i + 1, hlt⟩ (hL := Weak.auto)
 ·have hge : i = x.args.length := by have := of_decide_eq_false hb1; omega
  have hall : x.args.take i = x.args := (by rw [hge]; exact List.take_of_length_le (Nat.le_refl _));refine A12 ?_;refine at_end1 rfl (res_tmp rfl) (fun w hL => ⟨(), by rw [hall, XT.size_eq x], hL.pk []⟩)
set_option maxRecDepth 20000 in
theorem c_mdepth_step {x : XT} (z : XR x) (H : ∀ y : XT, y.size < x.size → MdpC y) (hM : x.size ≤ 1000000000) : ECall Tryz.prog 23 [gB z.T false] [z.v] Unit (fun _ => .int .i64 (x.dep : Nat)) (fun _ => []) := by
 refine ⟨by kernel_rfl, fun B w hD hL0 => ?_⟩;obtain ⟨h1, h2, h3, h4, h5, h6⟩ := z.inv;refine cB1 22 Tryz.func23 hL0 ?_;refine A2 ?_;refine Bo [_, _, _, _, _, _, _] 7 (fun g => [_, ⟨some g, 30, _, 7, true⟩]) (fun g0 => ?_);refine A15 ?_;refine El (ι := {i : Nat // i ≤ x.args.length}) (fun ⟨i, hi⟩ => ([(1, .pointer (some ⟨g0, 0, none⟩)), (3, .int .i64 (XT.deps (x.args.take i) : Nat)), (4, .int .i64 (i : Nat))], [gB z.T false, XB g0 z], x.args.length - i)) ⟨0, Nat.zero_le _⟩ ?_ (hL := Weak.auto);rintro ⟨i, hi⟩;(try dsimp only);refine A7 ?_;refine r_know 8 (.int .i64 (x.args.length : Nat)) rfl (by rw [h5]) ?_;refine A3 ?_;refine Cd ?_ ?_<;>intro hb1
 ·have hlt : i < x.args.length := by have := of_decide_eq_true hb1; omega
  obtain ⟨y, hy⟩ : ∃ y, x.args[i]? = some y := ⟨x.args[i], List.getElem?_eq_getElem hlt⟩;obtain ⟨ga, oa, ca, u, hza, hma, hra, hTa, hna⟩ := z.arg hy;have hsz := XT.size_eq x;have hst := XT.sizes_take_le x.args (i + 1);have hdt := XT.deps_take_le x.args (i + 1);rw [XT.sizes_take hy] at hst;rw [XT.deps_take hy] at hdt;have hds := deps_le_sizes x.args;have hal := XT.len_sizes x.args;refine A4 ?_;refine at_regionM ?_;refine A4 ?_;refine r_indexAddrG (gg := ga) (len := z.n) (cap := z.cap) (oa + i * 7) u28 ti30 rfl rfl (congrArg (fun a => some (Value.slice a z.n z.cap)) hza) rfl (by omega) (by omega) (by show oa + Int.toNat _ * 7 = _; omega) ?_;refine r_loadT (v := u.v) 0 (oa + i * 7) u.cs rfl rfl rfl z.hT hma hna rfl ti30 hra rfl rfl rfl ?_;refine Gm 0 [] [0] (fun _ => [_,_]) (by have h := H y (XT.arg_lt hy) u (by have := XT.sizes_get hy; have := XT.size_eq x; omega); rw [hTa] at h; exact h) (fun _ => ?_);refine r_maxI rfl rfl rfl rfl ?_;refine r_know 19 (.int .i64 (XT.deps (x.args.take (i + 1)) : Nat)) rfl (by rw [XT.deps_take hy]; congr 1; omega) ?_;refine A6 ?_;refine Ar (((i + 1 : Nat) : Int)) ?_;refine A3 ?_;exact Nl ⟨i + 1, hlt⟩ (hL := Weak.auto)
 ·have hge : i = x.args.length := by have := of_decide_eq_false hb1; omega
  have hall : x.args.take i = x.args := (by rw [hge]; exact List.take_of_length_le (Nat.le_refl _));refine A8 ?_;refine r_arith (r := ((XT.deps (x.args.take i) + 1 : Nat) : Int)) rfl rfl rfl rfl (congrArg some (by have hds := deps_le_sizes (x.args.take i); have hst := XT.sizes_take_le x.args i; have hsz := XT.size_eq x; exact wi (by omega) (by omega) (by omega))) ?_;refine A4 ?_;refine at_end1 rfl (res_tmp rfl) (fun w hL => ⟨(), by rw [hall, XT.dep_eq x, Nat.add_comm], hL.pk []⟩)
end Go.Proofs.YtfijbadahkmhbaaGreatDoor
namespace Go.Proofs.YtfijbadahkmhbaaGreatDoor
open Go Go.RowKit Go.Via
theorem c_few (x : XT) : FewC x := byS (fun x H u lv n gv hn hl hw => c_few_step u H lv n gv hn hl hw) x
theorem c_msize (x : XT) : MszC x := byS (fun x H u hM => c_msize_step u H hM) x
theorem c_mdepth (x : XT) : MdpC x := byS (fun x H u hM => c_mdepth_step u H hM) x
end Go.Proofs.YtfijbadahkmhbaaGreatDoor
set_option maxHeartbeats 20000000
namespace Go.Proofs.YtfijbadahkmhbaaGreatDoor
open Go Go.RowKit Go.Via
set_option maxRecDepth 20000 in
theorem c_small {x : XT} (z : XR x) (hw : x.lim = true) : ECall Tryz.prog 17 [gB z.T false] [z.v] Unit (fun _ => .bool (few x 1 300).1) (fun _ => []) := by
 refine ⟨by kernel_rfl, fun B w hD hL0 => ?_⟩;refine cB1 6 Tryz.func17 hL0 ?_;refine A2 ?_;refine Bo [_, _, _, _, _, _, _] 7 (fun g => [_, ⟨some g, 30, _, 7, true⟩]) (fun g0 => ?_);refine A5 ?_;refine r_alloc [_] 1 (fun g => [_, _, ⟨some g, 3, _, 1, true⟩]) rfl rfl z3 rfl rfl (fun _ => rfl) (fun g1 => ?_);refine So 2 0 [_, _, ⟨some g1, 3, _, 1, true⟩] [_] ?_;refine A3 ?_;refine at_regionM ?_;refine Ld 1 0 [_,_,_,_,_,_,_] ti30 ?_;refine Kr 4 (z.v) ?_;refine Gm 1 [2] [0] (fun _ => [_, _, VI g1 (few x 1 300).2]) (c_few x z 1 300 g1 (by decide) (by decide) hw) (fun _ => ?_);refine A4 ?_;refine E1 fun w hL => ⟨(), rfl, hL.pk []⟩
end Go.Proofs.YtfijbadahkmhbaaGreatDoor
namespace Go.Via
open Go Go.RowKit
instance srw_ne (l : List Bs8) : Nonempty (SRw l) := ⟨⟨none, l.length, l.length, Nat.le_refl _, Nat.le_refl _⟩⟩
end Go.Via
namespace Go.Proofs.YtfijbadahkmhbaaGreatDoor
open Go Go.RowKit Go.Via
theorem c_mvars (x : XT) (u : XR x) (hM : x.size ≤ 1000000) : ECall Tryz.prog 26 [gB u.T false] [u.v] (SRw (mvars x)) (fun s => slv s.b 0 (mvars x).length s.cap) (fun s => [VR s]) :=
  byS (p := MvaC) (fun x H u hM => c_mvars_step u H hM) x u hM
end Go.Proofs.YtfijbadahkmhbaaGreatDoor
set_option maxHeartbeats 20000000
namespace Go.Proofs.YtfijbadahkmhbaaGreatDoor
open Go Go.RowKit Go.Via
set_option maxRecDepth 20000 in
theorem c_SyntaxChecks (m : Int) {x : XT} (z : XR x) (hw : x.lim = true) : ECall Tryz.prog 4 [GM m, gB z.T false] [z.v] Unit (fun _ => .bool true) (fun _ => []) := by
 refine ⟨by kernel_rfl, fun B w hD hL0 => ?_⟩;refine cB1 37 Tryz.func4 hL0 ?_;refine A2 ?_;refine Bo [_, _, _, _, _, _, _] 7 (fun g => [_, _, ⟨some g, 30, _, 7, true⟩]) (fun g0 => ?_);refine A5 ?_;refine at_regionM ?_;refine Gm 0 [] [0] (fun _ => [_,_,_]) (c_known m) (fun _ => ?_);refine A1 ?_;refine Kr 4 (.bool false) ?_;refine A1 ?_;refine Ld 2 0 [_,_,_,_,_,_,_] ti30 ?_;refine Kr 6 (z.v) ?_;refine Gm 0 [] [1] (fun _ => [_,_,_]) (c_small z hw) (fun _ => ?_);refine A4 ?_;refine Cd ?_ ?_<;>intro hb0
 ·refine A1 ?_;refine at_regionM ?_;refine Gm 0 [] [0] (fun _ => [_,_,_]) (c_known m) (fun _ => ?_);refine A5 ?_;refine E1 fun w hL => ⟨(), rfl, hL.pk []⟩
 ·have hs : (few x 1 300).1 = true := by simpa using hb0
  have hk := few_ok x 1 300 hs;have hf : x.fit = true := hk.1;have hsz : x.size ≤ 300 := (by have := hk.2.1; have := hk.2.2.1; omega);have hvl : (varsU x).length ≤ 1000000000 := (by rw [← mvars_U]; have := mvars_len x; omega);refine A3 ?_;refine at_drawn (l' := [⟨_,_,_,_,_,_⟩, ⟨_,_,_,_,_,_⟩, ⟨_,_,_,_,_,_⟩, ⟨_,_,_,_,_,_⟩, ⟨_,_,_,_,_,_⟩, ⟨_,_,_,_,_,_⟩, ⟨_,_,_,_,_,_⟩, ⟨_,_,_,_,_,_⟩, ⟨_,_,_,_,_,_⟩, ⟨_,_,_,_,_,_⟩, ⟨_,_,_,_,_,_⟩, ⟨_,_,_,_,_,_⟩, ⟨_,_,_,_,_,_⟩, ⟨_,_,_,_,_,_⟩, ⟨_,_,_,_,_,_⟩, ⟨_,_,_,_,_,_⟩, ⟨_,_,_,_,_,_⟩, ⟨_,_,_,_,_,_⟩, ⟨_,_,_,_,_,_⟩, ⟨_,_,_,_,_,_⟩, ⟨_,_,_,_,_,_⟩, ⟨_,_,_,_,_,_⟩, ⟨_,_,_,_,_,_⟩, ⟨_,_,_,_,_,_⟩, ⟨_,_,_,_,_,_⟩, ⟨_,_,_,_,_,_⟩, ⟨_,_,_,_,_,_⟩]) [] [0, 2, 1, 3, 4, 5, 6, 8, 7, 9, 10, 11, 12, 13, 15, 14, 16, 17, 18, 19, 20, 22, 21, 23, 24, 25, 26] mixed (drawnM [0, 1, 0, 7, 15, 31, 63, 127, 63, 511, 1023, 2047, 4095, 8191, 16383, 8191, 65535, 131071, 262143, 524287, 1048575, 2097151, 1048575, 8388607, 16777215, 33554431, 67108863] (by kernel_rfl)) rfl (by kernel_rfl) ?_;refine Ld 2 0 [_,_,_,_,_,_,_] ti30 ?_;refine Kr 11 (z.v) ?_;refine Ld 2 0 [_,_,_,_,_,_,_] ti30 ?_;refine Kr 13 (z.v) ?_;refine r_scall0 [z.v] [1] rfl rfl rfl (ECall.toS (c_CheckExpr z hf)) ⟨⟨_, rfl, Blk.le_refl _⟩, trivial⟩ rfl ?_;refine r_scall0 [z.v] [1] rfl rfl rfl (ECall.toS (c_mcheckExpr z hf)) ⟨⟨_, rfl, Blk.le_refl _⟩, trivial⟩ rfl ?_;refine A1 ?_;refine r_know 15 (.bool true) rfl (congrArg Value.bool (beq_self_eq_true _)) ?_;refine A1 ?_;refine Ld 2 0 [_,_,_,_,_,_,_] ti30 ?_;refine Kr 17 (z.v) ?_;refine Ld 2 0 [_,_,_,_,_,_,_] ti30 ?_;refine Kr 19 (z.v) ?_;refine r_scall0 [z.v] [1] rfl rfl rfl (ECall.toS (c_Size z (by omega))) ⟨⟨_, rfl, Blk.le_refl _⟩, trivial⟩ rfl ?_;refine r_know 18 (.int .i64 (x.size : Nat)) rfl (by rw [foldN_size, Nat.zero_add]) ?_;refine r_scall0 [z.v] [1] rfl rfl rfl (ECall.toS (c_msize x z (by omega))) ⟨⟨_, rfl, Blk.le_refl _⟩, trivial⟩ rfl ?_;refine A1 ?_;refine r_know 21 (.bool true) rfl (congrArg Value.bool (beq_self_eq_true _)) ?_;refine A2 ?_;refine Ld 2 0 [_,_,_,_,_,_,_] ti30 ?_;refine Kr 24 (z.v) ?_;refine Ld 2 0 [_,_,_,_,_,_,_] ti30 ?_;refine Kr 26 (z.v) ?_;refine r_scall0 [z.v] [1] rfl rfl rfl (ECall.toS (c_Depth z (by omega))) ⟨⟨_, rfl, Blk.le_refl _⟩, trivial⟩ rfl ?_;refine r_know 25 (.int .i64 (x.dep : Nat)) rfl (by rw [foldN_dep, show max 0 (1 + x.dep - 1) = x.dep by omega]) ?_;refine r_scall0 [z.v] [1] rfl rfl rfl (ECall.toS (c_mdepth x z (by omega))) ⟨⟨_, rfl, Blk.le_refl _⟩, trivial⟩ rfl ?_;refine A1 ?_;refine r_know 28 (.bool true) rfl (congrArg Value.bool (beq_self_eq_true _)) ?_;refine A2 ?_;refine Ld 2 0 [_,_,_,_,_,_,_] ti30 ?_;refine Kr 31 (z.v) ?_;refine Ld 2 0 [_,_,_,_,_,_,_] ti30 ?_;refine Kr 33 (z.v) ?_;refine r_scall [z.v] [1] rfl rfl rfl (ECall.toS (c_Variables z (by omega))) ⟨⟨_, rfl, Blk.le_refl _⟩, trivial⟩ rfl (.inr fun x b hb => by rw [List.mem_singleton.1 hb]) (fun s => ?_);refine r_scall [z.v] [1] rfl rfl rfl (ECall.toS (c_mvars x z (by omega))) ⟨⟨_, rfl, Blk.le_refl _⟩, trivial⟩ rfl (.inr fun x b hb => by rw [List.mem_singleton.1 hb]) (fun s2 => ?_);refine r_scall0 [_, _] [3, 4] rfl rfl rfl (ECall.toS (c_sameStrings s.b 9 [] (varsU x) s.n s.cap s2.b 9 [] (mvars x) s2.n s2.cap hvl)) ⟨⟨_, rfl, le_share⟩, ⟨_, rfl, le_share⟩, trivial⟩ rfl ?_;refine r_know 35 (.bool true) rfl (congrArg Value.bool (decide_eq_true (mvars_U x).symm)) ?_;refine A5 ?_;refine E1 fun w hL => ⟨(), rfl, hL.pk []⟩
end Go.Proofs.YtfijbadahkmhbaaGreatDoor
