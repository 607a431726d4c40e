/-
  Part 11: lemmas, and walks through the functions that the laws of chapter 26 call. Each theorem states its own conditions.
-/
import Derived.Test.YtncogghlhlnmaaaGreatDoorA03
import Derived.Test.YtncogghlhlnmaaaGreatDoorA04
import Derived.Test.YtncogghlhlnmaaaGreatDoorA06
import Derived.Test.YtncogghlhlnmaaaGreatDoorA10
set_option linter.unusedVariables false
set_option linter.unusedVariables false
namespace Go.Proofs.YtncogghlhlnmaaaGreatDoor
open Go Go.RowKit Go.Via
set_option maxRecDepth 20000 in
set_option maxHeartbeats 4000000 in
theorem c_graph_chain (l : List Ex) (a : Option Addr) (b : Option Nat) (pre : List Value) (N cap : Nat) (hc : l.length ≤ cap) (ha : l ≠ [] → a = b.map fun g => ⟨g, pre.length, none⟩) (b_ : SIm) (gy : Nat) (om : Option Nat) (sa : Option Addr) (sn sc : Nat) (sz fr to : Int) (c : List Int) (hp : Pth l b_ fr to c) (hcn : c.length ≤ 1000000) : SCall Tryz.prog 40 [⟨b, 49, pre ++ XLc l, N, false⟩, ⟨some gy, mI (mapI b_), [], 0, false⟩] [.agg #[.slice a l.length cap, .slice sa sn sc, .int .i64 sz], .agg #[.map om, .map (some gy)], .int .i64 fr, .int .i64 to] (SR (c.reverse).length) (fun x => x.v) (fun x => [⟨x.b, 3, ILc (c.reverse), x.n, true⟩]) := by
 refine ⟨by kernel_rfl, fun w hL0 => ?_⟩
 refine calls_at (args := [.agg #[.slice a l.length cap, .slice sa sn sc, .int .i64 sz], .agg #[.map om, .map (some gy)], .int .i64 fr, .int .i64 to]) Tryz.func40 rfl (Nat.le_of_ble_eq_true rfl) hL0 ?_
 show At w ⟨31, [(0, .agg #[.slice a l.length cap, .slice sa sn sc, .int .i64 sz]), (1, .agg #[.map om, .map (some gy)]), (2, .int .i64 fr), (3, .int .i64 to)], [⟨b, 49, pre ++ XLc l, N, false⟩, ⟨some gy, mI (mapI b_), [], 0, false⟩]⟩ _
 refine at_seq ?_
 refine at_base 0 rfl (fun hbase => ?_)
 refine at_region ?_
 refine r_box [_, _, _] 3 (fun g => [_, _, ⟨some g, 76, _, 3, true⟩]) rfl rfl rfl rfl rfl (fun _ => rfl) (fun g0 => ?_)
 refine r_box [_, _] 2 (fun g => [_, _, _, ⟨some g, 80, _, 2, true⟩]) rfl rfl rfl rfl rfl (fun _ => rfl) (fun g1 => ?_)
 refine r_assign rfl rfl rfl (run_nil (at_tn (at_seq (at_region (r_assign rfl rfl rfl (run_nil (at_tn (at_seq (at_block ?_)))))))))
 refine enterL (nt := 31) (ι := {x : Int × List Int × List Int × Option Nat × Nat × Nat // x.2.1.length ≤ x.2.2.2.2.2 ∧ x.2.2.2.2.2 ≤ x.2.2.2.2.1 ∧ c = x.2.1 ++ x.2.2.1 ∧ Pth l b_ fr x.1 x.2.2.1}) (fun ⟨⟨t_, dn, c1, ob, oN, oc⟩, h1, h2, hcE, hP⟩ => [(2, .int .i64 fr), (3, .int .i64 t_), (4, .pointer (some ⟨g0, 0, none⟩)), (5, .pointer (some ⟨g1, 0, none⟩)), (9, slv ob 0 dn.length oc)]) (fun ⟨⟨t_, dn, c1, ob, oN, oc⟩, h1, h2, hcE, hP⟩ => [⟨b, 49, pre ++ XLc l, N, false⟩, ⟨some gy, mI (mapI b_), [], 0, false⟩, ⟨some g0, 76, [.slice a l.length cap, .slice sa sn sc, .int .i64 sz], 3, true⟩, ⟨some g1, 80, [.map om, .map (some gy)], 2, true⟩, ⟨ob, 3, ILc dn, oN, true⟩]) (fun ⟨⟨t_, dn, c1, ob, oN, oc⟩, h1, h2, hcE, hP⟩ => c1.length) ⟨(to, [], c, none, 0, 0), Nat.le_refl _, Nat.le_refl _, rfl, hp⟩ ⟨rfl, rfl, rfl, rfl, rfl, trivial⟩ (weak_picks [some 0, some 1, some 2, some 3, none] ⟨⟨_, rfl, Blk.le_refl _⟩, ⟨_, rfl, Blk.le_refl _⟩, ⟨_, rfl, Blk.le_refl _⟩, ⟨_, rfl, Blk.le_refl _⟩, ⟨rfl, rfl, rfl⟩, trivial⟩ rfl rfl) ?_
 rintro ⟨⟨t_, dn, c1, ob, oN, oc⟩, h1, h2, hcE, hP⟩
 show At _ ⟨31, [(2, .int .i64 fr), (3, .int .i64 t_), (4, .pointer (some ⟨g0, 0, none⟩)), (5, .pointer (some ⟨g1, 0, none⟩)), (9, slv ob 0 dn.length oc)], [⟨b, 49, pre ++ XLc l, N, false⟩, ⟨some gy, mI (mapI b_), [], 0, false⟩, ⟨some g0, 76, [.slice a l.length cap, .slice sa sn sc, .int .i64 sz], 3, true⟩, ⟨some g1, 80, [.map om, .map (some gy)], 2, true⟩, ⟨ob, 3, ILc dn, oN, true⟩]⟩ _
 replace h1 : dn.length ≤ oc := h1
 replace h2 : oc ≤ oN := h2
 replace hcE : c = dn ++ c1 := hcE
 replace hP : Pth l b_ fr t_ c1 := hP
 refine at_seq (at_seq (at_region (r_move rfl rfl rfl (r_move rfl rfl rfl (r_cmpInt rfl rfl rfl rfl rfl (run_nil (at_tn ?_)))))))
 refine at_cond rfl (fun hb1 => ?_) (fun hb1 => ?_)
 ·
  have hne : t_ ≠ fr := by simpa using hb1
  obtain ⟨i, x, c2, hi, hi0, hx, hP2, rfl⟩ := hP.step hne
  have hlx := (List.getElem?_eq_some_iff.1 hx).1
  have hcl : c.length = dn.length + (c2.length + 1) := by rw [hcE]; simp
  obtain ⟨gb, hgb⟩ := ex_base hbase (by omega)
  replace hgb : b = some gb := hgb
  subst hgb
  obtain rfl : a = some ⟨gb, pre.length, none⟩ := ha (fun e => by rw [e] at hlx; cases hlx)
  refine at_skip (at_tn (at_block (at_seq (at_region (r_fieldAddr 3 0 1 rfl rfl rfl rfl rfl ti80 rfl rfl (r_load 3 1 [_] rfl rfl rfl rfl ti78 rfl rfl rfl rfl (r_move rfl rfl rfl ?_)))))))
  refine r_lookup (v := .int .i64 i) 1 u78 u3 zz3 rfl rfl rfl rfl rfl (mapI_simple _) ((mg_mapI0 _ _).trans (congrArg (Value.int .i64) hi)) rfl ?_
  refine r_assign rfl rfl rfl (run_nil (at_tn ?_))
  refine at_drawnEM (X := (OR (dn.length + 1) 1 × Nat)) (l' := [⟨_,_,_,_,_,_⟩, ⟨_,_,_,_,_,_⟩, ⟨_,_,_,_,_,_⟩, ⟨_,_,_,_,_,_⟩]) (fun ⟨r, gz⟩ => [(2, .int .i64 fr), (3, .int .i64 x.f), (4, .pointer (some ⟨g0, 0, none⟩)), (5, .pointer (some ⟨g1, 0, none⟩)), (9, slv r.b 0 (dn.length + 1) r.cap)]) (fun ⟨r, gz⟩ => [⟨some gb, 49, pre ++ XLc l, N, false⟩, ⟨some gy, mI (mapI b_), [], 0, false⟩, ⟨some g0, 76, [.slice (some ⟨gb, pre.length, none⟩) l.length cap, .slice sa sn sc, .int .i64 sz], 3, true⟩, ⟨some g1, 80, [.map om, .map (some gy)], 2, true⟩, ⟨r.b, 3, ILc dn ++ [.int .i64 i], r.n, true⟩, ⟨some gz, 3, [.int .i64 i], 1, true⟩]) [0, 1, 4, 6] 8 mixed (by kernel_rfl) rfl ?_ ?_
  ·
   refine r_move rfl rfl rfl (r_move rfl rfl rfl (r_fieldAddrG 0 0 rfl rfl rfl ti76 rfl rfl (r_move rfl rfl rfl (run_nil ?_))))
   repeat' first
    | exact ⟨(r, g2), rfl, ⟨rfl, rfl, rfl, rfl, rfl, trivial⟩, List.Perm.refl _⟩
    | refine run_nil ?_
    | refine r_assign rfl rfl rfl ?_
    | refine r_load (v := .int .i64 x.f) 0 (pre.length + (i.toNat * 5 + 0)) _ rfl rfl rfl rfl ti3 (pre_get (XLc_f hx) rfl) rfl (by decide) rfl ?_
    | refine r_fieldAddr 0 (pre.length + i.toNat * 5) 0 rfl rfl rfl rfl rfl ti49 rfl rfl ?_
    | refine q_appendO (s := 1) (len := dn.length) (n2 := 1) 4 5 [.int .i64 i] (fun r => [_, _, _, _, ⟨r.b, 3, ILc dn ++ [.int .i64 i], r.n, true⟩, _]) u33 el3 rfl rfl rfl rfl rfl rfl rfl rfl rfl rfl (by rw [ILc_length]; omega) h1 (by show oc * 1 ≤ oN; omega) (.inr ⟨_, rfl⟩) rfl rfl (Go.Via.one_cell _ _) (by omega) (fun _ => rfl) (fun r => ?_)
    | refine r_indexAddr 0 (pre.length + i.toNat * 5) u22 ti49 rfl rfl rfl rfl rfl (by omega) (by omega) (pre_ne (XLc_ne (by omega))) (by show pre.length + Int.toNat _ * 5 = _; omega) ?_
    | refine r_buildSlice [(0, _)] (fun g => [_, _, _, _, _, ⟨some g, 3, _, 1, true⟩]) rfl rfl rfl (bs33_1) rfl (fun _ => rfl) (fun g2 => ?_)
    | refine r_load 2 0 [_] rfl rfl rfl rfl ti22 rfl rfl rfl rfl ?_
    | refine tr_nil (by decide +kernel) ?_
    | refine t_node [11] (by decide +kernel) rfl ⟨⟨_, rfl, ?_⟩, trivial⟩
    | refine t_node [9] (by decide +kernel) rfl ⟨⟨_, rfl, ?_⟩, trivial⟩
    | refine t_node [10] (by decide +kernel) rfl ⟨⟨_, rfl, ?_⟩, trivial⟩
    | refine t_node [9, 10] (by decide +kernel) rfl ⟨⟨_, rfl, ?_⟩, ⟨_, rfl, ?_⟩, trivial⟩
    | refine t_node [8] (by decide +kernel) rfl ⟨⟨_, rfl, ?_⟩, trivial⟩
    | refine t_node [8, 10] (by decide +kernel) rfl ⟨⟨_, rfl, ?_⟩, ⟨_, rfl, ?_⟩, trivial⟩
    | refine t_node [3] (by decide +kernel) rfl ⟨⟨_, rfl, ?_⟩, trivial⟩
    | refine t_node [7] (by decide +kernel) rfl ⟨⟨_, rfl, ?_⟩, trivial⟩
    | refine t_node [3, 9] (by decide +kernel) rfl ⟨⟨_, rfl, ?_⟩, ⟨_, rfl, ?_⟩, trivial⟩
    | refine t_node [7, 10] (by decide +kernel) rfl ⟨⟨_, rfl, ?_⟩, ⟨_, rfl, ?_⟩, trivial⟩
    | refine t_node [3, 8] (by decide +kernel) rfl ⟨⟨_, rfl, ?_⟩, ⟨_, rfl, ?_⟩, trivial⟩
    | refine t_node [3, 7] (by decide +kernel) rfl ⟨⟨_, rfl, ?_⟩, ⟨_, rfl, ?_⟩, trivial⟩
    | refine t_node [2, 5] (by decide +kernel) rfl ⟨⟨_, rfl, ?_⟩, ⟨_, rfl, ?_⟩, trivial⟩
    | refine t_node [3, 5] (by decide +kernel) rfl ⟨⟨_, rfl, ?_⟩, ⟨_, rfl, ?_⟩, trivial⟩
    | refine t_node [5, 10] (by decide +kernel) rfl ⟨⟨_, rfl, ?_⟩, ⟨_, rfl, ?_⟩, trivial⟩
    | refine t_node [5] (by decide +kernel) rfl ⟨⟨_, rfl, ?_⟩, trivial⟩
    | refine t_node [2, 7] (by decide +kernel) rfl ⟨⟨_, rfl, ?_⟩, ⟨_, rfl, ?_⟩, trivial⟩
    | refine t_node [2, 8] (by decide +kernel) rfl ⟨⟨_, rfl, ?_⟩, ⟨_, rfl, ?_⟩, trivial⟩
    | refine t_node [2, 9] (by decide +kernel) rfl ⟨⟨_, rfl, ?_⟩, ⟨_, rfl, ?_⟩, trivial⟩
    | refine t_node [2] (by decide +kernel) rfl ⟨⟨_, rfl, ?_⟩, trivial⟩
  rintro ⟨r, gz⟩
  show At _ ⟨31, [(2, .int .i64 fr), (3, .int .i64 x.f), (4, .pointer (some ⟨g0, 0, none⟩)), (5, .pointer (some ⟨g1, 0, none⟩)), (9, slv r.b 0 (dn.length + 1) r.cap)], [⟨some gb, 49, pre ++ XLc l, N, false⟩, ⟨some gy, mI (mapI b_), [], 0, false⟩, ⟨some g0, 76, [.slice (some ⟨gb, pre.length, none⟩) l.length cap, .slice sa sn sc, .int .i64 sz], 3, true⟩, ⟨some g1, 80, [.map om, .map (some gy)], 2, true⟩, ⟨r.b, 3, ILc dn ++ [.int .i64 i], r.n, true⟩, ⟨some gz, 3, [.int .i64 i], 1, true⟩]⟩ _
  refine at_bn (at_tn ?_)
  exact nextL ⟨(x.f, dn ++ [i], c2, r.b, r.n, r.cap), by show _ ≤ r.cap; rw [List.length_append]; exact r.h, by have := r.hn; show r.cap ≤ r.n; omega, by rw [hcE]; simp, hP2⟩ (by simp) ⟨rfl, rfl, rfl, rfl, (look_val rfl (by rw [List.length_append]; rfl)), trivial⟩ (weak_picks [some 0, some 1, some 2, some 3, some 4] ⟨⟨_, rfl, Blk.le_refl _⟩, ⟨_, rfl, Blk.le_refl _⟩, ⟨_, rfl, Blk.le_refl _⟩, ⟨_, rfl, Blk.le_refl _⟩, ⟨_, rfl, le_same (congrArg (fun c => (⟨r.b, 3, c, r.n, true⟩ : Blk)) (ILc_snoc _ _).symm)⟩, trivial⟩ rfl rfl)
 ·
  have heq : t_ = fr := by simpa using hb1
  have hc0 := hP.done heq
  subst hc0
  have hcd : dn = c := by simpa using hcE.symm
  subst hcd
  refine at_exit (at_te (at_te (at_be (at_tn (at_seq (at_regionM (r_move rfl rfl rfl ?_)))))))
  refine r_mcall [_] 4 [_, _, _, _, ⟨ob, 3, ILc dn.reverse, oN, true⟩] rfl rfl rfl rfl (c_reverse dn ob oN oc hcn) rfl rfl ?_
  refine run_nil (at_tn (at_seq (at_region (r_move rfl rfl rfl (r_assign rfl rfl rfl (run_nil (at_tn (at_ret ?_))))))))
  refine at_end1 rfl (res_tmp rfl) (fun w hL => ⟨⟨ob, oN, oc, by rw [List.length_reverse]; exact h1⟩, ?_, hL.picks [some 4] ⟨⟨_, rfl, Blk.le_refl _⟩, trivial⟩ rfl rfl⟩)
  exact congrArg (fun m => Ending.returned (slv ob 0 m oc)) List.length_reverse.symm
end Go.Proofs.YtncogghlhlnmaaaGreatDoor
set_option linter.unusedVariables false
namespace Go.Proofs.YtncogghlhlnmaaaGreatDoor
open Go Go.RowKit Go.Via
set_option maxRecDepth 20000 in
set_option maxHeartbeats 8000000 in
theorem c_clock_Cycle (l : List Ex) (a : Option Addr) (b : Option Nat) (pre : List Value) (N cap : Nat) (hc : l.length ≤ cap) (ha : l ≠ [] → a = b.map fun g => ⟨g, pre.length, none⟩) (hok : ∀ x ∈ l, okX x) (hn : l.length ≤ 1000) (d : Int) (hd : inI64 d) (Q : List Int → Prop) (hQ : CycOK l d Q) : SCall Tryz.prog 21 [⟨b, 49, pre ++ XLc l, N, false⟩] [.slice a l.length cap, .int .i64 d] (CycR l d Q) (fun x => .tuple #[slv x.b 0 x.c.length x.cap, .bool (badA l d)]) (fun x => [⟨x.b, 3, ILc x.c, x.n, true⟩]) := by
 refine ⟨by kernel_rfl, fun w hL0 => ?_⟩
 refine calls_at (args := [.slice a l.length cap, .int .i64 d]) Tryz.func21 rfl (Nat.le_of_ble_eq_true rfl) hL0 ?_
 show At w ⟨68, [(0, .slice a l.length cap), (1, .int .i64 d)], [⟨b, 49, pre ++ XLc l, N, false⟩]⟩ _
 refine at_seq ?_
 refine at_base 0 rfl (fun hbase => ?_)
 refine at_region (r_assign rfl rfl rfl (r_assign rfl rfl rfl (run_nil (at_tn (at_seq (at_region (r_move rfl rfl rfl (r_move rfl rfl rfl ?_))))))))
 refine r_scall [_, _] [0] rfl rfl rfl (c_clock_part l a b pre N cap hc ha hok (by omega) d hd) ⟨⟨_, rfl, Blk.le_refl _⟩, trivial⟩ rfl (.inr fun z b hb => by rw [List.mem_singleton.1 hb]) (fun zp => ?_)
 refine r_alloc [_, _, _] 3 (fun g => [_, _, ⟨some g, 76, _, 3, true⟩]) rfl rfl z76 rfl rfl (fun _ => rfl) (fun g0 => ?_)
 refine r_store rfl 2 0 [_, _, ⟨some g0, 76, _, 3, true⟩] [_, _, _] rfl rfl rfl rfl ti76 rfl rfl rfl rfl rfl ?_
 refine run_nil (at_tn (at_seq ?_))
 refine at_drawnA (l' := [⟨_,_,_,_,_,_⟩, ⟨_,_,_,_,_,_⟩, ⟨_,_,_,_,_,_⟩, ⟨_,_,_,_,_,_⟩, ⟨_,_,_,_,_,_⟩, ⟨_,_,_,_,_,_⟩, ⟨_,_,_,_,_,_⟩, ⟨_,_,_,_,_,_⟩, ⟨_,_,_,_,_,_⟩, ⟨_,_,_,_,_,_⟩, ⟨_,_,_,_,_,_⟩]) [3000000] [0, 1, 2, 3, 4, 5, 6, 8, 9, 7, 10] mixed (by kernel_rfl) rfl ?_
 refine r_load 2 0 [_, _, _] rfl rfl rfl rfl ti76 rfl rfl rfl rfl (r_move rfl rfl rfl (r_move rfl rfl rfl ?_))
 refine r_scall [_, _] [0] rfl rfl rfl (c_clock_Component l a b pre N cap hc ha hok (by omega) d hd) ⟨⟨_, rfl, Blk.le_refl _⟩, trivial⟩ rfl (.inr fun z b hb => by rw [List.mem_singleton.1 hb]) (fun zc => ?_)
 refine r_scall [_, _] [0, 1, 3] rfl rfl rfl (c_graph_from l a b pre N cap hc ha hok hn (partA l d) zp.b zp.n zp.cap zp.h (Nat.le_trans (partA_len l d) hn) (fun k hk => partA_mem hk) (compL l d).length (by have := compL_len l d; omega) (compL l d) zc.b zc.n zc.cap zc.h (by have := compL_len l d; omega)) ⟨⟨_, rfl, Blk.le_refl _⟩, ⟨_, rfl, le_share⟩, ⟨_, rfl, le_share⟩, trivial⟩ rfl (.inr fun z b hb => by rcases List.mem_cons.1 hb with h | h; rw [h]; rw [List.mem_singleton.1 h]) (fun zf => ?_)
 refine r_move rfl rfl rfl ?_
 refine r_extract (vs := [_, _]) rfl rfl rfl rfl ?_
 refine r_alloc [_, _] 2 (fun g => [_, _, _, _, _, _, ⟨some g, 80, _, 2, true⟩]) rfl rfl z80 rfl rfl (fun _ => rfl) (fun g1 => ?_)
 refine r_store rfl 6 0 [_, _, _, _, _, _, ⟨some g1, 80, _, 2, true⟩] [_, _] rfl rfl rfl rfl ti80 rfl rfl rfl rfl rfl ?_
 refine r_extract (vs := [_, _]) rfl rfl rfl rfl ?_
 refine r_assign rfl rfl rfl (run_nil (at_tn (at_seq (at_seq (at_region (r_move rfl rfl rfl (r_cmpInt rfl rfl rfl rfl rfl (run_nil (at_tn ?_)))))))))
 refine at_cond rfl (fun hb0 => ?_) (fun hb0 => ?_)
 ·
  have hbad : badA l d = false := by show (!decide ((fromF l (partA l d) (compL l d).length (compL l d)).2.2 < 0)) = false; rw [hb0]; rfl
  refine at_seq (at_region (r_assign rfl rfl rfl (r_assign rfl rfl rfl (run_nil (at_tn (at_ret (at_tr ?_)))))))
  refine at_end2 rfl (res_tmp rfl) (res_tmp rfl) (fun w hL => ⟨⟨[], none, 0, 0, Nat.le_refl _, fun _ => rfl, fun h => by rw [hbad] at h; cases h⟩, ?_, hL.picks [none] ⟨⟨rfl, rfl, rfl⟩, trivial⟩ rfl rfl⟩)
  exact congrArg (fun b => Ending.returned (.tuple #[slv none 0 0 0, .bool b])) hbad.symm
 ·
  have hbad : badA l d = true := by show (!decide ((fromF l (partA l d) (compL l d).length (compL l d)).2.2 < 0)) = true; rw [hb0]; rfl
  obtain ⟨x, z, cc, hx, hI0, hN0, hcn, hQc⟩ := hQ hbad
  obtain ⟨k, hk⟩ : ∃ k, (fromA l d).2.2 = k := ⟨_, rfl⟩
  have hk0 : 0 ≤ k := by have := of_decide_eq_false hb0; have e : (fromF l (partA l d) (compL l d).length (compL l d)).2.2 = k := hk; omega
  rw [hk] at hx
  refine at_know 8 (.int .i64 k) rfl (congrArg (Value.int .i64) hk) ?_
  have hlx := (List.getElem?_eq_some_iff.1 hx).1
  have hcl := compL_len l d
  obtain ⟨gb, hgb⟩ := ex_base hbase (by omega)
  replace hgb : b = some gb := hgb
  subst hgb
  obtain rfl : a = some ⟨gb, pre.length, none⟩ := ha (fun e => by rw [e] at hlx; cases hlx)
  refine at_skip (at_tn (at_seq (at_region (r_fieldAddr 2 0 0 rfl rfl rfl rfl rfl ti76 rfl rfl (r_load 2 0 [_] rfl rfl rfl rfl ti22 rfl rfl rfl rfl (r_move rfl rfl rfl ?_))))))
  refine r_indexAddr 0 (pre.length + k.toNat * 5) u22 ti49 rfl rfl rfl rfl rfl (by omega) (by omega) (pre_ne (XLc_ne (by omega))) (by show pre.length + Int.toNat _ * 5 = _; omega) ?_
  refine r_fieldAddr 0 (pre.length + k.toNat * 5) 1 rfl rfl rfl rfl rfl ti49 rfl rfl ?_
  refine r_load (v := .int .i64 x.t) 0 (pre.length + (k.toNat * 5 + 1)) _ rfl rfl rfl rfl ti3 (pre_get (XLc_t hx) rfl) rfl (by decide) rfl ?_
  refine r_assign rfl rfl rfl (run_nil (at_tn (at_seq (at_seq (at_region (r_fieldAddr 2 0 2 rfl rfl rfl rfl rfl ti76 rfl rfl (r_load 2 2 [_] rfl rfl rfl rfl ti3 rfl rfl rfl rfl ?_)))))))
  refine r_arith (r := (((compL l d).length + 1 : Nat) : Int)) rfl rfl rfl rfl (congrArg some (wi (by omega) (by omega) (by omega))) ?_
  refine r_move rfl rfl rfl (run_nil (at_tn (at_block ?_)))
  refine enterL (nt := 68) (ι := {x : Nat × Int // x.1 ≤ (compL l d).length + 1 ∧ Itr l (fromA l d).2.1 ((compL l d).length + 1 - x.1) x.2 z}) (fun ⟨⟨j, t_⟩, hj, hI⟩ => [(6, .pointer (some ⟨g0, 0, none⟩)), (7, .pointer (some ⟨g1, 0, none⟩)), (9, .int .i64 t_), (34, .int .i64 (((compL l d).length + 1 : Nat) : Int)), (35, .int .i64 (j : Nat))]) (fun ⟨⟨j, t_⟩, hj, hI⟩ => [⟨some gb, 49, pre ++ XLc l, N, false⟩, ⟨some g0, 76, [.slice (some ⟨gb, pre.length, none⟩) l.length cap, zp.v, .int .i64 ((compL l d).length : Nat)], 3, true⟩, ⟨some zf.2, mI (mapI (fromA l d).2.1), [], 0, true⟩, ⟨some g1, 80, [.map (some zf.1), .map (some zf.2)], 2, true⟩]) (fun ⟨⟨j, t_⟩, hj, hI⟩ => (compL l d).length + 1 - j) ⟨(0, x.t), Nat.zero_le _, hI0⟩ ⟨rfl, rfl, rfl, rfl, rfl, trivial⟩ (weak_picks [some 0, some 2, some 5, some 6] ⟨⟨_, rfl, Blk.le_refl _⟩, ⟨_, rfl, Blk.le_refl _⟩, ⟨_, rfl, le_same rfl⟩, ⟨_, rfl, Blk.le_refl _⟩, trivial⟩ rfl rfl) ?_
  rintro ⟨⟨j, t_⟩, hj, hI⟩
  show At _ ⟨68, [(6, .pointer (some ⟨g0, 0, none⟩)), (7, .pointer (some ⟨g1, 0, none⟩)), (9, .int .i64 t_), (34, .int .i64 (((compL l d).length + 1 : Nat) : Int)), (35, .int .i64 (j : Nat))], [⟨some gb, 49, pre ++ XLc l, N, false⟩, ⟨some g0, 76, [.slice (some ⟨gb, pre.length, none⟩) l.length cap, zp.v, .int .i64 ((compL l d).length : Nat)], 3, true⟩, ⟨some zf.2, mI (mapI (fromA l d).2.1), [], 0, true⟩, ⟨some g1, 80, [.map (some zf.1), .map (some zf.2)], 2, true⟩]⟩ _
  replace hj : j ≤ (compL l d).length + 1 := hj
  replace hI : Itr l (fromA l d).2.1 ((compL l d).length + 1 - j) t_ z := hI
  refine at_seq (at_region (r_cmpInt rfl rfl rfl rfl rfl (run_nil (at_tn (at_seq ?_)))))
  refine at_cond rfl (fun hb2 => ?_) (fun hb2 => ?_)
  ·
   have hjlt : j < (compL l d).length + 1 := (by have := of_decide_eq_true hb2; omega)
   obtain ⟨i, y, hi, hi0, hy, hI2⟩ := hI.step (m := (compL l d).length + 1 - (j + 1)) (by omega)
   have hly := (List.getElem?_eq_some_iff.1 hy).1
   refine at_skip (at_tn (at_seq (at_block (at_region (r_fieldAddr 1 0 0 rfl rfl rfl rfl rfl ti76 rfl rfl (r_load 1 0 [_] rfl rfl rfl rfl ti22 rfl rfl rfl rfl (r_fieldAddr 3 0 1 rfl rfl rfl rfl rfl ti80 rfl rfl (r_load 3 1 [_] rfl rfl rfl rfl ti78 rfl rfl rfl rfl (r_move rfl rfl rfl ?_)))))))))
   refine r_lookup (v := .int .i64 i) 2 u78 u3 zz3 rfl rfl rfl rfl rfl (mapI_simple _) ((mg_mapI0 _ _).trans (congrArg (Value.int .i64) hi)) rfl ?_
   refine r_indexAddr 0 (pre.length + i.toNat * 5) u22 ti49 rfl rfl rfl rfl rfl (by omega) (by omega) (pre_ne (XLc_ne (by omega))) (by show pre.length + Int.toNat _ * 5 = _; omega) ?_
   refine r_fieldAddr 0 (pre.length + i.toNat * 5) 0 rfl rfl rfl rfl rfl ti49 rfl rfl ?_
   refine r_load (v := .int .i64 y.f) 0 (pre.length + (i.toNat * 5 + 0)) _ rfl rfl rfl rfl ti3 (pre_get (XLc_f hy) rfl) rfl (by decide) rfl ?_
   refine r_assign rfl rfl rfl (run_nil (at_bn (at_tn (at_region ?_))))
   refine r_arith (r := ((j + 1 : Nat) : Int)) rfl rfl rfl rfl (congrArg some (wi (by omega) (by omega) (by omega))) ?_
   refine r_move rfl rfl rfl (run_nil (at_tn ?_))
   exact nextL ⟨(j + 1, y.f), hjlt, hI2⟩ (by show (compL l d).length + 1 - (j + 1) < (compL l d).length + 1 - j; omega) ⟨rfl, rfl, rfl, rfl, rfl, trivial⟩ (weak_picks [some 0, some 1, some 2, some 3] ⟨⟨_, rfl, Blk.le_refl _⟩, ⟨_, rfl, Blk.le_refl _⟩, ⟨_, rfl, Blk.le_refl _⟩, ⟨_, rfl, Blk.le_refl _⟩, trivial⟩ rfl rfl)
  ·
   have hzz : t_ = z := hI.stop (by have := of_decide_eq_false hb2; omega)
   refine at_know 9 (.int .i64 z) rfl (congrArg (Value.int .i64) hzz) ?_
   refine at_exit (at_te (at_te (at_be (at_tn (at_seq (at_region (r_assign rfl rfl rfl (run_nil (at_tn (at_seq (at_seq (at_region (r_move rfl rfl rfl (r_assign rfl rfl rfl (run_nil (at_tn (at_block ?_)))))))))))))))))
   refine enterL (nt := 68) (ι := {x : Int × List Int × List Int × Option Nat × Nat × Nat // x.2.1.length ≤ x.2.2.2.2.2 ∧ x.2.2.2.2.2 ≤ x.2.2.2.2.1 ∧ cc = x.2.1 ++ x.2.2.1 ∧ Nx l (fromA l d).2.1 z x.1 x.2.2.1}) (fun ⟨⟨u, dn, c1, ob, oN, oc⟩, h1, h2, hcE, hNx⟩ => [(6, .pointer (some ⟨g0, 0, none⟩)), (7, .pointer (some ⟨g1, 0, none⟩)), (9, .int .i64 z), (10, slv ob 0 dn.length oc), (11, .int .i64 u)]) (fun ⟨⟨u, dn, c1, ob, oN, oc⟩, h1, h2, hcE, hNx⟩ => [⟨some gb, 49, pre ++ XLc l, N, false⟩, ⟨some g0, 76, [.slice (some ⟨gb, pre.length, none⟩) l.length cap, zp.v, .int .i64 ((compL l d).length : Nat)], 3, true⟩, ⟨some zf.2, mI (mapI (fromA l d).2.1), [], 0, true⟩, ⟨some g1, 80, [.map (some zf.1), .map (some zf.2)], 2, true⟩, ⟨ob, 3, ILc dn, oN, true⟩]) (fun ⟨⟨u, dn, c1, ob, oN, oc⟩, h1, h2, hcE, hNx⟩ => c1.length) ⟨(z, [], cc, none, 0, 0), Nat.le_refl _, Nat.le_refl _, rfl, hN0⟩ ⟨rfl, rfl, rfl, rfl, rfl, trivial⟩ (weak_picks [some 0, some 1, some 2, some 3, none] ⟨⟨_, rfl, Blk.le_refl _⟩, ⟨_, rfl, Blk.le_refl _⟩, ⟨_, rfl, Blk.le_refl _⟩, ⟨_, rfl, Blk.le_refl _⟩, ⟨rfl, rfl, rfl⟩, trivial⟩ rfl rfl) ?_
   rintro ⟨⟨u, dn, c1, ob, oN, oc⟩, h1, h2, hcE, hNx⟩
   show At _ ⟨68, [(6, .pointer (some ⟨g0, 0, none⟩)), (7, .pointer (some ⟨g1, 0, none⟩)), (9, .int .i64 z), (10, slv ob 0 dn.length oc), (11, .int .i64 u)], [⟨some gb, 49, pre ++ XLc l, N, false⟩, ⟨some g0, 76, [.slice (some ⟨gb, pre.length, none⟩) l.length cap, zp.v, .int .i64 ((compL l d).length : Nat)], 3, true⟩, ⟨some zf.2, mI (mapI (fromA l d).2.1), [], 0, true⟩, ⟨some g1, 80, [.map (some zf.1), .map (some zf.2)], 2, true⟩, ⟨ob, 3, ILc dn, oN, true⟩]⟩ _
   replace h1 : dn.length ≤ oc := h1
   replace h2 : oc ≤ oN := h2
   replace hcE : cc = dn ++ c1 := hcE
   replace hNx : Nx l (fromA l d).2.1 z u c1 := hNx
   obtain ⟨i, y, c2, hi, hi0, hy, hP2, rfl⟩ := hNx
   have hly := (List.getElem?_eq_some_iff.1 hy).1
   have hcl2 : cc.length = dn.length + (c2.length + 1) := by rw [hcE]; simp
   refine at_block (at_seq (at_region (r_fieldAddr 3 0 1 rfl rfl rfl rfl rfl ti80 rfl rfl (r_load 3 1 [_] rfl rfl rfl rfl ti78 rfl rfl rfl rfl (r_move rfl rfl rfl ?_)))))
   refine r_lookup (v := .int .i64 i) 2 u78 u3 zz3 rfl rfl rfl rfl rfl (mapI_simple _) ((mg_mapI0 _ _).trans (congrArg (Value.int .i64) hi)) rfl ?_
   refine r_assign rfl rfl rfl (run_nil (at_tn (at_seq ?_)))
   refine at_drawnEM (X := (OR (dn.length + 1) 1 × Nat)) (l' := [⟨_,_,_,_,_,_⟩, ⟨_,_,_,_,_,_⟩, ⟨_,_,_,_,_,_⟩, ⟨_,_,_,_,_,_⟩]) (fun ⟨r, gz⟩ => [(6, .pointer (some ⟨g0, 0, none⟩)), (7, .pointer (some ⟨g1, 0, none⟩)), (9, .int .i64 z), (10, slv r.b 0 (dn.length + 1) r.cap), (11, .int .i64 y.f)]) (fun ⟨r, gz⟩ => [⟨some gb, 49, pre ++ XLc l, N, false⟩, ⟨some g0, 76, [.slice (some ⟨gb, pre.length, none⟩) l.length cap, zp.v, .int .i64 ((compL l d).length : Nat)], 3, true⟩, ⟨some zf.2, mI (mapI (fromA l d).2.1), [], 0, true⟩, ⟨some g1, 80, [.map (some zf.1), .map (some zf.2)], 2, true⟩, ⟨r.b, 3, ILc dn ++ [.int .i64 i], r.n, true⟩, ⟨some gz, 3, [.int .i64 i], 1, true⟩]) [0, 1, 4, 6] 8 mixed (by kernel_rfl) rfl ?_ ?_
   ·
    refine r_move rfl rfl rfl (r_move rfl rfl rfl (r_fieldAddrG 0 0 rfl rfl rfl ti76 rfl rfl (r_move rfl rfl rfl (run_nil ?_))))
    repeat' first
     | exact ⟨(r, g2), rfl, ⟨rfl, rfl, rfl, rfl, rfl, trivial⟩, List.Perm.refl _⟩
     | refine run_nil ?_
     | refine r_assign rfl rfl rfl ?_
     | refine r_load (v := .int .i64 y.f) 0 (pre.length + (i.toNat * 5 + 0)) _ rfl rfl rfl rfl ti3 (pre_get (XLc_f hy) rfl) rfl (by decide) rfl ?_
     | refine r_fieldAddr 0 (pre.length + i.toNat * 5) 0 rfl rfl rfl rfl rfl ti49 rfl rfl ?_
     | refine q_appendO (s := 1) (len := dn.length) (n2 := 1) 4 5 [.int .i64 i] (fun r => [_, _, _, _, ⟨r.b, 3, ILc dn ++ [.int .i64 i], r.n, true⟩, _]) u33 el3 rfl rfl rfl rfl rfl rfl rfl rfl rfl rfl (by rw [ILc_length]; omega) h1 (by show oc * 1 ≤ oN; omega) (.inr ⟨_, rfl⟩) rfl rfl (Go.Via.one_cell _ _) (by omega) (fun _ => rfl) (fun r => ?_)
     | refine r_indexAddr 0 (pre.length + i.toNat * 5) u22 ti49 rfl rfl rfl rfl rfl (by omega) (by omega) (pre_ne (XLc_ne (by omega))) (by show pre.length + Int.toNat _ * 5 = _; omega) ?_
     | refine r_buildSlice [(0, _)] (fun g => [_, _, _, _, _, ⟨some g, 3, _, 1, true⟩]) rfl rfl rfl (bs33_1) rfl (fun _ => rfl) (fun g2 => ?_)
     | refine r_load 1 0 [_] rfl rfl rfl rfl ti22 rfl rfl rfl rfl ?_
     | refine tr_nil (by decide +kernel) ?_
     | refine t_node [11] (by decide +kernel) rfl ⟨⟨_, rfl, ?_⟩, trivial⟩
     | refine t_node [9] (by decide +kernel) rfl ⟨⟨_, rfl, ?_⟩, trivial⟩
     | refine t_node [10] (by decide +kernel) rfl ⟨⟨_, rfl, ?_⟩, trivial⟩
     | refine t_node [9, 10] (by decide +kernel) rfl ⟨⟨_, rfl, ?_⟩, ⟨_, rfl, ?_⟩, trivial⟩
     | refine t_node [8] (by decide +kernel) rfl ⟨⟨_, rfl, ?_⟩, trivial⟩
     | refine t_node [8, 10] (by decide +kernel) rfl ⟨⟨_, rfl, ?_⟩, ⟨_, rfl, ?_⟩, trivial⟩
     | refine t_node [3] (by decide +kernel) rfl ⟨⟨_, rfl, ?_⟩, trivial⟩
     | refine t_node [7] (by decide +kernel) rfl ⟨⟨_, rfl, ?_⟩, trivial⟩
     | refine t_node [3, 9] (by decide +kernel) rfl ⟨⟨_, rfl, ?_⟩, ⟨_, rfl, ?_⟩, trivial⟩
     | refine t_node [7, 10] (by decide +kernel) rfl ⟨⟨_, rfl, ?_⟩, ⟨_, rfl, ?_⟩, trivial⟩
     | refine t_node [3, 8] (by decide +kernel) rfl ⟨⟨_, rfl, ?_⟩, ⟨_, rfl, ?_⟩, trivial⟩
     | refine t_node [3, 7] (by decide +kernel) rfl ⟨⟨_, rfl, ?_⟩, ⟨_, rfl, ?_⟩, trivial⟩
     | refine t_node [2, 5] (by decide +kernel) rfl ⟨⟨_, rfl, ?_⟩, ⟨_, rfl, ?_⟩, trivial⟩
     | refine t_node [3, 5] (by decide +kernel) rfl ⟨⟨_, rfl, ?_⟩, ⟨_, rfl, ?_⟩, trivial⟩
     | refine t_node [5, 10] (by decide +kernel) rfl ⟨⟨_, rfl, ?_⟩, ⟨_, rfl, ?_⟩, trivial⟩
     | refine t_node [5] (by decide +kernel) rfl ⟨⟨_, rfl, ?_⟩, trivial⟩
     | refine t_node [2, 7] (by decide +kernel) rfl ⟨⟨_, rfl, ?_⟩, ⟨_, rfl, ?_⟩, trivial⟩
     | refine t_node [2, 8] (by decide +kernel) rfl ⟨⟨_, rfl, ?_⟩, ⟨_, rfl, ?_⟩, trivial⟩
     | refine t_node [2, 9] (by decide +kernel) rfl ⟨⟨_, rfl, ?_⟩, ⟨_, rfl, ?_⟩, trivial⟩
     | refine t_node [2] (by decide +kernel) rfl ⟨⟨_, rfl, ?_⟩, trivial⟩
   rintro ⟨r, gz⟩
   show At _ ⟨68, [(6, .pointer (some ⟨g0, 0, none⟩)), (7, .pointer (some ⟨g1, 0, none⟩)), (9, .int .i64 z), (10, slv r.b 0 (dn.length + 1) r.cap), (11, .int .i64 y.f)], [⟨some gb, 49, pre ++ XLc l, N, false⟩, ⟨some g0, 76, [.slice (some ⟨gb, pre.length, none⟩) l.length cap, zp.v, .int .i64 ((compL l d).length : Nat)], 3, true⟩, ⟨some zf.2, mI (mapI (fromA l d).2.1), [], 0, true⟩, ⟨some g1, 80, [.map (some zf.1), .map (some zf.2)], 2, true⟩, ⟨r.b, 3, ILc dn ++ [.int .i64 i], r.n, true⟩, ⟨some gz, 3, [.int .i64 i], 1, true⟩]⟩ _
   refine at_tn (at_seq (at_region (r_move rfl rfl rfl (r_move rfl rfl rfl (r_cmpInt rfl rfl rfl rfl rfl (run_nil (at_tn ?_)))))))
   refine at_cond rfl (fun hb4 => ?_) (fun hb4 => ?_)
   ·
    have hend : y.f = z := eq_of_beq hb4
    have hc0 := hP2.done hend
    subst hc0
    subst hcE
    refine at_exit (at_bne rfl (at_te (at_be (at_tn (at_seq ?_)))))
    refine at_know 10 (slv r.b 0 (dn ++ [i]).length r.cap) rfl (by rw [List.length_append]; rfl) ?_
    refine at_weak [⟨r.b, 3, ILc (dn ++ [i]), r.n, true⟩] (weak_picks [some 4] ⟨⟨_, rfl, le_same (congrArg (fun c => (⟨r.b, 3, c, r.n, true⟩ : Blk)) (ILc_snoc _ _).symm)⟩, trivial⟩ rfl rfl) ?_
    refine at_regionM (r_move rfl rfl rfl ?_)
    refine r_mcall [_] 0 [⟨r.b, 3, ILc (dn ++ [i]).reverse, r.n, true⟩] rfl rfl rfl rfl (c_reverse (dn ++ [i]) r.b r.n r.cap hcn) rfl rfl ?_
    refine run_nil (at_tn (at_seq (at_region (r_move rfl rfl rfl (r_assign rfl rfl rfl (r_assign rfl rfl rfl (run_nil (at_tn (at_ret ?_)))))))))
    refine at_end2 rfl (res_tmp rfl) (res_tmp rfl) (fun w hL => ⟨⟨(dn ++ [i]).reverse, r.b, r.n, r.cap, by rw [List.length_reverse, List.length_append]; exact r.h, fun h => (by rw [hbad] at h; cases h), fun _ => hQc⟩, ?_, hL.picks [some 0] ⟨⟨_, rfl, Blk.le_refl _⟩, trivial⟩ rfl rfl⟩)
    exact (congrArg (fun m => Ending.returned (.tuple #[slv r.b 0 m r.cap, .bool true])) List.length_reverse.symm).trans (congrArg (fun b => Ending.returned (.tuple #[slv r.b 0 (dn ++ [i]).reverse.length r.cap, .bool b])) hbad.symm)
   ·
    have hend : y.f ≠ z := ne_of_beq_false hb4
    refine at_skip (at_bn (at_tn ?_))
    exact nextL ⟨(y.f, dn ++ [i], c2, r.b, r.n, r.cap), by show _ ≤ r.cap; rw [List.length_append]; exact r.h, by have := r.hn; show r.cap ≤ r.n; omega, by rw [hcE]; simp, hP2.step hend⟩ (by simp) ⟨rfl, rfl, rfl, (look_val rfl (by rw [List.length_append]; rfl)), rfl, trivial⟩ (weak_picks [some 0, some 1, some 2, some 3, some 4] ⟨⟨_, rfl, Blk.le_refl _⟩, ⟨_, rfl, Blk.le_refl _⟩, ⟨_, rfl, Blk.le_refl _⟩, ⟨_, rfl, Blk.le_refl _⟩, ⟨_, rfl, le_same (congrArg (fun c => (⟨r.b, 3, c, r.n, true⟩ : Blk)) (ILc_snoc _ _).symm)⟩, trivial⟩ rfl rfl)
end Go.Proofs.YtncogghlhlnmaaaGreatDoor
set_option linter.unusedVariables false
namespace Go.Proofs.YtncogghlhlnmaaaGreatDoor
open Go Go.RowKit Go.Via
set_option maxRecDepth 20000 in
theorem c_clock_Devices (l : List Ex) (a : Option Addr) (b : Option Nat) (pre : List Value) (N cap : Nat) (hc : l.length ≤ cap) (ha : l ≠ [] → a = b.map fun g => ⟨g, pre.length, none⟩) (hok : ∀ x ∈ l, okX x) (hn : l.length ≤ 100000) : SCall Tryz.prog 25 [⟨b, 49, pre ++ XLc l, N, false⟩] [.slice a l.length cap] (SR (devL l).length) (fun x => x.v) (fun x => [⟨x.b, 3, ILc (devL l), x.n, true⟩]) := by
 refine ⟨by kernel_rfl, fun w hL0 => ?_⟩
 refine calls_at (args := [.slice a l.length cap]) Tryz.func25 rfl (Nat.le_of_ble_eq_true rfl) hL0 ?_
 show At w ⟨23, [(0, .slice a l.length cap)], [⟨b, 49, pre ++ XLc l, N, false⟩]⟩ _
 refine at_seq ?_
 refine at_base 0 rfl (fun hbase => ?_)
 refine at_region (r_assign rfl rfl rfl (run_nil (at_tn (at_seq (at_region ?_)))))
 refine r_makeMap (fun g => [_, ⟨some g, mI [], [], 0, true⟩]) rfl rfl (fun _ => rfl) (fun g0 => ?_)
 refine r_assign rfl rfl rfl (run_nil (at_tn (at_seq (at_seq (at_region (r_move rfl rfl rfl (r_lenV u22 rfl rfl rfl (r_move rfl rfl rfl (run_nil (at_tn (at_block ?_)))))))))))
 refine enterL (nt := 23) (ι := {i : Nat // i ≤ l.length}) (fun ⟨i, hi⟩ => [(0, .slice a l.length cap), (3, .map (some g0)), (7, .slice a l.length cap), (8, .int .i64 (l.length : Nat)), (9, .int .i64 (i : Nat))]) (fun ⟨i, hi⟩ => [⟨b, 49, pre ++ XLc l, N, false⟩, ⟨some g0, mI (setM (devK (l.take i))), [], 0, true⟩]) (fun ⟨i, hi⟩ => l.length - i) ⟨0, Nat.zero_le _⟩ ⟨rfl, rfl, rfl, rfl, rfl, trivial⟩ (Weak.refl _) ?_
 rintro ⟨i, hi⟩
 show At _ ⟨23, [(0, .slice a l.length cap), (3, .map (some g0)), (7, .slice a l.length cap), (8, .int .i64 (l.length : Nat)), (9, .int .i64 (i : Nat))], [⟨b, 49, pre ++ XLc l, N, false⟩, ⟨some g0, mI (setM (devK (l.take i))), [], 0, true⟩]⟩ _
 refine at_seq (at_region (r_cmpInt rfl rfl rfl rfl rfl (run_nil (at_tn (at_seq ?_)))))
 refine at_cond rfl (fun hb1 => ?_) (fun hb1 => ?_)
 ·
  have hlt : i < l.length := (by have := of_decide_eq_true hb1; omega)
  obtain ⟨x, hx⟩ : ∃ x, l[i]? = some x := ⟨l[i], List.getElem?_eq_getElem hlt⟩
  have hokx := hok x (List.mem_of_getElem? hx)
  obtain ⟨gb, hgb⟩ := ex_base hbase (by omega)
  replace hgb : b = some gb := hgb
  subst hgb
  obtain rfl : a = some ⟨gb, pre.length, none⟩ := ha (fun e => by rw [e] at hlt; cases hlt)
  refine at_skip (at_tn (at_seq (at_block (at_seq (at_region ?_)))))
  refine r_indexAddr 0 (pre.length + i * 5) u22 ti49 rfl rfl rfl rfl rfl (by omega) (by omega) (pre_ne (XLc_ne (by omega))) (by show pre.length + Int.toNat _ * 5 = _; omega) ?_
  refine r_load (v := ExV x) 0 (pre.length + i * 5) _ rfl rfl rfl rfl ti49 (pre_get (XLc_get hx) rfl) rfl (by decide) rfl ?_
  refine r_alloc [_, _, _, _, _] 5 (fun g => [_, _, ⟨some g, 49, _, 5, true⟩]) rfl rfl z49 rfl rfl (fun _ => rfl) (fun g1 => ?_)
  refine r_store rfl 2 0 [_, _, ⟨some g1, 49, _, 5, true⟩] [_, _, _, _, _] rfl rfl rfl rfl ti49 rfl rfl rfl rfl rfl ?_
  refine run_nil (at_tn ?_)
  refine at_drawn (l' := [⟨_,_,_,_,_,_⟩, ⟨_,_,_,_,_,_⟩, ⟨_,_,_,_,_,_⟩, ⟨_,_,_,_,_,_⟩, ⟨_,_,_,_,_,_⟩, ⟨_,_,_,_,_,_⟩, ⟨_,_,_,_,_,_⟩, ⟨_,_,_,_,_,_⟩]) [1] [0, 1, 2, 3, 4, 5, 6, 7] mixed (by kernel_rfl) rfl (by kernel_rfl) ?_
  refine r_move rfl rfl rfl (r_fieldAddr 2 0 0 rfl rfl rfl rfl rfl ti49 rfl rfl (r_load 2 0 [_] rfl rfl rfl rfl ti3 rfl rfl rfl rfl (r_move rfl rfl rfl (r_fieldAddr 2 0 1 rfl rfl rfl rfl rfl ti49 rfl rfl (r_load 2 1 [_] rfl rfl rfl rfl ti3 rfl rfl rfl rfl ?_)))))
  refine r_mapUpdate 1 [_, ⟨some g0, mI (setM (ins (devK (l.take i)) x.f)), [], 0, true⟩, _] u88 u3 rfl rfl rfl rfl rfl (setM_simple _) rfl (by rw [mu_setM]; rfl) rfl ?_
  refine r_mapUpdate 1 [_, ⟨some g0, mI (setM (ins (ins (devK (l.take i)) x.f) x.t)), [], 0, true⟩, _] u88 u3 rfl rfl rfl rfl rfl (setM_simple _) rfl (by rw [mu_setM]; rfl) rfl ?_
  refine run_nil (at_bn (at_tn (at_region ?_)))
  refine r_arith (r := ((i + 1 : Nat) : Int)) rfl rfl rfl rfl (congrArg some (wi (by omega) (by omega) (by omega))) ?_
  refine r_move rfl rfl rfl (run_nil (at_tn ?_))
  exact nextL ⟨i + 1, hlt⟩ (by simp only []; omega) ⟨rfl, rfl, rfl, rfl, rfl, trivial⟩ (weak_picks [some 0, some 1] ⟨⟨_, rfl, Blk.le_refl _⟩, ⟨_, rfl, le_same (by rw [devK_step hx])⟩, trivial⟩ rfl rfl)
 ·
  have hge : i = l.length := (by have := of_decide_eq_false hb1; omega)
  subst hge
  refine at_exit (at_te (at_te (at_be (at_tn (at_seq (at_region (r_move rfl rfl rfl ?_)))))))
  refine r_scall [_] [] rfl rfl rfl (c_keys (some g0)) trivial rfl (.inr fun z b hb => by rw [List.mem_singleton.1 hb]) (fun gk => ?_)
  refine r_scall [_] [2, 1] rfl rfl rfl (c_sortedM gk g0 (setM (devK (l.take l.length))) (m := devL l) (by rw [setM_keys, List.take_length]; exact devK_sort l) (setM_simple _) (by rw [List.take_length]; exact devK_in hok) (by rw [List.take_length]; have := devK_len l; simp [setM]; omega)) ⟨⟨_, rfl, le_share⟩, ⟨_, rfl, le_share⟩, trivial⟩ rfl (.inr fun z b hb => by rw [List.mem_singleton.1 hb]) (fun z => ?_)
  refine r_assign rfl rfl rfl (run_nil (at_tn (at_ret ?_)))
  refine at_end1 rfl (res_tmp rfl) (fun w hL => ⟨z, ?_, hL.picks [some 3] ⟨⟨_, rfl, Blk.le_refl _⟩, trivial⟩ rfl rfl⟩)
  exact rfl
end Go.Proofs.YtncogghlhlnmaaaGreatDoor
set_option linter.unusedVariables false
namespace Go.Proofs.YtncogghlhlnmaaaGreatDoor
open Go Go.RowKit Go.Via
set_option maxRecDepth 20000 in
set_option maxHeartbeats 8000000 in
theorem c_clock_Chains (l : List Ex) (a : Option Addr) (b : Option Nat) (pre : List Value) (N cap : Nat) (hc : l.length ≤ cap) (ha : l ≠ [] → a = b.map fun g => ⟨g, pre.length, none⟩) (hok : ∀ x ∈ l, okX x) (hn : l.length ≤ 1000) (d : Int) (hd : inI64 d) (hK : ∀ e, 0 ≤ e → e ≤ 1073741824 → CycOK l e (fun _ => True)) (Q : List Int → List Int → Prop) (hQ : ChOK l d Q) : SCall Tryz.prog 16 [⟨b, 49, pre ++ XLc l, N, false⟩] [.slice a l.length cap, .int .i64 d] (ChR l d Q) (fun x => .tuple #[slv x.ub 0 x.u.length x.uc, slv x.vb 0 x.v.length x.vc, .int .i64 (chE l d)]) (fun x => [⟨x.ub, 3, ILc x.u, x.un, true⟩, ⟨x.vb, 3, ILc x.v, x.vn, true⟩]) := by
 refine ⟨by kernel_rfl, fun w hL0 => ?_⟩
 refine calls_at (args := [.slice a l.length cap, .int .i64 d]) Tryz.func16 rfl (Nat.le_of_ble_eq_true rfl) hL0 ?_
 show At w ⟨89, [(0, .slice a l.length cap), (1, .int .i64 d)], [⟨b, 49, pre ++ XLc l, N, false⟩]⟩ _
 refine at_seq (at_region (r_assign rfl rfl rfl (r_assign rfl rfl rfl (r_assign rfl rfl rfl (run_nil (at_tn (at_seq (at_seq (at_region (r_move rfl rfl rfl (r_cmpInt rfl rfl rfl rfl rfl (r_move rfl rfl rfl ?_))))))))))))
 refine r_split 22 rfl (fun hb0 => ?_) (fun hb0 => ?_)
 ·
  have h22 : d < 0 := of_decide_eq_true hb0
  have hE := chE_1 (l := l) (.inl h22)
  have hgo : ¬ goA l d := fun g => g.1 (.inl h22)
  refine r_no rfl rfl rfl (r_no rfl rfl rfl (r_pickT rfl rfl rfl rfl (run_nil (at_tn (at_condT rfl (at_seq (at_region (r_assign rfl rfl rfl (r_assign rfl rfl rfl (r_assign rfl rfl rfl (run_nil (at_tn (at_ret (at_tr ?_))))))))))))))
  refine at_end3 rfl (res_tmp rfl) (res_tmp rfl) (res_tmp rfl) (fun w hL => ⟨.none hgo, ?_, hL.picks [none, none] ⟨⟨rfl, rfl, rfl⟩, ⟨rfl, rfl, rfl⟩, trivial⟩ rfl rfl⟩)
  exact congrArg (fun e => Ending.returned (.tuple #[slv none 0 0 0, slv none 0 0 0, .int .i64 e])) hE.symm
 ·
  have h22 : ¬ d < 0 := of_decide_eq_false hb0
  refine r_move rfl rfl rfl (r_cmpInt rfl rfl rfl rfl rfl (r_pickF rfl rfl rfl rfl (run_nil (at_tn ?_))))
  refine at_cond rfl (fun hb1 => ?_) (fun hb1 => ?_)
  ·
   have h25 : 1073741824 < d := of_decide_eq_true hb1
   have hE := chE_1 (l := l) (.inr h25)
   have hgo : ¬ goA l d := fun g => g.1 (.inr h25)
   refine at_seq (at_region (r_assign rfl rfl rfl (r_assign rfl rfl rfl (r_assign rfl rfl rfl (run_nil (at_tn (at_ret (at_tr ?_))))))))
   refine at_end3 rfl (res_tmp rfl) (res_tmp rfl) (res_tmp rfl) (fun w hL => ⟨.none hgo, ?_, hL.picks [none, none] ⟨⟨rfl, rfl, rfl⟩, ⟨rfl, rfl, rfl⟩, trivial⟩ rfl rfl⟩)
   exact congrArg (fun e => Ending.returned (.tuple #[slv none 0 0 0, slv none 0 0 0, .int .i64 e])) hE.symm
  ·
   have h25 : ¬ 1073741824 < d := of_decide_eq_false hb1
   have hr : ¬ (d < 0 ∨ 1073741824 < d) := by omega
   refine at_skip (at_tn (at_seq (at_seq (at_region (r_move rfl rfl rfl ?_)))))
   refine r_scall [_] [0] rfl rfl rfl (c_clock_Devices l a b pre N cap hc ha hok (by omega)) ⟨⟨_, rfl, Blk.le_refl _⟩, trivial⟩ rfl (.inr fun z b hb => by rw [List.mem_singleton.1 hb]) (fun zd => ?_)
   refine r_move rfl rfl rfl ?_
   refine r_scall0 [_, _] [1] rfl rfl rfl (c_bsearch (devL l) zd.b zd.n zd.cap (by have := devL_len l; omega) (devL_SS l) d) ⟨⟨_, rfl, le_share⟩, trivial⟩ rfl ?_
   refine r_move rfl rfl rfl ?_
   refine r_extract (vs := [_, _]) rfl rfl rfl rfl ?_
   refine r_extract (vs := [_, _]) rfl rfl rfl rfl ?_
   refine r_assign rfl rfl rfl (r_assign rfl rfl rfl (run_nil (at_tn (at_seq (at_region (r_move rfl rfl rfl (r_cmpInt rfl rfl rfl rfl rfl (r_move rfl rfl rfl ?_))))))))
   refine r_split 35 rfl (fun hb2 => ?_) (fun hb2 => ?_)
   ·
    have h35 : d = 0 := eq_of_beq hb2
    have hE := chE_2 (l := l) hr (.inl h35)
    have hgo : ¬ goA l d := fun g => g.2.1 (.inl h35)
    refine r_no rfl rfl rfl (r_no rfl rfl rfl (r_pickT rfl rfl rfl rfl (run_nil (at_tn (at_condT rfl (at_seq (at_region (r_assign rfl rfl rfl (r_assign rfl rfl rfl (r_assign rfl rfl rfl (run_nil (at_tn (at_ret (at_tr ?_))))))))))))))
    refine at_end3 rfl (res_tmp rfl) (res_tmp rfl) (res_tmp rfl) (fun w hL => ⟨.none hgo, ?_, hL.picks [none, none] ⟨⟨rfl, rfl, rfl⟩, ⟨rfl, rfl, rfl⟩, trivial⟩ rfl rfl⟩)
    exact congrArg (fun e => Ending.returned (.tuple #[slv none 0 0 0, slv none 0 0 0, .int .i64 e])) hE.symm
   ·
    have h35 : d ≠ 0 := ne_of_beq_false hb2
    refine r_move rfl rfl rfl (r_not rfl rfl rfl (r_pickF rfl rfl rfl rfl (run_nil (at_tn ?_))))
    refine at_cond rfl (fun hb3 => ?_) (fun hb3 => ?_)
    ·
     have h38 : (devL l).contains d = false := by simpa using hb3
     have hE := chE_2 (l := l) hr (.inr h38)
     have hgo : ¬ goA l d := fun g => g.2.1 (.inr h38)
     refine at_seq (at_region (r_assign rfl rfl rfl (r_assign rfl rfl rfl (r_assign rfl rfl rfl (run_nil (at_tn (at_ret (at_tr ?_))))))))
     refine at_end3 rfl (res_tmp rfl) (res_tmp rfl) (res_tmp rfl) (fun w hL => ⟨.none hgo, ?_, hL.picks [none, none] ⟨⟨rfl, rfl, rfl⟩, ⟨rfl, rfl, rfl⟩, trivial⟩ rfl rfl⟩)
     exact congrArg (fun e => Ending.returned (.tuple #[slv none 0 0 0, slv none 0 0 0, .int .i64 e])) hE.symm
    ·
     have h38 : (devL l).contains d = true := by simpa using hb3
     have hz : ¬ (d = 0 ∨ (devL l).contains d = false) := fun h => by rcases h with h | h; exact h35 h; rw [h38] at h; cases h
     refine at_skip (at_tn (at_seq (at_seq (at_region (r_move rfl rfl rfl (r_move rfl rfl rfl ?_))))))
     refine r_scall [_, _] [0] rfl rfl rfl (c_clock_Cycle l a b pre N cap hc ha hok hn d hd (fun _ => True) (hK d (by omega) (by omega))) ⟨⟨_, rfl, Blk.le_refl _⟩, trivial⟩ rfl (.inr fun zz b hb => by rw [List.mem_singleton.1 hb]) (fun zy => ?_)
     refine r_move rfl rfl rfl ?_
     refine r_extract (vs := [_, _]) rfl rfl rfl rfl ?_
     refine r_extract (vs := [_, _]) rfl rfl rfl rfl ?_
     refine r_assign rfl rfl rfl (r_assign rfl rfl rfl (run_nil (at_tn (at_seq (at_region (r_move rfl rfl rfl (run_nil (at_tn ?_))))))))
     refine at_cond rfl (fun hb4 => ?_) (fun hb4 => ?_)
     ·
      have h45 : badA l d = true := hb4
      have hE := chE_3 hr hz h45
      have hgo : ¬ goA l d := fun g => by rw [g.2.2.1] at h45; cases h45
      refine at_seq (at_region (r_assign rfl rfl rfl (r_assign rfl rfl rfl (r_assign rfl rfl rfl (run_nil (at_tn (at_ret (at_tr ?_))))))))
      refine at_end3 rfl (res_tmp rfl) (res_tmp rfl) (res_tmp rfl) (fun w hL => ⟨.none hgo, ?_, hL.picks [none, none] ⟨⟨rfl, rfl, rfl⟩, ⟨rfl, rfl, rfl⟩, trivial⟩ rfl rfl⟩)
      exact congrArg (fun e => Ending.returned (.tuple #[slv none 0 0 0, slv none 0 0 0, .int .i64 e])) hE.symm
     ·
      have h45 : badA l d = false := hb4
      refine at_skip (at_tn (at_seq (at_region (r_move rfl rfl rfl (r_move rfl rfl rfl ?_)))))
      refine r_scall [_, _] [0] rfl rfl rfl (c_clock_part l a b pre N cap hc ha hok (by omega) d hd) ⟨⟨_, rfl, Blk.le_refl _⟩, trivial⟩ rfl (.inr fun z b hb => by rw [List.mem_singleton.1 hb]) (fun zp => ?_)
      refine r_alloc [_, _, _] 3 (fun g => [_, _, _, _, ⟨some g, 76, _, 3, true⟩]) rfl rfl z76 rfl rfl (fun _ => rfl) (fun g0 => ?_)
      refine r_store rfl 4 0 [_, _, _, _, ⟨some g0, 76, _, 3, true⟩] [_, _, _] rfl rfl rfl rfl ti76 rfl rfl rfl rfl rfl ?_
      refine run_nil (at_tn (at_seq (at_region (r_load 4 0 [_, _, _] rfl rfl rfl rfl ti76 rfl rfl rfl rfl ?_))))
      refine r_buildSlice [(0, _)] (fun g => [_, _, _, _, _, ⟨some g, 3, _, 1, true⟩]) rfl rfl rfl (bs33_1) rfl (fun _ => rfl) (fun g1 => ?_)
      refine r_scall [_, _] [0, 3, 5] rfl rfl rfl (c_graph_from l a b pre N cap hc ha hok hn (partA l d) zp.b zp.n zp.cap zp.h (Nat.le_trans (partA_len l d) hn) (fun k hk => partA_mem hk) (compL l d).length (by have := compL_len l d; omega) [0] (some g1) 1 1 (Nat.le_refl _) (Nat.le_of_ble_eq_true rfl)) ⟨⟨_, rfl, Blk.le_refl _⟩, ⟨_, rfl, le_share⟩, ⟨_, rfl, le_share⟩, trivial⟩ rfl (.inr fun z b hb => by rcases List.mem_cons.1 hb with h | h; rw [h]; rw [List.mem_singleton.1 h]) (fun zf0 => ?_)
      refine r_move rfl rfl rfl ?_
      refine r_extract (vs := [_, _]) rfl rfl rfl rfl ?_
      refine r_extract (vs := [_, _]) rfl rfl rfl rfl ?_
      refine r_alloc [_, _] 2 (fun g => [_, _, _, _, _, _, _, _, ⟨some g, 80, _, 2, true⟩]) rfl rfl z80 rfl rfl (fun _ => rfl) (fun g2 => ?_)
      refine r_store rfl 8 0 [_, _, _, _, _, _, _, _, ⟨some g2, 80, _, 2, true⟩] [_, _] rfl rfl rfl rfl ti80 rfl rfl rfl rfl rfl ?_
      refine r_assign rfl rfl rfl (run_nil (at_tn (at_seq (at_region (r_load 4 0 [_, _, _] rfl rfl rfl rfl ti76 rfl rfl rfl rfl (r_move rfl rfl rfl ?_))))))
      refine r_buildSlice [(0, _)] (fun g => [_, _, _, _, _, _, _, _, _, ⟨some g, 3, _, 1, true⟩]) rfl rfl rfl (bs33_1) rfl (fun _ => rfl) (fun g3 => ?_)
      refine r_scall [_, _] [0, 3, 9] rfl rfl rfl (c_graph_from l a b pre N cap hc ha hok hn (partA l d) zp.b zp.n zp.cap zp.h (Nat.le_trans (partA_len l d) hn) (fun k hk => partA_mem hk) (compL l d).length (by have := compL_len l d; omega) [d] (some g3) 1 1 (Nat.le_refl _) (Nat.le_of_ble_eq_true rfl)) ⟨⟨_, rfl, Blk.le_refl _⟩, ⟨_, rfl, le_share⟩, ⟨_, rfl, le_share⟩, trivial⟩ rfl (.inr fun z b hb => by rcases List.mem_cons.1 hb with h | h; rw [h]; rw [List.mem_singleton.1 h]) (fun zf1 => ?_)
      refine r_move rfl rfl rfl ?_
      refine r_extract (vs := [_, _]) rfl rfl rfl rfl ?_
      refine r_extract (vs := [_, _]) rfl rfl rfl rfl ?_
      refine r_alloc [_, _] 2 (fun g => [_, _, _, _, _, _, _, _, _, _, _, _, ⟨some g, 80, _, 2, true⟩]) rfl rfl z80 rfl rfl (fun _ => rfl) (fun g4 => ?_)
      refine r_store rfl 12 0 [_, _, _, _, _, _, _, _, _, _, _, _, ⟨some g4, 80, _, 2, true⟩] [_, _] rfl rfl rfl rfl ti80 rfl rfl rfl rfl rfl ?_
      refine r_assign rfl rfl rfl (run_nil (at_tn (at_seq (at_region (r_fieldAddr 8 0 0 rfl rfl rfl rfl rfl ti80 rfl rfl (r_load 8 0 [_] rfl rfl rfl rfl ti78 rfl rfl rfl rfl (r_move rfl rfl rfl ?_)))))))
      refine r_lookupOk (v := .int .i64 ((sget (toA l d 0).1 d).getD 0)) (ok := (sget (toA l d 0).1 d).isSome) 6 u78 u3 zz3 rfl rfl rfl rfl rfl (mapI_simple _) (mg_mapI0 _ _) (mg_mapIok _ _) rfl ?_
      refine r_move rfl rfl rfl ?_
      refine r_extract (vs := [_, _]) rfl rfl rfl rfl ?_
      refine r_extract (vs := [_, _]) rfl rfl rfl rfl ?_
      refine r_assign rfl rfl rfl (r_assign rfl rfl rfl (run_nil (at_tn (at_seq (at_region (r_fieldAddr 12 0 0 rfl rfl rfl rfl rfl ti80 rfl rfl (r_load 12 0 [_] rfl rfl rfl rfl ti78 rfl rfl rfl rfl ?_)))))))
      refine r_lookupOk (v := .int .i64 ((sget (toA l d d).1 0).getD 0)) (ok := (sget (toA l d d).1 0).isSome) 10 u78 u3 zz3 rfl rfl rfl rfl rfl (mapI_simple _) (mg_mapI0 _ _) (mg_mapIok _ _) rfl ?_
      refine r_move rfl rfl rfl ?_
      refine r_extract (vs := [_, _]) rfl rfl rfl rfl ?_
      refine r_extract (vs := [_, _]) rfl rfl rfl rfl ?_
      refine r_assign rfl rfl rfl (r_assign rfl rfl rfl (run_nil (at_tn (at_seq (at_seq (at_region (r_move rfl rfl rfl (r_not rfl rfl rfl (r_move rfl rfl rfl ?_)))))))))
      refine r_split 77 rfl (fun hb5 => ?_) (fun hb5 => ?_)
      ·
       have h77 : reachA l d = false := by simpa [reachA] using hb5
       have hnr : ¬ (reachA l d = true ∧ retA l d = true) := fun h => by rw [h77] at h; cases h.1
       have hE := chE_4 hr hz h45 hnr
       have hgo : ¬ goA l d := fun g => hnr g.2.2.2
       refine r_no rfl rfl rfl (r_no rfl rfl rfl (r_pickT rfl rfl rfl rfl (run_nil (at_tn (at_condT rfl (at_seq (at_region (r_assign rfl rfl rfl (r_assign rfl rfl rfl (r_assign rfl rfl rfl (run_nil (at_tn (at_ret (at_tr ?_))))))))))))))
       refine at_end3 rfl (res_tmp rfl) (res_tmp rfl) (res_tmp rfl) (fun w hL => ⟨.none hgo, ?_, hL.picks [none, none] ⟨⟨rfl, rfl, rfl⟩, ⟨rfl, rfl, rfl⟩, trivial⟩ rfl rfl⟩)
       exact congrArg (fun e => Ending.returned (.tuple #[slv none 0 0 0, slv none 0 0 0, .int .i64 e])) hE.symm
      ·
       have h77 : reachA l d = true := by simpa [reachA] using hb5
       refine r_move rfl rfl rfl (r_not rfl rfl rfl (r_pickF rfl rfl rfl rfl (run_nil (at_tn ?_))))
       refine at_cond rfl (fun hb6 => ?_) (fun hb6 => ?_)
       ·
        have h80 : retA l d = false := by simpa [retA] using hb6
        have hnr : ¬ (reachA l d = true ∧ retA l d = true) := fun h => by rw [h80] at h; cases h.2
        have hE := chE_4 hr hz h45 hnr
        have hgo : ¬ goA l d := fun g => hnr g.2.2.2
        refine at_seq (at_region (r_assign rfl rfl rfl (r_assign rfl rfl rfl (r_assign rfl rfl rfl (run_nil (at_tn (at_ret (at_tr ?_))))))))
        refine at_end3 rfl (res_tmp rfl) (res_tmp rfl) (res_tmp rfl) (fun w hL => ⟨.none hgo, ?_, hL.picks [none, none] ⟨⟨rfl, rfl, rfl⟩, ⟨rfl, rfl, rfl⟩, trivial⟩ rfl rfl⟩)
        exact congrArg (fun e => Ending.returned (.tuple #[slv none 0 0 0, slv none 0 0 0, .int .i64 e])) hE.symm
       ·
        have h80 : retA l d = true := by simpa [retA] using hb6
        have hgo : goA l d := ⟨hr, hz, h45, h77, h80⟩
        have hE := chE_5 hgo
        obtain ⟨c1, c2, hp1, hp2, hl1, hl2, hq⟩ := hQ hgo
        refine at_skip (at_tn (at_seq ?_))
        refine at_drawn (l' := [⟨_,_,_,_,_,_⟩, ⟨_,_,_,_,_,_⟩, ⟨_,_,_,_,_,_⟩, ⟨_,_,_,_,_,_⟩, ⟨_,_,_,_,_,_⟩, ⟨_,_,_,_,_,_⟩, ⟨_,_,_,_,_,_⟩, ⟨_,_,_,_,_,_⟩, ⟨_,_,_,_,_,_⟩, ⟨_,_,_,_,_,_⟩, ⟨_,_,_,_,_,_⟩]) [] [0, 1, 2, 4, 5, 6, 3, 7, 8, 9, 10] mixed (by kernel_rfl) rfl (by kernel_rfl) ?_
        refine r_load 4 0 [_, _, _] rfl rfl rfl rfl ti76 rfl rfl rfl rfl (r_load 8 0 [_, _] rfl rfl rfl rfl ti80 rfl rfl rfl rfl (r_move rfl rfl rfl (r_load 4 0 [_, _, _] rfl rfl rfl rfl ti76 rfl rfl rfl rfl (r_load 12 0 [_, _] rfl rfl rfl rfl ti80 rfl rfl rfl rfl (r_move rfl rfl rfl ?_)))))
        refine r_scall [_, _, _, _] [0, 7] rfl rfl rfl (c_graph_chain l a b pre N cap hc ha (toA l d 0).2.1 zf0.2 (some zf0.1) _ _ _ _ 0 d c1 hp1 hl1) ⟨⟨_, rfl, Blk.le_refl _⟩, ⟨_, rfl, le_share⟩, trivial⟩ rfl (.inr fun z b hb => by rw [List.mem_singleton.1 hb]) (fun zc0 => ?_)
        refine r_scall [_, _, _, _] [0, 11] rfl rfl rfl (c_graph_chain l a b pre N cap hc ha (toA l d d).2.1 zf1.2 (some zf1.1) _ _ _ _ d 0 c2 hp2 hl2) ⟨⟨_, rfl, Blk.le_refl _⟩, ⟨_, rfl, le_share⟩, trivial⟩ rfl (.inr fun z b hb => by rw [List.mem_singleton.1 hb]) (fun zc1 => ?_)
        refine r_assign rfl rfl rfl (r_assign rfl rfl rfl (r_assign rfl rfl rfl (run_nil (at_tn (at_ret ?_)))))
        refine at_end3 rfl (res_tmp rfl) (res_tmp rfl) (res_tmp rfl) (fun w hL => ⟨⟨c1.reverse, zc0.b, zc0.n, zc0.cap, c2.reverse, zc1.b, zc1.n, zc1.cap, ⟨by simpa using hl1, by simpa using hl2⟩, zc0.h, zc1.h, fun h => absurd hgo h, fun _ => hq⟩, ?_, hL.picks [some 13, some 14] ⟨⟨_, rfl, Blk.le_refl _⟩, ⟨_, rfl, Blk.le_refl _⟩, trivial⟩ rfl rfl⟩)
        exact congrArg (fun e => Ending.returned (.tuple #[slv zc0.b 0 c1.reverse.length zc0.cap, slv zc1.b 0 c2.reverse.length zc1.cap, .int .i64 e])) hE.symm
end Go.Proofs.YtncogghlhlnmaaaGreatDoor
set_option linter.unusedVariables false
namespace Go.Proofs.YtncogghlhlnmaaaGreatDoor
open Go Go.RowKit Go.Via
set_option maxRecDepth 20000 in
theorem c_law_check (l : List Ex) (a : Option Addr) (b : Option Nat) (pre : List Value) (N cap : Nat) (hc : l.length ≤ cap) (ha : l ≠ [] → a = b.map fun g => ⟨g, pre.length, none⟩) : SCall Tryz.prog 26 [⟨b, 49, pre ++ XLc l, N, false⟩] [.slice a l.length cap] Unit (fun _ => .int .i64 (checkL l)) (fun _ => []) := by
 refine ⟨by kernel_rfl, fun w hL0 => ?_⟩
 refine calls_at (args := [.slice a l.length cap]) Tryz.func26 rfl (Nat.le_of_ble_eq_true rfl) hL0 ?_
 show At w ⟨72, [(0, .slice a l.length cap)], [⟨b, 49, pre ++ XLc l, N, false⟩]⟩ _
 refine at_seq (at_region (r_assign rfl rfl rfl (run_nil (at_tn (at_seq (at_seq (at_region (r_move rfl rfl rfl (r_lenV u22 rfl rfl rfl (r_cmpInt rfl rfl rfl rfl rfl (run_nil (at_tn ?_))))))))))))
 refine at_cond rfl (fun hb0 => ?_) (fun hb0 => ?_)
 ·
  have hs7 : 4096 < l.length := (by have := of_decide_eq_true hb0; omega)
  refine at_seq (at_region (r_assign rfl rfl rfl (run_nil (at_tn (at_ret (at_tr ?_))))))
  refine at_end1 rfl (res_tmp rfl) (fun w hL => ⟨(), ?_, hL.picks [] trivial rfl rfl⟩)
  rw [checkL_3 (by omega)]
 ·
  have hs7 : ¬ 4096 < l.length := (by have := of_decide_eq_false hb0; omega)
  refine at_skip (at_tn (at_seq (at_seq (at_region (r_assign rfl rfl rfl (run_nil (at_tn (at_block ?_))))))))
  refine enterL (nt := 72) (ι := {i : Nat // i ≤ l.length ∧ errL l = errL (l.drop i)}) (fun ⟨i, hi, hI⟩ => [(0, .slice a l.length cap), (3, .int .i64 (i : Nat))]) (fun ⟨i, hi, hI⟩ => [⟨b, 49, pre ++ XLc l, N, false⟩]) (fun ⟨i, hi, hI⟩ => l.length - i) ⟨0, Nat.zero_le _, rfl⟩ ⟨rfl, rfl, trivial⟩ (Weak.refl _) ?_
  rintro ⟨i, hi, hI⟩
  show At _ ⟨72, [(0, .slice a l.length cap), (3, .int .i64 (i : Nat))], [⟨b, 49, pre ++ XLc l, N, false⟩]⟩ _
  refine at_seq (at_seq (at_region (r_move rfl rfl rfl (r_move rfl rfl rfl (r_lenV u22 rfl rfl rfl (r_cmpInt rfl rfl rfl rfl rfl (run_nil (at_tn ?_))))))))
  refine at_cond rfl (fun hb2 => ?_) (fun hb2 => ?_)
  ·
   have hlt : i < l.length := (by have := of_decide_eq_true hb2; omega)
   obtain ⟨x, hx⟩ : ∃ x, l[i]? = some x := ⟨l[i], List.getElem?_eq_getElem hlt⟩
   refine at_base 0 rfl (fun hbase => ?_)
   obtain ⟨gb, hgb⟩ := ex_base hbase (by omega)
   replace hgb : b = some gb := hgb
   subst hgb
   obtain rfl : a = some ⟨gb, pre.length, none⟩ := ha (fun e => by rw [e] at hlt; cases hlt)
   refine at_skip (at_tn (at_seq (at_block (at_seq (at_region (r_move rfl rfl rfl (r_move rfl rfl rfl ?_)))))))
   refine r_indexAddr 0 (pre.length + i * 5) u22 ti49 rfl rfl rfl rfl rfl (by omega) (by omega) (pre_ne (XLc_ne (by omega))) (by show pre.length + Int.toNat _ * 5 = _; omega) ?_
   refine r_load (v := ExV x) 0 (pre.length + i * 5) _ rfl rfl rfl rfl ti49 (pre_get (XLc_get hx) rfl) rfl (by decide) rfl ?_
   refine r_alloc [_, _, _, _, _] 5 (fun g => [_, ⟨some g, 49, _, 5, true⟩]) rfl rfl z49 rfl rfl (fun _ => rfl) (fun g0 => ?_)
   refine r_store rfl 1 0 [_, ⟨some g0, 49, _, 5, true⟩] [_, _, _, _, _] rfl rfl rfl rfl ti49 rfl rfl rfl rfl rfl ?_
   refine run_nil (at_tn (at_block (at_seq (at_region (r_fieldAddr 1 0 0 rfl rfl rfl rfl rfl ti49 rfl rfl (r_load 1 0 [_] rfl rfl rfl rfl ti3 rfl rfl rfl rfl (r_cmpInt rfl rfl rfl rfl rfl (r_move rfl rfl rfl ?_))))))))
   refine r_split 22 rfl (fun hb3 => ?_) (fun hb3 => ?_)
   ·
    have hs22 := of_decide_eq_true hb3
    refine r_no rfl rfl rfl (r_no rfl rfl rfl (r_no rfl rfl rfl (r_pickT rfl rfl rfl rfl (r_move rfl rfl rfl (r_no rfl rfl rfl (r_no rfl rfl rfl (r_no rfl rfl rfl (r_pickT rfl rfl rfl rfl (r_move rfl rfl rfl (r_no rfl rfl rfl (r_no rfl rfl rfl (r_no rfl rfl rfl (r_pickT rfl rfl rfl rfl (r_assign rfl rfl rfl (run_nil (at_tn (at_condT rfl (at_seq (at_region (r_assign rfl rfl rfl (run_nil (at_tn (at_ret (at_br (at_br (at_tr (at_tr (at_br (at_tr ?_)))))))))))))))))))))))))))))
    refine at_end1 rfl (res_tmp rfl) (fun w hL => ⟨(), ?_, hL.picks [] trivial rfl rfl⟩)
    have he := err2 (x := x) (by omega)
    rw [checkL_le (by omega), errL_stop hx hI (by rw [he]; decide), he]
   ·
    have hs22 := of_decide_eq_false hb3
    refine r_fieldAddr 1 0 0 rfl rfl rfl rfl rfl ti49 rfl rfl (r_load 1 0 [_] rfl rfl rfl rfl ti3 rfl rfl rfl rfl (r_cmpInt rfl rfl rfl rfl rfl (r_pickF rfl rfl rfl rfl (r_move rfl rfl rfl ?_))))
    refine r_split 27 rfl (fun hb4 => ?_) (fun hb4 => ?_)
    ·
     have hs27 := of_decide_eq_true hb4
     refine r_no rfl rfl rfl (r_no rfl rfl rfl (r_no rfl rfl rfl (r_pickT rfl rfl rfl rfl (r_move rfl rfl rfl (r_no rfl rfl rfl (r_no rfl rfl rfl (r_no rfl rfl rfl (r_pickT rfl rfl rfl rfl (r_assign rfl rfl rfl (run_nil (at_tn (at_condT rfl (at_seq (at_region (r_assign rfl rfl rfl (run_nil (at_tn (at_ret (at_br (at_br (at_tr (at_tr (at_br (at_tr ?_))))))))))))))))))))))))
     refine at_end1 rfl (res_tmp rfl) (fun w hL => ⟨(), ?_, hL.picks [] trivial rfl rfl⟩)
     have he := err2 (x := x) (by omega)
     rw [checkL_le (by omega), errL_stop hx hI (by rw [he]; decide), he]
    ·
     have hs27 := of_decide_eq_false hb4
     refine r_fieldAddr 1 0 1 rfl rfl rfl rfl rfl ti49 rfl rfl (r_load 1 1 [_] rfl rfl rfl rfl ti3 rfl rfl rfl rfl (r_cmpInt rfl rfl rfl rfl rfl (r_pickF rfl rfl rfl rfl (r_move rfl rfl rfl ?_))))
     refine r_split 32 rfl (fun hb5 => ?_) (fun hb5 => ?_)
     ·
      have hs32 := of_decide_eq_true hb5
      refine r_no rfl rfl rfl (r_no rfl rfl rfl (r_no rfl rfl rfl (r_pickT rfl rfl rfl rfl (r_assign rfl rfl rfl (run_nil (at_tn (at_condT rfl (at_seq (at_region (r_assign rfl rfl rfl (run_nil (at_tn (at_ret (at_br (at_br (at_tr (at_tr (at_br (at_tr ?_)))))))))))))))))))
      refine at_end1 rfl (res_tmp rfl) (fun w hL => ⟨(), ?_, hL.picks [] trivial rfl rfl⟩)
      have he := err2 (x := x) (by omega)
      rw [checkL_le (by omega), errL_stop hx hI (by rw [he]; decide), he]
     ·
      have hs32 := of_decide_eq_false hb5
      refine r_fieldAddr 1 0 1 rfl rfl rfl rfl rfl ti49 rfl rfl (r_load 1 1 [_] rfl rfl rfl rfl ti3 rfl rfl rfl rfl (r_cmpInt rfl rfl rfl rfl rfl (r_pickF rfl rfl rfl rfl (r_assign rfl rfl rfl (run_nil (at_tn ?_))))))
      refine at_cond rfl (fun hb6 => ?_) (fun hb6 => ?_)
      ·
       have hs18 := of_decide_eq_true hb6
       refine at_seq (at_region (r_assign rfl rfl rfl (run_nil (at_tn (at_ret (at_br (at_br (at_tr (at_tr (at_br (at_tr ?_)))))))))))
       refine at_end1 rfl (res_tmp rfl) (fun w hL => ⟨(), ?_, hL.picks [] trivial rfl rfl⟩)
       have he := err2 (x := x) (by omega)
       rw [checkL_le (by omega), errL_stop hx hI (by rw [he]; decide), he]
      ·
       have hs18 := of_decide_eq_false hb6
       refine at_seq (at_region (r_fieldAddr 1 0 0 rfl rfl rfl rfl rfl ti49 rfl rfl (r_load 1 0 [_] rfl rfl rfl rfl ti3 rfl rfl rfl rfl (r_fieldAddr 1 0 1 rfl rfl rfl rfl rfl ti49 rfl rfl (r_load 1 1 [_] rfl rfl rfl rfl ti3 rfl rfl rfl rfl (r_cmpInt rfl rfl rfl rfl rfl (r_assign rfl rfl rfl (run_nil (at_tn ?_)))))))))
       refine at_cond rfl (fun hb7 => ?_) (fun hb7 => ?_)
       ·
        have hs37 := eq_of_beq hb7
        refine at_seq (at_region (r_assign rfl rfl rfl (run_nil (at_tn (at_ret (at_br (at_br (at_tr (at_tr (at_br (at_tr ?_)))))))))))
        refine at_end1 rfl (res_tmp rfl) (fun w hL => ⟨(), ?_, hL.picks [] trivial rfl rfl⟩)
        have he := err8 (x := x) (by omega) hs37
        rw [checkL_le (by omega), errL_stop hx hI (by rw [he]; decide), he]
       ·
        have hs37 := ne_of_beq_false hb7
        refine at_seq (at_region (r_fieldAddr 1 0 2 rfl rfl rfl rfl rfl ti49 rfl rfl (r_load 1 2 [_] rfl rfl rfl rfl ti3 rfl rfl rfl rfl (r_cmpInt rfl rfl rfl rfl rfl (r_move rfl rfl rfl ?_)))))
        refine r_split 47 rfl (fun hb8 => ?_) (fun hb8 => ?_)
        ·
         have hs47 := of_decide_eq_true hb8
         refine r_no rfl rfl rfl (r_no rfl rfl rfl (r_no rfl rfl rfl (r_pickT rfl rfl rfl rfl (r_move rfl rfl rfl (r_no rfl rfl rfl (r_no rfl rfl rfl (r_no rfl rfl rfl (r_pickT rfl rfl rfl rfl (r_move rfl rfl rfl (r_no rfl rfl rfl (r_no rfl rfl rfl (r_no rfl rfl rfl (r_pickT rfl rfl rfl rfl (r_move rfl rfl rfl (r_no rfl rfl rfl (r_no rfl rfl rfl (r_no rfl rfl rfl (r_pickT rfl rfl rfl rfl (r_move rfl rfl rfl (r_no rfl rfl rfl (r_no rfl rfl rfl (r_no rfl rfl rfl (r_pickT rfl rfl rfl rfl (r_assign rfl rfl rfl (run_nil (at_tn (at_condT rfl (at_seq (at_region (r_assign rfl rfl rfl (run_nil (at_tn (at_ret (at_br (at_br (at_tr (at_tr (at_br (at_tr ?_)))))))))))))))))))))))))))))))))))))))
         refine at_end1 rfl (res_tmp rfl) (fun w hL => ⟨(), ?_, hL.picks [] trivial rfl rfl⟩)
         have he := err26 (x := x) (by omega) hs37 (by omega)
         rw [checkL_le (by omega), errL_stop hx hI (by rw [he]; decide), he]
        ·
         have hs47 := of_decide_eq_false hb8
         refine r_fieldAddr 1 0 2 rfl rfl rfl rfl rfl ti49 rfl rfl (r_load 1 2 [_] rfl rfl rfl rfl ti3 rfl rfl rfl rfl (r_cmpInt rfl rfl rfl rfl rfl (r_pickF rfl rfl rfl rfl (r_move rfl rfl rfl ?_))))
         refine r_split 52 rfl (fun hb9 => ?_) (fun hb9 => ?_)
         ·
          have hs52 := of_decide_eq_true hb9
          refine r_no rfl rfl rfl (r_no rfl rfl rfl (r_no rfl rfl rfl (r_pickT rfl rfl rfl rfl (r_move rfl rfl rfl (r_no rfl rfl rfl (r_no rfl rfl rfl (r_no rfl rfl rfl (r_pickT rfl rfl rfl rfl (r_move rfl rfl rfl (r_no rfl rfl rfl (r_no rfl rfl rfl (r_no rfl rfl rfl (r_pickT rfl rfl rfl rfl (r_move rfl rfl rfl (r_no rfl rfl rfl (r_no rfl rfl rfl (r_no rfl rfl rfl (r_pickT rfl rfl rfl rfl (r_assign rfl rfl rfl (run_nil (at_tn (at_condT rfl (at_seq (at_region (r_assign rfl rfl rfl (run_nil (at_tn (at_ret (at_br (at_br (at_tr (at_tr (at_br (at_tr ?_))))))))))))))))))))))))))))))))))
          refine at_end1 rfl (res_tmp rfl) (fun w hL => ⟨(), ?_, hL.picks [] trivial rfl rfl⟩)
          have he := err26 (x := x) (by omega) hs37 (by omega)
          rw [checkL_le (by omega), errL_stop hx hI (by rw [he]; decide), he]
         ·
          have hs52 := of_decide_eq_false hb9
          refine r_fieldAddr 1 0 3 rfl rfl rfl rfl rfl ti49 rfl rfl (r_load 1 3 [_] rfl rfl rfl rfl ti3 rfl rfl rfl rfl (r_cmpInt rfl rfl rfl rfl rfl (r_pickF rfl rfl rfl rfl (r_move rfl rfl rfl ?_))))
          refine r_split 57 rfl (fun hb10 => ?_) (fun hb10 => ?_)
          ·
           have hs57 := of_decide_eq_true hb10
           refine r_no rfl rfl rfl (r_no rfl rfl rfl (r_no rfl rfl rfl (r_pickT rfl rfl rfl rfl (r_move rfl rfl rfl (r_no rfl rfl rfl (r_no rfl rfl rfl (r_no rfl rfl rfl (r_pickT rfl rfl rfl rfl (r_move rfl rfl rfl (r_no rfl rfl rfl (r_no rfl rfl rfl (r_no rfl rfl rfl (r_pickT rfl rfl rfl rfl (r_assign rfl rfl rfl (run_nil (at_tn (at_condT rfl (at_seq (at_region (r_assign rfl rfl rfl (run_nil (at_tn (at_ret (at_br (at_br (at_tr (at_tr (at_br (at_tr ?_)))))))))))))))))))))))))))))
           refine at_end1 rfl (res_tmp rfl) (fun w hL => ⟨(), ?_, hL.picks [] trivial rfl rfl⟩)
           have he := err26 (x := x) (by omega) hs37 (by omega)
           rw [checkL_le (by omega), errL_stop hx hI (by rw [he]; decide), he]
          ·
           have hs57 := of_decide_eq_false hb10
           refine r_fieldAddr 1 0 3 rfl rfl rfl rfl rfl ti49 rfl rfl (r_load 1 3 [_] rfl rfl rfl rfl ti3 rfl rfl rfl rfl (r_cmpInt rfl rfl rfl rfl rfl (r_pickF rfl rfl rfl rfl (r_move rfl rfl rfl ?_))))
           refine r_split 62 rfl (fun hb11 => ?_) (fun hb11 => ?_)
           ·
            have hs62 := of_decide_eq_true hb11
            refine r_no rfl rfl rfl (r_no rfl rfl rfl (r_no rfl rfl rfl (r_pickT rfl rfl rfl rfl (r_move rfl rfl rfl (r_no rfl rfl rfl (r_no rfl rfl rfl (r_no rfl rfl rfl (r_pickT rfl rfl rfl rfl (r_assign rfl rfl rfl (run_nil (at_tn (at_condT rfl (at_seq (at_region (r_assign rfl rfl rfl (run_nil (at_tn (at_ret (at_br (at_br (at_tr (at_tr (at_br (at_tr ?_))))))))))))))))))))))))
            refine at_end1 rfl (res_tmp rfl) (fun w hL => ⟨(), ?_, hL.picks [] trivial rfl rfl⟩)
            have he := err26 (x := x) (by omega) hs37 (by omega)
            rw [checkL_le (by omega), errL_stop hx hI (by rw [he]; decide), he]
           ·
            have hs62 := of_decide_eq_false hb11
            refine r_fieldAddr 1 0 4 rfl rfl rfl rfl rfl ti49 rfl rfl (r_load 1 4 [_] rfl rfl rfl rfl ti3 rfl rfl rfl rfl (r_cmpInt rfl rfl rfl rfl rfl (r_pickF rfl rfl rfl rfl (r_move rfl rfl rfl ?_))))
            refine r_split 67 rfl (fun hb12 => ?_) (fun hb12 => ?_)
            ·
             have hs67 := of_decide_eq_true hb12
             refine r_no rfl rfl rfl (r_no rfl rfl rfl (r_no rfl rfl rfl (r_pickT rfl rfl rfl rfl (r_assign rfl rfl rfl (run_nil (at_tn (at_condT rfl (at_seq (at_region (r_assign rfl rfl rfl (run_nil (at_tn (at_ret (at_br (at_br (at_tr (at_tr (at_br (at_tr ?_)))))))))))))))))))
             refine at_end1 rfl (res_tmp rfl) (fun w hL => ⟨(), ?_, hL.picks [] trivial rfl rfl⟩)
             have he := err26 (x := x) (by omega) hs37 (by omega)
             rw [checkL_le (by omega), errL_stop hx hI (by rw [he]; decide), he]
            ·
             have hs67 := of_decide_eq_false hb12
             refine r_fieldAddr 1 0 4 rfl rfl rfl rfl rfl ti49 rfl rfl (r_load 1 4 [_] rfl rfl rfl rfl ti3 rfl rfl rfl rfl (r_cmpInt rfl rfl rfl rfl rfl (r_pickF rfl rfl rfl rfl (r_assign rfl rfl rfl (run_nil (at_tn ?_))))))
             refine at_cond rfl (fun hb13 => ?_) (fun hb13 => ?_)
             ·
              have hs43 := of_decide_eq_true hb13
              refine at_seq (at_region (r_assign rfl rfl rfl (run_nil (at_tn (at_ret (at_br (at_br (at_tr (at_tr (at_br (at_tr ?_)))))))))))
              refine at_end1 rfl (res_tmp rfl) (fun w hL => ⟨(), ?_, hL.picks [] trivial rfl rfl⟩)
              have he := err26 (x := x) (by omega) hs37 (by omega)
              rw [checkL_le (by omega), errL_stop hx hI (by rw [he]; decide), he]
             ·
              have hs43 := of_decide_eq_false hb13
              refine at_skip (at_bn (at_bn (at_tn (at_region (r_move rfl rfl rfl ?_)))))
              refine r_arith (r := ((i + 1 : Nat) : Int)) rfl rfl rfl rfl (congrArg some (wi (by omega) (by omega) (by omega))) ?_
              refine r_assign rfl rfl rfl (run_nil (at_tn ?_))
              exact nextL ⟨i + 1, hlt, errL_step hx hI (err0 (by omega) hs37 (by omega))⟩ (by simp only []; omega) ⟨rfl, rfl, trivial⟩ (weak_picks [some 0] ⟨⟨_, rfl, Blk.le_refl _⟩, trivial⟩ rfl rfl)
  ·
   have hge : i = l.length := (by have := of_decide_eq_false hb2; omega)
   subst hge
   refine at_exit (at_te (at_te (at_be (at_tn (at_seq (at_region (r_assign rfl rfl rfl (run_nil (at_tn (at_ret ?_))))))))))
   refine at_end1 rfl (res_tmp rfl) (fun w hL => ⟨(), ?_, hL.picks [] trivial rfl rfl⟩)
   rw [checkL_le (by omega), errL_end hI]
set_option maxRecDepth 20000 in
theorem c_law_few (l : List Ex) (a : Option Addr) (b : Option Nat) (pre : List Value) (N cap : Nat) (hc : l.length ≤ cap) (ha : l ≠ [] → a = b.map fun g => ⟨g, pre.length, none⟩) : SCall Tryz.prog 13 [⟨b, 49, pre ++ XLc l, N, false⟩] [.slice a l.length cap] Unit (fun _ => .bool (fewB l)) (fun _ => []) := by
 refine ⟨by kernel_rfl, fun w hL0 => ?_⟩
 refine calls_at (args := [.slice a l.length cap]) Tryz.func13 rfl (Nat.le_of_ble_eq_true rfl) hL0 ?_
 show At w ⟨11, [(0, .slice a l.length cap)], [⟨b, 49, pre ++ XLc l, N, false⟩]⟩ _
 refine at_seq (at_region (r_assign rfl rfl rfl (run_nil (at_tn (at_seq (at_region (r_move rfl rfl rfl (r_lenV u22 rfl rfl rfl (r_cmpInt rfl rfl rfl rfl rfl (r_move rfl rfl rfl ?_))))))))))
 refine r_split 6 rfl (fun hb0 => ?_) (fun hb0 => ?_)
 ·
  have hs6 : l.length ≤ 12 := (by have := of_decide_eq_true hb0; omega)
  refine r_move rfl rfl rfl ?_
  refine r_scall0 [_] [0] rfl rfl rfl (c_law_check l a b pre N cap hc ha) ⟨⟨_, rfl, Blk.le_refl _⟩, trivial⟩ rfl ?_
  refine r_cmpInt rfl rfl rfl rfl rfl (r_pickT rfl rfl rfl rfl (r_assign rfl rfl rfl (run_nil (at_tn (at_ret ?_)))))
  refine at_end1 rfl (res_tmp rfl) (fun w hL => ⟨(), ?_, hL.picks [] trivial rfl rfl⟩)
  rw [fewB, decide_eq_true hs6, Bool.true_and]
 ·
  have hs6 : ¬ l.length ≤ 12 := (by have := of_decide_eq_false hb0; omega)
  refine r_no rfl rfl rfl (r_no rfl rfl rfl (r_no rfl rfl rfl (r_pickF rfl rfl rfl rfl (r_assign rfl rfl rfl (run_nil (at_tn (at_ret ?_)))))))
  refine at_end1 rfl (res_tmp rfl) (fun w hL => ⟨(), ?_, hL.picks [] trivial rfl rfl⟩)
  rw [fewB, decide_eq_false hs6, Bool.false_and]
end Go.Proofs.YtncogghlhlnmaaaGreatDoor
set_option linter.unusedVariables false
namespace Go.Proofs.YtncogghlhlnmaaaGreatDoor
open Go Go.RowKit Go.Via
set_option maxRecDepth 20000 in
theorem c_law_has (l : List Int) (b : Option Nat) (N cap : Nat) (hc : l.length ≤ cap) (hn : l.length ≤ 1000000) (n : Int) : SCall Tryz.prog 17 [⟨b, 3, ILc l, N, false⟩] [slv b 0 l.length cap, .int .i64 n] Unit (fun _ => .bool (l.contains n)) (fun _ => []) := by
 refine ⟨by kernel_rfl, fun w hL0 => ?_⟩
 refine calls_at (args := [slv b 0 l.length cap, .int .i64 n]) Tryz.func17 rfl (Nat.le_of_ble_eq_true rfl) hL0 ?_
 show At w ⟨18, [(0, slv b 0 l.length cap), (1, .int .i64 n)], [⟨b, 3, ILc l, N, false⟩]⟩ _
 refine at_seq ?_
 refine at_base 0 rfl (fun hbase => ?_)
 refine at_region (r_assign rfl rfl rfl (run_nil (at_tn (at_seq (at_seq (at_region (r_assign rfl rfl rfl (run_nil (at_tn (at_block ?_))))))))))
 refine enterL (nt := 18) (ι := {i : Nat // i ≤ l.length ∧ l.contains n = (l.drop i).contains n}) (fun ⟨i, hi, hI⟩ => [(0, slv b 0 l.length cap), (1, .int .i64 n), (5, .int .i64 (i : Nat))]) (fun ⟨i, hi, hI⟩ => [⟨b, 3, ILc l, N, false⟩]) (fun ⟨i, hi, hI⟩ => l.length - i) ⟨0, Nat.zero_le _, rfl⟩ ⟨rfl, rfl, rfl, trivial⟩ (Weak.refl _) ?_
 rintro ⟨i, hi, hI⟩
 show At _ ⟨18, [(0, slv b 0 l.length cap), (1, .int .i64 n), (5, .int .i64 (i : Nat))], [⟨b, 3, ILc l, N, false⟩]⟩ _
 refine at_seq (at_seq (at_region (r_move rfl rfl rfl (r_move rfl rfl rfl (r_lenS u33 rfl rfl rfl (r_cmpInt rfl rfl rfl rfl rfl (run_nil (at_tn ?_))))))))
 refine at_cond rfl (fun hb1 => ?_) (fun hb1 => ?_)
 ·
  have hlt : i < l.length := (by have := of_decide_eq_true hb1; omega)
  obtain ⟨z, hz⟩ : ∃ z, l[i]? = some z := ⟨l[i], List.getElem?_eq_getElem hlt⟩
  obtain ⟨gb, hgb⟩ := il_base (pre := []) hbase (by omega)
  replace hgb : b = some gb := hgb
  subst hgb
  refine at_skip (at_tn (at_seq (at_block (at_seq (at_region (r_move rfl rfl rfl (r_move rfl rfl rfl ?_)))))))
  refine r_indexAddr 0 (i * 1) u33 ti3 rfl rfl rfl rfl rfl (by omega) (by omega) (ILc_ne (by omega)) (by show 0 + Int.toNat _ * 1 = _; omega) ?_
  refine r_load (v := .int .i64 z) 0 (i * 1) _ rfl rfl rfl rfl ti3 (ILc_get hz) rfl (by decide) rfl ?_
  refine r_move rfl rfl rfl (r_cmpInt rfl rfl rfl rfl rfl (run_nil (at_tn ?_)))
  refine at_cond rfl (fun hb2 => ?_) (fun hb2 => ?_)
  ·
   have hs17 := eq_of_beq hb2
   refine at_seq (at_region (r_assign rfl rfl rfl (run_nil (at_tn (at_ret (at_br (at_tr (at_tr (at_br (at_tr ?_))))))))))
   refine at_end1 rfl (res_tmp rfl) (fun w hL => ⟨(), ?_, hL.picks [] trivial rfl rfl⟩)
   rw [hI, has_yes hz hs17]
  ·
   have hs17 := ne_of_beq_false hb2
   refine at_skip (at_bn (at_tn (at_region (r_move rfl rfl rfl ?_))))
   refine r_arith (r := ((i + 1 : Nat) : Int)) rfl rfl rfl rfl (congrArg some (wi (by omega) (by omega) (by omega))) ?_
   refine r_assign rfl rfl rfl (run_nil (at_tn ?_))
   exact nextL ⟨i + 1, hlt, hI.trans (has_no hz hs17)⟩ (by simp only []; omega) ⟨rfl, rfl, rfl, trivial⟩ (Weak.refl _)
 ·
  have hge : i = l.length := (by have := of_decide_eq_false hb1; omega)
  subst hge
  refine at_exit (at_te (at_te (at_be (at_tn (at_seq (at_region (r_assign rfl rfl rfl (run_nil (at_tn (at_ret ?_))))))))))
  refine at_end1 rfl (res_tmp rfl) (fun w hL => ⟨(), ?_, hL.picks [] trivial rfl rfl⟩)
  rw [hI, List.drop_length]; rfl
end Go.Proofs.YtncogghlhlnmaaaGreatDoor
set_option linter.unusedVariables false
namespace Go.Proofs.YtncogghlhlnmaaaGreatDoor
open Go Go.RowKit Go.Via
set_option maxRecDepth 20000 in
theorem c_clock_Sum (l : List Ex) (a : Option Addr) (b : Option Nat) (pre : List Value) (N cap : Nat) (hc : l.length ≤ cap) (ha : l ≠ [] → a = b.map fun g => ⟨g, pre.length, none⟩) (hok : ∀ x ∈ l, okX x) (c : List Int) (a2 : Option Addr) (b2 : Option Nat) (pre2 : List Value) (N2 cap2 : Nat) (hc2 : c.length ≤ cap2) (ha2 : c ≠ [] → a2 = b2.map fun g => ⟨g, pre2.length, none⟩) (hcn : c.length ≤ 1000000) (fr to : Int) : SCall Tryz.prog 20 [⟨b, 49, pre ++ XLc l, N, false⟩, ⟨b2, 3, pre2 ++ ILc c, N2, false⟩] [.slice a l.length cap, .slice a2 c.length cap2, .int .i64 fr, .int .i64 to] Unit (fun _ => .tuple #[.int .i64 (sumN l c fr to), .int .i64 (sumE l c fr to)]) (fun _ => []) := by
 refine ⟨by kernel_rfl, fun w hL0 => ?_⟩
 refine calls_at (args := [.slice a l.length cap, .slice a2 c.length cap2, .int .i64 fr, .int .i64 to]) Tryz.func20 rfl (Nat.le_of_ble_eq_true rfl) hL0 ?_
 show At w ⟨54, [(0, .slice a l.length cap), (1, .slice a2 c.length cap2), (2, .int .i64 fr), (3, .int .i64 to)], [⟨b, 49, pre ++ XLc l, N, false⟩, ⟨b2, 3, pre2 ++ ILc c, N2, false⟩]⟩ _
 refine at_seq ?_
 refine at_base 0 rfl (fun hbase => ?_)
 refine at_base 1 rfl (fun hbase2 => ?_)
 refine at_region (r_assign rfl rfl rfl (r_assign rfl rfl rfl (run_nil (at_tn (at_seq (at_region (r_move rfl rfl rfl (r_assign rfl rfl rfl (run_nil (at_tn (at_seq (at_seq (at_region (r_move rfl rfl rfl (r_lenV u33 rfl rfl rfl (r_move rfl rfl rfl (run_nil (at_tn (at_block ?_)))))))))))))))))))
 refine enterL (nt := 54) (ι := {z : Nat × Int × Int // z.1 ≤ c.length ∧ sumS l c fr 0 = sumS l (c.drop z.1) z.2.1 z.2.2 ∧ -4294967296 * (z.1 : Int) ≤ z.2.2 ∧ z.2.2 ≤ 4294967296 * (z.1 : Int)}) (fun ⟨⟨i, at_, n⟩, hi, hI, hn1, hn2⟩ => [(0, .slice a l.length cap), (1, .slice a2 c.length cap2), (3, .int .i64 to), (8, .int .i64 n), (10, .int .i64 at_), (14, .slice a2 c.length cap2), (15, .int .i64 (c.length : Nat)), (16, .int .i64 (i : Nat))]) (fun ⟨⟨i, at_, n⟩, hi, hI, hn1, hn2⟩ => [⟨b, 49, pre ++ XLc l, N, false⟩, ⟨b2, 3, pre2 ++ ILc c, N2, false⟩]) (fun ⟨⟨i, at_, n⟩, hi, hI, hn1, hn2⟩ => c.length - i) ⟨⟨0, fr, 0⟩, Nat.zero_le _, rfl, by simp, by simp⟩ ⟨rfl, rfl, rfl, rfl, rfl, rfl, rfl, rfl, trivial⟩ (Weak.refl _) ?_
 rintro ⟨⟨i, at_, n⟩, hi, hI, hn1, hn2⟩
 show At _ ⟨54, [(0, .slice a l.length cap), (1, .slice a2 c.length cap2), (3, .int .i64 to), (8, .int .i64 n), (10, .int .i64 at_), (14, .slice a2 c.length cap2), (15, .int .i64 (c.length : Nat)), (16, .int .i64 (i : Nat))], [⟨b, 49, pre ++ XLc l, N, false⟩, ⟨b2, 3, pre2 ++ ILc c, N2, false⟩]⟩ _
 replace hi : i ≤ c.length := hi
 replace hI : sumS l c fr 0 = sumS l (c.drop i) at_ n := hI
 replace hn1 : -4294967296 * (i : Int) ≤ n := hn1
 replace hn2 : n ≤ 4294967296 * (i : Int) := hn2
 refine at_seq (at_region (r_cmpInt rfl rfl rfl rfl rfl (run_nil (at_tn (at_seq ?_)))))
 refine at_cond rfl (fun hb1 => ?_) (fun hb1 => ?_)
 ·
  have hlt : i < c.length := (by have := of_decide_eq_true hb1; omega)
  obtain ⟨k, hk⟩ : ∃ k, c[i]? = some k := ⟨c[i], List.getElem?_eq_getElem hlt⟩
  obtain ⟨gc, hgc⟩ := il_base hbase2 (by omega)
  replace hgc : b2 = some gc := hgc
  subst hgc
  obtain rfl : a2 = some ⟨gc, pre2.length, none⟩ := ha2 (fun e => by rw [e] at hlt; cases hlt)
  refine at_skip (at_tn (at_seq (at_block (at_seq (at_region ?_)))))
  refine r_indexAddr 1 (pre2.length + i * 1) u33 ti3 rfl rfl rfl rfl rfl (by omega) (by omega) (pre_ne (ILc_ne (by omega))) (by show pre2.length + Int.toNat _ * 1 = _; omega) ?_
  refine r_load (v := .int .i64 k) 1 (pre2.length + i * 1) _ rfl rfl rfl rfl ti3 (pre_get (ILc_get hk) rfl) rfl (by decide) rfl ?_
  refine r_assign rfl rfl rfl (run_nil (at_tn (at_seq (at_seq (at_region (r_move rfl rfl rfl (r_cmpInt rfl rfl rfl rfl rfl (r_move rfl rfl rfl ?_))))))))
  refine r_split 22 rfl (fun hb2 => ?_) (fun hb2 => ?_)
  ·
   have hs1 : k < 0 := of_decide_eq_true hb2
   refine r_no rfl rfl rfl (r_no rfl rfl rfl (r_no rfl rfl rfl (r_no rfl rfl rfl (r_pickT rfl rfl rfl rfl (r_move rfl rfl rfl (r_no rfl rfl rfl (r_no rfl rfl rfl (r_no rfl rfl rfl (r_no rfl rfl rfl (r_no rfl rfl rfl (r_no rfl rfl rfl (r_no rfl rfl rfl (r_pickT rfl rfl rfl rfl (run_nil (at_tn (at_condT rfl (at_seq (at_region (r_assign rfl rfl rfl (r_assign rfl rfl rfl (run_nil (at_tn (at_ret (at_tr (at_br (at_tr (at_tr (at_br (at_tr ?_)))))))))))))))))))))))))))))
   refine at_end2 rfl (res_tmp rfl) (res_tmp rfl) (fun w hL => ⟨(), ?_, hL.picks [] trivial rfl rfl⟩)
   have hz := sum_none (b := to) (hI.trans (sumS_bad hk (.inl hs1)))
   rw [hz.1, hz.2.1]
  ·
   have hs1 : ¬ k < 0 := of_decide_eq_false hb2
   refine r_move rfl rfl rfl (r_move rfl rfl rfl (r_lenV u22 rfl rfl rfl (r_cmpInt rfl rfl rfl rfl rfl (r_pickF rfl rfl rfl rfl (r_move rfl rfl rfl ?_)))))
   refine r_split 28 rfl (fun hb3 => ?_) (fun hb3 => ?_)
   ·
    have hs2 : (l.length : Int) ≤ k := of_decide_eq_true hb3
    refine r_no rfl rfl rfl (r_no rfl rfl rfl (r_no rfl rfl rfl (r_no rfl rfl rfl (r_no rfl rfl rfl (r_no rfl rfl rfl (r_no rfl rfl rfl (r_pickT rfl rfl rfl rfl (run_nil (at_tn (at_condT rfl (at_seq (at_region (r_assign rfl rfl rfl (r_assign rfl rfl rfl (run_nil (at_tn (at_ret (at_tr (at_br (at_tr (at_tr (at_br (at_tr ?_)))))))))))))))))))))))
    refine at_end2 rfl (res_tmp rfl) (res_tmp rfl) (fun w hL => ⟨(), ?_, hL.picks [] trivial rfl rfl⟩)
    have hz := sum_none (b := to) (hI.trans (sumS_bad hk (.inr hs2)))
    rw [hz.1, hz.2.1]
   ·
    have hs2 : ¬ (l.length : Int) ≤ k := of_decide_eq_false hb3
    have hk2 : k.toNat < l.length := by omega
    obtain ⟨x, hx⟩ : ∃ x, l[k.toNat]? = some x := ⟨_, List.getElem?_eq_getElem hk2⟩
    have hokx := hok x (List.mem_of_getElem? hx)
    have hwb := wt_bound hokx
    obtain ⟨gb, hgb⟩ := ex_base hbase (by omega)
    replace hgb : b = some gb := hgb
    subst hgb
    obtain rfl : a = some ⟨gb, pre.length, none⟩ := ha (fun e => by rw [e] at hk2; cases hk2)
    refine r_move rfl rfl rfl (r_move rfl rfl rfl ?_)
    refine r_indexAddr 0 (pre.length + k.toNat * 5) u22 ti49 rfl rfl rfl rfl rfl (by omega) (by omega) (pre_ne (XLc_ne (by omega))) (by show pre.length + Int.toNat _ * 5 = _; omega) ?_
    refine r_fieldAddr 0 (pre.length + k.toNat * 5) 0 rfl rfl rfl rfl rfl ti49 rfl rfl ?_
    refine r_load (v := .int .i64 x.f) 0 (pre.length + (k.toNat * 5 + 0)) _ rfl rfl rfl rfl ti3 (pre_get (XLc_f hx) rfl) rfl (by decide) rfl ?_
    refine r_move rfl rfl rfl (r_cmpInt rfl rfl rfl rfl rfl (r_pickF rfl rfl rfl rfl (run_nil (at_tn ?_))))
    refine at_cond rfl (fun hb4 => ?_) (fun hb4 => ?_)
    ·
     have hs3 : x.f ≠ at_ := by simpa using hb4
     refine at_seq (at_region (r_assign rfl rfl rfl (r_assign rfl rfl rfl (run_nil (at_tn (at_ret (at_tr (at_br (at_tr (at_tr (at_br (at_tr ?_))))))))))))
     refine at_end2 rfl (res_tmp rfl) (res_tmp rfl) (fun w hL => ⟨(), ?_, hL.picks [] trivial rfl rfl⟩)
     have hz := sum_none (b := to) (hI.trans (sumS_off hk (by omega) (by omega) hx hs3))
     rw [hz.1, hz.2.1]
    ·
     have hs3 : x.f = at_ := by simpa using hb4
     refine at_skip (at_tn ?_)
     refine at_drawn (l' := [⟨_,_,_,_,_,_⟩, ⟨_,_,_,_,_,_⟩, ⟨_,_,_,_,_,_⟩, ⟨_,_,_,_,_,_⟩, ⟨_,_,_,_,_,_⟩, ⟨_,_,_,_,_,_⟩, ⟨_,_,_,_,_,_⟩, ⟨_,_,_,_,_,_⟩, ⟨_,_,_,_,_,_⟩, ⟨_,_,_,_,_,_⟩, ⟨_,_,_,_,_,_⟩, ⟨_,_,_,_,_,_⟩, ⟨_,_,_,_,_,_⟩, ⟨_,_,_,_,_,_⟩]) [2000000] [0, 1, 2, 3, 4, 7, 8, 9, 10, 11, 5, 6, 12, 13] mixed (by kernel_rfl) rfl (by kernel_rfl) ?_
     refine r_move rfl rfl rfl (r_move rfl rfl rfl (r_move rfl rfl rfl ?_))
     refine r_indexAddr 0 (pre.length + k.toNat * 5) u22 ti49 rfl rfl rfl rfl rfl (by omega) (by omega) (pre_ne (XLc_ne (by omega))) (by show pre.length + Int.toNat _ * 5 = _; omega) ?_
     refine r_load (v := ExV x) 0 (pre.length + k.toNat * 5) _ rfl rfl rfl rfl ti49 (pre_get (XLc_get hx) rfl) rfl (by decide) rfl ?_
     refine r_move rfl rfl rfl (r_move rfl rfl rfl ?_)
     refine r_indexAddr 0 (pre.length + k.toNat * 5) u22 ti49 rfl rfl rfl rfl rfl (by omega) (by omega) (pre_ne (XLc_ne (by omega))) (by show pre.length + Int.toNat _ * 5 = _; omega) ?_
     refine r_fieldAddr 0 (pre.length + k.toNat * 5) 1 rfl rfl rfl rfl rfl ti49 rfl rfl ?_
     refine r_load (v := .int .i64 x.t) 0 (pre.length + (k.toNat * 5 + 1)) _ rfl rfl rfl rfl ti3 (pre_get (XLc_t hx) rfl) rfl (by decide) rfl ?_
     refine r_pcall [_] rfl rfl rfl (c_clock_Weight x hokx) ?_
     refine r_arith (r := n + wt x) rfl rfl rfl rfl (congrArg some (wi (by omega) (by omega) rfl)) ?_
     refine r_assign rfl rfl rfl (r_assign rfl rfl rfl (run_nil (at_bn (at_tn (at_region ?_)))))
     refine r_arith (r := ((i + 1 : Nat) : Int)) rfl rfl rfl rfl (congrArg some (wi (by omega) (by omega) (by omega))) ?_
     refine r_move rfl rfl rfl (run_nil (at_tn ?_))
     exact nextL ⟨⟨i + 1, x.t, n + wt x⟩, hlt, hI.trans (sumS_on hk (by omega) (by omega) hx hs3), by show -4294967296 * ((i + 1 : Nat) : Int) ≤ n + wt x; omega, by show n + wt x ≤ 4294967296 * ((i + 1 : Nat) : Int); omega⟩ (by simp only []; omega) ⟨rfl, rfl, rfl, rfl, rfl, rfl, rfl, rfl, trivial⟩ (weak_picks [some 0, some 1] ⟨⟨_, rfl, Blk.le_refl _⟩, ⟨_, rfl, Blk.le_refl _⟩, trivial⟩ rfl rfl)
 ·
  have hge : i = c.length := (by have := of_decide_eq_false hb1; omega)
  subst hge
  refine at_exit (at_te (at_te (at_be (at_tn (at_seq (at_seq (at_region (r_move rfl rfl rfl (r_move rfl rfl rfl (r_cmpInt rfl rfl rfl rfl rfl (run_nil (at_tn ?_))))))))))))
  refine at_cond rfl (fun hb2 => ?_) (fun hb2 => ?_)
  ·
   have hs4 : at_ ≠ to := by simpa using hb2
   refine at_seq (at_region (r_assign rfl rfl rfl (r_assign rfl rfl rfl (run_nil (at_tn (at_ret (at_tr ?_)))))))
   refine at_end2 rfl (res_tmp rfl) (res_tmp rfl) (fun w hL => ⟨(), ?_, hL.picks [] trivial rfl rfl⟩)
   have hz := sum_some (b := to) (hI.trans (by rw [List.drop_length]; rfl))
   rw [hz.1, hz.2.1, if_neg hs4, if_neg hs4]
  ·
   have hs4 : at_ = to := by simpa using hb2
   refine at_skip (at_tn (at_seq (at_region (r_move rfl rfl rfl (r_assign rfl rfl rfl (r_assign rfl rfl rfl (run_nil (at_tn (at_ret ?_)))))))))
   refine at_end2 rfl (res_tmp rfl) (res_tmp rfl) (fun w hL => ⟨(), ?_, hL.picks [] trivial rfl rfl⟩)
   have hz := sum_some (b := to) (hI.trans (by rw [List.drop_length]; rfl))
   rw [hz.1, hz.2.1, if_pos hs4, if_pos hs4]
end Go.Proofs.YtncogghlhlnmaaaGreatDoor
set_option linter.unusedVariables false
namespace Go.Proofs.YtncogghlhlnmaaaGreatDoor
open Go Go.RowKit Go.Via
set_option maxRecDepth 20000 in
theorem c_clock_Offset (l : List Ex) (a : Option Addr) (b : Option Nat) (pre : List Value) (N cap : Nat) (hc : l.length ≤ cap) (ha : l ≠ [] → a = b.map fun g => ⟨g, pre.length, none⟩) (hok : ∀ x ∈ l, okX x) (hn : l.length ≤ 1000) (d : Int) (hd : inI64 d) (hK : ∀ e, 0 ≤ e → e ≤ 1073741824 → CycOK l e (fun _ => True)) (hQ : ChOK l d (ChQ l d)) : SCall Tryz.prog 14 [⟨b, 49, pre ++ XLc l, N, false⟩] [.slice a l.length cap, .int .i64 d] Unit (fun _ => .tuple #[.agg #[.int .i64 (ofLo l d), .int .i64 (ofHi l d)], .int .i64 (chE l d)]) (fun _ => []) := by
 refine ⟨by kernel_rfl, fun w hL0 => ?_⟩
 refine calls_at (args := [.slice a l.length cap, .int .i64 d]) Tryz.func14 rfl (Nat.le_of_ble_eq_true rfl) hL0 ?_
 show At w ⟨46, [(0, .slice a l.length cap), (1, .int .i64 d)], [⟨b, 49, pre ++ XLc l, N, false⟩]⟩ _
 refine at_seq (at_region ?_)
 refine r_alloc [_, _] 2 (fun g => [_, ⟨some g, 26, _, 2, true⟩]) rfl rfl z26 rfl rfl (fun _ => rfl) (fun g0 => ?_)
 refine r_assign rfl rfl rfl (run_nil (at_tn (at_seq (at_region (r_move rfl rfl rfl (r_move rfl rfl rfl ?_))))))
 refine r_scall (hX := hQ.ne) [_, _] [0] rfl rfl rfl (c_clock_Chains l a b pre N cap hc ha hok hn d hd hK (ChQ l d) hQ) ⟨⟨_, rfl, Blk.le_refl _⟩, trivial⟩ rfl (.inr fun z b hb => by rcases List.mem_cons.1 hb with h | h; rw [h]; rw [List.mem_singleton.1 h]) (fun x => ?_)
 refine r_move rfl rfl rfl ?_
 refine r_extract (vs := [_, _, _]) rfl rfl rfl rfl ?_
 refine r_extract (vs := [_, _, _]) rfl rfl rfl rfl ?_
 refine r_extract (vs := [_, _, _]) rfl rfl rfl rfl ?_
 refine r_assign rfl rfl rfl (r_assign rfl rfl rfl (r_assign rfl rfl rfl (run_nil (at_tn (at_seq (at_seq (at_region (r_move rfl rfl rfl (r_cmpInt rfl rfl rfl rfl rfl (run_nil (at_tn ?_)))))))))))
 refine at_cond rfl (fun hb0 => ?_) (fun hb0 => ?_)
 ·
  have hE : chE l d ≠ 0 := by simpa using hb0
  have hgo : ¬ goA l d := fun g => hE (chE_5 g)
  refine at_seq (at_region ?_)
  refine r_build [] rfl rfl rfl (bd26_0) ?_
  refine r_move rfl rfl rfl ?_
  refine r_store rfl 1 0 [_, ⟨some g0, 26, _, 2, true⟩, _, _] [_, _] rfl rfl rfl rfl ti26 rfl rfl rfl rfl rfl ?_
  refine r_assign rfl rfl rfl (run_nil (at_tn (at_ret (at_tr ?_))))
  refine at_end2 rfl (res_cell 1 rfl rfl ti26 (vs := [_, _]) rfl rfl (Nat.le_of_ble_eq_true rfl) rfl) (res_tmp rfl) (fun w hL => ⟨(), ?_, hL.picks [] trivial rfl rfl⟩)
  rw [(of_no hgo).1, (of_no hgo).2]
 ·
  have hE : chE l d = 0 := by simpa using hb0
  refine at_skip (at_tn (at_seq (at_region (r_move rfl rfl rfl (r_move rfl rfl rfl (r_move rfl rfl rfl ?_))))))
  refine r_scall0 [_, _, _, _] [0, 2] rfl rfl rfl (c_clock_Sum l a b pre N cap hc ha hok x.u (x.ub.map fun g => ⟨g, 0, none⟩) x.ub [] x.un x.uc x.hu (fun _ => rfl) x.hl.1 0 d) ⟨⟨_, rfl, Blk.le_refl _⟩, ⟨_, rfl, le_share⟩, trivial⟩ rfl ?_
  refine r_move rfl rfl rfl ?_
  refine r_extract (vs := [_, _]) rfl rfl rfl rfl ?_
  refine r_extract (vs := [_, _]) rfl rfl rfl rfl ?_
  refine r_assign rfl rfl rfl (r_assign rfl rfl rfl (run_nil (at_tn (at_seq (at_region (r_move rfl rfl rfl (r_move rfl rfl rfl (r_move rfl rfl rfl ?_))))))))
  refine r_scall0 [_, _, _, _] [0, 3] rfl rfl rfl (c_clock_Sum l a b pre N cap hc ha hok x.v (x.vb.map fun g => ⟨g, 0, none⟩) x.vb [] x.vn x.vc x.hv (fun _ => rfl) x.hl.2 d 0) ⟨⟨_, rfl, Blk.le_refl _⟩, ⟨_, rfl, le_share⟩, trivial⟩ rfl ?_
  refine r_move rfl rfl rfl ?_
  refine r_extract (vs := [_, _]) rfl rfl rfl rfl ?_
  refine r_extract (vs := [_, _]) rfl rfl rfl rfl ?_
  refine r_assign rfl rfl rfl (r_assign rfl rfl rfl (run_nil (at_tn (at_seq (at_seq (at_region (r_move rfl rfl rfl (r_lenV u33 rfl rfl rfl (r_cmpInt rfl rfl rfl rfl rfl (run_nil (at_tn ?_)))))))))))
  refine at_cond rfl (fun hb1 => ?_) (fun hb1 => ?_)
  ·
   have hu0 : x.u = [] := List.eq_nil_of_length_eq_zero (by have : ((x.u.length : Nat) : Int) = 0 := eq_of_beq hb1; omega)
   have hgo : ¬ goA l d := fun g => (x.ht g).1 hu0
   refine at_seq (at_region ?_)
   refine r_build [] rfl rfl rfl (bd26_0) ?_
   refine r_store rfl 1 0 [_, ⟨some g0, 26, _, 2, true⟩, _, _] [_, _] rfl rfl rfl rfl ti26 rfl rfl rfl rfl rfl ?_
   refine r_assign rfl rfl rfl (run_nil (at_tn (at_ret (at_tr ?_))))
   refine at_end2 rfl (res_cell 1 rfl rfl ti26 (vs := [_, _]) rfl rfl (Nat.le_of_ble_eq_true rfl) rfl) (res_tmp rfl) (fun w hL => ⟨(), ?_, hL.picks [] trivial rfl rfl⟩)
   rw [(of_no hgo).1, (of_no hgo).2, hE]
  ·
   have hgo : goA l d := Classical.byContradiction fun g => by have h1 := (x.hf g).1; have h2 := ne_of_beq_false hb1; rw [h1] at h2; exact h2 rfl
   have hq := x.ht hgo
   have hlb := loA_bnd hok hn d
   refine at_skip (at_tn (at_seq (at_region (r_move rfl rfl rfl ?_))))
   refine r_neg (r := -(sumN l x.v d 0)) rfl rfl rfl ((wi (by rw [hq.lo]; omega) (by rw [hq.lo]; omega) (by omega))) ?_
   refine r_move rfl rfl rfl ?_
   refine r_build [(0, _), (1, _)] rfl rfl rfl (bd26_2) ?_
   refine r_store rfl 1 0 [_, ⟨some g0, 26, _, 2, true⟩, _, _] [_, _] rfl rfl rfl rfl ti26 rfl rfl rfl rfl rfl ?_
   refine r_assign rfl rfl rfl (run_nil (at_tn (at_ret ?_)))
   refine at_end2 rfl (res_cell 1 rfl rfl ti26 (vs := [_, _]) rfl rfl (Nat.le_of_ble_eq_true rfl) rfl) (res_tmp rfl) (fun w hL => ⟨(), ?_, hL.picks [] trivial rfl rfl⟩)
   rw [(of_go hgo).1, (of_go hgo).2, hE, ← hq.hi, ← hq.lo]
end Go.Proofs.YtncogghlhlnmaaaGreatDoor
set_option linter.unusedVariables false
namespace Go.Proofs.YtncogghlhlnmaaaGreatDoor
open Go Go.RowKit Go.Via
set_option maxRecDepth 20000 in
theorem c_rational_FromInts (m n : Int) (hm : -9223372036854775808 ≤ m ∧ m ≤ 9223372036854775807) (hn : -9223372036854775808 ≤ n ∧ n ≤ 9223372036854775807) : PCall Tryz.prog 45 #[.int .i64 m, .int .i64 n] (.tuple #[Q (Rat.divInt m n), .int .i64 (if n = 0 then 6 else 0)]) := by
 refine ⟨by kernel_rfl, fun w => ?_⟩
 refine calls_at (args := [.int .i64 m, .int .i64 n]) Tryz.func45 rfl (Nat.le_of_ble_eq_true rfl) (LRel.nil w) ?_
 show At w ⟨13, [(0, .int .i64 m), (1, .int .i64 n)], []⟩ _
 refine at_seq (at_region ?_)
 refine r_alloc [_, _, _, _] 4 (fun g => [⟨some g, 63, _, 4, true⟩]) rfl rfl z63 rfl rfl (fun _ => rfl) (fun g0 => ?_)
 refine r_assign rfl rfl rfl (run_nil (at_tn (at_seq (at_region (r_move rfl rfl rfl ?_)))))
 refine r_pcall [_] rfl rfl rfl (c_integer_FromInt m hm.1 hm.2) ?_
 refine r_move rfl rfl rfl ?_
 refine r_pcall [_] rfl rfl rfl (c_integer_FromInt n hn.1 hn.2) ?_
 refine r_pcall [_, _] rfl rfl rfl (c_rational_Make m n (szI64 hm.1 hm.2) (szI64 hn.1 hn.2)) ?_
 refine r_extract (vs := [_, _]) rfl rfl rfl rfl ?_
 refine r_extract (vs := [_, _]) rfl rfl rfl rfl ?_
 refine r_store rfl 0 0 [⟨some g0, 63, _, 4, true⟩] [_, _, _, _] rfl rfl rfl rfl ti63 rfl rfl rfl rfl rfl ?_
 refine r_assign rfl rfl rfl (run_nil (at_tn (at_ret ?_)))
 refine at_end2 rfl (res_cell 0 rfl rfl ti63 (vs := [_, _, _, _]) rfl rfl (Nat.le_of_ble_eq_true rfl) rfl) (res_tmp rfl) (fun w hL => ⟨?_, hL.below⟩)
 exact rfl
set_option maxRecDepth 20000 in
theorem c_clock_Middle (lo hi : Int) (hs : -9223372036854775808 ≤ lo + hi ∧ lo + hi ≤ 9223372036854775807) : PCall Tryz.prog 27 #[.agg #[.int .i64 lo, .int .i64 hi]] (Q (Rat.divInt (lo + hi) 2)) := by
 refine ⟨by kernel_rfl, fun w => ?_⟩
 refine calls_at (args := [.agg #[.int .i64 lo, .int .i64 hi]]) Tryz.func27 rfl (Nat.le_of_ble_eq_true rfl) (LRel.nil w) ?_
 show At w ⟨15, [(0, .agg #[.int .i64 lo, .int .i64 hi])], []⟩ _
 refine at_seq (at_region ?_)
 refine r_box [_, _] 2 (fun g => [⟨some g, 26, _, 2, true⟩]) rfl rfl rfl rfl rfl (fun _ => rfl) (fun g0 => ?_)
 refine r_alloc [_, _, _, _] 4 (fun g => [_, ⟨some g, 63, _, 4, true⟩]) rfl rfl z63 rfl rfl (fun _ => rfl) (fun g1 => ?_)
 refine run_nil (at_tn (at_seq (at_region (r_fieldAddr 0 0 0 rfl rfl rfl rfl rfl ti26 rfl rfl (r_load 0 0 [_] rfl rfl rfl rfl ti3 rfl rfl rfl rfl (r_fieldAddr 0 0 1 rfl rfl rfl rfl rfl ti26 rfl rfl (r_load 0 1 [_] rfl rfl rfl rfl ti3 rfl rfl rfl rfl ?_)))))))
 refine r_arith (r := lo + hi) rfl rfl rfl rfl (congrArg some (wi (by omega) (by omega) rfl)) ?_
 refine r_pcall [_, _] rfl rfl rfl (c_rational_FromInts (lo + hi) 2 hs (by omega)) ?_
 refine r_move rfl rfl rfl ?_
 refine r_extract (vs := [_, _]) rfl rfl rfl rfl ?_
 refine r_extract (vs := [_, _]) rfl rfl rfl rfl ?_
 refine r_alloc [_, _, _, _] 4 (fun g => [_, _, ⟨some g, 63, _, 4, true⟩]) rfl rfl z63 rfl rfl (fun _ => rfl) (fun g2 => ?_)
 refine r_store rfl 2 0 [_, _, ⟨some g2, 63, _, 4, true⟩] [_, _, _, _] rfl rfl rfl rfl ti63 rfl rfl rfl rfl rfl ?_
 refine r_assign rfl rfl rfl (run_nil (at_tn (at_seq (at_region (r_load 2 0 [_, _, _, _] rfl rfl rfl rfl ti63 rfl rfl rfl rfl ?_)))))
 refine r_store rfl 1 0 [_, ⟨some g1, 63, _, 4, true⟩, _] [_, _, _, _] rfl rfl rfl rfl ti63 rfl rfl rfl rfl rfl ?_
 refine run_nil (at_tn (at_ret ?_))
 refine at_end1 rfl (res_cell 1 rfl rfl ti63 (vs := [_, _, _, _]) rfl rfl (Nat.le_of_ble_eq_true rfl) rfl) (fun w hL => ⟨?_, hL.below⟩)
 exact rfl
set_option maxRecDepth 20000 in
theorem c_clock_Correct (l : List Ex) (a : Option Addr) (b : Option Nat) (pre : List Value) (N cap : Nat) (hc : l.length ≤ cap) (ha : l ≠ [] → a = b.map fun g => ⟨g, pre.length, none⟩) (hok : ∀ x ∈ l, okX x) (hn : l.length ≤ 1000) (d : Int) (hd : inI64 d) (hK : ∀ e, 0 ≤ e → e ≤ 1073741824 → CycOK l e (fun _ => True)) (hQ : ChOK l d (ChQ l d)) (ro rs rv rt rx ry : Int) (rc : Bool) (ht : -9223372036854775808 ≤ rt ∧ rt ≤ 9223372036854775807) : SCall Tryz.prog 29 [⟨b, 49, pre ++ XLc l, N, false⟩] [.slice a l.length cap, .agg #[.int .i64 ro, .int .i64 rs, .int .i64 rv, .int .i64 d, .int .i64 rt, .int .i64 rx, .int .i64 ry, .bool rc]] Unit (fun _ => .tuple #[corA l d rt, .int .i64 (chE l d)]) (fun _ => []) := by
 refine ⟨by kernel_rfl, fun w hL0 => ?_⟩
 have hob := of_bnd hok hn d
 refine calls_at (args := [.slice a l.length cap, .agg #[.int .i64 ro, .int .i64 rs, .int .i64 rv, .int .i64 d, .int .i64 rt, .int .i64 rx, .int .i64 ry, .bool rc]]) Tryz.func29 rfl (Nat.le_of_ble_eq_true rfl) hL0 ?_
 show At w ⟨25, [(0, .slice a l.length cap), (1, .agg #[.int .i64 ro, .int .i64 rs, .int .i64 rv, .int .i64 d, .int .i64 rt, .int .i64 rx, .int .i64 ry, .bool rc])], [⟨b, 49, pre ++ XLc l, N, false⟩]⟩ _
 refine at_seq (at_region ?_)
 refine r_box [_, _, _, _, _, _, _, _] 8 (fun g => [_, ⟨some g, 59, _, 8, true⟩]) rfl rfl rfl rfl rfl (fun _ => rfl) (fun g0 => ?_)
 refine r_alloc [_, _, _, _] 4 (fun g => [_, _, ⟨some g, 63, _, 4, true⟩]) rfl rfl z63 rfl rfl (fun _ => rfl) (fun g1 => ?_)
 refine r_assign rfl rfl rfl (run_nil (at_tn (at_seq (at_region (r_move rfl rfl rfl (r_fieldAddr 1 0 3 rfl rfl rfl rfl rfl ti59 rfl rfl (r_load 1 3 [_] rfl rfl rfl rfl ti3 rfl rfl rfl rfl ?_)))))))
 refine r_scall0 [_, _] [0] rfl rfl rfl (c_clock_Offset l a b pre N cap hc ha hok hn d hd hK hQ) ⟨⟨_, rfl, Blk.le_refl _⟩, trivial⟩ rfl ?_
 refine r_move rfl rfl rfl ?_
 refine r_extract (vs := [_, _]) rfl rfl rfl rfl ?_
 refine r_extract (vs := [_, _]) rfl rfl rfl rfl ?_
 refine r_alloc [_, _] 2 (fun g => [_, _, _, ⟨some g, 26, _, 2, true⟩]) rfl rfl z26 rfl rfl (fun _ => rfl) (fun g2 => ?_)
 refine r_store rfl 3 0 [_, _, _, ⟨some g2, 26, _, 2, true⟩] [_, _] rfl rfl rfl rfl ti26 rfl rfl rfl rfl rfl ?_
 refine r_assign rfl rfl rfl (run_nil (at_tn (at_seq (at_seq (at_region (r_move rfl rfl rfl (r_cmpInt rfl rfl rfl rfl rfl (run_nil (at_tn ?_)))))))))
 refine at_cond rfl (fun hb0 => ?_) (fun hb0 => ?_)
 ·
  have hE : chE l d ≠ 0 := by simpa using hb0
  refine at_seq (at_region ?_)
  refine r_build [] rfl rfl rfl (bd63_0) ?_
  refine r_move rfl rfl rfl ?_
  refine r_store rfl 2 0 [_, _, ⟨some g1, 63, _, 4, true⟩, _] [_, _, _, _] rfl rfl rfl rfl ti63 rfl rfl rfl rfl rfl ?_
  refine r_assign rfl rfl rfl (run_nil (at_tn (at_ret (at_tr ?_))))
  refine at_end2 rfl (res_cell 2 rfl rfl ti63 (vs := [_, _, _, _]) rfl rfl (Nat.le_of_ble_eq_true rfl) rfl) (res_tmp rfl) (fun w hL => ⟨(), ?_, hL.picks [] trivial rfl rfl⟩)
  unfold corA; rw [if_neg hE]; rfl
 ·
  have hE : chE l d = 0 := by simpa using hb0
  refine at_skip (at_tn (at_seq ?_))
  refine at_drawn (l' := [⟨_,_,_,_,_,_⟩, ⟨_,_,_,_,_,_⟩, ⟨_,_,_,_,_,_⟩, ⟨_,_,_,_,_,_⟩, ⟨_,_,_,_,_,_⟩, ⟨_,_,_,_,_,_⟩, ⟨_,_,_,_,_,_⟩, ⟨_,_,_,_,_,_⟩]) [] [0, 1, 3, 2, 4, 5, 6, 7] mixed (by kernel_rfl) rfl (by kernel_rfl) ?_
  refine r_fieldAddr 1 0 4 rfl rfl rfl rfl rfl ti59 rfl rfl (r_load 1 4 [_] rfl rfl rfl rfl ti3 rfl rfl rfl rfl (r_load 3 0 [_, _] rfl rfl rfl rfl ti26 rfl rfl rfl rfl ?_))
  refine r_pcall [_] rfl rfl rfl (c_rational_FromInt rt ht.1 ht.2) ?_
  refine r_pcall [_] rfl rfl rfl (c_clock_Middle (ofLo l d) (ofHi l d) (by omega)) ?_
  refine r_pcall [_, _] rfl rfl rfl (c_rational_Sub (rt : Rat) (midA l d) (Nat.le_trans (szC ht) (Nat.le_of_ble_eq_true rfl)) (Nat.le_trans (szOfC (by omega) (by omega)) (Nat.le_of_ble_eq_true rfl))) ?_
  refine r_store rfl 2 0 [_, _, ⟨some g1, 63, _, 4, true⟩, _] [_, _, _, _] rfl rfl rfl rfl ti63 rfl rfl rfl rfl rfl ?_
  refine r_assign rfl rfl rfl (run_nil (at_tn (at_ret ?_)))
  refine at_end2 rfl (res_cell 2 rfl rfl ti63 (vs := [_, _, _, _]) rfl rfl (Nat.le_of_ble_eq_true rfl) rfl) (res_tmp rfl) (fun w hL => ⟨(), ?_, hL.picks [] trivial rfl rfl⟩)
  unfold corA; rw [if_pos hE, hE]; rfl
end Go.Proofs.YtncogghlhlnmaaaGreatDoor
set_option linter.unusedVariables false
namespace Go.Proofs.YtncogghlhlnmaaaGreatDoor
open Go Go.RowKit Go.Via
theorem eq26 (a b c d : Int) (w : World) : (Op.equalIn 10000 26 (.agg #[.int .i64 a, .int .i64 b]) (.agg #[.int .i64 c, .int .i64 d])).run Tryz.prog w = .ok ((a == c) && (b == d)) w := by
  simp [go_sem]
  (repeat' split) <;> simp_all
end Go.Proofs.YtncogghlhlnmaaaGreatDoor
set_option linter.unusedVariables false
namespace Go.Proofs.YtncogghlhlnmaaaGreatDoor
open Go Go.RowKit Go.Via
set_option maxRecDepth 20000 in
set_option maxHeartbeats 4000000 in
theorem c_law_known  : PCall Tryz.prog 12 #[] (.bool true) := by
 refine ⟨by kernel_rfl, fun w => ?_⟩
 refine calls_at (args := []) Tryz.func12 rfl (Nat.le_of_ble_eq_true rfl) (LRel.nil w) ?_
 show At w ⟨59, [], []⟩ _
 refine at_seq (at_region (r_assign rfl rfl rfl (run_nil (at_tn (at_seq (at_region ?_))))))
 refine r_build [(0, _), (1, _), (2, _), (3, _), (4, _)] rfl rfl rfl (bd49_5) ?_
 refine r_build [(0, _), (1, _), (2, _), (3, _), (4, _)] rfl rfl rfl (bd49_5) ?_
 refine r_buildSlice [(0, _), (1, _)] (fun g => [⟨some g, 49, _, 10, true⟩]) rfl rfl rfl (bs22_2) rfl (fun _ => rfl) (fun g0 => ?_)
 refine r_assign rfl rfl rfl (run_nil (at_tn (at_seq (at_region (r_move rfl rfl rfl ?_)))))
 refine r_scall0 [_, _] [0] rfl rfl rfl (c_clock_Offset ex0 (some ⟨g0, 0, none⟩) (some g0) [] 10 2 (Nat.le_refl _) (fun _ => rfl) ex0_ok (by decide) 1 ⟨by decide, by decide⟩ (cycT ex0_ok (by decide)) (chOK ex0_ok 1 (by decide))) ⟨⟨_, rfl, le_share⟩, trivial⟩ rfl ?_
 refine r_know 13 (.tuple #[.agg #[.int .i64 5, .int .i64 5], .int .i64 0]) rfl (by rw [ex0_go.1, ex0_go.2.1, ex0_go.2.2]) ?_
 refine r_move rfl rfl rfl ?_
 refine r_extract (vs := [_, _]) rfl rfl rfl rfl ?_
 refine r_extract (vs := [_, _]) rfl rfl rfl rfl ?_
 refine r_alloc [_, _] 2 (fun g => [_, ⟨some g, 26, _, 2, true⟩]) rfl rfl z26 rfl rfl (fun _ => rfl) (fun g1 => ?_)
 refine r_store rfl 1 0 [_, ⟨some g1, 26, _, 2, true⟩] [_, _] rfl rfl rfl rfl ti26 rfl rfl rfl rfl rfl ?_
 refine r_assign rfl rfl rfl (run_nil (at_tn (at_seq (at_region (r_move rfl rfl rfl ?_)))))
 refine r_build [(3, _), (4, _)] rfl rfl rfl (bd59_3_4x) ?_
 refine r_scall0 [_, _] [0] rfl rfl rfl (c_clock_Correct ex0 (some ⟨g0, 0, none⟩) (some g0) [] 10 2 (Nat.le_refl _) (fun _ => rfl) ex0_ok (by decide) 1 ⟨by decide, by decide⟩ (cycT ex0_ok (by decide)) (chOK ex0_ok 1 (by decide)) 0 0 0 30 0 0 false (by omega)) ⟨⟨_, rfl, le_share⟩, trivial⟩ rfl ?_
 refine r_know 19 (.tuple #[Q (Rat.divInt 25 1), .int .i64 0]) rfl (by rw [ex0_cor, ex0_go.2.2]) ?_
 refine r_move rfl rfl rfl ?_
 refine r_extract (vs := [_, _]) rfl rfl rfl rfl ?_
 refine r_extract (vs := [_, _]) rfl rfl rfl rfl ?_
 refine r_alloc [_, _, _, _] 4 (fun g => [_, _, ⟨some g, 63, _, 4, true⟩]) rfl rfl z63 rfl rfl (fun _ => rfl) (fun g2 => ?_)
 refine r_store rfl 2 0 [_, _, ⟨some g2, 63, _, 4, true⟩] [_, _, _, _] rfl rfl rfl rfl ti63 rfl rfl rfl rfl rfl ?_
 refine r_assign rfl rfl rfl (run_nil (at_tn (at_seq (at_region (r_move rfl rfl rfl ?_)))))
 refine r_buildSlice [(0, _), (1, _)] (fun g => [_, _, _, ⟨some g, 3, _, 2, true⟩]) rfl rfl rfl (bs33_2) rfl (fun _ => rfl) (fun g3 => ?_)
 refine r_scall0 [_, _, _, _] [0, 3] rfl rfl rfl (c_clock_Sum ex0 (some ⟨g0, 0, none⟩) (some g0) [] 10 2 (Nat.le_refl _) (fun _ => rfl) ex0_ok [0, 1] (some ⟨g3, 0, none⟩) (some g3) [] 2 2 (Nat.le_refl _) (fun _ => rfl) (by decide) 0 0) ⟨⟨_, rfl, le_share⟩, ⟨_, rfl, le_share⟩, trivial⟩ rfl ?_
 refine r_know 25 (.tuple #[.int .i64 0, .int .i64 0]) rfl (by rw [ex0_sum.1, ex0_sum.2]) ?_
 refine r_move rfl rfl rfl ?_
 refine r_extract (vs := [_, _]) rfl rfl rfl rfl ?_
 refine r_extract (vs := [_, _]) rfl rfl rfl rfl ?_
 refine r_assign rfl rfl rfl (r_assign rfl rfl rfl (run_nil (at_tn (at_seq ?_))))
 refine at_drawn (l' := (⟨_,_,_,_,_,_⟩ :: ⟨_,_,_,_,_,_⟩ :: ⟨_,_,_,_,_,_⟩ :: ⟨_,_,_,_,_,_⟩ :: ⟨_,_,_,_,_,_⟩ :: ⟨_,_,_,_,_,_⟩ :: ⟨_,_,_,_,_,_⟩ :: ⟨_,_,_,_,_,_⟩ :: ⟨_,_,_,_,_,_⟩ :: ⟨_,_,_,_,_,_⟩ :: ⟨_,_,_,_,_,_⟩ :: ⟨_,_,_,_,_,_⟩ :: ⟨_,_,_,_,_,_⟩ :: ⟨_,_,_,_,_,_⟩ :: ⟨_,_,_,_,_,_⟩ :: ⟨_,_,_,_,_,_⟩ :: ⟨_,_,_,_,_,_⟩ :: ⟨_,_,_,_,_,_⟩ :: ⟨_,_,_,_,_,_⟩ :: ⟨_,_,_,_,_,_⟩ :: ⟨_,_,_,_,_,_⟩ :: ⟨_,_,_,_,_,_⟩ :: ⟨_,_,_,_,_,_⟩ :: ⟨_,_,_,_,_,_⟩ :: ⟨_,_,_,_,_,_⟩ :: ⟨_,_,_,_,_,_⟩ :: ⟨_,_,_,_,_,_⟩ :: ⟨_,_,_,_,_,_⟩ :: ⟨_,_,_,_,_,_⟩ :: ⟨_,_,_,_,_,_⟩ :: ⟨_,_,_,_,_,_⟩ :: ⟨_,_,_,_,_,_⟩ :: [])) [] (0 :: 1 :: 2 :: 3 :: 4 :: 5 :: 6 :: 7 :: 8 :: 9 :: 10 :: 11 :: 12 :: 13 :: 14 :: 15 :: 16 :: 17 :: 18 :: 19 :: 20 :: 21 :: 22 :: 23 :: 24 :: 25 :: 26 :: 27 :: 28 :: 29 :: 30 :: 31 :: []) mixed (drawnM (0 :: 1 :: 3 :: 7 :: 7 :: 31 :: 63 :: 127 :: 255 :: 511 :: 1023 :: 2047 :: 4095 :: 4095 :: 16383 :: 32767 :: 65535 :: 131071 :: 262143 :: 524287 :: 1048575 :: 2097151 :: 4194303 :: 8388607 :: 16777215 :: 33554431 :: 67108863 :: 134217727 :: 268435455 :: 536870911 :: 1073741823 :: 2147483647 :: []) (by kernel_rfl)) rfl (by kernel_rfl) ?_
 refine r_move rfl rfl rfl (r_cmpInt rfl rfl rfl rfl rfl ?_)
 refine r_know 29 (.bool true) rfl rfl ?_
 refine r_move rfl rfl rfl (r_load 1 0 [_, _] rfl rfl rfl rfl ti26 rfl rfl rfl rfl ?_)
 refine r_build [(0, _), (1, _)] rfl rfl rfl (bd26_2) ?_
 refine r_eqlAgg rfl rfl rfl rfl gd26 (eq26 _ _ _ _) ?_
 refine r_know 33 (.bool true) rfl rfl ?_
 refine r_pickT rfl rfl rfl rfl (r_move rfl rfl rfl (r_move rfl rfl rfl (r_cmpInt rfl rfl rfl rfl rfl ?_)))
 refine r_know 37 (.bool true) rfl rfl ?_
 refine r_pickT rfl rfl rfl rfl (r_move rfl rfl rfl (r_load 2 0 [_, _, _, _] rfl rfl rfl rfl ti63 rfl rfl rfl rfl ?_))
 refine r_pcall [_, _] rfl rfl rfl (c_ref02_Of 25 1 (by omega) (by omega) (by omega) (by omega) (by omega)) ?_
 refine r_eqlAgg rfl rfl rfl rfl gd63 (eq63 (Rat.divInt 25 1) (Rat.divInt 25 1)) ?_
 refine r_know 42 (.bool true) rfl (congrArg Value.bool (decide_eq_true rfl)) ?_
 refine r_pickT rfl rfl rfl rfl (r_move rfl rfl rfl (r_move rfl rfl rfl (r_cmpInt rfl rfl rfl rfl rfl ?_)))
 refine r_know 46 (.bool true) rfl rfl ?_
 refine r_pickT rfl rfl rfl rfl (r_move rfl rfl rfl (r_move rfl rfl rfl (r_cmpInt rfl rfl rfl rfl rfl ?_)))
 refine r_know 50 (.bool true) rfl rfl ?_
 refine r_pickT rfl rfl rfl rfl (r_move rfl rfl rfl (r_move rfl rfl rfl ?_))
 refine r_indexAddr 0 (0 * 5) u22 ti49 rfl rfl rfl rfl rfl (by omega) (by omega) (by simp) (by show 0 + Int.toNat _ * 5 = _; omega) ?_
 refine r_load (v := ExV ⟨0, 1, 10, 17, 2⟩) 0 (0 * 5) _ rfl rfl rfl rfl ti49 rfl rfl (by decide) rfl ?_
 refine r_pcall [_] rfl rfl rfl (c_clock_Weight ⟨0, 1, 10, 17, 2⟩ (ex0_ok _ (by simp [ex0]))) ?_
 refine r_cmpInt rfl rfl rfl rfl rfl ?_
 refine r_know 57 (.bool true) rfl rfl ?_
 refine r_pickT rfl rfl rfl rfl (r_assign rfl rfl rfl (run_nil (at_tn (at_ret ?_))))
 refine at_end1 rfl (res_tmp rfl) (fun w hL => ⟨?_, hL.below⟩)
 exact rfl
end Go.Proofs.YtncogghlhlnmaaaGreatDoor
