/-
  For any exchanges, any report and any two bounds, ClockCorrects returns true: within the law's limits Correct returns the time less the middle of the bounds, or the error, and Middle the middle. No further conditions.
-/
import Derived.Test.YtncogghlhlnmaaaGreatDoorA02
import Derived.Test.YtncogghlhlnmaaaGreatDoorA04
import Derived.Test.YtncogghlhlnmaaaGreatDoorA06
import Derived.Test.YtncogghlhlnmaaaGreatDoorA10
import Derived.Test.YtncogghlhlnmaaaGreatDoorA11
set_option linter.unusedVariables false
set_option linter.unusedVariables false
namespace Go.Proofs.YtncogghlhlnmaaaGreatDoor
open Go Go.RowKit Go.Via
set_option maxRecDepth 20000 in
set_option maxHeartbeats 8000000 in
theorem c_law_least (l : List Ex) (a : Option Addr) (b : Option Nat) (pre : List Value) (N cap : Nat) (hc : l.length ≤ cap) (ha : l ≠ [] → a = b.map fun g => ⟨g, pre.length, none⟩) (hok : ∀ x ∈ l, okX x) (hn : l.length ≤ 1000) (nodes : List Int) (bn : Option Nat) (Nn cn : Nat) (hnc : nodes.length ≤ cn) (hnn : nodes.length ≤ 3000) (fr : Int) (steps : Nat) (hst : steps ≤ 3001) : SCall Tryz.prog 36 [⟨b, 49, pre ++ XLc l, N, false⟩, ⟨bn, 3, ILc nodes, Nn, false⟩] [.slice a l.length cap, slv bn 0 nodes.length cn, .int .i64 fr, .int .i64 (steps : Nat)] (SR (leastJ l nodes fr steps).length) (fun x => x.v) (fun x => [⟨x.b, 3, ILc (leastJ l nodes fr steps), x.n, true⟩]) := by
 refine ⟨by kernel_rfl, fun w hL0 => ?_⟩
 refine calls_at (args := [.slice a l.length cap, slv bn 0 nodes.length cn, .int .i64 fr, .int .i64 (steps : Nat)]) Tryz.func36 rfl (Nat.le_of_ble_eq_true rfl) hL0 ?_
 show At w ⟨113, [(0, .slice a l.length cap), (1, slv bn 0 nodes.length cn), (2, .int .i64 fr), (3, .int .i64 (steps : Nat))], [⟨b, 49, pre ++ XLc l, N, false⟩, ⟨bn, 3, ILc nodes, Nn, false⟩]⟩ _
 refine at_seq ?_
 refine at_base 0 rfl (fun hbase => ?_)
 refine at_base 1 rfl (fun hbase1 => ?_)
 refine at_region (r_assign rfl rfl rfl (run_nil (at_tn (at_seq (at_region (r_move rfl rfl rfl (r_lenV u33 rfl rfl rfl ?_)))))))
 refine q_makeSlice (c := nodes.length) (ILc (List.replicate nodes.length 0)) (fun g => [_, _, ⟨some g, 3, _, _, true⟩]) u33 el3 rfl rfl rfl rfl rfl rfl (by omega) (ILc_rep _) (fun _ => rfl) (fun g0 => ?_)
 refine r_assign rfl rfl rfl (run_nil (at_tn (at_seq (at_seq (at_region (r_assign rfl rfl rfl (run_nil (at_tn (at_block ?_)))))))))
 refine enterL (nt := 113) (ι := {i : Nat // i ≤ nodes.length}) (fun ⟨i, hi⟩ => [(0, .slice a l.length cap), (1, slv bn 0 nodes.length cn), (2, .int .i64 fr), (3, .int .i64 (steps : Nat)), (9, slv (some g0) 0 nodes.length nodes.length), (10, .int .i64 (i : Nat))]) (fun ⟨i, hi⟩ => [⟨b, 49, pre ++ XLc l, N, false⟩, ⟨bn, 3, ILc nodes, Nn, false⟩, ⟨some g0, 3, ILc (initI nodes fr i), nodes.length, true⟩]) (fun ⟨i, hi⟩ => nodes.length - i) ⟨0, Nat.zero_le _⟩ ⟨rfl, rfl, rfl, rfl, rfl, rfl, trivial⟩ (Weak.refl _) ?_
 rintro ⟨i, hi⟩
 show At _ ⟨113, [(0, .slice a l.length cap), (1, slv bn 0 nodes.length cn), (2, .int .i64 fr), (3, .int .i64 (steps : Nat)), (9, slv (some g0) 0 nodes.length nodes.length), (10, .int .i64 (i : Nat))], [⟨b, 49, pre ++ XLc l, N, false⟩, ⟨bn, 3, ILc nodes, Nn, false⟩, ⟨some g0, 3, ILc (initI nodes fr i), nodes.length, true⟩]⟩ _
 refine at_seq (at_seq (at_region (r_move rfl rfl rfl (r_move rfl rfl rfl (r_lenV u33 rfl rfl rfl (r_cmpInt rfl rfl rfl rfl rfl (run_nil (at_tn ?_))))))))
 refine at_cond rfl (fun hb1 => ?_) (fun hb1 => ?_)
 ·
  have hlt : i < nodes.length := (by have := of_decide_eq_true hb1; omega)
  obtain ⟨z, hz⟩ : ∃ z, nodes[i]? = some z := ⟨_, List.getElem?_eq_getElem hlt⟩
  obtain ⟨gn, hgn⟩ := il_base (pre := []) hbase1 (by omega)
  replace hgn : bn = some gn := hgn
  subst hgn
  refine at_skip (at_tn (at_seq (at_block (at_seq (at_region (r_move rfl rfl rfl (r_cmpInt rfl rfl rfl rfl rfl (r_move rfl rfl rfl ?_))))))))
  refine r_split 27 rfl (fun hb2 => ?_) (fun hb2 => ?_)
  ·
   have hf0 : 0 ≤ fr := of_decide_eq_true hb2
   refine r_move rfl rfl rfl (r_move rfl rfl rfl ?_)
   refine r_indexAddr 1 (i * 1) u33 ti3 rfl rfl rfl rfl rfl (by omega) (by omega) (ILc_ne (by omega)) (by show 0 + Int.toNat _ * 1 = _; omega) ?_
   refine r_load (v := .int .i64 z) 1 (i * 1) _ rfl rfl rfl rfl ti3 (ILc_get hz) rfl (by decide) rfl ?_
   refine r_move rfl rfl rfl (r_cmpInt rfl rfl rfl rfl rfl (r_pickT rfl rfl rfl rfl (run_nil (at_tn ?_))))
   refine at_cond rfl (fun hb3 => ?_) (fun hb3 => ?_)
   ·
    have hzf : z ≠ fr := by simpa using hb3
    have hin := initI_yes hf0 hz hzf
    refine at_region (r_move rfl rfl rfl (r_move rfl rfl rfl ?_))
    refine r_indexAddr 2 (i * 1) u33 ti3 rfl rfl rfl rfl rfl (by omega) (by omega) (ILc_ne (by rw [initI_len]; omega)) (by show 0 + Int.toNat _ * 1 = _; omega) ?_
    refine r_store1 rfl 2 (i * 1) [_, _, ⟨some g0, 3, _, _, true⟩] (ILc ((initI nodes fr i).set i farJ)) ti3 rfl rfl rfl rfl rfl rfl rfl rfl (by rw [ILc_length, initI_len]; omega) (ILc_set _ _ _) rfl ?_
    refine run_nil (at_bn (at_tn (at_region (r_move rfl rfl rfl ?_))))
    refine r_arith (r := ((i + 1 : Nat) : Int)) rfl rfl rfl rfl (congrArg some (wi (by omega) (by omega) (by omega))) ?_
    refine r_assign rfl rfl rfl (run_nil (at_tn ?_))
    exact nextL ⟨i + 1, hlt⟩ (by simp only []; omega) ⟨rfl, rfl, rfl, rfl, rfl, rfl, trivial⟩ (weak_picks [some 0, some 1, some 2] ⟨⟨_, rfl, Blk.le_refl _⟩, ⟨_, rfl, Blk.le_refl _⟩, ⟨_, rfl, le_same (congrArg (fun c => (⟨some g0, 3, ILc c, nodes.length, true⟩ : Blk)) (hin))⟩, trivial⟩ rfl rfl)
   ·
    have hzf : z = fr := by simpa using hb3
    have hin := initI_no hz (fr := fr) (fun h => h.2 hzf)
    refine at_skip (at_bn (at_tn (at_region (r_move rfl rfl rfl ?_))))
    refine r_arith (r := ((i + 1 : Nat) : Int)) rfl rfl rfl rfl (congrArg some (wi (by omega) (by omega) (by omega))) ?_
    refine r_assign rfl rfl rfl (run_nil (at_tn ?_))
    exact nextL ⟨i + 1, hlt⟩ (by simp only []; omega) ⟨rfl, rfl, rfl, rfl, rfl, rfl, trivial⟩ (weak_picks [some 0, some 1, some 2] ⟨⟨_, rfl, Blk.le_refl _⟩, ⟨_, rfl, Blk.le_refl _⟩, ⟨_, rfl, le_same (congrArg (fun c => (⟨some g0, 3, ILc c, nodes.length, true⟩ : Blk)) (hin))⟩, trivial⟩ rfl rfl)
  ·
   have hf0 : ¬ 0 ≤ fr := of_decide_eq_false hb2
   have hin := initI_no hz (fr := fr) (fun h => hf0 h.1)
   refine r_no rfl rfl rfl (r_no rfl rfl rfl (r_no rfl rfl rfl (r_no rfl rfl rfl (r_no rfl rfl rfl (r_no rfl rfl rfl (r_pickF rfl rfl rfl rfl (run_nil (at_tn (at_condF rfl (at_skip (at_bn (at_tn (at_region (r_move rfl rfl rfl ?_))))))))))))))
   refine r_arith (r := ((i + 1 : Nat) : Int)) rfl rfl rfl rfl (congrArg some (wi (by omega) (by omega) (by omega))) ?_
   refine r_assign rfl rfl rfl (run_nil (at_tn ?_))
   exact nextL ⟨i + 1, hlt⟩ (by simp only []; omega) ⟨rfl, rfl, rfl, rfl, rfl, rfl, trivial⟩ (weak_picks [some 0, some 1, some 2] ⟨⟨_, rfl, Blk.le_refl _⟩, ⟨_, rfl, Blk.le_refl _⟩, ⟨_, rfl, le_same (congrArg (fun c => (⟨some g0, 3, ILc c, nodes.length, true⟩ : Blk)) (hin))⟩, trivial⟩ rfl rfl)
 ·
  have hge : i = nodes.length := (by have := of_decide_eq_false hb1; omega)
  subst hge
  refine at_exit (at_te (at_te (at_be (at_tn (at_seq (at_seq (at_region (r_assign rfl rfl rfl (run_nil (at_tn (at_block ?_)))))))))))
  refine enterL (nt := 113) (ι := {x : Nat × Option Nat × Nat × Nat // x.1 ≤ steps ∧ nodes.length ≤ x.2.2.2}) (fun ⟨⟨r, ob, oN, oc⟩, hr, h1⟩ => [(0, .slice a l.length cap), (1, slv bn 0 nodes.length cn), (3, .int .i64 (steps : Nat)), (9, slv ob 0 nodes.length oc), (11, .int .i64 (r : Nat))]) (fun ⟨⟨r, ob, oN, oc⟩, hr, h1⟩ => [⟨b, 49, pre ++ XLc l, N, false⟩, ⟨bn, 3, ILc nodes, Nn, false⟩, ⟨ob, 3, ILc (leastJ l nodes fr r), oN, true⟩]) (fun ⟨⟨r, ob, oN, oc⟩, hr, h1⟩ => steps - r) ⟨(0, some g0, nodes.length, nodes.length), Nat.zero_le _, Nat.le_refl _⟩ ⟨rfl, rfl, rfl, rfl, rfl, trivial⟩ (weak_picks [some 0, some 1, some 2] ⟨⟨_, rfl, Blk.le_refl _⟩, ⟨_, rfl, Blk.le_refl _⟩, ⟨_, rfl, le_same (congrArg (fun c => (⟨some g0, 3, ILc c, nodes.length, true⟩ : Blk)) ((initI_end nodes fr).symm))⟩, trivial⟩ rfl rfl) ?_
  rintro ⟨⟨r, ob, oN, oc⟩, hr, h1⟩
  show At _ ⟨113, [(0, .slice a l.length cap), (1, slv bn 0 nodes.length cn), (3, .int .i64 (steps : Nat)), (9, slv ob 0 nodes.length oc), (11, .int .i64 (r : Nat))], [⟨b, 49, pre ++ XLc l, N, false⟩, ⟨bn, 3, ILc nodes, Nn, false⟩, ⟨ob, 3, ILc (leastJ l nodes fr r), oN, true⟩]⟩ _
  replace hr : r ≤ steps := hr
  replace h1 : nodes.length ≤ oc := h1
  refine at_base 2 rfl (fun hbase2 => ?_)
  refine at_seq (at_seq (at_region (r_move rfl rfl rfl (r_move rfl rfl rfl (r_cmpInt rfl rfl rfl rfl rfl (run_nil (at_tn ?_)))))))
  refine at_cond rfl (fun hb3 => ?_) (fun hb3 => ?_)
  ·
   have hrlt : r < steps := (by have := of_decide_eq_true hb3; omega)
   refine at_skip (at_tn (at_seq (at_block (at_seq (at_region ?_)))))
   refine r_buildSlice [] (fun g => [_, _, _, ⟨some g, 3, _, 0, true⟩]) rfl rfl rfl (bs33_0) rfl (fun _ => rfl) (fun g0 => ?_)
   refine r_move rfl rfl rfl ?_
   refine q_appendO (s := 1) (len := 0) (n2 := nodes.length) 3 2 (ILc (leastJ l nodes fr r)) (fun q => [_, _, _, ⟨q.b, 3, ILc (leastJ l nodes fr r), q.n, true⟩]) u33 el3 rfl rfl rfl rfl rfl rfl rfl rfl rfl rfl rfl (Nat.le_refl _) (Nat.le_refl _) (by by_cases hz : nodes.length = 0; exact .inl hz; exact .inr (il_base (pre := []) hbase2 (by rw [leastJ_len]; omega))) (ILc_whole (leastJ_len l nodes fr r)) (by rw [ILc_length, leastJ_len]; omega) (ILc_one _) (by omega) (fun _ => rfl) (fun q => ?_)
   refine r_assign rfl rfl rfl (run_nil (at_tn (at_seq (at_seq (at_region (r_assign rfl rfl rfl (run_nil (at_tn (at_block ?_)))))))))
   refine enterL (nt := 113) (ι := {x : Nat × Option Nat × Nat × Nat // x.1 ≤ l.length ∧ nodes.length ≤ x.2.2.2}) (fun ⟨⟨k, nb, nN, nc⟩, hk, h2⟩ => [(0, .slice a l.length cap), (1, slv bn 0 nodes.length cn), (3, .int .i64 (steps : Nat)), (9, slv ob 0 nodes.length oc), (11, .int .i64 (r : Nat)), (12, slv nb 0 nodes.length nc), (13, .int .i64 (k : Nat))]) (fun ⟨⟨k, nb, nN, nc⟩, hk, h2⟩ => [⟨b, 49, pre ++ XLc l, N, false⟩, ⟨bn, 3, ILc nodes, Nn, false⟩, ⟨ob, 3, ILc (leastJ l nodes fr r), oN, true⟩, ⟨nb, 3, ILc ((l.take k).foldl (exJ nodes (leastJ l nodes fr r)) (leastJ l nodes fr r)), nN, true⟩]) (fun ⟨⟨k, nb, nN, nc⟩, hk, h2⟩ => l.length - k) ⟨(0, q.b, q.n, q.cap), Nat.zero_le _, by have := q.h; show nodes.length ≤ q.cap; omega⟩ ⟨rfl, rfl, rfl, rfl, rfl, (look_val rfl (congrArg (fun m => slv q.b 0 m q.cap) (Nat.zero_add _))), rfl, trivial⟩ (weak_picks [some 0, some 1, some 2, some 3] ⟨⟨_, rfl, Blk.le_refl _⟩, ⟨_, rfl, Blk.le_refl _⟩, ⟨_, rfl, Blk.le_refl _⟩, ⟨_, rfl, Blk.le_refl _⟩, trivial⟩ rfl rfl) ?_
   rintro ⟨⟨k, nb, nN, nc⟩, hk, h2⟩
   show At _ ⟨113, [(0, .slice a l.length cap), (1, slv bn 0 nodes.length cn), (3, .int .i64 (steps : Nat)), (9, slv ob 0 nodes.length oc), (11, .int .i64 (r : Nat)), (12, slv nb 0 nodes.length nc), (13, .int .i64 (k : Nat))], [⟨b, 49, pre ++ XLc l, N, false⟩, ⟨bn, 3, ILc nodes, Nn, false⟩, ⟨ob, 3, ILc (leastJ l nodes fr r), oN, true⟩, ⟨nb, 3, ILc ((l.take k).foldl (exJ nodes (leastJ l nodes fr r)) (leastJ l nodes fr r)), nN, true⟩]⟩ _
   replace hk : k ≤ l.length := hk
   replace h2 : nodes.length ≤ nc := h2
   refine at_base 3 rfl (fun hbase3 => ?_)
   refine at_seq (at_seq (at_region (r_move rfl rfl rfl (r_move rfl rfl rfl (r_lenV u22 rfl rfl rfl (r_cmpInt rfl rfl rfl rfl rfl (run_nil (at_tn ?_))))))))
   refine at_cond rfl (fun hb5 => ?_) (fun hb5 => ?_)
   ·
    have hlt : k < l.length := (by have := of_decide_eq_true hb5; omega)
    obtain ⟨x, hx⟩ : ∃ x, l[k]? = some x := ⟨l[k], List.getElem?_eq_getElem hlt⟩
    have hokx := hok x (List.mem_of_getElem? hx)
    have hwb := wt_bound hokx
    obtain ⟨gb, hgb⟩ := ex_base hbase (by omega)
    replace hgb : b = some gb := hgb
    subst hgb
    obtain rfl : a = some ⟨gb, pre.length, none⟩ := ha (fun e => by rw [e] at hlt; cases hlt)
    refine at_skip (at_tn (at_seq (at_block (at_seq (at_region (r_assign rfl rfl rfl (run_nil (at_tn (at_block ?_)))))))))
    refine enterL (nt := 113) (ι := {i : Nat // i ≤ nodes.length}) (fun ⟨i1, hi1⟩ => [(0, .slice (some ⟨gb, pre.length, none⟩) l.length cap), (1, slv bn 0 nodes.length cn), (3, .int .i64 (steps : Nat)), (9, slv ob 0 nodes.length oc), (11, .int .i64 (r : Nat)), (12, slv nb 0 nodes.length nc), (13, .int .i64 (k : Nat)), (14, .int .i64 (i1 : Nat))]) (fun ⟨i1, hi1⟩ => [⟨some gb, 49, pre ++ XLc l, N, false⟩, ⟨bn, 3, ILc nodes, Nn, false⟩, ⟨ob, 3, ILc (leastJ l nodes fr r), oN, true⟩, ⟨nb, 3, ILc ((List.range i1).foldl (rowJ nodes (leastJ l nodes fr r) x) ((l.take k).foldl (exJ nodes (leastJ l nodes fr r)) (leastJ l nodes fr r))), nN, true⟩]) (fun ⟨i1, hi1⟩ => nodes.length - i1) ⟨0, Nat.zero_le _⟩ ⟨rfl, rfl, rfl, rfl, rfl, rfl, rfl, rfl, trivial⟩ (Weak.refl _) ?_
    rintro ⟨i1, hi1⟩
    show At _ ⟨113, [(0, .slice (some ⟨gb, pre.length, none⟩) l.length cap), (1, slv bn 0 nodes.length cn), (3, .int .i64 (steps : Nat)), (9, slv ob 0 nodes.length oc), (11, .int .i64 (r : Nat)), (12, slv nb 0 nodes.length nc), (13, .int .i64 (k : Nat)), (14, .int .i64 (i1 : Nat))], [⟨some gb, 49, pre ++ XLc l, N, false⟩, ⟨bn, 3, ILc nodes, Nn, false⟩, ⟨ob, 3, ILc (leastJ l nodes fr r), oN, true⟩, ⟨nb, 3, ILc ((List.range i1).foldl (rowJ nodes (leastJ l nodes fr r) x) ((l.take k).foldl (exJ nodes (leastJ l nodes fr r)) (leastJ l nodes fr r))), nN, true⟩]⟩ _
    refine at_seq (at_seq (at_region (r_move rfl rfl rfl (r_move rfl rfl rfl (r_lenV u33 rfl rfl rfl (r_cmpInt rfl rfl rfl rfl rfl (run_nil (at_tn ?_))))))))
    refine at_cond rfl (fun hb7 => ?_) (fun hb7 => ?_)
    ·
     have hlt1 : i1 < nodes.length := (by have := of_decide_eq_true hb7; omega)
     have hSl : (leastJ l nodes fr r).length = nodes.length := leastJ_len l nodes fr r
     have hTkl : ((l.take k).foldl (exJ nodes (leastJ l nodes fr r)) (leastJ l nodes fr r)).length = nodes.length := (foldl_len _ (fun s x => exJ_len nodes _ s x) _ _).trans hSl
     have hTal : ((List.range i1).foldl (rowJ nodes (leastJ l nodes fr r) x) ((l.take k).foldl (exJ nodes (leastJ l nodes fr r)) (leastJ l nodes fr r))).length = nodes.length := (foldl_len _ (fun s a => rowJ_len nodes _ x s a) _ _).trans hTkl
     obtain ⟨gn, hgn⟩ := il_base (pre := []) hbase1 (by omega)
     replace hgn : bn = some gn := hgn
     subst hgn
     obtain ⟨gs, hgs⟩ := il_base (pre := []) hbase2 (by omega)
     replace hgs : ob = some gs := hgs
     subst hgs
     obtain ⟨gq, hgq⟩ := il_base (pre := []) hbase3 (by omega)
     replace hgq : nb = some gq := hgq
     subst hgq
     obtain ⟨za, hza⟩ : ∃ z, (nodes)[i1]? = some z := ⟨_, List.getElem?_eq_getElem (hlt1)⟩
     obtain ⟨sa, hsa⟩ : ∃ z, (leastJ l nodes fr r)[i1]? = some z := ⟨_, List.getElem?_eq_getElem (by omega)⟩
     have hsb := leastJ_bnd hok nodes fr r sa (List.mem_of_getElem? hsa)
     unfold farJ at hsb
     refine at_skip (at_tn (at_seq (at_block (at_seq (at_region (r_assign rfl rfl rfl (run_nil (at_tn (at_block ?_)))))))))
     refine enterL (nt := 113) (ι := {i : Nat // i ≤ nodes.length}) (fun ⟨i2, hi2⟩ => [(0, .slice (some ⟨gb, pre.length, none⟩) l.length cap), (1, slv (some gn) 0 nodes.length cn), (3, .int .i64 (steps : Nat)), (9, slv (some gs) 0 nodes.length oc), (11, .int .i64 (r : Nat)), (12, slv (some gq) 0 nodes.length nc), (13, .int .i64 (k : Nat)), (14, .int .i64 (i1 : Nat)), (15, .int .i64 (i2 : Nat))]) (fun ⟨i2, hi2⟩ => [⟨some gb, 49, pre ++ XLc l, N, false⟩, ⟨some gn, 3, ILc nodes, Nn, false⟩, ⟨some gs, 3, ILc (leastJ l nodes fr r), oN, true⟩, ⟨some gq, 3, ILc ((List.range i2).foldl (cellJ nodes (leastJ l nodes fr r) x i1) ((List.range i1).foldl (rowJ nodes (leastJ l nodes fr r) x) ((l.take k).foldl (exJ nodes (leastJ l nodes fr r)) (leastJ l nodes fr r)))), nN, true⟩]) (fun ⟨i2, hi2⟩ => nodes.length - i2) ⟨0, Nat.zero_le _⟩ ⟨rfl, rfl, rfl, rfl, rfl, rfl, rfl, rfl, rfl, trivial⟩ (Weak.refl _) ?_
     rintro ⟨i2, hi2⟩
     show At _ ⟨113, [(0, .slice (some ⟨gb, pre.length, none⟩) l.length cap), (1, slv (some gn) 0 nodes.length cn), (3, .int .i64 (steps : Nat)), (9, slv (some gs) 0 nodes.length oc), (11, .int .i64 (r : Nat)), (12, slv (some gq) 0 nodes.length nc), (13, .int .i64 (k : Nat)), (14, .int .i64 (i1 : Nat)), (15, .int .i64 (i2 : Nat))], [⟨some gb, 49, pre ++ XLc l, N, false⟩, ⟨some gn, 3, ILc nodes, Nn, false⟩, ⟨some gs, 3, ILc (leastJ l nodes fr r), oN, true⟩, ⟨some gq, 3, ILc ((List.range i2).foldl (cellJ nodes (leastJ l nodes fr r) x i1) ((List.range i1).foldl (rowJ nodes (leastJ l nodes fr r) x) ((l.take k).foldl (exJ nodes (leastJ l nodes fr r)) (leastJ l nodes fr r)))), nN, true⟩]⟩ _
     refine at_seq (at_seq (at_region (r_move rfl rfl rfl (r_move rfl rfl rfl (r_lenV u33 rfl rfl rfl (r_cmpInt rfl rfl rfl rfl rfl (run_nil (at_tn ?_))))))))
     refine at_cond rfl (fun hb9 => ?_) (fun hb9 => ?_)
     ·
      have hlt2 : i2 < nodes.length := (by have := of_decide_eq_true hb9; omega)
      have hTbl : ((List.range i2).foldl (cellJ nodes (leastJ l nodes fr r) x i1) ((List.range i1).foldl (rowJ nodes (leastJ l nodes fr r) x) ((l.take k).foldl (exJ nodes (leastJ l nodes fr r)) (leastJ l nodes fr r)))).length = nodes.length := (foldl_len _ (fun s b => cellJ_len nodes _ x i1 s b) _ _).trans hTal
      obtain ⟨zb, hzb⟩ : ∃ z, (nodes)[i2]? = some z := ⟨_, List.getElem?_eq_getElem (hlt2)⟩
      obtain ⟨tb, htb⟩ : ∃ z, (((List.range i2).foldl (cellJ nodes (leastJ l nodes fr r) x i1) ((List.range i1).foldl (rowJ nodes (leastJ l nodes fr r) x) ((l.take k).foldl (exJ nodes (leastJ l nodes fr r)) (leastJ l nodes fr r)))))[i2]? = some z := ⟨_, List.getElem?_eq_getElem (by omega)⟩
      refine at_skip (at_tn (at_seq (at_block (at_seq ?_))))
      refine at_drawn (l' := [⟨_,_,_,_,_,_⟩, ⟨_,_,_,_,_,_⟩, ⟨_,_,_,_,_,_⟩, ⟨_,_,_,_,_,_⟩, ⟨_,_,_,_,_,_⟩, ⟨_,_,_,_,_,_⟩, ⟨_,_,_,_,_,_⟩, ⟨_,_,_,_,_,_⟩, ⟨_,_,_,_,_,_⟩, ⟨_,_,_,_,_,_⟩, ⟨_,_,_,_,_,_⟩, ⟨_,_,_,_,_,_⟩, ⟨_,_,_,_,_,_⟩, ⟨_,_,_,_,_,_⟩, ⟨_,_,_,_,_,_⟩, ⟨_,_,_,_,_,_⟩, ⟨_,_,_,_,_,_⟩, ⟨_,_,_,_,_,_⟩, ⟨_,_,_,_,_,_⟩, ⟨_,_,_,_,_,_⟩, ⟨_,_,_,_,_,_⟩, ⟨_,_,_,_,_,_⟩, ⟨_,_,_,_,_,_⟩, ⟨_,_,_,_,_,_⟩, ⟨_,_,_,_,_,_⟩, ⟨_,_,_,_,_,_⟩, ⟨_,_,_,_,_,_⟩, ⟨_,_,_,_,_,_⟩, ⟨_,_,_,_,_,_⟩]) [] [0, 1, 2, 3, 4, 5, 6, 7, 8, 9, 10, 11, 12, 13, 14, 15, 16, 17, 18, 19, 20, 21, 22, 23, 24, 25, 26, 27, 28] mixed (drawnM [0, 0, 3, 7, 0, 0, 48, 112, 240, 511, 1023, 2047, 2047, 8191, 16383, 2047, 2047, 100351, 231423, 493567, 1048575, 2097151, 4194303, 8388607, 8388607, 33554431, 67108863, 134217727, 268435455] (by kernel_rfl)) rfl (by kernel_rfl) ?_
      refine r_move rfl rfl rfl (r_move rfl rfl rfl ?_)
      refine r_indexAddr 1 (i1 * 1) u33 ti3 rfl rfl rfl rfl rfl (by omega) (by omega) (ILc_ne (by omega)) (by show 0 + Int.toNat _ * 1 = _; omega) ?_
      refine r_load (v := .int .i64 za) 1 (i1 * 1) _ rfl rfl rfl rfl ti3 (ILc_get hza) rfl (by decide) rfl ?_
      refine r_move rfl rfl rfl (r_move rfl rfl rfl ?_)
      refine r_indexAddr 0 (pre.length + k * 5) u22 ti49 rfl rfl rfl rfl rfl (by omega) (by omega) (pre_ne (XLc_ne (by omega))) (by show pre.length + Int.toNat _ * 5 = _; omega) ?_
      refine r_fieldAddr 0 (pre.length + k * 5) 0 rfl rfl rfl rfl rfl ti49 rfl rfl ?_
      refine r_load (v := .int .i64 x.f) 0 (pre.length + (k * 5 + 0)) _ rfl rfl rfl rfl ti3 (pre_get (XLc_f hx) rfl) rfl (by decide) rfl ?_
      refine r_cmpInt rfl rfl rfl rfl rfl (r_move rfl rfl rfl ?_)
      refine r_split 74 rfl (fun hb10 => ?_) (fun hb10 => ?_)
      ·
       have h74 : za = x.f := eq_of_beq hb10
       refine r_move rfl rfl rfl (r_move rfl rfl rfl ?_)
       refine r_indexAddr 1 (i2 * 1) u33 ti3 rfl rfl rfl rfl rfl (by omega) (by omega) (ILc_ne (by omega)) (by show 0 + Int.toNat _ * 1 = _; omega) ?_
       refine r_load (v := .int .i64 zb) 1 (i2 * 1) _ rfl rfl rfl rfl ti3 (ILc_get hzb) rfl (by decide) rfl ?_
       refine r_move rfl rfl rfl (r_move rfl rfl rfl ?_)
       refine r_indexAddr 0 (pre.length + k * 5) u22 ti49 rfl rfl rfl rfl rfl (by omega) (by omega) (pre_ne (XLc_ne (by omega))) (by show pre.length + Int.toNat _ * 5 = _; omega) ?_
       refine r_fieldAddr 0 (pre.length + k * 5) 1 rfl rfl rfl rfl rfl ti49 rfl rfl ?_
       refine r_load (v := .int .i64 x.t) 0 (pre.length + (k * 5 + 1)) _ rfl rfl rfl rfl ti3 (pre_get (XLc_t hx) rfl) rfl (by decide) rfl ?_
       refine r_cmpInt rfl rfl rfl rfl rfl (r_pickT rfl rfl rfl rfl (r_move rfl rfl rfl ?_))
       refine r_split 86 rfl (fun hb11 => ?_) (fun hb11 => ?_)
       ·
        have h86 : zb = x.t := eq_of_beq hb11
        refine r_move rfl rfl rfl (r_move rfl rfl rfl ?_)
        refine r_indexAddr 2 (i1 * 1) u33 ti3 rfl rfl rfl rfl rfl (by omega) (by omega) (ILc_ne (by omega)) (by show 0 + Int.toNat _ * 1 = _; omega) ?_
        refine r_load (v := .int .i64 sa) 2 (i1 * 1) _ rfl rfl rfl rfl ti3 (ILc_get hsa) rfl (by decide) rfl ?_
        refine r_cmpInt rfl rfl rfl rfl rfl (r_pickT rfl rfl rfl rfl (run_nil (at_tn ?_)))
        refine at_cond rfl (fun hb12 => ?_) (fun hb12 => ?_)
        ·
         have h92 : sa < 1125899906842624 := of_decide_eq_true hb12
         have hcc := cellJ_yes hza h74 hzb h86 hsa h92 htb
         refine at_drawn (l' := [⟨_,_,_,_,_,_⟩, ⟨_,_,_,_,_,_⟩, ⟨_,_,_,_,_,_⟩, ⟨_,_,_,_,_,_⟩, ⟨_,_,_,_,_,_⟩, ⟨_,_,_,_,_,_⟩, ⟨_,_,_,_,_,_⟩, ⟨_,_,_,_,_,_⟩, ⟨_,_,_,_,_,_⟩, ⟨_,_,_,_,_,_⟩, ⟨_,_,_,_,_,_⟩, ⟨_,_,_,_,_,_⟩, ⟨_,_,_,_,_,_⟩, ⟨_,_,_,_,_,_⟩, ⟨_,_,_,_,_,_⟩, ⟨_,_,_,_,_,_⟩, ⟨_,_,_,_,_,_⟩, ⟨_,_,_,_,_,_⟩, ⟨_,_,_,_,_,_⟩]) [] [0, 1, 2, 3, 4, 5, 6, 7, 8, 9, 10, 11, 12, 13, 14, 15, 16, 17, 18] mixed (by kernel_rfl) rfl (by kernel_rfl) ?_
         refine r_move rfl rfl rfl (r_move rfl rfl rfl (r_move rfl rfl rfl (r_move rfl rfl rfl ?_)))
         refine r_indexAddr 3 (i2 * 1) u33 ti3 rfl rfl rfl rfl rfl (by omega) (by omega) (ILc_ne (by omega)) (by show 0 + Int.toNat _ * 1 = _; omega) ?_
         refine r_load (v := .int .i64 tb) 3 (i2 * 1) _ rfl rfl rfl rfl ti3 (ILc_get htb) rfl (by decide) rfl ?_
         refine r_move rfl rfl rfl (r_move rfl rfl rfl ?_)
         refine r_indexAddr 2 (i1 * 1) u33 ti3 rfl rfl rfl rfl rfl (by omega) (by omega) (ILc_ne (by omega)) (by show 0 + Int.toNat _ * 1 = _; omega) ?_
         refine r_load (v := .int .i64 sa) 2 (i1 * 1) _ rfl rfl rfl rfl ti3 (ILc_get hsa) rfl (by decide) rfl ?_
         refine r_move rfl rfl rfl (r_move rfl rfl rfl ?_)
         refine r_indexAddr 0 (pre.length + k * 5) u22 ti49 rfl rfl rfl rfl rfl (by omega) (by omega) (pre_ne (XLc_ne (by omega))) (by show pre.length + Int.toNat _ * 5 = _; omega) ?_
         refine r_load (v := ExV x) 0 (pre.length + k * 5) _ rfl rfl rfl rfl ti49 (pre_get (XLc_get hx) rfl) rfl (by decide) rfl ?_
         refine r_pcall [_] rfl rfl rfl (c_law_weight x hokx) ?_
         refine r_arith (r := sa + wt x) rfl rfl rfl rfl (congrArg some (wi (by omega) (by omega) rfl)) ?_
         refine r_minI rfl rfl rfl rfl ?_
         refine r_indexAddr 3 (i2 * 1) u33 ti3 rfl rfl rfl rfl rfl (by omega) (by omega) (ILc_ne (by omega)) (by show 0 + Int.toNat _ * 1 = _; omega) ?_
         refine r_store1 rfl 3 (i2 * 1) [_, _, _, ⟨some gq, 3, _, _, true⟩] (ILc (((List.range i2).foldl (cellJ nodes (leastJ l nodes fr r) x i1) ((List.range i1).foldl (rowJ nodes (leastJ l nodes fr r) x) ((l.take k).foldl (exJ nodes (leastJ l nodes fr r)) (leastJ l nodes fr r)))).set i2 (min tb (sa + wt x)))) ti3 rfl rfl rfl rfl rfl rfl rfl rfl (by rw [ILc_length]; omega) (ILc_set _ _ _) rfl ?_
         refine run_nil (at_bn (at_tn (at_region (r_move rfl rfl rfl ?_))))
         refine r_arith (r := ((i2 + 1 : Nat) : Int)) rfl rfl rfl rfl (congrArg some (wi (by omega) (by omega) (by omega))) ?_
         refine r_assign rfl rfl rfl (run_nil (at_tn ?_))
         exact nextL ⟨i2 + 1, hlt2⟩ (by simp only []; omega) ⟨rfl, rfl, rfl, rfl, rfl, rfl, rfl, rfl, rfl, trivial⟩ (weak_picks [some 0, some 1, some 2, some 3] ⟨⟨_, rfl, Blk.le_refl _⟩, ⟨_, rfl, Blk.le_refl _⟩, ⟨_, rfl, Blk.le_refl _⟩, ⟨_, rfl, le_same (congrArg (fun c => (⟨some gq, 3, ILc c, nN, true⟩ : Blk)) ((range_step (cellJ nodes (leastJ l nodes fr r) x i1) ((List.range i1).foldl (rowJ nodes (leastJ l nodes fr r) x) ((l.take k).foldl (exJ nodes (leastJ l nodes fr r)) (leastJ l nodes fr r))) i2).trans hcc))⟩, trivial⟩ rfl rfl)
        ·
         have h92 : ¬ sa < 1125899906842624 := of_decide_eq_false hb12
         have hcc := cellJ_no (x := x) (T := ((List.range i2).foldl (cellJ nodes (leastJ l nodes fr r) x i1) ((List.range i1).foldl (rowJ nodes (leastJ l nodes fr r) x) ((l.take k).foldl (exJ nodes (leastJ l nodes fr r)) (leastJ l nodes fr r))))) hza hzb hsa (fun h => h92 h.2.2)
         refine at_skip (at_bn (at_tn (at_region (r_move rfl rfl rfl ?_))))
         refine r_arith (r := ((i2 + 1 : Nat) : Int)) rfl rfl rfl rfl (congrArg some (wi (by omega) (by omega) (by omega))) ?_
         refine r_assign rfl rfl rfl (run_nil (at_tn ?_))
         exact nextL ⟨i2 + 1, hlt2⟩ (by simp only []; omega) ⟨rfl, rfl, rfl, rfl, rfl, rfl, rfl, rfl, rfl, trivial⟩ (weak_picks [some 0, some 1, some 2, some 3] ⟨⟨_, rfl, Blk.le_refl _⟩, ⟨_, rfl, Blk.le_refl _⟩, ⟨_, rfl, Blk.le_refl _⟩, ⟨_, rfl, le_same (congrArg (fun c => (⟨some gq, 3, ILc c, nN, true⟩ : Blk)) ((range_step (cellJ nodes (leastJ l nodes fr r) x i1) ((List.range i1).foldl (rowJ nodes (leastJ l nodes fr r) x) ((l.take k).foldl (exJ nodes (leastJ l nodes fr r)) (leastJ l nodes fr r))) i2).trans hcc))⟩, trivial⟩ rfl rfl)
       ·
        have h86 : zb ≠ x.t := ne_of_beq_false hb11
        have hcc := cellJ_no (x := x) (T := ((List.range i2).foldl (cellJ nodes (leastJ l nodes fr r) x i1) ((List.range i1).foldl (rowJ nodes (leastJ l nodes fr r) x) ((l.take k).foldl (exJ nodes (leastJ l nodes fr r)) (leastJ l nodes fr r))))) hza hzb hsa (fun h => h86 h.2.1)
        refine r_no rfl rfl rfl (r_no rfl rfl rfl (r_no rfl rfl rfl (r_no rfl rfl rfl (r_no rfl rfl rfl (r_pickF rfl rfl rfl rfl (run_nil (at_tn (at_condF rfl (at_skip (at_bn (at_tn (at_region (r_move rfl rfl rfl ?_)))))))))))))
        refine r_arith (r := ((i2 + 1 : Nat) : Int)) rfl rfl rfl rfl (congrArg some (wi (by omega) (by omega) (by omega))) ?_
        refine r_assign rfl rfl rfl (run_nil (at_tn ?_))
        exact nextL ⟨i2 + 1, hlt2⟩ (by simp only []; omega) ⟨rfl, rfl, rfl, rfl, rfl, rfl, rfl, rfl, rfl, trivial⟩ (weak_picks [some 0, some 1, some 2, some 3] ⟨⟨_, rfl, Blk.le_refl _⟩, ⟨_, rfl, Blk.le_refl _⟩, ⟨_, rfl, Blk.le_refl _⟩, ⟨_, rfl, le_same (congrArg (fun c => (⟨some gq, 3, ILc c, nN, true⟩ : Blk)) ((range_step (cellJ nodes (leastJ l nodes fr r) x i1) ((List.range i1).foldl (rowJ nodes (leastJ l nodes fr r) x) ((l.take k).foldl (exJ nodes (leastJ l nodes fr r)) (leastJ l nodes fr r))) i2).trans hcc))⟩, trivial⟩ rfl rfl)
      ·
       have h74 : za ≠ x.f := ne_of_beq_false hb10
       have hcc := cellJ_no (x := x) (T := ((List.range i2).foldl (cellJ nodes (leastJ l nodes fr r) x i1) ((List.range i1).foldl (rowJ nodes (leastJ l nodes fr r) x) ((l.take k).foldl (exJ nodes (leastJ l nodes fr r)) (leastJ l nodes fr r))))) hza hzb hsa (fun h => h74 h.1)
       refine r_no rfl rfl rfl (r_no rfl rfl rfl (r_no rfl rfl rfl (r_no rfl rfl rfl (r_no rfl rfl rfl (r_no rfl rfl rfl (r_no rfl rfl rfl (r_no rfl rfl rfl (r_no rfl rfl rfl (r_no rfl rfl rfl (r_pickF rfl rfl rfl rfl (r_move rfl rfl rfl (r_no rfl rfl rfl (r_no rfl rfl rfl (r_no rfl rfl rfl (r_no rfl rfl rfl (r_no rfl rfl rfl (r_pickF rfl rfl rfl rfl (run_nil (at_tn (at_condF rfl (at_skip (at_bn (at_tn (at_region (r_move rfl rfl rfl ?_)))))))))))))))))))))))))
       refine r_arith (r := ((i2 + 1 : Nat) : Int)) rfl rfl rfl rfl (congrArg some (wi (by omega) (by omega) (by omega))) ?_
       refine r_assign rfl rfl rfl (run_nil (at_tn ?_))
       exact nextL ⟨i2 + 1, hlt2⟩ (by simp only []; omega) ⟨rfl, rfl, rfl, rfl, rfl, rfl, rfl, rfl, rfl, trivial⟩ (weak_picks [some 0, some 1, some 2, some 3] ⟨⟨_, rfl, Blk.le_refl _⟩, ⟨_, rfl, Blk.le_refl _⟩, ⟨_, rfl, Blk.le_refl _⟩, ⟨_, rfl, le_same (congrArg (fun c => (⟨some gq, 3, ILc c, nN, true⟩ : Blk)) ((range_step (cellJ nodes (leastJ l nodes fr r) x i1) ((List.range i1).foldl (rowJ nodes (leastJ l nodes fr r) x) ((l.take k).foldl (exJ nodes (leastJ l nodes fr r)) (leastJ l nodes fr r))) i2).trans hcc))⟩, trivial⟩ rfl rfl)
     ·
      have hge2 : i2 = nodes.length := (by have := of_decide_eq_false hb9; omega)
      subst hge2
      refine at_exit (at_te (at_te (at_be (at_bn (at_tn (at_region (r_move rfl rfl rfl ?_)))))))
      refine r_arith (r := ((i1 + 1 : Nat) : Int)) rfl rfl rfl rfl (congrArg some (wi (by omega) (by omega) (by omega))) ?_
      refine r_assign rfl rfl rfl (run_nil (at_tn ?_))
      exact nextL ⟨i1 + 1, hlt1⟩ (by simp only []; omega) ⟨rfl, rfl, rfl, rfl, rfl, rfl, rfl, rfl, trivial⟩ (weak_picks [some 0, some 1, some 2, some 3] ⟨⟨_, rfl, Blk.le_refl _⟩, ⟨_, rfl, Blk.le_refl _⟩, ⟨_, rfl, Blk.le_refl _⟩, ⟨_, rfl, le_same (congrArg (fun c => (⟨some gq, 3, ILc c, nN, true⟩ : Blk)) (range_step (rowJ nodes (leastJ l nodes fr r) x) ((l.take k).foldl (exJ nodes (leastJ l nodes fr r)) (leastJ l nodes fr r)) i1))⟩, trivial⟩ rfl rfl)
    ·
     have hge1 : i1 = nodes.length := (by have := of_decide_eq_false hb7; omega)
     subst hge1
     refine at_exit (at_te (at_te (at_be (at_bn (at_tn (at_region (r_move rfl rfl rfl ?_)))))))
     refine r_arith (r := ((k + 1 : Nat) : Int)) rfl rfl rfl rfl (congrArg some (wi (by omega) (by omega) (by omega))) ?_
     refine r_assign rfl rfl rfl (run_nil (at_tn ?_))
     exact nextL ⟨(k + 1, nb, nN, nc), hlt, h2⟩ (by show l.length - (k + 1) < l.length - k; omega) ⟨rfl, rfl, rfl, rfl, rfl, rfl, rfl, trivial⟩ (weak_picks [some 0, some 1, some 2, some 3] ⟨⟨_, rfl, Blk.le_refl _⟩, ⟨_, rfl, Blk.le_refl _⟩, ⟨_, rfl, Blk.le_refl _⟩, ⟨_, rfl, le_same (congrArg (fun c => (⟨nb, 3, ILc c, nN, true⟩ : Blk)) (take_step hx (exJ nodes (leastJ l nodes fr r)) (leastJ l nodes fr r)))⟩, trivial⟩ rfl rfl)
   ·
    have hge : k = l.length := (by have := of_decide_eq_false hb5; omega)
    subst hge
    refine at_exit (at_te (at_te (at_be (at_tn (at_region (r_move rfl rfl rfl (r_assign rfl rfl rfl (run_nil (at_bn (at_tn (at_region (r_move rfl rfl rfl ?_))))))))))))
    refine r_arith (r := ((r + 1 : Nat) : Int)) rfl rfl rfl rfl (congrArg some (wi (by omega) (by omega) (by omega))) ?_
    refine r_assign rfl rfl rfl (run_nil (at_tn ?_))
    exact nextL ⟨(r + 1, nb, nN, nc), hrlt, h2⟩ (by show steps - (r + 1) < steps - r; omega) ⟨rfl, rfl, rfl, rfl, rfl, trivial⟩ (weak_picks [some 0, some 1, some 3] ⟨⟨_, rfl, Blk.le_refl _⟩, ⟨_, rfl, Blk.le_refl _⟩, ⟨_, rfl, le_same (congrArg (fun c => (⟨nb, 3, ILc c, nN, true⟩ : Blk)) (by rw [List.take_length]; rfl))⟩, trivial⟩ rfl rfl)
  ·
   have hge : r = steps := (by have := of_decide_eq_false hb3; omega)
   subst hge
   refine at_exit (at_te (at_te (at_be (at_tn (at_seq (at_region (r_move rfl rfl rfl (r_assign rfl rfl rfl (run_nil (at_tn (at_ret ?_)))))))))))
   refine at_end1 rfl (res_tmp rfl) (fun w hL => ⟨⟨ob, oN, oc, by rw [leastJ_len]; exact h1⟩, ?_, hL.picks [some 2] ⟨⟨_, rfl, Blk.le_refl _⟩, trivial⟩ rfl rfl⟩)
   exact congrArg (fun m => Ending.returned (slv ob 0 m oc)) (leastJ_len l nodes fr _).symm
end Go.Proofs.YtncogghlhlnmaaaGreatDoor
set_option linter.unusedVariables false
namespace Go.Proofs.YtncogghlhlnmaaaGreatDoor
open Go Go.RowKit Go.Via
set_option maxRecDepth 20000 in
set_option maxHeartbeats 4000000 in
theorem c_law_contradicted (l : List Ex) (a : Option Addr) (b : Option Nat) (pre : List Value) (N cap : Nat) (hc : l.length ≤ cap) (ha : l ≠ [] → a = b.map fun g => ⟨g, pre.length, none⟩) (hok : ∀ x ∈ l, okX x) (hn : l.length ≤ 1000) (nodes : List Int) (bn : Option Nat) (Nn cn : Nat) (hnc : nodes.length ≤ cn) (hnn : nodes.length ≤ 3000) : SCall Tryz.prog 23 [⟨b, 49, pre ++ XLc l, N, false⟩, ⟨bn, 3, ILc nodes, Nn, false⟩] [.slice a l.length cap, slv bn 0 nodes.length cn] Unit (fun _ => .bool (conB l nodes)) (fun _ => []) := by
 refine ⟨by kernel_rfl, fun w hL0 => ?_⟩
 refine calls_at (args := [.slice a l.length cap, slv bn 0 nodes.length cn]) Tryz.func23 rfl (Nat.le_of_ble_eq_true rfl) hL0 ?_
 show At w ⟨34, [(0, .slice a l.length cap), (1, slv bn 0 nodes.length cn)], [⟨b, 49, pre ++ XLc l, N, false⟩, ⟨bn, 3, ILc nodes, Nn, false⟩]⟩ _
 refine at_seq (at_region (r_assign rfl rfl rfl (run_nil (at_tn (at_seq (at_region (r_move rfl rfl rfl (r_move rfl rfl rfl (r_move rfl rfl rfl (r_lenV u33 rfl rfl rfl ?_))))))))))
 refine r_scall [_, _, _, _] [0, 1] rfl rfl rfl (c_law_least l a b pre N cap hc ha hok hn nodes bn Nn cn hnc hnn (-1) nodes.length (by omega)) ⟨⟨_, rfl, Blk.le_refl _⟩, ⟨_, rfl, Blk.le_refl _⟩, trivial⟩ rfl (.inr fun z b hb => by rw [List.mem_singleton.1 hb]) (fun z => ?_)
 obtain ⟨pb, pn, pc, ph⟩ := z
 refine r_move rfl rfl rfl (r_move rfl rfl rfl (r_move rfl rfl rfl (r_lenV u33 rfl rfl rfl ?_)))
 refine r_arith (r := ((nodes.length + 1 : Nat) : Int)) rfl rfl rfl rfl (congrArg some (wi (by omega) (by omega) (by omega))) ?_
 refine r_scall [_, _, _, _] [0, 1] rfl rfl rfl (c_law_least l a b pre N cap hc ha hok hn nodes bn Nn cn hnc hnn (-1) (nodes.length + 1) (by omega)) ⟨⟨_, rfl, Blk.le_refl _⟩, ⟨_, rfl, Blk.le_refl _⟩, trivial⟩ rfl (.inr fun z b hb => by rw [List.mem_singleton.1 hb]) (fun z => ?_)
 obtain ⟨qb, qn, qc, qh⟩ := z
 refine r_assign rfl rfl rfl (r_assign rfl rfl rfl (run_nil (at_tn (at_seq (at_seq (at_region (r_assign rfl rfl rfl (run_nil (at_tn (at_block ?_))))))))))
 refine enterL (nt := 34) (ι := {i : Nat // i ≤ (leastJ l nodes (-1) nodes.length).length ∧ conB l nodes = ltA ((leastJ l nodes (-1) (nodes.length + 1)).drop i) ((leastJ l nodes (-1) nodes.length).drop i)}) (fun ⟨i, hi, hI⟩ => [(5, slv pb 0 (leastJ l nodes (-1) nodes.length).length pc), (6, slv qb 0 (leastJ l nodes (-1) (nodes.length + 1)).length qc), (7, .int .i64 (i : Nat))]) (fun ⟨i, hi, hI⟩ => [⟨b, 49, pre ++ XLc l, N, false⟩, ⟨bn, 3, ILc nodes, Nn, false⟩, ⟨pb, 3, ILc (leastJ l nodes (-1) nodes.length), pn, true⟩, ⟨qb, 3, ILc (leastJ l nodes (-1) (nodes.length + 1)), qn, true⟩]) (fun ⟨i, hi, hI⟩ => (leastJ l nodes (-1) nodes.length).length - i) ⟨0, Nat.zero_le _, rfl⟩ ⟨rfl, rfl, rfl, trivial⟩ (Weak.refl _) ?_
 rintro ⟨i, hi, hI⟩
 show At _ ⟨34, [(5, slv pb 0 (leastJ l nodes (-1) nodes.length).length pc), (6, slv qb 0 (leastJ l nodes (-1) (nodes.length + 1)).length qc), (7, .int .i64 (i : Nat))], [⟨b, 49, pre ++ XLc l, N, false⟩, ⟨bn, 3, ILc nodes, Nn, false⟩, ⟨pb, 3, ILc (leastJ l nodes (-1) nodes.length), pn, true⟩, ⟨qb, 3, ILc (leastJ l nodes (-1) (nodes.length + 1)), qn, true⟩]⟩ _
 refine at_base 2 rfl (fun hbp => ?_)
 refine at_base 3 rfl (fun hbq => ?_)
 refine at_seq (at_seq (at_region (r_move rfl rfl rfl (r_move rfl rfl rfl (r_lenV u33 rfl rfl rfl (r_cmpInt rfl rfl rfl rfl rfl (run_nil (at_tn ?_))))))))
 refine at_cond rfl (fun hb1 => ?_) (fun hb1 => ?_)
 ·
  have hlt : i < (leastJ l nodes (-1) nodes.length).length := (by have := of_decide_eq_true hb1; omega)
  have hl1 : (leastJ l nodes (-1) nodes.length).length = nodes.length := leastJ_len ..
  have hl2 : (leastJ l nodes (-1) (nodes.length + 1)).length = nodes.length := leastJ_len ..
  obtain ⟨gp, hgp⟩ := il_base (pre := []) hbp (by omega)
  replace hgp : pb = some gp := hgp
  subst hgp
  obtain ⟨gq, hgq⟩ := il_base (pre := []) hbq (by omega)
  replace hgq : qb = some gq := hgq
  subst hgq
  obtain ⟨pz, hpz⟩ : ∃ z, ((leastJ l nodes (-1) nodes.length))[i]? = some z := ⟨_, List.getElem?_eq_getElem (by omega)⟩
  obtain ⟨qz, hqz⟩ : ∃ z, ((leastJ l nodes (-1) (nodes.length + 1)))[i]? = some z := ⟨_, List.getElem?_eq_getElem (by omega)⟩
  refine at_skip (at_tn (at_seq (at_block (at_seq ?_))))
  refine at_drawn (l' := [⟨_,_,_,_,_,_⟩, ⟨_,_,_,_,_,_⟩, ⟨_,_,_,_,_,_⟩, ⟨_,_,_,_,_,_⟩, ⟨_,_,_,_,_,_⟩, ⟨_,_,_,_,_,_⟩, ⟨_,_,_,_,_,_⟩, ⟨_,_,_,_,_,_⟩, ⟨_,_,_,_,_,_⟩]) [] [0, 1, 2, 3, 4, 5, 6, 7, 8] mixed (by kernel_rfl) rfl (by kernel_rfl) ?_
  refine r_move rfl rfl rfl (r_move rfl rfl rfl ?_)
  refine r_indexAddr 3 (i * 1) u33 ti3 rfl rfl rfl rfl rfl (by omega) (by omega) (ILc_ne (by omega)) (by show 0 + Int.toNat _ * 1 = _; omega) ?_
  refine r_load (v := .int .i64 qz) 3 (i * 1) _ rfl rfl rfl rfl ti3 (ILc_get hqz) rfl (by decide) rfl ?_
  refine r_move rfl rfl rfl (r_move rfl rfl rfl ?_)
  refine r_indexAddr 2 (i * 1) u33 ti3 rfl rfl rfl rfl rfl (by omega) (by omega) (ILc_ne (by omega)) (by show 0 + Int.toNat _ * 1 = _; omega) ?_
  refine r_load (v := .int .i64 pz) 2 (i * 1) _ rfl rfl rfl rfl ti3 (ILc_get hpz) rfl (by decide) rfl ?_
  refine r_cmpInt rfl rfl rfl rfl rfl (run_nil (at_tn ?_))
  refine at_cond rfl (fun hb2 => ?_) (fun hb2 => ?_)
  ·
   have h33 : qz < pz := of_decide_eq_true hb2
   refine at_seq (at_region (r_assign rfl rfl rfl (run_nil (at_tn (at_ret (at_br (at_tr (at_tr (at_br (at_tr ?_))))))))))
   refine at_end1 rfl (res_tmp rfl) (fun w hL => ⟨(), ?_, hL.picks [] trivial rfl rfl⟩)
   rw [hI, ltA_yes hqz hpz h33]
  ·
   have h33 : ¬ qz < pz := of_decide_eq_false hb2
   refine at_skip (at_bn (at_tn (at_region (r_move rfl rfl rfl ?_))))
   refine r_arith (r := ((i + 1 : Nat) : Int)) rfl rfl rfl rfl (congrArg some (wi (by omega) (by omega) (by omega))) ?_
   refine r_assign rfl rfl rfl (run_nil (at_tn ?_))
   exact nextL ⟨i + 1, hlt, hI.trans (ltA_no hqz hpz h33)⟩ (by simp only []; omega) ⟨rfl, rfl, rfl, trivial⟩ (Weak.refl _)
 ·
  have hge : i = (leastJ l nodes (-1) nodes.length).length := (by have := of_decide_eq_false hb1; omega)
  refine at_exit (at_te (at_te (at_be (at_tn (at_seq (at_region (r_assign rfl rfl rfl (run_nil (at_tn (at_ret ?_))))))))))
  refine at_end1 rfl (res_tmp rfl) (fun w hL => ⟨(), ?_, hL.picks [] trivial rfl rfl⟩)
  rw [hI, ltA_end (by omega)]
end Go.Proofs.YtncogghlhlnmaaaGreatDoor
set_option linter.unusedVariables false
namespace Go.Proofs.YtncogghlhlnmaaaGreatDoor
open Go Go.RowKit Go.Via
set_option maxRecDepth 20000 in
set_option maxHeartbeats 2000000 in
theorem c_law_insert (l : List Int) (b : Option Nat) (N cap : Nat) (hc : l.length ≤ cap) (hn : l.length ≤ 1000000) (n : Int) : SCall Tryz.prog 41 [⟨b, 3, ILc l, N, false⟩] [slv b 0 l.length cap, .int .i64 n] (InsX l n) (insRes l n b cap) (insNew l n) := by
 refine ⟨by kernel_rfl, fun w hL0 => ?_⟩
 refine calls_at (args := [slv b 0 l.length cap, .int .i64 n]) Tryz.func41 rfl (Nat.le_of_ble_eq_true rfl) hL0 ?_
 show At w ⟨45, [(0, slv b 0 l.length cap), (1, .int .i64 n)], [⟨b, 3, ILc l, N, false⟩]⟩ _
 refine at_seq ?_
 refine at_base 0 rfl (fun hbase => ?_)
 refine at_region (r_assign rfl rfl rfl (run_nil (at_tn (at_seq (at_region (r_assign rfl rfl rfl (run_nil (at_tn (at_seq (at_block ?_))))))))))
 refine enterL (nt := 45) (ι := {k : Nat // k ≤ l.length ∧ ∀ j z, j < k → l[j]? = some z → z < n}) (fun ⟨k, hk, hall⟩ => [(0, slv b 0 l.length cap), (1, .int .i64 n), (5, .int .i64 (k : Nat))]) (fun ⟨k, hk, hall⟩ => [⟨b, 3, ILc l, N, false⟩]) (fun ⟨k, hk, hall⟩ => l.length - k) ⟨0, Nat.zero_le _, fun j z hj => absurd hj (by omega)⟩ ⟨rfl, rfl, rfl, trivial⟩ (Weak.refl _) ?_
 rintro ⟨k, hk, hall⟩
 show At _ ⟨45, [(0, slv b 0 l.length cap), (1, .int .i64 n), (5, .int .i64 (k : Nat))], [⟨b, 3, ILc l, N, false⟩]⟩ _
 refine at_seq (at_seq (at_region (r_move rfl rfl rfl (r_move rfl rfl rfl (r_lenV u33 rfl rfl rfl (r_cmpInt rfl rfl rfl rfl rfl (r_move rfl rfl rfl ?_)))))))
 refine r_split 10 rfl (fun hb1 => ?_) (fun hb1 => ?_)
 ·
  have hlt : k < l.length := (by have := of_decide_eq_true hb1; omega)
  obtain ⟨z, hz⟩ : ∃ z, l[k]? = some z := ⟨l[k], List.getElem?_eq_getElem hlt⟩
  obtain ⟨gb, hgb⟩ := il_base (pre := []) hbase (by omega)
  replace hgb : b = some gb := hgb
  subst hgb
  refine r_move rfl rfl rfl (r_move rfl rfl rfl ?_)
  refine r_indexAddr 0 (k * 1) u33 ti3 rfl rfl rfl rfl rfl (by omega) (by omega) (ILc_ne (by omega)) (by show 0 + Int.toNat _ * 1 = _; omega) ?_
  refine r_load (v := .int .i64 z) 0 (k * 1) _ rfl rfl rfl rfl ti3 (ILc_get hz) rfl (by decide) rfl ?_
  refine r_move rfl rfl rfl (r_cmpInt rfl rfl rfl rfl rfl (r_pickT rfl rfl rfl rfl (run_nil (at_tn ?_))))
  refine at_cond rfl (fun hb2 => ?_) (fun hb2 => ?_)
  ·
   have hz1 : z < n := of_decide_eq_true hb2
   refine at_skip (at_tn (at_block (at_region (r_move rfl rfl rfl ?_))))
   refine r_arith (r := ((k + 1 : Nat) : Int)) rfl rfl rfl rfl (congrArg some (wi (by omega) (by omega) (by omega))) ?_
   refine r_assign rfl rfl rfl (run_nil (at_bn (at_tn ?_)))
   exact nextL ⟨k + 1, hlt, fun j y hj hy => by by_cases e : j < k; exact hall j y e hy; (have : j = k := by omega); subst this; rw [hz] at hy; cases hy; exact hz1⟩ (by simp only []; omega) ⟨rfl, rfl, rfl, trivial⟩ (Weak.refl _)
  ·
   have hz1 : ¬ z < n := of_decide_eq_false hb2
   refine at_exit (at_te (at_te (at_be (at_tn (at_seq (at_seq (at_region (r_move rfl rfl rfl (r_move rfl rfl rfl (r_lenV u33 rfl rfl rfl (r_cmpInt rfl rfl rfl rfl rfl (r_move rfl rfl rfl ?_))))))))))))
   refine r_split 24 rfl (fun hb3 => ?_) (fun hb3 => ?_)
   ·
    refine r_move rfl rfl rfl (r_move rfl rfl rfl ?_)
    refine r_indexAddr 0 (k * 1) u33 ti3 rfl rfl rfl rfl rfl (by omega) (by omega) (ILc_ne (by omega)) (by show 0 + Int.toNat _ * 1 = _; omega) ?_
    refine r_load (v := .int .i64 z) 0 (k * 1) _ rfl rfl rfl rfl ti3 (ILc_get hz) rfl (by decide) rfl ?_
    refine r_move rfl rfl rfl (r_cmpInt rfl rfl rfl rfl rfl (r_pickT rfl rfl rfl rfl (run_nil (at_tn ?_))))
    refine at_cond rfl (fun hb4 => ?_) (fun hb4 => ?_)
    ·
     have hz2 : z = n := eq_of_beq hb4
     have hsame : insS l n = l := insS_eq hall (by rw [hz, hz2])
     refine at_seq (at_region (r_move rfl rfl rfl (r_assign rfl rfl rfl (run_nil (at_tn (at_ret (at_tr ?_)))))))
     refine at_end1 rfl (res_tmp rfl) (fun w hL => ⟨⟨none, fun _ => hsame⟩, ?_, hL.picks [] trivial rfl rfl⟩)
     exact rfl
    ·
     have hz2 : z ≠ n := ne_of_beq_false hb4
     have hins := insS_at hk hall (fun y hy => by rw [hz] at hy; cases hy; exact ⟨hz1, hz2⟩)
     refine at_skip (at_tn (at_seq ?_))
     have hil : (insS l n).length = 0 + k + 1 + (l.length - k) := by rw [hins]; simp; omega
     refine at_drawnE (l' := [⟨_,_,_,_,_,_⟩, ⟨_,_,_,_,_,_⟩, ⟨_,_,_,_,_,_⟩, ⟨_,_,_,_,_,_⟩, ⟨_,_,_,_,_,_⟩, ⟨_,_,_,_,_,_⟩, ⟨_,_,_,_,_,_⟩]) [1, 2, 3, 5, 8, 9, 10] 6 mixed (by kernel_rfl) rfl ?_
     refine r_move rfl rfl rfl (r_move rfl rfl rfl ?_)
     refine r_sliceH k u33 ti3 rfl rfl rfl rfl (by omega) (by omega) rfl ?_
     refine r_move rfl rfl rfl (r_move rfl rfl rfl (r_move rfl rfl rfl ?_))
     refine r_sliceM k u33 ti3 rfl rfl rfl rfl (by omega) rfl rfl rfl ?_
     refine run_nil ?_
     refine t_node [0, 6] (by kernel_rfl) rfl ⟨⟨_, rfl, ?_⟩, ⟨_, rfl, ?_⟩, trivial⟩
     ·
      refine r_buildSlice [] (fun g => [_, ⟨some g, 3, _, 0, true⟩]) rfl rfl rfl (bs33_0) rfl (fun _ => rfl) (fun g0 => ?_)
      refine run_nil ?_
      refine t_node [4, 6] (by kernel_rfl) rfl ⟨⟨_, rfl, ?_⟩, ⟨_, rfl, ?_⟩, trivial⟩
      ·
       refine q_appendO (s := 1) (len := 0) 1 0 (ILc (l.take k)) (fun r => [_, ⟨r.b, 3, ILc (l.take k), r.n, true⟩]) u33 el3 rfl rfl rfl rfl rfl rfl rfl rfl rfl rfl rfl (Nat.le_refl _) (Nat.le_refl _) (by by_cases hz : k = 0; exact .inl hz; exact .inr (il_base (pre := []) hbase (by omega))) (ILc_takeT l k) (by rw [ILc_length, List.length_take]; omega) (ILc_one _) (by omega) (fun _ => rfl) (fun r => ?_)
       refine run_nil ?_
       refine t_node [6] (by kernel_rfl) rfl ⟨⟨_, rfl, ?_⟩, trivial⟩
       ·
        refine r_buildSlice [(0, _)] (fun g => [_, _, ⟨some g, 3, _, 1, true⟩]) rfl rfl rfl (bs33_1) rfl (fun _ => rfl) (fun g1 => ?_)
        refine run_nil ?_
        refine t_node [7] (by kernel_rfl) rfl ⟨⟨_, rfl, ?_⟩, trivial⟩
        ·
         refine q_appendO (s := 1) (len := 0 + k) (n2 := 1) 1 2 [.int .i64 n] (fun r2 => [_, ⟨r2.b, 3, ILc (l.take k) ++ [.int .i64 n], r2.n, true⟩, _]) u33 el3 rfl rfl rfl rfl rfl rfl rfl rfl rfl rfl (by rw [ILc_length, List.length_take]; omega) r.h r.hn (.inr ⟨_, rfl⟩) rfl rfl (Go.Via.one_cell _ _) (by omega) (fun _ => rfl) (fun r2 => ?_)
         refine run_nil ?_
         refine t_node [11] (by kernel_rfl) rfl ⟨⟨_, rfl, ?_⟩, trivial⟩
         ·
          refine q_appendO (s := 1) (len := 0 + k + 1) 1 0 (ILc (l.drop k)) (fun r3 => [_, ⟨r3.b, 3, (ILc (l.take k) ++ [.int .i64 n]) ++ ILc (l.drop k), r3.n, true⟩, _]) u33 el3 rfl rfl rfl rfl rfl rfl rfl rfl rfl rfl (by rw [List.length_append, ILc_length, List.length_take]; simp; omega) r2.h r2.hn (by by_cases hz : l.length - k = 0; exact .inl hz; exact .inr (il_base (pre := []) hbase (by omega))) (ILc_dropT hc) (by rw [ILc_length, List.length_drop]; omega) (ILc_one _) (by omega) (fun _ => rfl) (fun r3 => ?_)
          refine run_nil ?_
          refine t_node [12] (by kernel_rfl) rfl ⟨⟨_, rfl, ?_⟩, trivial⟩
          ·
           refine r_assign rfl rfl rfl (run_nil ?_)
           refine tr_nil (by kernel_rfl) ?_
           refine at_tn (at_ret ?_)
           refine at_end1 rfl (res_tmp rfl) (fun w hL => ⟨⟨some ⟨r3.b, r3.n, r3.cap, by have := r3.h; omega⟩, fun h => by cases h⟩, ?_, hL.picks [some 1] ⟨⟨_, rfl, le_same (congrArg (fun c => (⟨r3.b, 3, c, r3.n, true⟩ : Blk)) (show ILc (insS l n) = (ILc (l.take k) ++ [.int .i64 n]) ++ ILc (l.drop k) by rw [hins]; simp [ILc]))⟩, trivial⟩ rfl rfl⟩)
           exact congrArg (fun m => Ending.returned (slv r3.b 0 m r3.cap)) hil.symm
      ·
       refine r_buildSlice [(0, _)] (fun g => [_, _, ⟨some g, 3, _, 1, true⟩]) rfl rfl rfl (bs33_1) rfl (fun _ => rfl) (fun g1 => ?_)
       refine run_nil ?_
       refine t_node [4] (by kernel_rfl) rfl ⟨⟨_, rfl, ?_⟩, trivial⟩
       ·
        refine q_appendO (s := 1) (len := 0) 1 0 (ILc (l.take k)) (fun r => [_, ⟨r.b, 3, ILc (l.take k), r.n, true⟩, _]) u33 el3 rfl rfl rfl rfl rfl rfl rfl rfl rfl rfl rfl (Nat.le_refl _) (Nat.le_refl _) (by by_cases hz : k = 0; exact .inl hz; exact .inr (il_base (pre := []) hbase (by omega))) (ILc_takeT l k) (by rw [ILc_length, List.length_take]; omega) (ILc_one _) (by omega) (fun _ => rfl) (fun r => ?_)
        refine run_nil ?_
        refine t_node [7] (by kernel_rfl) rfl ⟨⟨_, rfl, ?_⟩, trivial⟩
        ·
         refine q_appendO (s := 1) (len := 0 + k) (n2 := 1) 1 2 [.int .i64 n] (fun r2 => [_, ⟨r2.b, 3, ILc (l.take k) ++ [.int .i64 n], r2.n, true⟩, _]) u33 el3 rfl rfl rfl rfl rfl rfl rfl rfl rfl rfl (by rw [ILc_length, List.length_take]; omega) r.h r.hn (.inr ⟨_, rfl⟩) rfl rfl (Go.Via.one_cell _ _) (by omega) (fun _ => rfl) (fun r2 => ?_)
         refine run_nil ?_
         refine t_node [11] (by kernel_rfl) rfl ⟨⟨_, rfl, ?_⟩, trivial⟩
         ·
          refine q_appendO (s := 1) (len := 0 + k + 1) 1 0 (ILc (l.drop k)) (fun r3 => [_, ⟨r3.b, 3, (ILc (l.take k) ++ [.int .i64 n]) ++ ILc (l.drop k), r3.n, true⟩, _]) u33 el3 rfl rfl rfl rfl rfl rfl rfl rfl rfl rfl (by rw [List.length_append, ILc_length, List.length_take]; simp; omega) r2.h r2.hn (by by_cases hz : l.length - k = 0; exact .inl hz; exact .inr (il_base (pre := []) hbase (by omega))) (ILc_dropT hc) (by rw [ILc_length, List.length_drop]; omega) (ILc_one _) (by omega) (fun _ => rfl) (fun r3 => ?_)
          refine run_nil ?_
          refine t_node [12] (by kernel_rfl) rfl ⟨⟨_, rfl, ?_⟩, trivial⟩
          ·
           refine r_assign rfl rfl rfl (run_nil ?_)
           refine tr_nil (by kernel_rfl) ?_
           refine at_tn (at_ret ?_)
           refine at_end1 rfl (res_tmp rfl) (fun w hL => ⟨⟨some ⟨r3.b, r3.n, r3.cap, by have := r3.h; omega⟩, fun h => by cases h⟩, ?_, hL.picks [some 1] ⟨⟨_, rfl, le_same (congrArg (fun c => (⟨r3.b, 3, c, r3.n, true⟩ : Blk)) (show ILc (insS l n) = (ILc (l.take k) ++ [.int .i64 n]) ++ ILc (l.drop k) by rw [hins]; simp [ILc]))⟩, trivial⟩ rfl rfl⟩)
           exact congrArg (fun m => Ending.returned (slv r3.b 0 m r3.cap)) hil.symm
     ·
      refine r_buildSlice [(0, _)] (fun g => [_, ⟨some g, 3, _, 1, true⟩]) rfl rfl rfl (bs33_1) rfl (fun _ => rfl) (fun g0 => ?_)
      refine run_nil ?_
      refine t_node [0] (by kernel_rfl) rfl ⟨⟨_, rfl, ?_⟩, trivial⟩
      ·
       refine r_buildSlice [] (fun g => [_, _, ⟨some g, 3, _, 0, true⟩]) rfl rfl rfl (bs33_0) rfl (fun _ => rfl) (fun g1 => ?_)
       refine run_nil ?_
       refine t_node [4] (by kernel_rfl) rfl ⟨⟨_, rfl, ?_⟩, trivial⟩
       ·
        refine q_appendO (s := 1) (len := 0) 2 0 (ILc (l.take k)) (fun r => [_, _, ⟨r.b, 3, ILc (l.take k), r.n, true⟩]) u33 el3 rfl rfl rfl rfl rfl rfl rfl rfl rfl rfl rfl (Nat.le_refl _) (Nat.le_refl _) (by by_cases hz : k = 0; exact .inl hz; exact .inr (il_base (pre := []) hbase (by omega))) (ILc_takeT l k) (by rw [ILc_length, List.length_take]; omega) (ILc_one _) (by omega) (fun _ => rfl) (fun r => ?_)
        refine run_nil ?_
        refine t_node [7] (by kernel_rfl) rfl ⟨⟨_, rfl, ?_⟩, trivial⟩
        ·
         refine q_appendO (s := 1) (len := 0 + k) (n2 := 1) 2 1 [.int .i64 n] (fun r2 => [_, _, ⟨r2.b, 3, ILc (l.take k) ++ [.int .i64 n], r2.n, true⟩]) u33 el3 rfl rfl rfl rfl rfl rfl rfl rfl rfl rfl (by rw [ILc_length, List.length_take]; omega) r.h r.hn (.inr ⟨_, rfl⟩) rfl rfl (Go.Via.one_cell _ _) (by omega) (fun _ => rfl) (fun r2 => ?_)
         refine run_nil ?_
         refine t_node [11] (by kernel_rfl) rfl ⟨⟨_, rfl, ?_⟩, trivial⟩
         ·
          refine q_appendO (s := 1) (len := 0 + k + 1) 2 0 (ILc (l.drop k)) (fun r3 => [_, _, ⟨r3.b, 3, (ILc (l.take k) ++ [.int .i64 n]) ++ ILc (l.drop k), r3.n, true⟩]) u33 el3 rfl rfl rfl rfl rfl rfl rfl rfl rfl rfl (by rw [List.length_append, ILc_length, List.length_take]; simp; omega) r2.h r2.hn (by by_cases hz : l.length - k = 0; exact .inl hz; exact .inr (il_base (pre := []) hbase (by omega))) (ILc_dropT hc) (by rw [ILc_length, List.length_drop]; omega) (ILc_one _) (by omega) (fun _ => rfl) (fun r3 => ?_)
          refine run_nil ?_
          refine t_node [12] (by kernel_rfl) rfl ⟨⟨_, rfl, ?_⟩, trivial⟩
          ·
           refine r_assign rfl rfl rfl (run_nil ?_)
           refine tr_nil (by kernel_rfl) ?_
           refine at_tn (at_ret ?_)
           refine at_end1 rfl (res_tmp rfl) (fun w hL => ⟨⟨some ⟨r3.b, r3.n, r3.cap, by have := r3.h; omega⟩, fun h => by cases h⟩, ?_, hL.picks [some 2] ⟨⟨_, rfl, le_same (congrArg (fun c => (⟨r3.b, 3, c, r3.n, true⟩ : Blk)) (show ILc (insS l n) = (ILc (l.take k) ++ [.int .i64 n]) ++ ILc (l.drop k) by rw [hins]; simp [ILc]))⟩, trivial⟩ rfl rfl⟩)
           exact congrArg (fun m => Ending.returned (slv r3.b 0 m r3.cap)) hil.symm
   · exfalso; have := of_decide_eq_false hb3; omega
 ·
  have hge : k = l.length := (by have := of_decide_eq_false hb1; omega)
  have hins := insS_at hk hall (fun z hz => absurd (List.getElem?_eq_some_iff.1 hz).1 (by omega))
  refine r_no rfl rfl rfl (r_no rfl rfl rfl (r_no rfl rfl rfl (r_no rfl rfl rfl (r_no rfl rfl rfl (r_no rfl rfl rfl (r_pickF rfl rfl rfl rfl (run_nil (at_tn (at_condF rfl (at_exit (at_te (at_te (at_be (at_tn (at_seq (at_seq (at_region (r_move rfl rfl rfl (r_move rfl rfl rfl (r_lenV u33 rfl rfl rfl (r_cmpInt rfl rfl rfl rfl rfl (r_move rfl rfl rfl ?_))))))))))))))))))))))
  refine r_split 24 rfl (fun hb2 => ?_) (fun hb2 => ?_)
  · exfalso; have := of_decide_eq_true hb2; omega
  ·
   refine r_no rfl rfl rfl (r_no rfl rfl rfl (r_no rfl rfl rfl (r_no rfl rfl rfl (r_no rfl rfl rfl (r_no rfl rfl rfl (r_pickF rfl rfl rfl rfl (run_nil (at_tn (at_condF rfl (at_skip (at_tn (at_seq ?_))))))))))))
   have hil : (insS l n).length = 0 + k + 1 + (l.length - k) := by rw [hins]; simp; omega
   refine at_drawnE (l' := [⟨_,_,_,_,_,_⟩, ⟨_,_,_,_,_,_⟩, ⟨_,_,_,_,_,_⟩, ⟨_,_,_,_,_,_⟩, ⟨_,_,_,_,_,_⟩, ⟨_,_,_,_,_,_⟩, ⟨_,_,_,_,_,_⟩]) [1, 2, 3, 5, 8, 9, 10] 6 mixed (by kernel_rfl) rfl ?_
   refine r_move rfl rfl rfl (r_move rfl rfl rfl ?_)
   refine r_sliceH k u33 ti3 rfl rfl rfl rfl (by omega) (by omega) rfl ?_
   refine r_move rfl rfl rfl (r_move rfl rfl rfl (r_move rfl rfl rfl ?_))
   refine r_sliceM k u33 ti3 rfl rfl rfl rfl (by omega) rfl rfl rfl ?_
   refine run_nil ?_
   refine t_node [0, 6] (by kernel_rfl) rfl ⟨⟨_, rfl, ?_⟩, ⟨_, rfl, ?_⟩, trivial⟩
   ·
    refine r_buildSlice [] (fun g => [_, ⟨some g, 3, _, 0, true⟩]) rfl rfl rfl (bs33_0) rfl (fun _ => rfl) (fun g0 => ?_)
    refine run_nil ?_
    refine t_node [4, 6] (by kernel_rfl) rfl ⟨⟨_, rfl, ?_⟩, ⟨_, rfl, ?_⟩, trivial⟩
    ·
     refine q_appendO (s := 1) (len := 0) 1 0 (ILc (l.take k)) (fun r => [_, ⟨r.b, 3, ILc (l.take k), r.n, true⟩]) u33 el3 rfl rfl rfl rfl rfl rfl rfl rfl rfl rfl rfl (Nat.le_refl _) (Nat.le_refl _) (by by_cases hz : k = 0; exact .inl hz; exact .inr (il_base (pre := []) hbase (by omega))) (ILc_takeT l k) (by rw [ILc_length, List.length_take]; omega) (ILc_one _) (by omega) (fun _ => rfl) (fun r => ?_)
     refine run_nil ?_
     refine t_node [6] (by kernel_rfl) rfl ⟨⟨_, rfl, ?_⟩, trivial⟩
     ·
      refine r_buildSlice [(0, _)] (fun g => [_, _, ⟨some g, 3, _, 1, true⟩]) rfl rfl rfl (bs33_1) rfl (fun _ => rfl) (fun g1 => ?_)
      refine run_nil ?_
      refine t_node [7] (by kernel_rfl) rfl ⟨⟨_, rfl, ?_⟩, trivial⟩
      ·
       refine q_appendO (s := 1) (len := 0 + k) (n2 := 1) 1 2 [.int .i64 n] (fun r2 => [_, ⟨r2.b, 3, ILc (l.take k) ++ [.int .i64 n], r2.n, true⟩, _]) u33 el3 rfl rfl rfl rfl rfl rfl rfl rfl rfl rfl (by rw [ILc_length, List.length_take]; omega) r.h r.hn (.inr ⟨_, rfl⟩) rfl rfl (Go.Via.one_cell _ _) (by omega) (fun _ => rfl) (fun r2 => ?_)
       refine run_nil ?_
       refine t_node [11] (by kernel_rfl) rfl ⟨⟨_, rfl, ?_⟩, trivial⟩
       ·
        refine q_appendO (s := 1) (len := 0 + k + 1) 1 0 (ILc (l.drop k)) (fun r3 => [_, ⟨r3.b, 3, (ILc (l.take k) ++ [.int .i64 n]) ++ ILc (l.drop k), r3.n, true⟩, _]) u33 el3 rfl rfl rfl rfl rfl rfl rfl rfl rfl rfl (by rw [List.length_append, ILc_length, List.length_take]; simp; omega) r2.h r2.hn (by by_cases hz : l.length - k = 0; exact .inl hz; exact .inr (il_base (pre := []) hbase (by omega))) (ILc_dropT hc) (by rw [ILc_length, List.length_drop]; omega) (ILc_one _) (by omega) (fun _ => rfl) (fun r3 => ?_)
        refine run_nil ?_
        refine t_node [12] (by kernel_rfl) rfl ⟨⟨_, rfl, ?_⟩, trivial⟩
        ·
         refine r_assign rfl rfl rfl (run_nil ?_)
         refine tr_nil (by kernel_rfl) ?_
         refine at_tn (at_ret ?_)
         refine at_end1 rfl (res_tmp rfl) (fun w hL => ⟨⟨some ⟨r3.b, r3.n, r3.cap, by have := r3.h; omega⟩, fun h => by cases h⟩, ?_, hL.picks [some 1] ⟨⟨_, rfl, le_same (congrArg (fun c => (⟨r3.b, 3, c, r3.n, true⟩ : Blk)) (show ILc (insS l n) = (ILc (l.take k) ++ [.int .i64 n]) ++ ILc (l.drop k) by rw [hins]; simp [ILc]))⟩, trivial⟩ rfl rfl⟩)
         exact congrArg (fun m => Ending.returned (slv r3.b 0 m r3.cap)) hil.symm
    ·
     refine r_buildSlice [(0, _)] (fun g => [_, _, ⟨some g, 3, _, 1, true⟩]) rfl rfl rfl (bs33_1) rfl (fun _ => rfl) (fun g1 => ?_)
     refine run_nil ?_
     refine t_node [4] (by kernel_rfl) rfl ⟨⟨_, rfl, ?_⟩, trivial⟩
     ·
      refine q_appendO (s := 1) (len := 0) 1 0 (ILc (l.take k)) (fun r => [_, ⟨r.b, 3, ILc (l.take k), r.n, true⟩, _]) u33 el3 rfl rfl rfl rfl rfl rfl rfl rfl rfl rfl rfl (Nat.le_refl _) (Nat.le_refl _) (by by_cases hz : k = 0; exact .inl hz; exact .inr (il_base (pre := []) hbase (by omega))) (ILc_takeT l k) (by rw [ILc_length, List.length_take]; omega) (ILc_one _) (by omega) (fun _ => rfl) (fun r => ?_)
      refine run_nil ?_
      refine t_node [7] (by kernel_rfl) rfl ⟨⟨_, rfl, ?_⟩, trivial⟩
      ·
       refine q_appendO (s := 1) (len := 0 + k) (n2 := 1) 1 2 [.int .i64 n] (fun r2 => [_, ⟨r2.b, 3, ILc (l.take k) ++ [.int .i64 n], r2.n, true⟩, _]) u33 el3 rfl rfl rfl rfl rfl rfl rfl rfl rfl rfl (by rw [ILc_length, List.length_take]; omega) r.h r.hn (.inr ⟨_, rfl⟩) rfl rfl (Go.Via.one_cell _ _) (by omega) (fun _ => rfl) (fun r2 => ?_)
       refine run_nil ?_
       refine t_node [11] (by kernel_rfl) rfl ⟨⟨_, rfl, ?_⟩, trivial⟩
       ·
        refine q_appendO (s := 1) (len := 0 + k + 1) 1 0 (ILc (l.drop k)) (fun r3 => [_, ⟨r3.b, 3, (ILc (l.take k) ++ [.int .i64 n]) ++ ILc (l.drop k), r3.n, true⟩, _]) u33 el3 rfl rfl rfl rfl rfl rfl rfl rfl rfl rfl (by rw [List.length_append, ILc_length, List.length_take]; simp; omega) r2.h r2.hn (by by_cases hz : l.length - k = 0; exact .inl hz; exact .inr (il_base (pre := []) hbase (by omega))) (ILc_dropT hc) (by rw [ILc_length, List.length_drop]; omega) (ILc_one _) (by omega) (fun _ => rfl) (fun r3 => ?_)
        refine run_nil ?_
        refine t_node [12] (by kernel_rfl) rfl ⟨⟨_, rfl, ?_⟩, trivial⟩
        ·
         refine r_assign rfl rfl rfl (run_nil ?_)
         refine tr_nil (by kernel_rfl) ?_
         refine at_tn (at_ret ?_)
         refine at_end1 rfl (res_tmp rfl) (fun w hL => ⟨⟨some ⟨r3.b, r3.n, r3.cap, by have := r3.h; omega⟩, fun h => by cases h⟩, ?_, hL.picks [some 1] ⟨⟨_, rfl, le_same (congrArg (fun c => (⟨r3.b, 3, c, r3.n, true⟩ : Blk)) (show ILc (insS l n) = (ILc (l.take k) ++ [.int .i64 n]) ++ ILc (l.drop k) by rw [hins]; simp [ILc]))⟩, trivial⟩ rfl rfl⟩)
         exact congrArg (fun m => Ending.returned (slv r3.b 0 m r3.cap)) hil.symm
   ·
    refine r_buildSlice [(0, _)] (fun g => [_, ⟨some g, 3, _, 1, true⟩]) rfl rfl rfl (bs33_1) rfl (fun _ => rfl) (fun g0 => ?_)
    refine run_nil ?_
    refine t_node [0] (by kernel_rfl) rfl ⟨⟨_, rfl, ?_⟩, trivial⟩
    ·
     refine r_buildSlice [] (fun g => [_, _, ⟨some g, 3, _, 0, true⟩]) rfl rfl rfl (bs33_0) rfl (fun _ => rfl) (fun g1 => ?_)
     refine run_nil ?_
     refine t_node [4] (by kernel_rfl) rfl ⟨⟨_, rfl, ?_⟩, trivial⟩
     ·
      refine q_appendO (s := 1) (len := 0) 2 0 (ILc (l.take k)) (fun r => [_, _, ⟨r.b, 3, ILc (l.take k), r.n, true⟩]) u33 el3 rfl rfl rfl rfl rfl rfl rfl rfl rfl rfl rfl (Nat.le_refl _) (Nat.le_refl _) (by by_cases hz : k = 0; exact .inl hz; exact .inr (il_base (pre := []) hbase (by omega))) (ILc_takeT l k) (by rw [ILc_length, List.length_take]; omega) (ILc_one _) (by omega) (fun _ => rfl) (fun r => ?_)
      refine run_nil ?_
      refine t_node [7] (by kernel_rfl) rfl ⟨⟨_, rfl, ?_⟩, trivial⟩
      ·
       refine q_appendO (s := 1) (len := 0 + k) (n2 := 1) 2 1 [.int .i64 n] (fun r2 => [_, _, ⟨r2.b, 3, ILc (l.take k) ++ [.int .i64 n], r2.n, true⟩]) u33 el3 rfl rfl rfl rfl rfl rfl rfl rfl rfl rfl (by rw [ILc_length, List.length_take]; omega) r.h r.hn (.inr ⟨_, rfl⟩) rfl rfl (Go.Via.one_cell _ _) (by omega) (fun _ => rfl) (fun r2 => ?_)
       refine run_nil ?_
       refine t_node [11] (by kernel_rfl) rfl ⟨⟨_, rfl, ?_⟩, trivial⟩
       ·
        refine q_appendO (s := 1) (len := 0 + k + 1) 2 0 (ILc (l.drop k)) (fun r3 => [_, _, ⟨r3.b, 3, (ILc (l.take k) ++ [.int .i64 n]) ++ ILc (l.drop k), r3.n, true⟩]) u33 el3 rfl rfl rfl rfl rfl rfl rfl rfl rfl rfl (by rw [List.length_append, ILc_length, List.length_take]; simp; omega) r2.h r2.hn (by by_cases hz : l.length - k = 0; exact .inl hz; exact .inr (il_base (pre := []) hbase (by omega))) (ILc_dropT hc) (by rw [ILc_length, List.length_drop]; omega) (ILc_one _) (by omega) (fun _ => rfl) (fun r3 => ?_)
        refine run_nil ?_
        refine t_node [12] (by kernel_rfl) rfl ⟨⟨_, rfl, ?_⟩, trivial⟩
        ·
         refine r_assign rfl rfl rfl (run_nil ?_)
         refine tr_nil (by kernel_rfl) ?_
         refine at_tn (at_ret ?_)
         refine at_end1 rfl (res_tmp rfl) (fun w hL => ⟨⟨some ⟨r3.b, r3.n, r3.cap, by have := r3.h; omega⟩, fun h => by cases h⟩, ?_, hL.picks [some 2] ⟨⟨_, rfl, le_same (congrArg (fun c => (⟨r3.b, 3, c, r3.n, true⟩ : Blk)) (show ILc (insS l n) = (ILc (l.take k) ++ [.int .i64 n]) ++ ILc (l.drop k) by rw [hins]; simp [ILc]))⟩, trivial⟩ rfl rfl⟩)
         exact congrArg (fun m => Ending.returned (slv r3.b 0 m r3.cap)) hil.symm
end Go.Proofs.YtncogghlhlnmaaaGreatDoor
set_option linter.unusedVariables false
namespace Go.Proofs.YtncogghlhlnmaaaGreatDoor
open Go Go.RowKit Go.Via
set_option maxRecDepth 20000 in
theorem c_law_devices (l : List Ex) (a : Option Addr) (b : Option Nat) (pre : List Value) (N cap : Nat) (hc : l.length ≤ cap) (ha : l ≠ [] → a = b.map fun g => ⟨g, pre.length, none⟩) (hn : l.length ≤ 100000) : SCall Tryz.prog 18 [⟨b, 49, pre ++ XLc l, N, false⟩] [.slice a l.length cap] (SR (devL l).length) (fun x => x.v) (fun x => [⟨x.b, 3, ILc (devL l), x.n, true⟩]) := by
 refine ⟨by kernel_rfl, fun w hL0 => ?_⟩
 refine calls_at (args := [.slice a l.length cap]) Tryz.func18 rfl (Nat.le_of_ble_eq_true rfl) hL0 ?_
 show At w ⟨25, [(0, .slice a l.length cap)], [⟨b, 49, pre ++ XLc l, N, false⟩]⟩ _
 refine at_seq ?_
 refine at_base 0 rfl (fun hbase => ?_)
 refine at_region (r_assign rfl rfl rfl (run_nil (at_tn (at_seq (at_region (r_assign rfl rfl rfl (run_nil (at_tn (at_seq (at_seq (at_region (r_assign rfl rfl rfl (run_nil (at_tn (at_block ?_)))))))))))))))
 refine enterL (nt := 25) (ι := {x : Nat × Option Nat × Nat × Nat // x.1 ≤ l.length ∧ (devL (l.take x.1)).length ≤ x.2.2.2}) (fun ⟨⟨i, ob, oN, oc⟩, hi, h1⟩ => [(0, .slice a l.length cap), (3, slv ob 0 (devL (l.take i)).length oc), (4, .int .i64 (i : Nat))]) (fun ⟨⟨i, ob, oN, oc⟩, hi, h1⟩ => [⟨b, 49, pre ++ XLc l, N, false⟩, ⟨ob, 3, ILc (devL (l.take i)), oN, true⟩]) (fun ⟨⟨i, ob, oN, oc⟩, hi, h1⟩ => l.length - i) ⟨(0, none, 0, 0), Nat.zero_le _, Nat.le_refl _⟩ ⟨rfl, rfl, rfl, trivial⟩ (weak_picks [some 0, none] ⟨⟨_, rfl, Blk.le_refl _⟩, ⟨rfl, rfl, rfl⟩, trivial⟩ rfl rfl) ?_
 rintro ⟨⟨i, ob, oN, oc⟩, hi, h1⟩
 show At _ ⟨25, [(0, .slice a l.length cap), (3, slv ob 0 (devL (l.take i)).length oc), (4, .int .i64 (i : Nat))], [⟨b, 49, pre ++ XLc l, N, false⟩, ⟨ob, 3, ILc (devL (l.take i)), oN, true⟩]⟩ _
 replace hi : i ≤ l.length := hi
 replace h1 : (devL (l.take i)).length ≤ oc := h1
 refine at_seq (at_seq (at_region (r_move rfl rfl rfl (r_move rfl rfl rfl (r_lenV u22 rfl rfl rfl (r_cmpInt rfl rfl rfl rfl rfl (run_nil (at_tn ?_))))))))
 refine at_cond rfl (fun hb1 => ?_) (fun hb1 => ?_)
 ·
  have hlt : i < l.length := (by have := of_decide_eq_true hb1; omega)
  obtain ⟨x, hx⟩ : ∃ x, l[i]? = some x := ⟨l[i], List.getElem?_eq_getElem hlt⟩
  have hdl := devL_len (l.take i)
  have htl : (l.take i).length ≤ i := by rw [List.length_take]; omega
  obtain ⟨gb, hgb⟩ := ex_base hbase (by omega)
  replace hgb : b = some gb := hgb
  subst hgb
  obtain rfl : a = some ⟨gb, pre.length, none⟩ := ha (fun e => by rw [e] at hlt; cases hlt)
  refine at_skip (at_tn (at_seq (at_block ?_)))
  refine at_drawn (l' := [⟨_,_,_,_,_,_⟩, ⟨_,_,_,_,_,_⟩, ⟨_,_,_,_,_,_⟩, ⟨_,_,_,_,_,_⟩, ⟨_,_,_,_,_,_⟩, ⟨_,_,_,_,_,_⟩, ⟨_,_,_,_,_,_⟩, ⟨_,_,_,_,_,_⟩, ⟨_,_,_,_,_,_⟩, ⟨_,_,_,_,_,_⟩, ⟨_,_,_,_,_,_⟩, ⟨_,_,_,_,_,_⟩, ⟨_,_,_,_,_,_⟩, ⟨_,_,_,_,_,_⟩]) [1] [0, 1, 2, 3, 4, 5, 7, 8, 9, 10, 11, 6, 12, 13] mixed (by kernel_rfl) rfl (by kernel_rfl) ?_
  refine r_move rfl rfl rfl (r_move rfl rfl rfl (r_move rfl rfl rfl ?_))
  refine r_indexAddr 0 (pre.length + i * 5) u22 ti49 rfl rfl rfl rfl rfl (by omega) (by omega) (pre_ne (XLc_ne (by omega))) (by show pre.length + Int.toNat _ * 5 = _; omega) ?_
  refine r_fieldAddr 0 (pre.length + i * 5) 0 rfl rfl rfl rfl rfl ti49 rfl rfl ?_
  refine r_load (v := .int .i64 x.f) 0 (pre.length + (i * 5 + 0)) _ rfl rfl rfl rfl ti3 (pre_get (XLc_f hx) rfl) rfl (by decide) rfl ?_
  refine r_move rfl rfl rfl (r_move rfl rfl rfl ?_)
  refine r_indexAddr 0 (pre.length + i * 5) u22 ti49 rfl rfl rfl rfl rfl (by omega) (by omega) (pre_ne (XLc_ne (by omega))) (by show pre.length + Int.toNat _ * 5 = _; omega) ?_
  refine r_fieldAddr 0 (pre.length + i * 5) 1 rfl rfl rfl rfl rfl ti49 rfl rfl ?_
  refine r_load (v := .int .i64 x.t) 0 (pre.length + (i * 5 + 1)) _ rfl rfl rfl rfl ti3 (pre_get (XLc_t hx) rfl) rfl (by decide) rfl ?_
  refine r_kcall1 [_, _] [1] 1 (fun (y : SR (insS (devL (l.take i)) x.f).length) => y.v) (fun y => ⟨y.b, 3, ILc (insS (devL (l.take i)) x.f), y.n, true⟩) (fun y => [_, ⟨y.b, 3, ILc (insS (devL (l.take i)) x.f), y.n, true⟩]) rfl rfl rfl rfl rfl (c_law_insert (devL (l.take i)) ob oN oc h1 (by omega) x.f) ⟨⟨_, rfl, le_share⟩, trivial⟩ rfl (insNew_own _ _) (fun z => ins_merge h1 (k := 1) rfl z) (fun _ => rfl) (fun y1 => ?_)
  refine r_kcall1 [_, _] [1] 1 (fun (y : SR (insS (insS (devL (l.take i)) x.f) x.t).length) => y.v) (fun y => ⟨y.b, 3, ILc (insS (insS (devL (l.take i)) x.f) x.t), y.n, true⟩) (fun y => [_, ⟨y.b, 3, ILc (insS (insS (devL (l.take i)) x.f) x.t), y.n, true⟩]) rfl rfl rfl rfl rfl (c_law_insert (insS (devL (l.take i)) x.f) y1.b y1.n y1.cap y1.h (by have := insS_len (devL (l.take i)) x.f; omega) x.t) ⟨⟨_, rfl, le_share⟩, trivial⟩ rfl (insNew_own _ _) (fun z => ins_merge y1.h (k := 1) rfl z) (fun _ => rfl) (fun y2 => ?_)
  refine r_assign rfl rfl rfl (run_nil (at_bn (at_tn (at_region (r_move rfl rfl rfl ?_)))))
  refine r_arith (r := ((i + 1 : Nat) : Int)) rfl rfl rfl rfl (congrArg some (wi (by omega) (by omega) (by omega))) ?_
  refine r_assign rfl rfl rfl (run_nil (at_tn ?_))
  exact nextL ⟨(i + 1, y2.b, y2.n, y2.cap), hlt, by rw [devL_step hx]; exact y2.h⟩ (by show l.length - (i + 1) < l.length - i; omega) ⟨rfl, (look_val rfl (by rw [devL_step hx]; rfl)), rfl, trivial⟩ (weak_picks [some 0, some 1] ⟨⟨_, rfl, Blk.le_refl _⟩, ⟨_, rfl, le_same (by show Blk.mk _ _ _ _ _ = Blk.mk _ _ _ _ _; rw [devL_step hx])⟩, trivial⟩ rfl rfl)
 ·
  have hge : i = l.length := (by have := of_decide_eq_false hb1; omega)
  subst hge
  refine at_exit (at_te (at_te (at_be (at_tn (at_seq (at_region (r_move rfl rfl rfl (r_assign rfl rfl rfl (run_nil (at_tn (at_ret ?_)))))))))))
  refine at_end1 rfl (res_tmp rfl) (fun w hL => ⟨⟨ob, oN, oc, by rw [← List.take_length (l := l)]; exact h1⟩, ?_, hL.picks [some 1] ⟨⟨_, rfl, le_same (congrArg (fun c => (⟨ob, 3, ILc (devL c), oN, true⟩ : Blk)) (List.take_length (l := l)).symm)⟩, trivial⟩ rfl rfl⟩)
  exact congrArg (fun c => Ending.returned (slv ob 0 (devL c).length oc)) (List.take_length (l := l))
end Go.Proofs.YtncogghlhlnmaaaGreatDoor
set_option linter.unusedVariables false
namespace Go.Proofs.YtncogghlhlnmaaaGreatDoor
open Go Go.RowKit Go.Via
set_option maxRecDepth 20000 in
theorem c_law_component (l : List Ex) (a : Option Addr) (b : Option Nat) (pre : List Value) (N cap : Nat) (hc : l.length ≤ cap) (ha : l ≠ [] → a = b.map fun g => ⟨g, pre.length, none⟩) (hn : l.length ≤ 100000) (d : Int) : SCall Tryz.prog 22 [⟨b, 49, pre ++ XLc l, N, false⟩] [.slice a l.length cap, .int .i64 d] (SR (compL l d).length) (fun x => x.v) (fun x => [⟨x.b, 3, ILc (compL l d), x.n, true⟩]) := by
 refine ⟨by kernel_rfl, fun w hL0 => ?_⟩
 refine calls_at (args := [.slice a l.length cap, .int .i64 d]) Tryz.func22 rfl (Nat.le_of_ble_eq_true rfl) hL0 ?_
 show At w ⟨52, [(0, .slice a l.length cap), (1, .int .i64 d)], [⟨b, 49, pre ++ XLc l, N, false⟩]⟩ _
 refine at_seq ?_
 refine at_base 0 rfl (fun hbase => ?_)
 refine at_region (r_assign rfl rfl rfl (run_nil (at_tn (at_seq (at_region (r_move rfl rfl rfl ?_))))))
 refine r_buildSlice [(0, _)] (fun g => [_, ⟨some g, 3, _, 1, true⟩]) rfl rfl rfl (bs33_1) rfl (fun _ => rfl) (fun g0 => ?_)
 refine r_assign rfl rfl rfl (run_nil (at_tn (at_seq (at_seq (at_region (r_assign rfl rfl rfl (run_nil (at_tn (at_block ?_)))))))))
 refine enterL (nt := 52) (ι := {x : Nat × List Int × Option Nat × Nat × Nat // x.1 ≤ l.length ∧ x.2.1.length ≤ x.2.2.2.2 ∧ CO l d x.2.1 ∧ compL l d = cmpR l (l.length - x.1) x.2.1}) (fun ⟨⟨r, o, ob, oN, oc⟩, hr, h0, hO, hR⟩ => [(0, .slice a l.length cap), (5, slv ob 0 o.length oc), (6, .int .i64 (r : Nat))]) (fun ⟨⟨r, o, ob, oN, oc⟩, hr, h0, hO, hR⟩ => [⟨b, 49, pre ++ XLc l, N, false⟩, ⟨ob, 3, ILc o, oN, true⟩]) (fun ⟨⟨r, o, ob, oN, oc⟩, hr, h0, hO, hR⟩ => l.length - r) ⟨(0, [d], some g0, 1, 1), Nat.zero_le _, Nat.le_refl _, CO.init l d, rfl⟩ ⟨rfl, rfl, rfl, trivial⟩ (Weak.refl _) ?_
 rintro ⟨⟨r, o, ob, oN, oc⟩, hr, h0, hO, hR⟩
 show At _ ⟨52, [(0, .slice a l.length cap), (5, slv ob 0 o.length oc), (6, .int .i64 (r : Nat))], [⟨b, 49, pre ++ XLc l, N, false⟩, ⟨ob, 3, ILc o, oN, true⟩]⟩ _
 replace hr : r ≤ l.length := hr
 replace h0 : o.length ≤ oc := h0
 replace hO : CO l d o := hO
 replace hR : compL l d = cmpR l (l.length - r) o := hR
 refine at_seq (at_seq (at_region (r_move rfl rfl rfl (r_move rfl rfl rfl (r_lenV u22 rfl rfl rfl (r_cmpInt rfl rfl rfl rfl rfl (run_nil (at_tn ?_))))))))
 refine at_cond rfl (fun hb1 => ?_) (fun hb1 => ?_)
 ·
  have hrlt : r < l.length := (by have := of_decide_eq_true hb1; omega)
  refine at_skip (at_tn (at_seq (at_block (at_seq (at_region (r_assign rfl rfl rfl (run_nil (at_tn (at_block ?_)))))))))
  refine enterL (nt := 52) (ι := {x : Nat × Option Nat × Nat × Nat // x.1 ≤ l.length ∧ ((l.take x.1).foldl cmpF o).length ≤ x.2.2.2}) (fun ⟨⟨i, ob, oN, oc⟩, hi, h1⟩ => [(0, .slice a l.length cap), (5, slv ob 0 ((l.take i).foldl cmpF o).length oc), (6, .int .i64 (r : Nat)), (7, .int .i64 (i : Nat))]) (fun ⟨⟨i, ob, oN, oc⟩, hi, h1⟩ => [⟨b, 49, pre ++ XLc l, N, false⟩, ⟨ob, 3, ILc ((l.take i).foldl cmpF o), oN, true⟩]) (fun ⟨⟨i, ob, oN, oc⟩, hi, h1⟩ => l.length - i) ⟨(0, ob, oN, oc), Nat.zero_le _, h0⟩ ⟨rfl, rfl, rfl, rfl, trivial⟩ (Weak.refl _) ?_
  rintro ⟨⟨i, ob, oN, oc⟩, hi, h1⟩
  show At _ ⟨52, [(0, .slice a l.length cap), (5, slv ob 0 ((l.take i).foldl cmpF o).length oc), (6, .int .i64 (r : Nat)), (7, .int .i64 (i : Nat))], [⟨b, 49, pre ++ XLc l, N, false⟩, ⟨ob, 3, ILc ((l.take i).foldl cmpF o), oN, true⟩]⟩ _
  replace hi : i ≤ l.length := hi
  replace h1 : ((l.take i).foldl cmpF o).length ≤ oc := h1
  refine at_seq (at_seq (at_region (r_move rfl rfl rfl (r_move rfl rfl rfl (r_lenV u22 rfl rfl rfl (r_cmpInt rfl rfl rfl rfl rfl (run_nil (at_tn ?_))))))))
  refine at_cond rfl (fun hb3 => ?_) (fun hb3 => ?_)
  ·
   have hlt : i < l.length := (by have := of_decide_eq_true hb3; omega)
   obtain ⟨x, hx⟩ : ∃ x, l[i]? = some x := ⟨l[i], List.getElem?_eq_getElem hlt⟩
   have hci := (CO.fold hO i).len
   obtain ⟨gb, hgb⟩ := ex_base hbase (by omega)
   replace hgb : b = some gb := hgb
   subst hgb
   obtain rfl : a = some ⟨gb, pre.length, none⟩ := ha (fun e => by rw [e] at hlt; cases hlt)
   refine at_skip (at_tn (at_seq (at_block (at_seq (at_region (r_move rfl rfl rfl (r_move rfl rfl rfl (r_move rfl rfl rfl ?_))))))))
   refine r_indexAddr 0 (pre.length + i * 5) u22 ti49 rfl rfl rfl rfl rfl (by omega) (by omega) (pre_ne (XLc_ne (by omega))) (by show pre.length + Int.toNat _ * 5 = _; omega) ?_
   refine r_fieldAddr 0 (pre.length + i * 5) 0 rfl rfl rfl rfl rfl ti49 rfl rfl ?_
   refine r_load (v := .int .i64 x.f) 0 (pre.length + (i * 5 + 0)) _ rfl rfl rfl rfl ti3 (pre_get (XLc_f hx) rfl) rfl (by decide) rfl ?_
   refine r_scall0 [_, _] [1] rfl rfl rfl (c_law_has ((l.take i).foldl cmpF o) ob oN oc h1 (by omega) x.f) ⟨⟨_, rfl, le_share⟩, trivial⟩ rfl ?_
   refine r_move rfl rfl rfl ?_
   refine r_split 29 rfl (fun hb4 => ?_) (fun hb4 => ?_)
   ·
    have hcy := cmpF_yes hx (by rw [hb4]; rfl) (o := o)
    refine r_no rfl rfl rfl (r_no rfl rfl rfl (r_no rfl rfl rfl (r_no rfl rfl rfl (r_no rfl rfl rfl (r_no rfl rfl rfl (r_no rfl rfl rfl (r_pickT rfl rfl rfl rfl (run_nil (at_tn (at_condT rfl ?_))))))))))
    refine at_drawn (l' := [⟨_,_,_,_,_,_⟩, ⟨_,_,_,_,_,_⟩, ⟨_,_,_,_,_,_⟩, ⟨_,_,_,_,_,_⟩, ⟨_,_,_,_,_,_⟩, ⟨_,_,_,_,_,_⟩, ⟨_,_,_,_,_,_⟩, ⟨_,_,_,_,_,_⟩, ⟨_,_,_,_,_,_⟩, ⟨_,_,_,_,_,_⟩, ⟨_,_,_,_,_,_⟩, ⟨_,_,_,_,_,_⟩, ⟨_,_,_,_,_,_⟩, ⟨_,_,_,_,_,_⟩]) [1] [0, 1, 2, 3, 4, 5, 7, 8, 9, 10, 11, 6, 12, 13] mixed (by kernel_rfl) rfl (by kernel_rfl) ?_
    refine r_move rfl rfl rfl (r_move rfl rfl rfl (r_move rfl rfl rfl ?_))
    refine r_indexAddr 0 (pre.length + i * 5) u22 ti49 rfl rfl rfl rfl rfl (by omega) (by omega) (pre_ne (XLc_ne (by omega))) (by show pre.length + Int.toNat _ * 5 = _; omega) ?_
    refine r_fieldAddr 0 (pre.length + i * 5) 0 rfl rfl rfl rfl rfl ti49 rfl rfl ?_
    refine r_load (v := .int .i64 x.f) 0 (pre.length + (i * 5 + 0)) _ rfl rfl rfl rfl ti3 (pre_get (XLc_f hx) rfl) rfl (by decide) rfl ?_
    refine r_move rfl rfl rfl (r_move rfl rfl rfl ?_)
    refine r_indexAddr 0 (pre.length + i * 5) u22 ti49 rfl rfl rfl rfl rfl (by omega) (by omega) (pre_ne (XLc_ne (by omega))) (by show pre.length + Int.toNat _ * 5 = _; omega) ?_
    refine r_fieldAddr 0 (pre.length + i * 5) 1 rfl rfl rfl rfl rfl ti49 rfl rfl ?_
    refine r_load (v := .int .i64 x.t) 0 (pre.length + (i * 5 + 1)) _ rfl rfl rfl rfl ti3 (pre_get (XLc_t hx) rfl) rfl (by decide) rfl ?_
    refine r_kcall1 [_, _] [1] 1 (fun (y : SR (insS (((l.take i).foldl cmpF o)) x.f).length) => y.v) (fun y => ⟨y.b, 3, ILc (insS (((l.take i).foldl cmpF o)) x.f), y.n, true⟩) (fun y => [_, ⟨y.b, 3, ILc (insS (((l.take i).foldl cmpF o)) x.f), y.n, true⟩]) rfl rfl rfl rfl rfl (c_law_insert (((l.take i).foldl cmpF o)) ob oN oc h1 (by omega) x.f) ⟨⟨_, rfl, le_share⟩, trivial⟩ rfl (insNew_own _ _) (fun z => ins_merge h1 (k := 1) rfl z) (fun _ => rfl) (fun y1 => ?_)
    refine r_kcall1 [_, _] [1] 1 (fun (y : SR (insS (insS ((l.take i).foldl cmpF o) x.f) x.t).length) => y.v) (fun y => ⟨y.b, 3, ILc (insS (insS ((l.take i).foldl cmpF o) x.f) x.t), y.n, true⟩) (fun y => [_, ⟨y.b, 3, ILc (insS (insS ((l.take i).foldl cmpF o) x.f) x.t), y.n, true⟩]) rfl rfl rfl rfl rfl (c_law_insert (insS ((l.take i).foldl cmpF o) x.f) y1.b y1.n y1.cap y1.h (by have := insS_len ((l.take i).foldl cmpF o) x.f; omega) x.t) ⟨⟨_, rfl, le_share⟩, trivial⟩ rfl (insNew_own _ _) (fun z => ins_merge y1.h (k := 1) rfl z) (fun _ => rfl) (fun y2 => ?_)
    refine r_assign rfl rfl rfl (run_nil (at_bn (at_tn (at_region (r_move rfl rfl rfl ?_)))))
    refine r_arith (r := ((i + 1 : Nat) : Int)) rfl rfl rfl rfl (congrArg some (wi (by omega) (by omega) (by omega))) ?_
    refine r_assign rfl rfl rfl (run_nil (at_tn ?_))
    exact nextL ⟨(i + 1, y2.b, y2.n, y2.cap), hlt, by rw [hcy]; exact y2.h⟩ (by show l.length - (i + 1) < l.length - i; omega) ⟨rfl, (look_val rfl (by rw [hcy]; rfl)), rfl, rfl, trivial⟩ (weak_picks [some 0, some 1] ⟨⟨_, rfl, Blk.le_refl _⟩, ⟨_, rfl, le_same (by show Blk.mk _ _ _ _ _ = Blk.mk _ _ _ _ _; rw [hcy])⟩, trivial⟩ rfl rfl)
   ·
    have h29 := hb4
    refine r_move rfl rfl rfl (r_move rfl rfl rfl (r_move rfl rfl rfl ?_))
    refine r_indexAddr 0 (pre.length + i * 5) u22 ti49 rfl rfl rfl rfl rfl (by omega) (by omega) (pre_ne (XLc_ne (by omega))) (by show pre.length + Int.toNat _ * 5 = _; omega) ?_
    refine r_fieldAddr 0 (pre.length + i * 5) 1 rfl rfl rfl rfl rfl ti49 rfl rfl ?_
    refine r_load (v := .int .i64 x.t) 0 (pre.length + (i * 5 + 1)) _ rfl rfl rfl rfl ti3 (pre_get (XLc_t hx) rfl) rfl (by decide) rfl ?_
    refine r_scall0 [_, _] [1] rfl rfl rfl (c_law_has ((l.take i).foldl cmpF o) ob oN oc h1 (by omega) x.t) ⟨⟨_, rfl, le_share⟩, trivial⟩ rfl ?_
    refine r_pickF rfl rfl rfl rfl (run_nil (at_tn ?_))
    refine at_cond rfl (fun hb5 => ?_) (fun hb5 => ?_)
    ·
     have hcy := cmpF_yes hx (by rw [h29, hb5]; rfl) (o := o)
     refine at_drawn (l' := [⟨_,_,_,_,_,_⟩, ⟨_,_,_,_,_,_⟩, ⟨_,_,_,_,_,_⟩, ⟨_,_,_,_,_,_⟩, ⟨_,_,_,_,_,_⟩, ⟨_,_,_,_,_,_⟩, ⟨_,_,_,_,_,_⟩, ⟨_,_,_,_,_,_⟩, ⟨_,_,_,_,_,_⟩, ⟨_,_,_,_,_,_⟩, ⟨_,_,_,_,_,_⟩, ⟨_,_,_,_,_,_⟩, ⟨_,_,_,_,_,_⟩, ⟨_,_,_,_,_,_⟩]) [1] [0, 1, 2, 3, 4, 5, 7, 8, 9, 10, 11, 6, 12, 13] mixed (by kernel_rfl) rfl (by kernel_rfl) ?_
     refine r_move rfl rfl rfl (r_move rfl rfl rfl (r_move rfl rfl rfl ?_))
     refine r_indexAddr 0 (pre.length + i * 5) u22 ti49 rfl rfl rfl rfl rfl (by omega) (by omega) (pre_ne (XLc_ne (by omega))) (by show pre.length + Int.toNat _ * 5 = _; omega) ?_
     refine r_fieldAddr 0 (pre.length + i * 5) 0 rfl rfl rfl rfl rfl ti49 rfl rfl ?_
     refine r_load (v := .int .i64 x.f) 0 (pre.length + (i * 5 + 0)) _ rfl rfl rfl rfl ti3 (pre_get (XLc_f hx) rfl) rfl (by decide) rfl ?_
     refine r_move rfl rfl rfl (r_move rfl rfl rfl ?_)
     refine r_indexAddr 0 (pre.length + i * 5) u22 ti49 rfl rfl rfl rfl rfl (by omega) (by omega) (pre_ne (XLc_ne (by omega))) (by show pre.length + Int.toNat _ * 5 = _; omega) ?_
     refine r_fieldAddr 0 (pre.length + i * 5) 1 rfl rfl rfl rfl rfl ti49 rfl rfl ?_
     refine r_load (v := .int .i64 x.t) 0 (pre.length + (i * 5 + 1)) _ rfl rfl rfl rfl ti3 (pre_get (XLc_t hx) rfl) rfl (by decide) rfl ?_
     refine r_kcall1 [_, _] [1] 1 (fun (y : SR (insS (((l.take i).foldl cmpF o)) x.f).length) => y.v) (fun y => ⟨y.b, 3, ILc (insS (((l.take i).foldl cmpF o)) x.f), y.n, true⟩) (fun y => [_, ⟨y.b, 3, ILc (insS (((l.take i).foldl cmpF o)) x.f), y.n, true⟩]) rfl rfl rfl rfl rfl (c_law_insert (((l.take i).foldl cmpF o)) ob oN oc h1 (by omega) x.f) ⟨⟨_, rfl, le_share⟩, trivial⟩ rfl (insNew_own _ _) (fun z => ins_merge h1 (k := 1) rfl z) (fun _ => rfl) (fun y1 => ?_)
     refine r_kcall1 [_, _] [1] 1 (fun (y : SR (insS (insS ((l.take i).foldl cmpF o) x.f) x.t).length) => y.v) (fun y => ⟨y.b, 3, ILc (insS (insS ((l.take i).foldl cmpF o) x.f) x.t), y.n, true⟩) (fun y => [_, ⟨y.b, 3, ILc (insS (insS ((l.take i).foldl cmpF o) x.f) x.t), y.n, true⟩]) rfl rfl rfl rfl rfl (c_law_insert (insS ((l.take i).foldl cmpF o) x.f) y1.b y1.n y1.cap y1.h (by have := insS_len ((l.take i).foldl cmpF o) x.f; omega) x.t) ⟨⟨_, rfl, le_share⟩, trivial⟩ rfl (insNew_own _ _) (fun z => ins_merge y1.h (k := 1) rfl z) (fun _ => rfl) (fun y2 => ?_)
     refine r_assign rfl rfl rfl (run_nil (at_bn (at_tn (at_region (r_move rfl rfl rfl ?_)))))
     refine r_arith (r := ((i + 1 : Nat) : Int)) rfl rfl rfl rfl (congrArg some (wi (by omega) (by omega) (by omega))) ?_
     refine r_assign rfl rfl rfl (run_nil (at_tn ?_))
     exact nextL ⟨(i + 1, y2.b, y2.n, y2.cap), hlt, by rw [hcy]; exact y2.h⟩ (by show l.length - (i + 1) < l.length - i; omega) ⟨rfl, (look_val rfl (by rw [hcy]; rfl)), rfl, rfl, trivial⟩ (weak_picks [some 0, some 1] ⟨⟨_, rfl, Blk.le_refl _⟩, ⟨_, rfl, le_same (by show Blk.mk _ _ _ _ _ = Blk.mk _ _ _ _ _; rw [hcy])⟩, trivial⟩ rfl rfl)
    ·
     have hcy := cmpF_no hx (by rw [h29, hb5]; rfl) (o := o)
     refine at_skip (at_bn (at_tn (at_region (r_move rfl rfl rfl ?_))))
     refine r_arith (r := ((i + 1 : Nat) : Int)) rfl rfl rfl rfl (congrArg some (wi (by omega) (by omega) (by omega))) ?_
     refine r_assign rfl rfl rfl (run_nil (at_tn ?_))
     exact nextL ⟨(i + 1, ob, oN, oc), hlt, by rw [hcy]; exact h1⟩ (by show l.length - (i + 1) < l.length - i; omega) ⟨rfl, (look_val rfl (by rw [hcy])), rfl, rfl, trivial⟩ (weak_picks [some 0, some 1] ⟨⟨_, rfl, Blk.le_refl _⟩, ⟨_, rfl, le_same (by show Blk.mk _ _ _ _ _ = Blk.mk _ _ _ _ _; rw [hcy])⟩, trivial⟩ rfl rfl)
  ·
   have hge : i = l.length := (by have := of_decide_eq_false hb3; omega)
   subst hge
   refine at_exit (at_te (at_te (at_be (at_bn (at_tn (at_region (r_move rfl rfl rfl ?_)))))))
   refine r_arith (r := ((r + 1 : Nat) : Int)) rfl rfl rfl rfl (congrArg some (wi (by omega) (by omega) (by omega))) ?_
   refine r_assign rfl rfl rfl (run_nil (at_tn ?_))
   have hte : l.take l.length = l := List.take_length
   exact nextL ⟨(r + 1, ((l.take l.length).foldl cmpF o), ob, oN, oc), hrlt, h1, CO.fold hO l.length, hR.trans (by show cmpR l (l.length - r) o = cmpR l (l.length - (r + 1)) _; rw [show l.length - r = (l.length - (r + 1)) + 1 by omega, hte]; rfl)⟩ (by show l.length - (r + 1) < l.length - r; omega) ⟨rfl, rfl, rfl, trivial⟩ (weak_picks [some 0, some 1] ⟨⟨_, rfl, Blk.le_refl _⟩, ⟨_, rfl, Blk.le_refl _⟩, trivial⟩ rfl rfl)
 ·
  have hge : r = l.length := (by have := of_decide_eq_false hb1; omega)
  subst hge
  have hcE : compL l d = o := by rw [hR, Nat.sub_self]; rfl
  refine at_exit (at_te (at_te (at_be (at_tn (at_seq (at_region (r_move rfl rfl rfl (r_assign rfl rfl rfl (run_nil (at_tn (at_ret ?_)))))))))))
  refine at_end1 rfl (res_tmp rfl) (fun w hL => ⟨⟨ob, oN, oc, by rw [hcE]; exact h0⟩, ?_, hL.picks [some 1] ⟨⟨_, rfl, le_same (congrArg (fun c => (⟨ob, 3, ILc c, oN, true⟩ : Blk)) hcE)⟩, trivial⟩ rfl rfl⟩)
  exact congrArg (fun c => Ending.returned (slv ob 0 (List.length c) oc)) hcE.symm
end Go.Proofs.YtncogghlhlnmaaaGreatDoor
set_option linter.unusedVariables false
namespace Go.Proofs.YtncogghlhlnmaaaGreatDoor
open Go Go.RowKit Go.Via
set_option maxRecDepth 20000 in
set_option maxHeartbeats 4000000 in
theorem c_law_offset (l : List Ex) (a : Option Addr) (b : Option Nat) (pre : List Value) (N cap : Nat) (hc : l.length ≤ cap) (ha : l ≠ [] → a = b.map fun g => ⟨g, pre.length, none⟩) (hok : ∀ x ∈ l, okX x) (hn : l.length ≤ 1000) (d : Int) : SCall Tryz.prog 15 [⟨b, 49, pre ++ XLc l, N, false⟩] [.slice a l.length cap, .int .i64 d] Unit (fun _ => .tuple #[.int .i64 (mLo l d), .int .i64 (mHi l d), .int .i64 (mE_ l d)]) (fun _ => []) := by
 refine ⟨by kernel_rfl, fun w hL0 => ?_⟩
 refine calls_at (args := [.slice a l.length cap, .int .i64 d]) Tryz.func15 rfl (Nat.le_of_ble_eq_true rfl) hL0 ?_
 show At w ⟨77, [(0, .slice a l.length cap), (1, .int .i64 d)], [⟨b, 49, pre ++ XLc l, N, false⟩]⟩ _
 refine at_seq (at_region (r_assign rfl rfl rfl (r_assign rfl rfl rfl (r_assign rfl rfl rfl (run_nil (at_tn (at_seq (at_seq (at_region (r_move rfl rfl rfl (r_cmpInt rfl rfl rfl rfl rfl (r_move rfl rfl rfl ?_))))))))))))
 refine r_split 13 rfl (fun hb0 => ?_) (fun hb0 => ?_)
 ·
  have h13 : d < 0 := of_decide_eq_true hb0
  obtain ⟨hE, hLo, hHi⟩ := mE_1 (l := l) (.inl h13)
  refine r_no rfl rfl rfl (r_no rfl rfl rfl (r_pickT rfl rfl rfl rfl (run_nil (at_tn (at_condT rfl (at_seq (at_region (r_assign rfl rfl rfl (r_assign rfl rfl rfl (r_assign rfl rfl rfl (run_nil (at_tn (at_ret (at_tr ?_))))))))))))))
  refine at_end3 rfl (res_tmp rfl) (res_tmp rfl) (res_tmp rfl) (fun w hL => ⟨(), ?_, hL.picks [] trivial rfl rfl⟩)
  rw [hE, hLo, hHi]
 ·
  have h13 : ¬ d < 0 := of_decide_eq_false hb0
  refine r_move rfl rfl rfl (r_cmpInt rfl rfl rfl rfl rfl (r_pickF rfl rfl rfl rfl (run_nil (at_tn ?_))))
  refine at_cond rfl (fun hb1 => ?_) (fun hb1 => ?_)
  ·
   have h16 : 1073741824 < d := of_decide_eq_true hb1
   obtain ⟨hE, hLo, hHi⟩ := mE_1 (l := l) (.inr h16)
   refine at_seq (at_region (r_assign rfl rfl rfl (r_assign rfl rfl rfl (r_assign rfl rfl rfl (run_nil (at_tn (at_ret (at_tr ?_))))))))
   refine at_end3 rfl (res_tmp rfl) (res_tmp rfl) (res_tmp rfl) (fun w hL => ⟨(), ?_, hL.picks [] trivial rfl rfl⟩)
   rw [hE, hLo, hHi]
  ·
   have h16 : ¬ 1073741824 < d := of_decide_eq_false hb1
   have hr : ¬ (d < 0 ∨ 1073741824 < d) := by omega
   refine at_skip (at_tn (at_seq (at_seq (at_region (r_move rfl rfl rfl (r_cmpInt rfl rfl rfl rfl rfl (r_move rfl rfl rfl ?_)))))))
   refine r_split 19 rfl (fun hb2 => ?_) (fun hb2 => ?_)
   ·
    have h19 : d = 0 := eq_of_beq hb2
    obtain ⟨hE, hLo, hHi⟩ := mE_2 (l := l) hr (.inl h19)
    refine r_no rfl rfl rfl (r_no rfl rfl rfl (r_no rfl rfl rfl (r_no rfl rfl rfl (r_no rfl rfl rfl (r_pickT rfl rfl rfl rfl (run_nil (at_tn (at_condT rfl (at_seq (at_region (r_assign rfl rfl rfl (r_assign rfl rfl rfl (r_assign rfl rfl rfl (run_nil (at_tn (at_ret (at_tr ?_)))))))))))))))))
    refine at_end3 rfl (res_tmp rfl) (res_tmp rfl) (res_tmp rfl) (fun w hL => ⟨(), ?_, hL.picks [] trivial rfl rfl⟩)
    rw [hE, hLo, hHi]
   ·
    have h19 : d ≠ 0 := ne_of_beq_false hb2
    refine r_move rfl rfl rfl ?_
    refine r_scall [_] [0] rfl rfl rfl (c_law_devices l a b pre N cap hc ha (by omega)) ⟨⟨_, rfl, Blk.le_refl _⟩, trivial⟩ rfl (.inr fun z b hb => by rw [List.mem_singleton.1 hb]) (fun zd => ?_)
    refine r_move rfl rfl rfl ?_
    refine r_scall0 [_, _] [1] rfl rfl rfl (c_law_has (devL l) zd.b zd.n zd.cap zd.h (by have := devL_len l; omega) d) ⟨⟨_, rfl, le_share⟩, trivial⟩ rfl ?_
    refine r_not rfl rfl rfl (r_pickF rfl rfl rfl rfl (run_nil (at_tn ?_)))
    refine at_cond rfl (fun hb3 => ?_) (fun hb3 => ?_)
    ·
     have h25 : (devL l).contains d = false := by simpa using hb3
     obtain ⟨hE, hLo, hHi⟩ := mE_2 (l := l) hr (.inr h25)
     refine at_seq (at_region (r_assign rfl rfl rfl (r_assign rfl rfl rfl (r_assign rfl rfl rfl (run_nil (at_tn (at_ret (at_tr ?_))))))))
     refine at_end3 rfl (res_tmp rfl) (res_tmp rfl) (res_tmp rfl) (fun w hL => ⟨(), ?_, hL.picks [] trivial rfl rfl⟩)
     rw [hE, hLo, hHi]
    ·
     have h25 : (devL l).contains d = true := by simpa using hb3
     have hz : ¬ (d = 0 ∨ (devL l).contains d = false) := fun h => by rcases h with h | h; exact h19 h; rw [h25] at h; cases h
     refine at_skip (at_tn (at_seq (at_region (r_move rfl rfl rfl (r_move rfl rfl rfl ?_)))))
     refine r_scall [_, _] [0] rfl rfl rfl (c_law_component l a b pre N cap hc ha (by omega) d) ⟨⟨_, rfl, Blk.le_refl _⟩, trivial⟩ rfl (.inr fun z b hb => by rw [List.mem_singleton.1 hb]) (fun zc => ?_)
     obtain ⟨cb, cN, cc, hcc⟩ := zc
     have hcl := compL_len l d
     refine r_assign rfl rfl rfl (run_nil (at_tn (at_seq (at_seq (at_region (r_move rfl rfl rfl (r_move rfl rfl rfl ?_)))))))
     refine r_scall0 [_, _] [0, 2] rfl rfl rfl (c_law_contradicted l a b pre N cap hc ha hok hn (compL l d) cb cN cc hcc (by omega)) ⟨⟨_, rfl, Blk.le_refl _⟩, ⟨_, rfl, le_share⟩, trivial⟩ rfl ?_
     refine run_nil (at_tn ?_)
     refine at_cond rfl (fun hb4 => ?_) (fun hb4 => ?_)
     ·
      have h31 : conB l (compL l d) = true := hb4
      obtain ⟨hE, hLo, hHi⟩ := mE_3 hr hz h31
      refine at_seq (at_region (r_assign rfl rfl rfl (r_assign rfl rfl rfl (r_assign rfl rfl rfl (run_nil (at_tn (at_ret (at_tr ?_))))))))
      refine at_end3 rfl (res_tmp rfl) (res_tmp rfl) (res_tmp rfl) (fun w hL => ⟨(), ?_, hL.picks [] trivial rfl rfl⟩)
      rw [hE, hLo, hHi]
     ·
      have h31 : conB l (compL l d) = false := hb4
      refine at_skip (at_tn (at_seq (at_region (r_move rfl rfl rfl (r_move rfl rfl rfl (r_move rfl rfl rfl (r_lenV u33 rfl rfl rfl ?_)))))))
      refine r_scall [_, _, _, _] [0, 2] rfl rfl rfl (c_law_least l a b pre N cap hc ha hok hn (compL l d) cb cN cc hcc (by omega) 0 (compL l d).length (by omega)) ⟨⟨_, rfl, Blk.le_refl _⟩, ⟨_, rfl, le_share⟩, trivial⟩ rfl (.inr fun z b hb => by rw [List.mem_singleton.1 hb]) (fun z => ?_)
      obtain ⟨tb, tn, tc, th⟩ := z
      refine r_move rfl rfl rfl (r_move rfl rfl rfl (r_move rfl rfl rfl (r_move rfl rfl rfl (r_lenV u33 rfl rfl rfl ?_))))
      refine r_scall [_, _, _, _] [0, 2] rfl rfl rfl (c_law_least l a b pre N cap hc ha hok hn (compL l d) cb cN cc hcc (by omega) d (compL l d).length (by omega)) ⟨⟨_, rfl, Blk.le_refl _⟩, ⟨_, rfl, le_share⟩, trivial⟩ rfl (.inr fun z b hb => by rw [List.mem_singleton.1 hb]) (fun z => ?_)
      obtain ⟨ub, un, uc, uh⟩ := z
      refine r_assign rfl rfl rfl (r_assign rfl rfl rfl (run_nil (at_tn (at_seq (at_region (r_assign rfl rfl rfl (r_assign rfl rfl rfl (run_nil (at_tn (at_seq (at_seq (at_region (r_assign rfl rfl rfl (run_nil (at_tn (at_block ?_))))))))))))))))
      refine enterL (nt := 77) (ι := {i : Nat // i ≤ (compL l d).length}) (fun ⟨i, hi⟩ => [(1, .int .i64 d), (4, .int .i64 (pickJ (compL l d) (leastJ l (compL l d) d (compL l d).length) 0 i)), (5, .int .i64 (pickJ (compL l d) (leastJ l (compL l d) 0 (compL l d).length) d i)), (7, slv cb 0 (compL l d).length cc), (8, slv tb 0 (leastJ l (compL l d) 0 (compL l d).length).length tc), (9, slv ub 0 (leastJ l (compL l d) d (compL l d).length).length uc), (10, .int .i64 (i : Nat))]) (fun ⟨i, hi⟩ => [⟨b, 49, pre ++ XLc l, N, false⟩, ⟨zd.b, 3, ILc (devL l), zd.n, true⟩, ⟨cb, 3, ILc (compL l d), cN, true⟩, ⟨tb, 3, ILc (leastJ l (compL l d) 0 (compL l d).length), tn, true⟩, ⟨ub, 3, ILc (leastJ l (compL l d) d (compL l d).length), un, true⟩]) (fun ⟨i, hi⟩ => (compL l d).length - i) ⟨0, Nat.zero_le _⟩ ⟨rfl, rfl, rfl, rfl, rfl, rfl, rfl, trivial⟩ (Weak.refl _) ?_
      rintro ⟨i, hi⟩
      show At _ ⟨77, [(1, .int .i64 d), (4, .int .i64 (pickJ (compL l d) (leastJ l (compL l d) d (compL l d).length) 0 i)), (5, .int .i64 (pickJ (compL l d) (leastJ l (compL l d) 0 (compL l d).length) d i)), (7, slv cb 0 (compL l d).length cc), (8, slv tb 0 (leastJ l (compL l d) 0 (compL l d).length).length tc), (9, slv ub 0 (leastJ l (compL l d) d (compL l d).length).length uc), (10, .int .i64 (i : Nat))], [⟨b, 49, pre ++ XLc l, N, false⟩, ⟨zd.b, 3, ILc (devL l), zd.n, true⟩, ⟨cb, 3, ILc (compL l d), cN, true⟩, ⟨tb, 3, ILc (leastJ l (compL l d) 0 (compL l d).length), tn, true⟩, ⟨ub, 3, ILc (leastJ l (compL l d) d (compL l d).length), un, true⟩]⟩ _
      refine at_base 2 rfl (fun hbc => ?_)
      refine at_base 3 rfl (fun hbt => ?_)
      refine at_base 4 rfl (fun hbu => ?_)
      refine at_seq (at_seq (at_region (r_move rfl rfl rfl (r_move rfl rfl rfl (r_lenV u33 rfl rfl rfl (r_cmpInt rfl rfl rfl rfl rfl (run_nil (at_tn ?_))))))))
      refine at_cond rfl (fun hb6 => ?_) (fun hb6 => ?_)
      ·
       have hlt : i < (compL l d).length := (by have := of_decide_eq_true hb6; omega)
       have hl1 : (leastJ l (compL l d) 0 (compL l d).length).length = (compL l d).length := leastJ_len ..
       have hl2 : (leastJ l (compL l d) d (compL l d).length).length = (compL l d).length := leastJ_len ..
       obtain ⟨gc, hgc⟩ := il_base (pre := []) hbc (by omega)
       replace hgc : cb = some gc := hgc
       subst hgc
       obtain ⟨gt, hgt⟩ := il_base (pre := []) hbt (by omega)
       replace hgt : tb = some gt := hgt
       subst hgt
       obtain ⟨gu, hgu⟩ := il_base (pre := []) hbu (by omega)
       replace hgu : ub = some gu := hgu
       subst hgu
       obtain ⟨cz, hcz⟩ : ∃ z, ((compL l d))[i]? = some z := ⟨_, List.getElem?_eq_getElem (hlt)⟩
       obtain ⟨tz, htz⟩ : ∃ z, ((leastJ l (compL l d) 0 (compL l d).length))[i]? = some z := ⟨_, List.getElem?_eq_getElem (by omega)⟩
       obtain ⟨uz, huz⟩ : ∃ z, ((leastJ l (compL l d) d (compL l d).length))[i]? = some z := ⟨_, List.getElem?_eq_getElem (by omega)⟩
       refine at_skip (at_tn (at_seq (at_block (at_seq (at_seq (at_region (r_move rfl rfl rfl (r_move rfl rfl rfl ?_))))))))
       refine r_indexAddr 2 (i * 1) u33 ti3 rfl rfl rfl rfl rfl (by omega) (by omega) (ILc_ne (by omega)) (by show 0 + Int.toNat _ * 1 = _; omega) ?_
       refine r_load (v := .int .i64 cz) 2 (i * 1) _ rfl rfl rfl rfl ti3 (ILc_get hcz) rfl (by decide) rfl ?_
       refine r_move rfl rfl rfl (r_cmpInt rfl rfl rfl rfl rfl (run_nil (at_tn ?_)))
       refine at_cond rfl (fun hb7 => ?_) (fun hb7 => ?_)
       ·
        have h54 : cz = d := eq_of_beq hb7
        have hp1 := pickJ_yes (vals := (leastJ l (compL l d) 0 (compL l d).length)) (by rw [hcz, h54]) htz (z := d)
        refine at_region (r_move rfl rfl rfl (r_move rfl rfl rfl ?_))
        refine r_indexAddr 3 (i * 1) u33 ti3 rfl rfl rfl rfl rfl (by omega) (by omega) (ILc_ne (by omega)) (by show 0 + Int.toNat _ * 1 = _; omega) ?_
        refine r_load (v := .int .i64 tz) 3 (i * 1) _ rfl rfl rfl rfl ti3 (ILc_get htz) rfl (by decide) rfl ?_
        refine r_assign rfl rfl rfl (run_nil (at_tn (at_seq (at_region (r_move rfl rfl rfl (r_move rfl rfl rfl ?_))))))
        refine r_indexAddr 2 (i * 1) u33 ti3 rfl rfl rfl rfl rfl (by omega) (by omega) (ILc_ne (by omega)) (by show 0 + Int.toNat _ * 1 = _; omega) ?_
        refine r_load (v := .int .i64 cz) 2 (i * 1) _ rfl rfl rfl rfl ti3 (ILc_get hcz) rfl (by decide) rfl ?_
        refine r_cmpInt rfl rfl rfl rfl rfl (run_nil (at_tn ?_))
        refine at_cond rfl (fun hb8 => ?_) (fun hb8 => ?_)
        ·
         have h63 : cz = 0 := eq_of_beq hb8
         have hp2 := pickJ_yes (vals := (leastJ l (compL l d) d (compL l d).length)) (by rw [hcz, h63]) huz (z := 0)
         refine at_region (r_move rfl rfl rfl (r_move rfl rfl rfl ?_))
         refine r_indexAddr 4 (i * 1) u33 ti3 rfl rfl rfl rfl rfl (by omega) (by omega) (ILc_ne (by omega)) (by show 0 + Int.toNat _ * 1 = _; omega) ?_
         refine r_load (v := .int .i64 uz) 4 (i * 1) _ rfl rfl rfl rfl ti3 (ILc_get huz) rfl (by decide) rfl ?_
         refine r_assign rfl rfl rfl (run_nil (at_bn (at_tn (at_region (r_move rfl rfl rfl ?_)))))
         refine r_arith (r := ((i + 1 : Nat) : Int)) rfl rfl rfl rfl (congrArg some (wi (by omega) (by omega) (by omega))) ?_
         refine r_assign rfl rfl rfl (run_nil (at_tn ?_))
         exact nextL ⟨i + 1, hlt⟩ (by simp only []; omega) ⟨rfl, (look_val rfl (congrArg (Value.int .i64) hp2.symm)), (look_val rfl (congrArg (Value.int .i64) hp1.symm)), rfl, rfl, rfl, rfl, trivial⟩ (Weak.refl _)
        ·
         have h63 : cz ≠ 0 := ne_of_beq_false hb8
         have hp2 := pickJ_no (vals := (leastJ l (compL l d) d (compL l d).length)) hcz h63
         refine at_skip (at_bn (at_tn (at_region (r_move rfl rfl rfl ?_))))
         refine r_arith (r := ((i + 1 : Nat) : Int)) rfl rfl rfl rfl (congrArg some (wi (by omega) (by omega) (by omega))) ?_
         refine r_assign rfl rfl rfl (run_nil (at_tn ?_))
         exact nextL ⟨i + 1, hlt⟩ (by simp only []; omega) ⟨rfl, (look_val rfl (congrArg (Value.int .i64) hp2.symm)), (look_val rfl (congrArg (Value.int .i64) hp1.symm)), rfl, rfl, rfl, rfl, trivial⟩ (Weak.refl _)
       ·
        have h54 : cz ≠ d := ne_of_beq_false hb7
        have hp1 := pickJ_no (vals := (leastJ l (compL l d) 0 (compL l d).length)) hcz h54
        refine at_skip (at_tn (at_seq (at_region (r_move rfl rfl rfl (r_move rfl rfl rfl ?_)))))
        refine r_indexAddr 2 (i * 1) u33 ti3 rfl rfl rfl rfl rfl (by omega) (by omega) (ILc_ne (by omega)) (by show 0 + Int.toNat _ * 1 = _; omega) ?_
        refine r_load (v := .int .i64 cz) 2 (i * 1) _ rfl rfl rfl rfl ti3 (ILc_get hcz) rfl (by decide) rfl ?_
        refine r_cmpInt rfl rfl rfl rfl rfl (run_nil (at_tn ?_))
        refine at_cond rfl (fun hb8 => ?_) (fun hb8 => ?_)
        ·
         have h63 : cz = 0 := eq_of_beq hb8
         have hp2 := pickJ_yes (vals := (leastJ l (compL l d) d (compL l d).length)) (by rw [hcz, h63]) huz (z := 0)
         refine at_region (r_move rfl rfl rfl (r_move rfl rfl rfl ?_))
         refine r_indexAddr 4 (i * 1) u33 ti3 rfl rfl rfl rfl rfl (by omega) (by omega) (ILc_ne (by omega)) (by show 0 + Int.toNat _ * 1 = _; omega) ?_
         refine r_load (v := .int .i64 uz) 4 (i * 1) _ rfl rfl rfl rfl ti3 (ILc_get huz) rfl (by decide) rfl ?_
         refine r_assign rfl rfl rfl (run_nil (at_bn (at_tn (at_region (r_move rfl rfl rfl ?_)))))
         refine r_arith (r := ((i + 1 : Nat) : Int)) rfl rfl rfl rfl (congrArg some (wi (by omega) (by omega) (by omega))) ?_
         refine r_assign rfl rfl rfl (run_nil (at_tn ?_))
         exact nextL ⟨i + 1, hlt⟩ (by simp only []; omega) ⟨rfl, (look_val rfl (congrArg (Value.int .i64) hp2.symm)), (look_val rfl (congrArg (Value.int .i64) hp1.symm)), rfl, rfl, rfl, rfl, trivial⟩ (Weak.refl _)
        ·
         have h63 : cz ≠ 0 := ne_of_beq_false hb8
         have hp2 := pickJ_no (vals := (leastJ l (compL l d) d (compL l d).length)) hcz h63
         refine at_skip (at_bn (at_tn (at_region (r_move rfl rfl rfl ?_))))
         refine r_arith (r := ((i + 1 : Nat) : Int)) rfl rfl rfl rfl (congrArg some (wi (by omega) (by omega) (by omega))) ?_
         refine r_assign rfl rfl rfl (run_nil (at_tn ?_))
         exact nextL ⟨i + 1, hlt⟩ (by simp only []; omega) ⟨rfl, (look_val rfl (congrArg (Value.int .i64) hp2.symm)), (look_val rfl (congrArg (Value.int .i64) hp1.symm)), rfl, rfl, rfl, rfl, trivial⟩ (Weak.refl _)
      ·
       have hge : i = (compL l d).length := (by have := of_decide_eq_false hb6; omega)
       subst hge
       have hlb := pickJ_bnd hok (compL l d) d 0 (k := (compL l d).length) (by omega) (compL l d).length
       unfold farJ at hlb
       refine at_exit (at_te (at_te (at_be (at_tn (at_seq (at_seq (at_region (r_move rfl rfl rfl (r_cmpInt rfl rfl rfl rfl rfl (r_move rfl rfl rfl ?_))))))))))
       refine r_split 70 rfl (fun hb7 => ?_) (fun hb7 => ?_)
       ·
        have h70 : farJ ≤ highJ l d := of_decide_eq_true hb7
        obtain ⟨hE, hLo, hHi⟩ := mE_4 hr hz h31 (.inl h70)
        refine r_no rfl rfl rfl (r_no rfl rfl rfl (r_pickT rfl rfl rfl rfl (run_nil (at_tn (at_condT rfl (at_seq (at_region (r_assign rfl rfl rfl (r_assign rfl rfl rfl (r_assign rfl rfl rfl (run_nil (at_tn (at_ret (at_tr ?_))))))))))))))
        refine at_end3 rfl (res_tmp rfl) (res_tmp rfl) (res_tmp rfl) (fun w hL => ⟨(), ?_, hL.picks [] trivial rfl rfl⟩)
        rw [hE, hLo, hHi]
       ·
        have h70 : ¬ farJ ≤ highJ l d := of_decide_eq_false hb7
        refine r_move rfl rfl rfl (r_cmpInt rfl rfl rfl rfl rfl (r_pickF rfl rfl rfl rfl (run_nil (at_tn ?_))))
        refine at_cond rfl (fun hb8 => ?_) (fun hb8 => ?_)
        ·
         have h73 : farJ ≤ lowJ l d := of_decide_eq_true hb8
         obtain ⟨hE, hLo, hHi⟩ := mE_4 hr hz h31 (.inr h73)
         refine at_seq (at_region (r_assign rfl rfl rfl (r_assign rfl rfl rfl (r_assign rfl rfl rfl (run_nil (at_tn (at_ret (at_tr ?_))))))))
         refine at_end3 rfl (res_tmp rfl) (res_tmp rfl) (res_tmp rfl) (fun w hL => ⟨(), ?_, hL.picks [] trivial rfl rfl⟩)
         rw [hE, hLo, hHi]
        ·
         have h73 : ¬ farJ ≤ lowJ l d := of_decide_eq_false hb8
         obtain ⟨hE, hLo, hHi⟩ := mE_5 hr hz h31 (fun h => h.elim h70 h73)
         refine at_skip (at_tn (at_seq (at_region (r_move rfl rfl rfl ?_))))
         refine r_arith (r := 0 - (pickJ (compL l d) (leastJ l (compL l d) d (compL l d).length) 0 (compL l d).length)) rfl rfl rfl rfl (congrArg some (wi (by omega) (by omega) rfl)) ?_
         refine r_move rfl rfl rfl (r_assign rfl rfl rfl (r_assign rfl rfl rfl (r_assign rfl rfl rfl (run_nil (at_tn (at_ret ?_))))))
         refine at_end3 rfl (res_tmp rfl) (res_tmp rfl) (res_tmp rfl) (fun w hL => ⟨(), ?_, hL.picks [] trivial rfl rfl⟩)
         rw [hE, hLo, hHi]; rfl
end Go.Proofs.YtncogghlhlnmaaaGreatDoor
set_option linter.unusedVariables false
namespace Go.Via
open Go Go.RowKit
/-! ### for ClockOrders -/
end Go.Via
set_option linter.unusedVariables false
namespace Go.Via
open Go Go.RowKit
/-- a sequence with what is known between its parts -/
theorem at_seqM {P : Program} {B : World} {s : St} {Q : Exit → Act → World → Prop} {x y : Code} {nt : Nat} (T : List (Nat × Value)) (LL : List Blk)
    (h1 : At B s (x.wp P (Exit.then (fun a w => Rel B ⟨nt, T, LL⟩ a w) Q))) (h2 : At B ⟨nt, T, LL⟩ (y.wp P Q)) : At B s ((Code.seq x y).wp P Q) :=
  at_seq fun a w hr => Code.wp_mono (fun e a w h => by
    cases e with
    | normal => exact h2 a w h
    | _ => exact h) (h1 a w hr)
theorem at_into {B : World} {nt : Nat} {t T : List (Nat × Value)} {L LL : List Blk} (lk : LookAll t T) (hw : Weak L LL) : At B ⟨nt, t, L⟩ (fun a w => Rel B ⟨nt, T, LL⟩ a w) := fun a w hr =>
  ⟨hr.df, hr.size, fun d v hd => hr.tmp d v (lk.mem (d, v) (look_mem hd)), hw _ _ hr.mem⟩
end Go.Via
set_option linter.unusedVariables false
namespace Go.Proofs.YtncogghlhlnmaaaGreatDoor
open Go Go.RowKit Go.Via
set_option maxRecDepth 20000 in
set_option maxHeartbeats 4000000 in
theorem c_ClockCorrects (l : List Ex) (a : Option Addr) (b : Option Nat) (pre : List Value) (N cap : Nat) (hc : l.length ≤ cap) (ha : l ≠ [] → a = b.map fun g => ⟨g, pre.length, none⟩) (ro rs rv d rt rx ry : Int) (rc : Bool) (hd : inI64 d) (e0 e1 : Int) : SCall Tryz.prog 9 [⟨b, 49, pre ++ XLc l, N, false⟩] [.slice a l.length cap, .agg #[.int .i64 ro, .int .i64 rs, .int .i64 rv, .int .i64 d, .int .i64 rt, .int .i64 rx, .int .i64 ry, .bool rc], .agg #[.int .i64 e0, .int .i64 e1]] Unit (fun _ => .bool true) (fun _ => []) := by
 refine ⟨by kernel_rfl, fun w hL0 => ?_⟩
 refine calls_at (args := [.slice a l.length cap, .agg #[.int .i64 ro, .int .i64 rs, .int .i64 rv, .int .i64 d, .int .i64 rt, .int .i64 rx, .int .i64 ry, .bool rc], .agg #[.int .i64 e0, .int .i64 e1]]) Tryz.func9 rfl (Nat.le_of_ble_eq_true rfl) hL0 ?_
 show At w ⟨103, [(0, .slice a l.length cap), (1, .agg #[.int .i64 ro, .int .i64 rs, .int .i64 rv, .int .i64 d, .int .i64 rt, .int .i64 rx, .int .i64 ry, .bool rc]), (2, .agg #[.int .i64 e0, .int .i64 e1])], [⟨b, 49, pre ++ XLc l, N, false⟩]⟩ _
 refine at_seq (at_region ?_)
 refine r_box [_, _, _, _, _, _, _, _] 8 (fun g => [_, ⟨some g, 59, _, 8, true⟩]) rfl rfl rfl rfl rfl (fun _ => rfl) (fun g0 => ?_)
 refine r_box [_, _] 2 (fun g => [_, _, ⟨some g, 40, _, 2, true⟩]) rfl rfl rfl rfl rfl (fun _ => rfl) (fun g1 => ?_)
 refine r_assign rfl rfl rfl (run_nil (at_tn (at_seq (at_region ?_))))
 refine r_indexAddrA (0 * 1) u40 ti3 rfl rfl rfl rfl (by omega) (by omega) (by show 0 + Int.toNat _ * 1 = _; omega) ?_
 refine r_load (v := .int .i64 e0) 2 (0 * 1) _ rfl rfl rfl rfl ti3 rfl rfl (by decide) rfl ?_
 refine r_indexAddrA (1 * 1) u40 ti3 rfl rfl rfl rfl (by omega) (by omega) (by show 0 + Int.toNat _ * 1 = _; omega) ?_
 refine r_load (v := .int .i64 e1) 2 (1 * 1) _ rfl rfl rfl rfl ti3 rfl rfl (by decide) rfl ?_
 refine r_build [(0, _), (1, _)] rfl rfl rfl (bd26_2) ?_
 refine r_alloc [_, _] 2 (fun g => [_, _, _, ⟨some g, 26, _, 2, true⟩]) rfl rfl z26 rfl rfl (fun _ => rfl) (fun g2 => ?_)
 refine r_store rfl 3 0 [_, _, _, ⟨some g2, 26, _, 2, true⟩] [_, _] rfl rfl rfl rfl ti26 rfl rfl rfl rfl rfl ?_
 refine run_nil (at_tn (at_seq (at_seq (at_region ?_))))
 refine r_pcall [] rfl rfl rfl (c_law_known) ?_
 refine r_know 18 (.bool true) rfl rfl ?_
 refine r_not rfl rfl rfl (r_move rfl rfl rfl (r_move rfl rfl rfl ?_))
 refine r_scall0 [_] [0] rfl rfl rfl (c_law_few l a b pre N cap hc ha) ⟨⟨_, rfl, Blk.le_refl _⟩, trivial⟩ rfl ?_
 refine r_not rfl rfl rfl (r_pickF rfl rfl rfl rfl (r_move rfl rfl rfl ?_))
 refine r_split 25 rfl (fun hb0 => ?_) (fun hb0 => ?_)
 ·
  have hf : fewB l = false := by simpa using hb0
  refine r_no rfl rfl rfl (r_no rfl rfl rfl (r_no rfl rfl rfl (r_pickT rfl rfl rfl rfl (r_move rfl rfl rfl (r_no rfl rfl rfl (r_no rfl rfl rfl (r_no rfl rfl rfl (r_pickT rfl rfl rfl rfl (run_nil (at_tn (at_condT rfl (at_seq (at_region ?_)))))))))))))
  refine r_pcall [] rfl rfl rfl (c_law_known) ?_
  refine r_assign rfl rfl rfl (run_nil (at_tn (at_ret (at_tr ?_))))
  refine at_end1 rfl (res_tmp rfl) (fun w hL => ⟨(), ?_, hL.picks [] trivial rfl rfl⟩)
  exact rfl
 ·
  have hf : fewB l = true := by simpa using hb0
  obtain ⟨h12, hok⟩ := fewB_ok hf
  refine r_fieldAddr 1 0 4 rfl rfl rfl rfl rfl ti59 rfl rfl (r_load 1 4 [_] rfl rfl rfl rfl ti3 rfl rfl rfl rfl (r_cmpInt rfl rfl rfl rfl rfl (r_pickF rfl rfl rfl rfl (r_move rfl rfl rfl ?_))))
  refine r_split 30 rfl (fun hb1 => ?_) (fun hb1 => ?_)
  ·
   refine r_no rfl rfl rfl (r_no rfl rfl rfl (r_no rfl rfl rfl (r_pickT rfl rfl rfl rfl (run_nil (at_tn (at_condT rfl (at_seq (at_region ?_))))))))
   refine r_pcall [] rfl rfl rfl (c_law_known) ?_
   refine r_assign rfl rfl rfl (run_nil (at_tn (at_ret (at_tr ?_))))
   refine at_end1 rfl (res_tmp rfl) (fun w hL => ⟨(), ?_, hL.picks [] trivial rfl rfl⟩)
   exact rfl
  ·
   have ht1 : ¬ rt < -1099511627776 := of_decide_eq_false hb1
   refine r_fieldAddr 1 0 4 rfl rfl rfl rfl rfl ti59 rfl rfl (r_load 1 4 [_] rfl rfl rfl rfl ti3 rfl rfl rfl rfl (r_cmpInt rfl rfl rfl rfl rfl (r_pickF rfl rfl rfl rfl (run_nil (at_tn ?_)))))
   refine at_cond rfl (fun hb2 => ?_) (fun hb2 => ?_)
   ·
    refine at_seq (at_region ?_)
    refine r_pcall [] rfl rfl rfl (c_law_known) ?_
    refine r_assign rfl rfl rfl (run_nil (at_tn (at_ret (at_tr ?_))))
    refine at_end1 rfl (res_tmp rfl) (fun w hL => ⟨(), ?_, hL.picks [] trivial rfl rfl⟩)
    exact rfl
   ·
    have ht2 : ¬ 1099511627776 < rt := of_decide_eq_false hb2
    refine at_skip (at_tn ?_)
    refine at_seqM (nt := 103) [(0, .slice a l.length cap), (4, .pointer (some ⟨g0, 0, none⟩))] [⟨b, 49, pre ++ XLc l, N, false⟩, ⟨some g0, 59, [.int .i64 ro, .int .i64 rs, .int .i64 rv, .int .i64 d, .int .i64 rt, .int .i64 rx, .int .i64 ry, .bool rc], 8, true⟩] ?_ ?_
    ·
     refine at_seq ?_
     refine at_drawn (l' := [⟨_,_,_,_,_,_⟩, ⟨_,_,_,_,_,_⟩, ⟨_,_,_,_,_,_⟩, ⟨_,_,_,_,_,_⟩, ⟨_,_,_,_,_,_⟩, ⟨_,_,_,_,_,_⟩, ⟨_,_,_,_,_,_⟩, ⟨_,_,_,_,_,_⟩, ⟨_,_,_,_,_,_⟩, ⟨_,_,_,_,_,_⟩, ⟨_,_,_,_,_,_⟩, ⟨_,_,_,_,_,_⟩, ⟨_,_,_,_,_,_⟩, ⟨_,_,_,_,_,_⟩, ⟨_,_,_,_,_,_⟩, ⟨_,_,_,_,_,_⟩, ⟨_,_,_,_,_,_⟩, ⟨_,_,_,_,_,_⟩, ⟨_,_,_,_,_,_⟩, ⟨_,_,_,_,_,_⟩, ⟨_,_,_,_,_,_⟩, ⟨_,_,_,_,_,_⟩, ⟨_,_,_,_,_,_⟩, ⟨_,_,_,_,_,_⟩, ⟨_,_,_,_,_,_⟩, ⟨_,_,_,_,_,_⟩, ⟨_,_,_,_,_,_⟩, ⟨_,_,_,_,_,_⟩, ⟨_,_,_,_,_,_⟩]) [] [0, 1, 2, 3, 4, 5, 6, 7, 8, 9, 10, 11, 12, 13, 14, 15, 16, 17, 18, 19, 21, 22, 23, 24, 25, 20, 26, 27, 28] mixed (drawnM [0, 1, 3, 7, 15, 31, 63, 127, 255, 511, 1023, 2047, 4095, 8191, 16383, 32767, 65535, 131071, 262143, 524287, 1048575, 524287, 2621439, 524287, 8912895, 31981567, 67108863, 134217727, 268435455] (by kernel_rfl)) rfl (by kernel_rfl) ?_
     refine r_fieldAddr 3 0 0 rfl rfl rfl rfl rfl ti26 rfl rfl (r_load 3 0 [_] rfl rfl rfl rfl ti3 rfl rfl rfl rfl (r_cmpInt rfl rfl rfl rfl rfl (r_move rfl rfl rfl ?_)))
     refine r_split 39 rfl (fun hb3 => ?_) (fun hb3 => ?_)
     ·
      have h39 := of_decide_eq_true hb3
      refine r_fieldAddr 3 0 0 rfl rfl rfl rfl rfl ti26 rfl rfl (r_load 3 0 [_] rfl rfl rfl rfl ti3 rfl rfl rfl rfl (r_cmpInt rfl rfl rfl rfl rfl (r_pickT rfl rfl rfl rfl (r_move rfl rfl rfl ?_))))
      refine r_split 44 rfl (fun hb4 => ?_) (fun hb4 => ?_)
      ·
       have h44 := of_decide_eq_true hb4
       refine r_fieldAddr 3 0 1 rfl rfl rfl rfl rfl ti26 rfl rfl (r_load 3 1 [_] rfl rfl rfl rfl ti3 rfl rfl rfl rfl (r_cmpInt rfl rfl rfl rfl rfl (r_pickT rfl rfl rfl rfl (r_move rfl rfl rfl ?_))))
       refine r_split 49 rfl (fun hb5 => ?_) (fun hb5 => ?_)
       ·
        have h49 := of_decide_eq_true hb5
        refine r_fieldAddr 3 0 1 rfl rfl rfl rfl rfl ti26 rfl rfl (r_load 3 1 [_] rfl rfl rfl rfl ti3 rfl rfl rfl rfl (r_cmpInt rfl rfl rfl rfl rfl (r_pickT rfl rfl rfl rfl (r_move rfl rfl rfl ?_))))
        refine r_split 54 rfl (fun hb6 => ?_) (fun hb6 => ?_)
        ·
         have h54 := of_decide_eq_true hb6
         refine r_load 3 0 [_, _] rfl rfl rfl rfl ti26 rfl rfl rfl rfl (r_fieldAddr 3 0 0 rfl rfl rfl rfl rfl ti26 rfl rfl (r_load 3 0 [_] rfl rfl rfl rfl ti3 rfl rfl rfl rfl (r_fieldAddr 3 0 1 rfl rfl rfl rfl rfl ti26 rfl rfl (r_load 3 1 [_] rfl rfl rfl rfl ti3 rfl rfl rfl rfl ?_))))
         refine r_arith (r := e0 + e1) rfl rfl rfl rfl (congrArg some (wi (by omega) (by omega) rfl)) ?_
         refine r_pcall [_] rfl rfl rfl (c_clock_Middle e0 e1 (by omega)) ?_
         refine r_pcall [_, _] rfl rfl rfl (c_ref02_Of (e0 + e1) 2 (by omega) (by omega) (by omega) (by omega) (by omega)) ?_
         refine r_neqAgg rfl rfl rfl rfl gd63 (eq63 (Rat.divInt (e0 + e1) 2) (Rat.divInt (e0 + e1) 2)) ?_
         refine r_know 63 (.bool false) rfl (congrArg (fun b => Value.bool (!b)) (decide_eq_true rfl)) ?_
         refine r_pickT rfl rfl rfl rfl (run_nil (at_tn (at_condF rfl (at_skip (at_tn ?_)))))
         exact at_into ⟨rfl, rfl, trivial⟩ (weak_picks [some 0, some 1] ⟨⟨_, rfl, Blk.le_refl _⟩, ⟨_, rfl, Blk.le_refl _⟩, trivial⟩ rfl rfl)
        ·
         refine r_no rfl rfl rfl (r_no rfl rfl rfl (r_no rfl rfl rfl (r_no rfl rfl rfl (r_no rfl rfl rfl (r_no rfl rfl rfl (r_no rfl rfl rfl (r_no rfl rfl rfl (r_no rfl rfl rfl (r_pickF rfl rfl rfl rfl (run_nil (at_tn (at_condF rfl (at_skip (at_tn ?_))))))))))))))
         exact at_into ⟨rfl, rfl, trivial⟩ (weak_picks [some 0, some 1] ⟨⟨_, rfl, Blk.le_refl _⟩, ⟨_, rfl, Blk.le_refl _⟩, trivial⟩ rfl rfl)
       ·
        refine r_no rfl rfl rfl (r_no rfl rfl rfl (r_no rfl rfl rfl (r_pickF rfl rfl rfl rfl (r_move rfl rfl rfl (r_no rfl rfl rfl (r_no rfl rfl rfl (r_no rfl rfl rfl (r_no rfl rfl rfl (r_no rfl rfl rfl (r_no rfl rfl rfl (r_no rfl rfl rfl (r_no rfl rfl rfl (r_no rfl rfl rfl (r_pickF rfl rfl rfl rfl (run_nil (at_tn (at_condF rfl (at_skip (at_tn ?_)))))))))))))))))))
        exact at_into ⟨rfl, rfl, trivial⟩ (weak_picks [some 0, some 1] ⟨⟨_, rfl, Blk.le_refl _⟩, ⟨_, rfl, Blk.le_refl _⟩, trivial⟩ rfl rfl)
      ·
       refine r_no rfl rfl rfl (r_no rfl rfl rfl (r_no rfl rfl rfl (r_pickF rfl rfl rfl rfl (r_move rfl rfl rfl (r_no rfl rfl rfl (r_no rfl rfl rfl (r_no rfl rfl rfl (r_pickF rfl rfl rfl rfl (r_move rfl rfl rfl (r_no rfl rfl rfl (r_no rfl rfl rfl (r_no rfl rfl rfl (r_no rfl rfl rfl (r_no rfl rfl rfl (r_no rfl rfl rfl (r_no rfl rfl rfl (r_no rfl rfl rfl (r_no rfl rfl rfl (r_pickF rfl rfl rfl rfl (run_nil (at_tn (at_condF rfl (at_skip (at_tn ?_))))))))))))))))))))))))
       exact at_into ⟨rfl, rfl, trivial⟩ (weak_picks [some 0, some 1] ⟨⟨_, rfl, Blk.le_refl _⟩, ⟨_, rfl, Blk.le_refl _⟩, trivial⟩ rfl rfl)
     ·
      refine r_no rfl rfl rfl (r_no rfl rfl rfl (r_no rfl rfl rfl (r_pickF rfl rfl rfl rfl (r_move rfl rfl rfl (r_no rfl rfl rfl (r_no rfl rfl rfl (r_no rfl rfl rfl (r_pickF rfl rfl rfl rfl (r_move rfl rfl rfl (r_no rfl rfl rfl (r_no rfl rfl rfl (r_no rfl rfl rfl (r_pickF rfl rfl rfl rfl (r_move rfl rfl rfl (r_no rfl rfl rfl (r_no rfl rfl rfl (r_no rfl rfl rfl (r_no rfl rfl rfl (r_no rfl rfl rfl (r_no rfl rfl rfl (r_no rfl rfl rfl (r_no rfl rfl rfl (r_no rfl rfl rfl (r_pickF rfl rfl rfl rfl (run_nil (at_tn (at_condF rfl (at_skip (at_tn ?_)))))))))))))))))))))))))))))
      exact at_into ⟨rfl, rfl, trivial⟩ (weak_picks [some 0, some 1] ⟨⟨_, rfl, Blk.le_refl _⟩, ⟨_, rfl, Blk.le_refl _⟩, trivial⟩ rfl rfl)
    refine at_seq (at_region (r_move rfl rfl rfl (r_load 1 0 [_, _, _, _, _, _, _, _] rfl rfl rfl rfl ti59 rfl rfl rfl rfl ?_)))
    refine r_scall0 [_, _] [0] rfl rfl rfl (c_clock_Correct l a b pre N cap hc ha hok (by omega) d hd (cycT hok (by omega)) (chOK hok d (by omega)) ro rs rv rt rx ry rc (by omega)) ⟨⟨_, rfl, Blk.le_refl _⟩, trivial⟩ rfl ?_
    have hm := model_eq hok (by omega) d
    have hob := of_bnd hok (by omega) d
    by_cases hE : chE l d = 0
    ·
     refine r_know 68 (.tuple #[Q ((rt : Rat) - midA l d), .int .i64 0]) rfl (by unfold corA; rw [if_pos hE, hE]) ?_
     refine r_move rfl rfl rfl ?_
     refine r_extract (vs := [_, _]) rfl rfl rfl rfl ?_
     refine r_extract (vs := [_, _]) rfl rfl rfl rfl ?_
     refine r_alloc [_, _, _, _] 4 (fun g => [_, _, ⟨some g, 63, _, 4, true⟩]) rfl rfl z63 rfl rfl (fun _ => rfl) (fun g3 => ?_)
     refine r_store rfl 2 0 [_, _, ⟨some g3, 63, _, 4, true⟩] [_, _, _, _] rfl rfl rfl rfl ti63 rfl rfl rfl rfl rfl ?_
     refine r_assign rfl rfl rfl (run_nil (at_tn (at_seq (at_region (r_move rfl rfl rfl (r_fieldAddr 1 0 3 rfl rfl rfl rfl rfl ti59 rfl rfl (r_load 1 3 [_] rfl rfl rfl rfl ti3 rfl rfl rfl rfl ?_)))))))
     refine r_scall0 [_, _] [0] rfl rfl rfl (c_law_offset l a b pre N cap hc ha hok (by omega) d) ⟨⟨_, rfl, Blk.le_refl _⟩, trivial⟩ rfl ?_
     refine r_know 75 (.tuple #[.int .i64 (ofLo l d), .int .i64 (ofHi l d), .int .i64 0]) rfl (by rw [hm.1, hm.2.1, hm.2.2, hE]) ?_
     refine r_move rfl rfl rfl ?_
     refine r_extract (vs := [_, _, _]) rfl rfl rfl rfl ?_
     refine r_extract (vs := [_, _, _]) rfl rfl rfl rfl ?_
     refine r_extract (vs := [_, _, _]) rfl rfl rfl rfl ?_
     refine r_assign rfl rfl rfl (r_assign rfl rfl rfl (r_assign rfl rfl rfl (run_nil (at_tn (at_seq (at_seq (at_region (r_move rfl rfl rfl (r_cmpInt rfl rfl rfl rfl rfl ?_)))))))))
     refine r_know 80 (.bool false) rfl rfl ?_
     refine run_nil (at_tn (at_condF rfl (at_skip (at_tn (at_seq ?_)))))
     refine at_drawn (l' := [⟨_,_,_,_,_,_⟩, ⟨_,_,_,_,_,_⟩, ⟨_,_,_,_,_,_⟩, ⟨_,_,_,_,_,_⟩, ⟨_,_,_,_,_,_⟩, ⟨_,_,_,_,_,_⟩, ⟨_,_,_,_,_,_⟩, ⟨_,_,_,_,_,_⟩, ⟨_,_,_,_,_,_⟩, ⟨_,_,_,_,_,_⟩, ⟨_,_,_,_,_,_⟩, ⟨_,_,_,_,_,_⟩, ⟨_,_,_,_,_,_⟩, ⟨_,_,_,_,_,_⟩, ⟨_,_,_,_,_,_⟩]) [] [0, 1, 2, 3, 4, 5, 7, 8, 9, 6, 10, 11, 12, 13, 14] mixed (by kernel_rfl) rfl (by kernel_rfl) ?_
     refine r_move rfl rfl rfl (r_cmpInt rfl rfl rfl rfl rfl ?_)
     refine r_know 90 (.bool true) rfl rfl ?_
     refine r_move rfl rfl rfl (r_load 2 0 [_, _, _, _] rfl rfl rfl rfl ti63 rfl rfl rfl rfl (r_fieldAddr 1 0 4 rfl rfl rfl rfl rfl ti59 rfl rfl (r_load 1 4 [_] rfl rfl rfl rfl ti3 rfl rfl rfl rfl (r_move rfl rfl rfl (r_move rfl rfl rfl ?_)))))
     refine r_arith (r := ofLo l d + ofHi l d) rfl rfl rfl rfl (congrArg some (wi (by omega) (by omega) rfl)) ?_
     refine r_pcall [_, _] rfl rfl rfl (c_ref02_Of rt 1 (by omega) (by omega) (by omega) (by omega) (by omega)) ?_
     refine r_pcall [_, _] rfl rfl rfl (c_ref02_Of (ofLo l d + ofHi l d) 2 (by omega) (by omega) (by omega) (by omega) (by omega)) ?_
     refine r_pcall [_, _] rfl rfl rfl (c_ref02_Sub (Rat.divInt rt 1) (Rat.divInt (ofLo l d + ofHi l d) 2) (Nat.le_trans (szOfC (by omega) (by omega)) (Nat.le_of_ble_eq_true rfl)) (Nat.le_trans (szOfC (by omega) (by omega)) (Nat.le_of_ble_eq_true rfl))) ?_
     refine r_eqlAgg rfl rfl rfl rfl gd63 (eq63 ((rt : Rat) - midA l d) (Rat.divInt rt 1 - Rat.divInt (ofLo l d + ofHi l d) 2)) ?_
     refine r_know 101 (.bool true) rfl (congrArg Value.bool (decide_eq_true (by show (rt : Rat) - midA l d = mkRat rt 1 - midA l d; rw [Rat.mkRat_one]))) ?_
     refine r_pickT rfl rfl rfl rfl (r_assign rfl rfl rfl (run_nil (at_tn (at_ret ?_))))
     refine at_end1 rfl (res_tmp rfl) (fun w hL => ⟨(), ?_, hL.picks [] trivial rfl rfl⟩)
     exact rfl
    ·
     refine r_know 68 (.tuple #[RZ, .int .i64 (chE l d)]) rfl (by unfold corA; rw [if_neg hE]) ?_
     refine r_move rfl rfl rfl ?_
     refine r_extract (vs := [_, _]) rfl rfl rfl rfl ?_
     refine r_extract (vs := [_, _]) rfl rfl rfl rfl ?_
     refine r_alloc [_, _, _, _] 4 (fun g => [_, _, ⟨some g, 63, _, 4, true⟩]) rfl rfl z63 rfl rfl (fun _ => rfl) (fun g3 => ?_)
     refine r_store rfl 2 0 [_, _, ⟨some g3, 63, _, 4, true⟩] [_, _, _, _] rfl rfl rfl rfl ti63 rfl rfl rfl rfl rfl ?_
     refine r_assign rfl rfl rfl (run_nil (at_tn (at_seq (at_region (r_move rfl rfl rfl (r_fieldAddr 1 0 3 rfl rfl rfl rfl rfl ti59 rfl rfl (r_load 1 3 [_] rfl rfl rfl rfl ti3 rfl rfl rfl rfl ?_)))))))
     refine r_scall0 [_, _] [0] rfl rfl rfl (c_law_offset l a b pre N cap hc ha hok (by omega) d) ⟨⟨_, rfl, Blk.le_refl _⟩, trivial⟩ rfl ?_
     refine r_know 75 (.tuple #[.int .i64 (ofLo l d), .int .i64 (ofHi l d), .int .i64 (chE l d)]) rfl (by rw [hm.1, hm.2.1, hm.2.2]) ?_
     refine r_move rfl rfl rfl ?_
     refine r_extract (vs := [_, _, _]) rfl rfl rfl rfl ?_
     refine r_extract (vs := [_, _, _]) rfl rfl rfl rfl ?_
     refine r_extract (vs := [_, _, _]) rfl rfl rfl rfl ?_
     refine r_assign rfl rfl rfl (r_assign rfl rfl rfl (r_assign rfl rfl rfl (run_nil (at_tn (at_seq (at_seq (at_region (r_move rfl rfl rfl (r_cmpInt rfl rfl rfl rfl rfl ?_)))))))))
     refine r_know 80 (.bool true) rfl (congrArg Value.bool (by simpa using hE)) ?_
     refine run_nil (at_tn (at_condT rfl (at_seq (at_region (r_move rfl rfl rfl (r_move rfl rfl rfl (r_cmpInt rfl rfl rfl rfl rfl ?_)))))))
     refine r_know 83 (.bool true) rfl (congrArg Value.bool (beq_self_eq_true _)) ?_
     refine r_move rfl rfl rfl (r_load 2 0 [_, _, _, _] rfl rfl rfl rfl ti63 rfl rfl rfl rfl ?_)
     refine r_build [] rfl rfl rfl (bd63_0) ?_
     refine r_eqlAgg rfl rfl rfl rfl gd63 (eq63r _ _ _ _ _ _ _ _) ?_
     refine r_know 87 (.bool true) rfl rfl ?_
     refine r_pickT rfl rfl rfl rfl (r_assign rfl rfl rfl (run_nil (at_tn (at_ret (at_tr ?_)))))
     refine at_end1 rfl (res_tmp rfl) (fun w hL => ⟨(), ?_, hL.picks [] trivial rfl rfl⟩)
     exact rfl
end Go.Proofs.YtncogghlhlnmaaaGreatDoor
set_option linter.unusedVariables false
namespace Go.Proofs.YtncogghlhlnmaaaGreatDoor.clockCorrects
open Go Go.ChangeShapes Go.WideShapes Go.ChangeAt Go.RowKit Go.Via
theorem laid : laidOutB Tryz.prog = true := by kernel_rfl
set_option maxRecDepth 20000 in
theorem contract (H : Type) (enc : TypeId × Value → H) (W : World) (base : Nat) (args : Array Value) (ds gs : List (DataW H)) (before : List MemPlace)
    (hval : ∀ (j : Nat) t v, Tryz.f9.params[j]? = some t → args[j]? = some v → Value.okWide Tryz.prog W .any base t v)
    (hW : DataW.Whole enc Tryz.prog Tryz.f9.params.toList Rows.clockCorrectsSpec.vars false W args.toList ds gs before)
    (hsz : (DataW.weightsEach Tryz.prog (Tryz.f9.params.toList ++ (OpenSpec.ofChange Rows.clockCorrectsSpec).bare.plain.varTypes Tryz.prog) (ds ++ gs)).all (· ≤ reachBytes) = true) :
    Calls Tryz.prog 9 args W fun e W' => ∃ v, e = .returned v ∧ Rows.clockCorrectsSpec.post enc Tryz.prog Tryz.f9 false true false false W args v W' := by
  have hW' := hW
  obtain ⟨p, q, hA0, hV, rfl, hfz, hnd⟩ := hW
  have hA : DataW.TrodAll enc Tryz.prog W 0 (fun _ => true) true Tryz.f9.params.toList args.toList ds p := hA0
  rw [Tryz.params9] at hA hval
  obtain ⟨v0, vs0, d0, ds0, p0, q0, hargs, rfl, rfl, h0, r0⟩ := trodAll_cons hA
  obtain ⟨v1, vs1, d1, ds1, p1, q1, rfl, rfl, rfl, h1, r1⟩ := trodAll_cons r0
  obtain ⟨v2, vs2, d2, ds2, p2, q2, rfl, rfl, rfl, h2, r2⟩ := trodAll_cons r1
  obtain ⟨rfl, rfl, rfl⟩ := trodAll_nil r2
  obtain rfl : args = #[v0, v1, v2] := by cases args; simp_all
  obtain ⟨rfl, rfl⟩ := trodVars_none hV
  have h0k := h0
  have h1k := h1
  have h2k := h2
  obtain ⟨l0, a0, b0, pre0, N0, cap0, rfl, hc0, ha0, hB0, hn0⟩ := openXs (hval 0 22 v0 rfl rfl) h0
  obtain ⟨ro, rs, rv, rd, rt, rx, ry, rc, rfl, zd, zt⟩ := openR (hval 1 59 v1 rfl rfl) h1
  obtain ⟨e2, f2, rfl, ze2, zf2⟩ := openI2 (hval 2 40 v2 rfl rfl) h2
  clear hA0
  simp only [List.append_nil] at hW'
  have walk := (c_ClockCorrects l0 a0 b0 pre0 N0 cap0 hc0 ha0 ro rs rv rd rt rx ry rc zd e2 f2).2 W (relF_cons rfl hB0 hn0 (relF_nil W) (fun c hc => by cases hc))
  refine walk.mono fun e W' ⟨_, he, hg⟩ => ?_
  subst he
  have hlt : ∀ x ∈ p0 ++ (p1 ++ (p2 ++ [])), x.block < W.heap.size := fun x hx => hW'.lt x (by simpa using hx)
  have k0 : DataW.Trod enc Tryz.prog W' 0 (fun b => decide (b < W.heap.size)) true 22 (.slice a0 l0.length cap0) d0 p0 := Below.trod laid (by kernel_rfl) (of_decide_eq_true (by kernel_rfl)) h0k hg.below (fun x hx => hlt x (by simp [hx]))
  have k1 : DataW.Trod enc Tryz.prog W' 0 (fun b => decide (b < W.heap.size)) true 59 (.agg #[.int .i64 ro, .int .i64 rs, .int .i64 rv, .int .i64 rd, .int .i64 rt, .int .i64 rx, .int .i64 ry, .bool rc]) d1 p1 := Below.trod laid (by kernel_rfl) (of_decide_eq_true (by kernel_rfl)) h1k hg.below (fun x hx => hlt x (by simp [hx]))
  have k2 : DataW.Trod enc Tryz.prog W' 0 (fun b => decide (b < W.heap.size)) true 40 (.agg #[.int .i64 e2, .int .i64 f2]) d2 p2 := Below.trod laid (by kernel_rfl) (of_decide_eq_true (by kernel_rfl)) h2k hg.below (fun x hx => hlt x (by simp [hx]))
  exact ⟨_, rfl, [d0, d1, d2], [], p0 ++ (p1 ++ (p2 ++ [])), [], p0 ++ (p1 ++ (p2 ++ [])), [], by simpa using hW', trodAll_cons_mk (shut_bool Tryz.underlying4 _) trodAll_mk0, trodAll_cons_mk k0 (trodAll_cons_mk k1 (trodAll_cons_mk k2 (trodAll_mk0))), rfl, below_kept hg.below _, fun h => by cases h⟩
abbrev wit : Array Value := #[.slice none 0 0, .agg #[.int .i64 0, .int .i64 0, .int .i64 0, .int .i64 0, .int .i64 0, .int .i64 0, .int .i64 0, .bool false], .agg #[.int .i64 0, .int .i64 0]]
theorem reads (os : Os) {H : Type} (enc : TypeId × Value → H) : ∃ places, DataW.whole enc Tryz.prog ((laidWorld os).forCall (fun _ _ => 0) ⟨#[], wit, []⟩).memory Tryz.f9.params.toList Rows.clockCorrectsSpec.vars false wit.toList 8 = some ([.nil, .agg [.lit (.int .i64 0), .lit (.int .i64 0), .lit (.int .i64 0), .lit (.int .i64 0), .lit (.int .i64 0), .lit (.int .i64 0), .lit (.int .i64 0), .lit (.bool false)], .agg [.lit (.int .i64 0), .lit (.int .i64 0)]], [], places) :=
  ⟨[], by kernel_rfl⟩
set_option maxRecDepth 100000 in
theorem lifted (os : Os) (started : os.Started) (H : Type) (enc : TypeId × Value → H) (F : Stop.Interp) :
    ReturnsInHanded {} Tryz.checked os 9 .any ((OpenSpec.ofChange Rows.clockCorrectsSpec).preRow enc Tryz.prog Tryz.f9 Rows.clockCorrectsRow.domain false Rows.clockCorrectsRow.laid) (((OpenSpec.ofChange Rows.clockCorrectsSpec).at F).post enc Tryz.prog Tryz.f9 false true false false) := by
  obtain ⟨places, hx⟩ := reads os enc
  refine returnsInHanded_of_row (C := Tryz.checked) (s := OpenSpec.ofChange Rows.clockCorrectsSpec) own started (by kernel_rfl) Tryz.func9
    (witness_row_at (enc := enc) (C := Tryz.checked) false (laidWorld os) wit rfl (by kernel_rfl) (by kernel_rfl) (by kernel_rfl)
      (OpenSpec.preRow_of_cond 8 hx (by kernel_rfl) (fun k hk => by cases hk) (by kernel_rfl) (laid_met os _))) ?_
  intro W base args ds gs before hval hW _ _ hsz hL _ _
  exact contract H enc W base args ds gs before hval hW hsz
theorem said : Rows.ClockCorrectsSaid :=
  OpenClaim.holds_of_cond 9 Tryz.f9 rfl rfl rfl rfl rfl rfl rfl ⟨rfl, rfl, rfl, rfl, rfl⟩ rfl rfl rfl rfl rfl (by kernel_rfl) Tryz.func9 (by kernel_rfl)
    (of_decide_eq_true (by kernel_rfl)) (by unfold Func.isWrapper; first | (rw [if_pos (by decide +kernel)]; kernel_rfl) | (rw [if_neg (by decide +kernel)]; exact ⟨rfl, rfl⟩))
    (fun os started H enc _ F => by rw [OpenClaim.pre_eq_preRow]; exact lifted os started H enc F)
/-- No parameter wants a stand-in; the program's own looks are off. -/
theorem plain (f : FuncId) (fn : Func) (hf : Tryz.pinned.checked.prog.funcNamed "viator/viatorlaw26.ClockCorrects" = some f) (hfn : Tryz.pinned.checked.prog.funcs[f]? = some fn) :
    false = Tryz.pinned.checked.prog.looks [] ∧ ∀ (j : Nat) t, fn.params[j]? = some t → Tryz.pinned.checked.prog.wantsStandIn t = false := by
  obtain rfl : f = 9 := Option.some.inj ((show Tryz.prog.funcNamed "viator/viatorlaw26.ClockCorrects" = some 9 by kernel_rfl).symm.trans hf) |>.symm
  obtain rfl : fn = Tryz.f9 := (Option.some.inj (Tryz.func9.symm.trans hfn)).symm
  refine ⟨by kernel_rfl, fun j t ht => ?_⟩
  rw [Tryz.params9] at ht
  have hm : t ∈ ([22, 59, 40] : List Nat) := by simpa using Array.mem_of_getElem? ht
  have hw : ∀ t ∈ ([22, 59, 40] : List Nat), Tryz.prog.wantsStandIn t = false := by
    intro t ht
    simp only [List.mem_cons, List.mem_nil_iff, or_false] at ht
    rcases ht with rfl | rfl | rfl
    · exact (show Tryz.prog.wantsStandIn 22 = false by kernel_rfl)
    · exact (show Tryz.prog.wantsStandIn 59 = false by kernel_rfl)
    · exact (show Tryz.prog.wantsStandIn 40 = false by kernel_rfl)
  exact hw t hm
/-- ████ THE CARD ████ -/
theorem card : Rows.ClockCorrectsCardSaid :=
  Claim7.holds_tied_plain_at .later [] _ _ _ _ said (fun _ h => by cases h) (by kernel_rfl) (fun _ h => by cases h) clockCorrects_row_tie rfl ⟨rfl, rfl⟩ (by kernel_rfl) rfl plain (by kernel_rfl)
end Go.Proofs.YtncogghlhlnmaaaGreatDoor.clockCorrects
namespace Go.Proofs.YtncogghlhlnmaaaGreatDoor
/-- the card -/
theorem clockCorrects_holds : Rows.ClockCorrectsCardSaid := clockCorrects.card
end Go.Proofs.YtncogghlhlnmaaaGreatDoor
