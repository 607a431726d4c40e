/-
  For any up to 12 small canonical points, Box returns the integers around them, or the first error; any other slice of points makes the law true at once. No further conditions.
-/
import Derived.ChangeKeysEq
import Derived.Test.YthnlafhnpphdhaaGreatDoorA10
set_option linter.unusedVariables false
set_option linter.unusedVariables false
namespace Go.Proofs.YthnlafhnpphdhaaGreatDoor
open Go Go.RowKit Go.Via
set_option maxRecDepth 20000 in
theorem c_plane_Box (l : List P2) (hl : ∀ q ∈ l, szP q ≤ 1000) (hn : l.length ≤ 1000) (a : Option Addr) (b : Option Nat) (e0 : TypeId) (pre : List Value) (N cap : Nat) (hc : l.length ≤ cap) (ha : l ≠ [] → a = b.map fun g => ⟨g, pre.length, none⟩) : SCall Tryz.prog 54 [⟨b, e0, pre ++ PLc l, N, false⟩] [.slice a l.length cap] Unit (fun _ => .tuple #[Bx (bx l), .int .i64 (bxE l)]) (fun _ => []) := by
 refine ⟨by kernel_rfl, fun w hL0 => ?_⟩
 refine calls_at (args := [.slice a l.length cap]) Tryz.func54 rfl (Nat.le_of_ble_eq_true rfl) hL0 ?_
 show At w ⟨76, [(0, .slice a l.length cap)], [⟨b, e0, pre ++ PLc l, N, false⟩]⟩ _
 refine at_seq ?_
 refine at_region ?_
 refine r_alloc [_, _, _, _, _, _] 6 (fun g => [_, ⟨some g, 63, _, 6, true⟩]) rfl rfl z63 rfl rfl (fun _ => rfl) (fun g0 => ?_)
 refine r_assign rfl rfl rfl ?_
 refine run_nil ?_
 refine at_tn ?_
 refine at_seq ?_
 refine at_seq ?_
 refine at_region ?_
 refine r_move rfl rfl rfl ?_
 refine r_lenV u61 rfl rfl rfl ?_
 refine r_cmpInt rfl rfl rfl rfl rfl ?_
 refine run_nil ?_
 refine at_tn ?_
 refine at_cond rfl (fun hb0 => ?_) (fun hb0 => ?_)
 ·
  obtain rfl : l = [] := List.eq_nil_of_length_eq_zero (by have := eq_of_beq hb0; omega)
  refine at_seq ?_
  refine at_region ?_
  refine r_build [] rfl rfl rfl (bd63_0) ?_
  refine r_store rfl 1 0 [_, ⟨some g0, 63, _, 6, true⟩] [_, _, _, _, _, _] rfl rfl rfl rfl ti63 rfl rfl rfl rfl rfl ?_
  refine r_assign rfl rfl rfl ?_
  refine run_nil ?_
  refine at_tn ?_
  refine at_ret ?_
  refine at_tr ?_
  refine at_end2 rfl (res_cell 1 rfl rfl ti63 (vs := [_, _, _, _, _, _]) rfl rfl (Nat.le_of_ble_eq_true rfl) rfl) (res_tmp rfl) (fun w hL => ⟨(), ?_, hL.picks [] trivial rfl rfl⟩)
  exact rfl
 ·
  obtain ⟨p0, l, rfl⟩ : ∃ p0 l', l = p0 :: l' := List.exists_cons_of_ne_nil (fun e => by rw [e] at hb0; cases hb0)
  refine at_base 0 rfl (fun hbase => ?_)
  obtain ⟨gb, hgb⟩ := row_baseP hbase
  replace hgb : b = some gb := hgb
  subst hgb
  obtain rfl : a = some ⟨gb, pre.length, none⟩ := ha (by simp)
  have hp : szP p0 ≤ 1000 := hl p0 (by simp)
  replace hl : ∀ q ∈ l, szP q ≤ 1000 := fun q hq => hl q (by simp [hq])
  replace hc : l.length + 1 ≤ cap := hc
  replace hn : l.length + 1 ≤ 1000 := hn
  refine at_skip ?_
  refine at_tn ?_
  refine at_seq ?_
  refine at_drawnTM (X := Nat × Nat) (l' := [⟨_,_,_,_,_,_⟩, ⟨_,_,_,_,_,_⟩, ⟨_,_,_,_,_,_⟩, ⟨_,_,_,_,_,_⟩, ⟨_,_,_,_,_,_⟩, ⟨_,_,_,_,_,_⟩]) (fun ⟨ga, gz⟩ => [(0, slv (some gb) pre.length (l.length + 1) cap), (2, .pointer (some ⟨g0, 0, none⟩)), (3, .int .i64 0), (4, .pointer (some ⟨ga, 0, none⟩)), (5, .pointer (some ⟨gz, 0, none⟩))]) (fun ⟨ga, gz⟩ => [⟨some gb, e0, pre ++ PLc (p0 :: l), N, false⟩, ⟨some g0, 63, [.int .i64 0, .int .i64 0, .int .i64 0, .int .i64 0, .int .i64 0, .int .i64 0], 6, true⟩, ⟨some ga, 27, ptC p0, 8, true⟩, ⟨some gz, 27, ptC p0, 8, true⟩]) [2, 3, 3000000] [0, 1, 2, 3, 4, 5] [6, 7, 8, 9] mixed (by kernel_rfl) rfl ?_ ?_
  ·
   refine r_move rfl rfl rfl ?_
   refine r_indexAddr 0 (pre.length + 0 * 8) u61 ti27 rfl rfl rfl rfl rfl (by omega) (by show ((0 : Int)) < ((l.length + 1 : Nat) : Int); omega) (pre_ne (PLc_ne (by simp))) (by show pre.length + Int.toNat _ * 8 = _; omega) ?_
   refine r_load (v := Pt p0) 0 (pre.length + 0 * 8) _ rfl rfl rfl rfl ti27 (pre_get (PLc_get (l := p0 :: l) (i := 0) rfl) rfl) rfl (by decide) rfl ?_
   refine r_move rfl rfl rfl ?_
   refine r_indexAddr 0 (pre.length + 0 * 8) u61 ti27 rfl rfl rfl rfl rfl (by omega) (by show ((0 : Int)) < ((l.length + 1 : Nat) : Int); omega) (pre_ne (PLc_ne (by simp))) (by show pre.length + Int.toNat _ * 8 = _; omega) ?_
   refine r_load (v := Pt p0) 0 (pre.length + 0 * 8) _ rfl rfl rfl rfl ti27 (pre_get (PLc_get (l := p0 :: l) (i := 0) rfl) rfl) rfl (by decide) rfl ?_
   refine run_nil ?_
   refine tt_node [6, 7] (by kernel_rfl) ⟨⟨_, rfl, ?_⟩, ⟨_, rfl, ?_⟩, trivial⟩
   ·
    refine r_alloc [_, _, _, _, _, _, _, _] 8 (fun g => [_, _, ⟨some g, 27, _, 8, true⟩]) rfl rfl z27 rfl rfl (fun _ => rfl) (fun g1 => ?_)
    refine run_nil ?_
    refine tt_node [7] (by kernel_rfl) ⟨⟨_, rfl, ?_⟩, trivial⟩
    ·
     refine r_alloc [_, _, _, _, _, _, _, _] 8 (fun g => [_, _, _, ⟨some g, 27, _, 8, true⟩]) rfl rfl z27 rfl rfl (fun _ => rfl) (fun g2 => ?_)
     refine run_nil ?_
     refine tt_node [8] (by kernel_rfl) ⟨⟨_, rfl, ?_⟩, trivial⟩
     ·
      refine r_storeE 2 0 [_, _, ⟨some g1, 27, _, 8, true⟩, _] [_, _, _, _, _, _, _, _] rfl rfl rfl rfl ti27 rfl rfl rfl rfl rfl rfl ?_
      refine run_nil ?_
      refine tt_node [9] (by kernel_rfl) ⟨⟨_, rfl, ?_⟩, trivial⟩
      ·
       refine r_storeE 3 0 [_, _, _, ⟨some g2, 27, _, 8, true⟩] [_, _, _, _, _, _, _, _] rfl rfl rfl rfl ti27 rfl rfl rfl rfl rfl rfl ?_
       refine run_nil ?_
       exact tt_nil rfl ⟨⟨g1, g2⟩, rfl, ⟨rfl, rfl, rfl, rfl, rfl, trivial⟩, (by first | exact List.Perm.refl _ | exact List.Perm.append_left [_, _] (List.Perm.swap _ _ []))⟩
   ·
    refine r_alloc [_, _, _, _, _, _, _, _] 8 (fun g => [_, _, ⟨some g, 27, _, 8, true⟩]) rfl rfl z27 rfl rfl (fun _ => rfl) (fun g1 => ?_)
    refine run_nil ?_
    refine tt_node [6] (by kernel_rfl) ⟨⟨_, rfl, ?_⟩, trivial⟩
    ·
     refine r_alloc [_, _, _, _, _, _, _, _] 8 (fun g => [_, _, _, ⟨some g, 27, _, 8, true⟩]) rfl rfl z27 rfl rfl (fun _ => rfl) (fun g2 => ?_)
     refine run_nil ?_
     refine tt_node [8] (by kernel_rfl) ⟨⟨_, rfl, ?_⟩, trivial⟩
     ·
      refine r_storeE 3 0 [_, _, _, ⟨some g2, 27, _, 8, true⟩] [_, _, _, _, _, _, _, _] rfl rfl rfl rfl ti27 rfl rfl rfl rfl rfl rfl ?_
      refine run_nil ?_
      refine tt_node [9] (by kernel_rfl) ⟨⟨_, rfl, ?_⟩, trivial⟩
      ·
       refine r_storeE 2 0 [_, _, ⟨some g1, 27, _, 8, true⟩, _] [_, _, _, _, _, _, _, _] rfl rfl rfl rfl ti27 rfl rfl rfl rfl rfl rfl ?_
       refine run_nil ?_
       exact tt_nil rfl ⟨⟨g2, g1⟩, rfl, ⟨rfl, rfl, rfl, rfl, rfl, trivial⟩, (by first | exact List.Perm.refl _ | exact List.Perm.append_left [_, _] (List.Perm.swap _ _ []))⟩
  rintro ⟨ga, gz⟩
  show At _ ⟨76, [(0, slv (some gb) pre.length (l.length + 1) cap), (2, .pointer (some ⟨g0, 0, none⟩)), (3, .int .i64 0), (4, .pointer (some ⟨ga, 0, none⟩)), (5, .pointer (some ⟨gz, 0, none⟩))], [⟨some gb, e0, pre ++ PLc (p0 :: l), N, false⟩, ⟨some g0, 63, [.int .i64 0, .int .i64 0, .int .i64 0, .int .i64 0, .int .i64 0, .int .i64 0], 6, true⟩, ⟨some ga, 27, ptC p0, 8, true⟩, ⟨some gz, 27, ptC p0, 8, true⟩]⟩ _
  refine at_tn ?_
  refine at_seq ?_
  refine at_seq ?_
  refine at_region ?_
  refine r_move rfl rfl rfl ?_
  refine r_sliceMO (off' := if cap = 1 then pre.length else pre.length + 8) (n' := l.length) (c' := cap - 1) 1 u61 ti27 rfl rfl rfl rfl (by show 1 ≤ l.length + 1; omega) rfl (by show l.length + 1 - 1 = _; omega) rfl ?_
  refine r_lenS u61 rfl rfl rfl ?_
  refine r_move rfl rfl rfl ?_
  refine run_nil ?_
  refine at_tn ?_
  refine at_block ?_
  refine enterL (nt := 76) (ι := {i : Nat // i ≤ l.length}) (fun ⟨i, hi⟩ => [(0, slv (some gb) pre.length (l.length + 1) cap), (2, .pointer (some ⟨g0, 0, none⟩)), (3, .int .i64 0), (4, .pointer (some ⟨ga, 0, none⟩)), (5, .pointer (some ⟨gz, 0, none⟩)), (22, slv (some gb) (if cap = 1 then pre.length else pre.length + 8) l.length (cap - 1)), (23, .int .i64 (l.length : Nat)), (24, .int .i64 (i : Nat))]) (fun ⟨i, hi⟩ => [⟨some gb, e0, pre ++ PLc (p0 :: l), N, false⟩, ⟨some g0, 63, [.int .i64 0, .int .i64 0, .int .i64 0, .int .i64 0, .int .i64 0, .int .i64 0], 6, true⟩, ⟨some ga, 27, ptC (loP p0 (l.take i)), 8, true⟩, ⟨some gz, 27, ptC (hiP p0 (l.take i)), 8, true⟩]) (fun ⟨i, hi⟩ => l.length - i) ⟨0, Nat.zero_le _⟩ ⟨rfl, rfl, rfl, rfl, rfl, rfl, rfl, rfl, trivial⟩ (Weak.refl _) ?_
  rintro ⟨i, hi⟩
  show At _ ⟨76, [(0, slv (some gb) pre.length (l.length + 1) cap), (2, .pointer (some ⟨g0, 0, none⟩)), (3, .int .i64 0), (4, .pointer (some ⟨ga, 0, none⟩)), (5, .pointer (some ⟨gz, 0, none⟩)), (22, slv (some gb) (if cap = 1 then pre.length else pre.length + 8) l.length (cap - 1)), (23, .int .i64 (l.length : Nat)), (24, .int .i64 (i : Nat))], [⟨some gb, e0, pre ++ PLc (p0 :: l), N, false⟩, ⟨some g0, 63, [.int .i64 0, .int .i64 0, .int .i64 0, .int .i64 0, .int .i64 0, .int .i64 0], 6, true⟩, ⟨some ga, 27, ptC (loP p0 (l.take i)), 8, true⟩, ⟨some gz, 27, ptC (hiP p0 (l.take i)), 8, true⟩]⟩ _
  refine at_seq ?_
  refine at_region ?_
  refine r_cmpInt rfl rfl rfl rfl rfl ?_
  refine run_nil ?_
  refine at_tn ?_
  refine at_seq ?_
  refine at_cond rfl (fun hb2 => ?_) (fun hb2 => ?_)
  ·
   have hlt : i < l.length := (by have := of_decide_eq_true hb2; omega)
   obtain ⟨q, hq⟩ : ∃ q, l[i]? = some q := ⟨_, List.getElem?_eq_getElem hlt⟩
   have hzq : szP q ≤ 1000 := hl q (List.mem_of_getElem? hq)
   refine at_skip ?_
   refine at_tn ?_
   refine at_seq ?_
   refine at_block ?_
   refine at_seq ?_
   refine at_region ?_
   refine r_indexAddr 0 (pre.length + (i + 1) * 8) u61 ti27 rfl rfl rfl rfl rfl (by omega) (by omega) (pre_ne (PLc_ne (by simp))) (by rw [if_neg (by omega)]; show pre.length + 8 + Int.toNat _ * 8 = _; omega) ?_
   refine r_load (v := Pt q) 0 (pre.length + (i + 1) * 8) _ rfl rfl rfl rfl ti27 (pre_get (PLc_get (l := p0 :: l) (i := i + 1) hq) rfl) rfl (by decide) rfl ?_
   refine r_alloc [_, _, _, _, _, _, _, _] 8 (fun g => [_, _, _, _, ⟨some g, 27, _, 8, true⟩]) rfl rfl z27 rfl rfl (fun _ => rfl) (fun g1 => ?_)
   refine r_store rfl 4 0 [_, _, _, _, ⟨some g1, 27, _, 8, true⟩] [_, _, _, _, _, _, _, _] rfl rfl rfl rfl ti27 rfl rfl rfl rfl rfl ?_
   refine run_nil ?_
   refine at_tn ?_
   refine at_seq ?_
   refine at_drawn (l' := [⟨_,_,_,_,_,_⟩, ⟨_,_,_,_,_,_⟩, ⟨_,_,_,_,_,_⟩, ⟨_,_,_,_,_,_⟩, ⟨_,_,_,_,_,_⟩, ⟨_,_,_,_,_,_⟩, ⟨_,_,_,_,_,_⟩, ⟨_,_,_,_,_,_⟩, ⟨_,_,_,_,_,_⟩, ⟨_,_,_,_,_,_⟩, ⟨_,_,_,_,_,_⟩, ⟨_,_,_,_,_,_⟩]) [] [0, 1, 2, 3, 5, 6, 7, 8, 4, 9, 10, 11] mixed (by kernel_rfl) rfl (by kernel_rfl) ?_
   refine r_fieldAddr 2 0 0 rfl rfl rfl rfl rfl ti27 rfl rfl ?_
   refine r_load 2 0 [_, _, _, _] rfl rfl rfl rfl ti25 rfl rfl rfl rfl ?_
   refine r_fieldAddr 4 0 0 rfl rfl rfl rfl rfl ti27 rfl rfl ?_
   refine r_load 4 0 [_, _, _, _] rfl rfl rfl rfl ti25 rfl rfl rfl rfl ?_
   refine r_fieldAddr 2 0 4 rfl rfl rfl rfl rfl ti27 rfl rfl ?_
   refine r_load 2 4 [_, _, _, _] rfl rfl rfl rfl ti25 rfl rfl rfl rfl ?_
   refine r_fieldAddr 4 0 4 rfl rfl rfl rfl rfl ti27 rfl rfl ?_
   refine r_load 4 4 [_, _, _, _] rfl rfl rfl rfl ti25 rfl rfl rfl rfl ?_
   refine r_pcall [_, _] rfl rfl rfl (c_rational_Min (loP p0 (l.take i)).1 q.1 (Nat.le_trans (szP1 (loP_szt (i := i) hp hl)) (Nat.le_of_ble_eq_true rfl)) (Nat.le_trans (szP1 hzq) (Nat.le_of_ble_eq_true rfl))) ?_
   refine r_pcall [_, _] rfl rfl rfl (c_rational_Min (loP p0 (l.take i)).2 q.2 (Nat.le_trans (szP2 (loP_szt (i := i) hp hl)) (Nat.le_of_ble_eq_true rfl)) (Nat.le_trans (szP2 hzq) (Nat.le_of_ble_eq_true rfl))) ?_
   refine r_build [(0, _), (1, _)] rfl rfl rfl (bd27_2) ?_
   refine r_store rfl 2 0 [_, _, ⟨some ga, 27, _, 8, true⟩, _, _] [_, _, _, _, _, _, _, _] rfl rfl rfl rfl ti27 rfl rfl rfl rfl rfl ?_
   refine run_nil ?_
   refine at_tn ?_
   refine at_drawn (l' := [⟨_,_,_,_,_,_⟩, ⟨_,_,_,_,_,_⟩, ⟨_,_,_,_,_,_⟩, ⟨_,_,_,_,_,_⟩, ⟨_,_,_,_,_,_⟩, ⟨_,_,_,_,_,_⟩, ⟨_,_,_,_,_,_⟩, ⟨_,_,_,_,_,_⟩, ⟨_,_,_,_,_,_⟩, ⟨_,_,_,_,_,_⟩, ⟨_,_,_,_,_,_⟩, ⟨_,_,_,_,_,_⟩]) [] [0, 1, 2, 3, 5, 6, 7, 8, 4, 9, 10, 11] mixed (by kernel_rfl) rfl (by kernel_rfl) ?_
   refine r_fieldAddr 3 0 0 rfl rfl rfl rfl rfl ti27 rfl rfl ?_
   refine r_load 3 0 [_, _, _, _] rfl rfl rfl rfl ti25 rfl rfl rfl rfl ?_
   refine r_fieldAddr 4 0 0 rfl rfl rfl rfl rfl ti27 rfl rfl ?_
   refine r_load 4 0 [_, _, _, _] rfl rfl rfl rfl ti25 rfl rfl rfl rfl ?_
   refine r_fieldAddr 3 0 4 rfl rfl rfl rfl rfl ti27 rfl rfl ?_
   refine r_load 3 4 [_, _, _, _] rfl rfl rfl rfl ti25 rfl rfl rfl rfl ?_
   refine r_fieldAddr 4 0 4 rfl rfl rfl rfl rfl ti27 rfl rfl ?_
   refine r_load 4 4 [_, _, _, _] rfl rfl rfl rfl ti25 rfl rfl rfl rfl ?_
   refine r_pcall [_, _] rfl rfl rfl (c_rational_Max (hiP p0 (l.take i)).1 q.1 (Nat.le_trans (szP1 (hiP_szt (i := i) hp hl)) (Nat.le_of_ble_eq_true rfl)) (Nat.le_trans (szP1 hzq) (Nat.le_of_ble_eq_true rfl))) ?_
   refine r_pcall [_, _] rfl rfl rfl (c_rational_Max (hiP p0 (l.take i)).2 q.2 (Nat.le_trans (szP2 (hiP_szt (i := i) hp hl)) (Nat.le_of_ble_eq_true rfl)) (Nat.le_trans (szP2 hzq) (Nat.le_of_ble_eq_true rfl))) ?_
   refine r_build [(0, _), (1, _)] rfl rfl rfl (bd27_2) ?_
   refine r_store rfl 3 0 [_, _, _, ⟨some gz, 27, _, 8, true⟩, _] [_, _, _, _, _, _, _, _] rfl rfl rfl rfl ti27 rfl rfl rfl rfl rfl ?_
   refine run_nil ?_
   refine at_bn ?_
   refine at_tn ?_
   refine at_region ?_
   refine r_arith (r := ((i + 1 : Nat) : Int)) rfl rfl rfl rfl (congrArg some (wi (by omega) (by omega) (by omega))) ?_
   refine r_move rfl rfl rfl ?_
   refine run_nil ?_
   refine at_tn ?_
   exact nextL ⟨i + 1, hlt⟩ (by simp only []; omega) ⟨rfl, rfl, rfl, rfl, rfl, rfl, rfl, rfl, trivial⟩ (weak_picks [some 0, some 1, some 2, some 3] ⟨⟨_, rfl, Blk.le_refl _⟩, ⟨_, rfl, Blk.le_refl _⟩, ⟨_, rfl, le_same (congrArg (fun p => (⟨some ga, 27, ptC p, 8, true⟩ : Blk)) (loP_succ hq).symm)⟩, ⟨_, rfl, le_same (congrArg (fun p => (⟨some gz, 27, ptC p, 8, true⟩ : Blk)) (hiP_succ hq).symm)⟩, trivial⟩ rfl rfl)
  ·
   have hge : i = l.length := (by have := of_decide_eq_false hb2; omega)
   subst hge
   refine at_exit ?_
   refine at_te ?_
   refine at_te ?_
   refine at_be ?_
   refine at_tn ?_
   refine at_seq ?_
   refine at_region ?_
   refine r_alloc [_] 1 (fun g => [_, _, _, _, ⟨some g, 4, _, 1, true⟩]) rfl rfl z4 rfl rfl (fun _ => rfl) (fun g1 => ?_)
   refine r_store rfl 4 0 [_, _, _, _, ⟨some g1, 4, _, 1, true⟩] [_] rfl rfl rfl rfl ti4 rfl rfl rfl rfl rfl ?_
   refine run_nil ?_
   refine at_tn ?_
   refine at_seq ?_
   refine at_region ?_
   refine r_makeFunc rfl rfl rfl ?_
   refine r_assign rfl rfl rfl ?_
   refine run_nil ?_
   refine at_tn ?_
   refine at_seq ?_
   refine at_drawnT (l' := [⟨_,_,_,_,_,_⟩, ⟨_,_,_,_,_,_⟩, ⟨_,_,_,_,_,_⟩, ⟨_,_,_,_,_,_⟩, ⟨_,_,_,_,_,_⟩, ⟨_,_,_,_,_,_⟩, ⟨_,_,_,_,_,_⟩, ⟨_,_,_,_,_,_⟩, ⟨_,_,_,_,_,_⟩, ⟨_,_,_,_,_,_⟩, ⟨_,_,_,_,_,_⟩, ⟨_,_,_,_,_,_⟩]) [4, 5, 3000000] [0, 1, 2, 5, 6, 7, 10, 11, 12, 15, 16, 17] [3, 4, 8, 9, 13, 14, 18, 19, 20, 21, 22] mixed (by kernel_rfl) rfl ?_
   refine r_move rfl rfl rfl ?_
   refine r_fieldAddr 2 0 0 rfl rfl rfl rfl rfl ti27 rfl rfl ?_
   refine r_load 2 0 [_, _, _, _] rfl rfl rfl rfl ti25 rfl rfl rfl rfl ?_
   refine r_move rfl rfl rfl ?_
   refine r_fieldAddr 3 0 0 rfl rfl rfl rfl rfl ti27 rfl rfl ?_
   refine r_load 3 0 [_, _, _, _] rfl rfl rfl rfl ti25 rfl rfl rfl rfl ?_
   refine r_move rfl rfl rfl ?_
   refine r_fieldAddr 2 0 4 rfl rfl rfl rfl rfl ti27 rfl rfl ?_
   refine r_load 2 4 [_, _, _, _] rfl rfl rfl rfl ti25 rfl rfl rfl rfl ?_
   refine r_move rfl rfl rfl ?_
   refine r_fieldAddr 3 0 4 rfl rfl rfl rfl rfl ti27 rfl rfl ?_
   refine r_load 3 4 [_, _, _, _] rfl rfl rfl rfl ti25 rfl rfl rfl rfl ?_
   refine run_nil ?_
   refine tt_node [3, 21] (by kernel_rfl) ⟨⟨_, rfl, ?_⟩, ⟨_, rfl, ?_⟩, trivial⟩
   ·
    refine r_pcall [_] rfl rfl rfl (c_rational_Floor (loP p0 (l.take l.length)).1 (Nat.le_trans (szP1 (loP_szt (i := l.length) hp hl)) (Nat.le_of_ble_eq_true rfl))) ?_
    refine run_nil ?_
    refine tt_node [4, 21] (by kernel_rfl) ⟨⟨_, rfl, ?_⟩, ⟨_, rfl, ?_⟩, trivial⟩
    ·
     refine r_mfcall [I ((loP p0 (l.take l.length)).1.floor)] 4 [_, _, _, _, ⟨some g1, 4, [.bool (false || badB (loP p0 (l.take l.length)).1.floor)], 1, true⟩] rfl rfl rfl rfl rfl (c_box_small g1 false (loP p0 (l.take l.length)).1.floor) rfl rfl rfl ?_
     refine run_nil ?_
     refine tt_node [8, 21] (by kernel_rfl) ⟨⟨_, rfl, ?_⟩, ⟨_, rfl, ?_⟩, trivial⟩
     ·
      refine r_pcall [_] rfl rfl rfl (c_rational_Ceil (hiP p0 (l.take l.length)).1 (Nat.le_trans (szP1 (hiP_szt (i := l.length) hp hl)) (Nat.le_of_ble_eq_true rfl))) ?_
      refine run_nil ?_
      refine tt_node [9, 21] (by kernel_rfl) ⟨⟨_, rfl, ?_⟩, ⟨_, rfl, ?_⟩, trivial⟩
      ·
       refine r_mfcall [I ((hiP p0 (l.take l.length)).1.ceil)] 4 [_, _, _, _, ⟨some g1, 4, [.bool ((false || badB (loP p0 (l.take l.length)).1.floor) || badB (hiP p0 (l.take l.length)).1.ceil)], 1, true⟩] rfl rfl rfl rfl rfl (c_box_small g1 (false || badB (loP p0 (l.take l.length)).1.floor) (hiP p0 (l.take l.length)).1.ceil) rfl rfl rfl ?_
       refine run_nil ?_
       refine tt_node [13, 21] (by kernel_rfl) ⟨⟨_, rfl, ?_⟩, ⟨_, rfl, ?_⟩, trivial⟩
       ·
        refine r_pcall [_] rfl rfl rfl (c_rational_Floor (loP p0 (l.take l.length)).2 (Nat.le_trans (szP2 (loP_szt (i := l.length) hp hl)) (Nat.le_of_ble_eq_true rfl))) ?_
        refine run_nil ?_
        refine tt_node [14, 21] (by kernel_rfl) ⟨⟨_, rfl, ?_⟩, ⟨_, rfl, ?_⟩, trivial⟩
        ·
         refine r_mfcall [I ((loP p0 (l.take l.length)).2.floor)] 4 [_, _, _, _, ⟨some g1, 4, [.bool (((false || badB (loP p0 (l.take l.length)).1.floor) || badB (hiP p0 (l.take l.length)).1.ceil) || badB (loP p0 (l.take l.length)).2.floor)], 1, true⟩] rfl rfl rfl rfl rfl (c_box_small g1 ((false || badB (loP p0 (l.take l.length)).1.floor) || badB (hiP p0 (l.take l.length)).1.ceil) (loP p0 (l.take l.length)).2.floor) rfl rfl rfl ?_
         refine run_nil ?_
         refine tt_node [18, 21] (by kernel_rfl) ⟨⟨_, rfl, ?_⟩, ⟨_, rfl, ?_⟩, trivial⟩
         ·
          refine r_pcall [_] rfl rfl rfl (c_rational_Ceil (hiP p0 (l.take l.length)).2 (Nat.le_trans (szP2 (hiP_szt (i := l.length) hp hl)) (Nat.le_of_ble_eq_true rfl))) ?_
          refine run_nil ?_
          refine tt_node [19, 21] (by kernel_rfl) ⟨⟨_, rfl, ?_⟩, ⟨_, rfl, ?_⟩, trivial⟩
          ·
           refine r_mfcall [I ((hiP p0 (l.take l.length)).2.ceil)] 4 [_, _, _, _, ⟨some g1, 4, [.bool ((((false || badB (loP p0 (l.take l.length)).1.floor) || badB (hiP p0 (l.take l.length)).1.ceil) || badB (loP p0 (l.take l.length)).2.floor) || badB (hiP p0 (l.take l.length)).2.ceil)], 1, true⟩] rfl rfl rfl rfl rfl (c_box_small g1 (((false || badB (loP p0 (l.take l.length)).1.floor) || badB (hiP p0 (l.take l.length)).1.ceil) || badB (loP p0 (l.take l.length)).2.floor) (hiP p0 (l.take l.length)).2.ceil) rfl rfl rfl ?_
           refine run_nil ?_
           refine tt_node [20, 21] (by kernel_rfl) ⟨⟨_, rfl, ?_⟩, ⟨_, rfl, ?_⟩, trivial⟩
           ·
            refine r_build [(0, _), (1, _), (2, _), (3, _)] rfl rfl rfl (bd63_4) ?_
            refine run_nil ?_
            refine tt_node [21] (by kernel_rfl) ⟨⟨_, rfl, ?_⟩, trivial⟩
            ·
             refine r_alloc [_, _, _, _, _, _] 6 (fun g => [_, _, _, _, _, ⟨some g, 63, _, 6, true⟩]) rfl rfl z63 rfl rfl (fun _ => rfl) (fun g2 => ?_)
             refine run_nil ?_
             refine tt_node [22] (by kernel_rfl) ⟨⟨_, rfl, ?_⟩, trivial⟩
             ·
              refine r_storeE 5 0 [_, _, _, _, _, ⟨some g2, 63, _, 6, true⟩] [_, _, _, _, _, _] rfl rfl rfl rfl ti63 rfl rfl rfl rfl rfl rfl ?_
              refine run_nil ?_
              refine tt_nil rfl ?_
              refine at_tn ?_
              refine at_seq ?_
              refine at_seq ?_
              refine at_region ?_
              refine r_load 4 0 [_] rfl rfl rfl rfl ti4 rfl rfl rfl rfl ?_
              refine run_nil ?_
              refine at_tn ?_
              refine at_cond rfl (fun hb3 => ?_) (fun hb3 => ?_)
              ·
               have hbad : bbad (p0 :: l) = true := by have hh := hb3; rw [List.take_length] at hh; exact hh
               refine at_seq ?_
               refine at_region ?_
               refine r_build [] rfl rfl rfl (bd63_0) ?_
               refine r_store rfl 1 0 [_, ⟨some g0, 63, _, 6, true⟩, _, _, _, _] [_, _, _, _, _, _] rfl rfl rfl rfl ti63 rfl rfl rfl rfl rfl ?_
               refine r_assign rfl rfl rfl ?_
               refine run_nil ?_
               refine at_tn ?_
               refine at_ret ?_
               refine at_tr ?_
               refine at_end2 rfl (res_cell 1 rfl rfl ti63 (vs := [_, _, _, _, _, _]) rfl rfl (Nat.le_of_ble_eq_true rfl) rfl) (res_tmp rfl) (fun w hL => ⟨(), ?_, hL.picks [] trivial rfl rfl⟩)
               rw [bx_bad hbad, bxE_bad (by simp) hbad]; rfl
              ·
               have hbad : bbad (p0 :: l) = false := by have hh := hb3; rw [List.take_length] at hh; exact hh
               refine at_skip ?_
               refine at_tn ?_
               refine at_seq ?_
               refine at_region ?_
               refine r_load 5 0 [_, _, _, _, _, _] rfl rfl rfl rfl ti63 rfl rfl rfl rfl ?_
               refine r_store rfl 1 0 [_, ⟨some g0, 63, _, 6, true⟩, _, _, _, _] [_, _, _, _, _, _] rfl rfl rfl rfl ti63 rfl rfl rfl rfl rfl ?_
               refine r_assign rfl rfl rfl ?_
               refine run_nil ?_
               refine at_tn ?_
               refine at_ret ?_
               refine at_end2 rfl (res_cell 1 rfl rfl ti63 (vs := [_, _, _, _, _, _]) rfl rfl (Nat.le_of_ble_eq_true rfl) rfl) (res_tmp rfl) (fun w hL => ⟨(), ?_, hL.picks [] trivial rfl rfl⟩)
               rw [bx_ok (by simp) hbad, bxE_ok (by simp) hbad, ← bz_toI hbad, List.take_length]; rfl
           ·
            refine r_alloc [_, _, _, _, _, _] 6 (fun g => [_, _, _, _, _, ⟨some g, 63, _, 6, true⟩]) rfl rfl z63 rfl rfl (fun _ => rfl) (fun g2 => ?_)
            refine run_nil ?_
            refine tt_node [20] (by kernel_rfl) ⟨⟨_, rfl, ?_⟩, trivial⟩
            ·
             refine r_build [(0, _), (1, _), (2, _), (3, _)] rfl rfl rfl (bd63_4) ?_
             refine run_nil ?_
             refine tt_node [22] (by kernel_rfl) ⟨⟨_, rfl, ?_⟩, trivial⟩
             ·
              refine r_storeE 5 0 [_, _, _, _, _, ⟨some g2, 63, _, 6, true⟩] [_, _, _, _, _, _] rfl rfl rfl rfl ti63 rfl rfl rfl rfl rfl rfl ?_
              refine run_nil ?_
              refine tt_nil rfl ?_
              refine at_tn ?_
              refine at_seq ?_
              refine at_seq ?_
              refine at_region ?_
              refine r_load 4 0 [_] rfl rfl rfl rfl ti4 rfl rfl rfl rfl ?_
              refine run_nil ?_
              refine at_tn ?_
              refine at_cond rfl (fun hb3 => ?_) (fun hb3 => ?_)
              ·
               have hbad : bbad (p0 :: l) = true := by have hh := hb3; rw [List.take_length] at hh; exact hh
               refine at_seq ?_
               refine at_region ?_
               refine r_build [] rfl rfl rfl (bd63_0) ?_
               refine r_store rfl 1 0 [_, ⟨some g0, 63, _, 6, true⟩, _, _, _, _] [_, _, _, _, _, _] rfl rfl rfl rfl ti63 rfl rfl rfl rfl rfl ?_
               refine r_assign rfl rfl rfl ?_
               refine run_nil ?_
               refine at_tn ?_
               refine at_ret ?_
               refine at_tr ?_
               refine at_end2 rfl (res_cell 1 rfl rfl ti63 (vs := [_, _, _, _, _, _]) rfl rfl (Nat.le_of_ble_eq_true rfl) rfl) (res_tmp rfl) (fun w hL => ⟨(), ?_, hL.picks [] trivial rfl rfl⟩)
               rw [bx_bad hbad, bxE_bad (by simp) hbad]; rfl
              ·
               have hbad : bbad (p0 :: l) = false := by have hh := hb3; rw [List.take_length] at hh; exact hh
               refine at_skip ?_
               refine at_tn ?_
               refine at_seq ?_
               refine at_region ?_
               refine r_load 5 0 [_, _, _, _, _, _] rfl rfl rfl rfl ti63 rfl rfl rfl rfl ?_
               refine r_store rfl 1 0 [_, ⟨some g0, 63, _, 6, true⟩, _, _, _, _] [_, _, _, _, _, _] rfl rfl rfl rfl ti63 rfl rfl rfl rfl rfl ?_
               refine r_assign rfl rfl rfl ?_
               refine run_nil ?_
               refine at_tn ?_
               refine at_ret ?_
               refine at_end2 rfl (res_cell 1 rfl rfl ti63 (vs := [_, _, _, _, _, _]) rfl rfl (Nat.le_of_ble_eq_true rfl) rfl) (res_tmp rfl) (fun w hL => ⟨(), ?_, hL.picks [] trivial rfl rfl⟩)
               rw [bx_ok (by simp) hbad, bxE_ok (by simp) hbad, ← bz_toI hbad, List.take_length]; rfl
          ·
           refine r_alloc [_, _, _, _, _, _] 6 (fun g => [_, _, _, _, _, ⟨some g, 63, _, 6, true⟩]) rfl rfl z63 rfl rfl (fun _ => rfl) (fun g2 => ?_)
           refine run_nil ?_
           refine tt_node [19] (by kernel_rfl) ⟨⟨_, rfl, ?_⟩, trivial⟩
           ·
            refine r_mfcall [I ((hiP p0 (l.take l.length)).2.ceil)] 4 [_, _, _, _, ⟨some g1, 4, [.bool ((((false || badB (loP p0 (l.take l.length)).1.floor) || badB (hiP p0 (l.take l.length)).1.ceil) || badB (loP p0 (l.take l.length)).2.floor) || badB (hiP p0 (l.take l.length)).2.ceil)], 1, true⟩, _] rfl rfl rfl rfl rfl (c_box_small g1 (((false || badB (loP p0 (l.take l.length)).1.floor) || badB (hiP p0 (l.take l.length)).1.ceil) || badB (loP p0 (l.take l.length)).2.floor) (hiP p0 (l.take l.length)).2.ceil) rfl rfl rfl ?_
            refine run_nil ?_
            refine tt_node [20] (by kernel_rfl) ⟨⟨_, rfl, ?_⟩, trivial⟩
            ·
             refine r_build [(0, _), (1, _), (2, _), (3, _)] rfl rfl rfl (bd63_4) ?_
             refine run_nil ?_
             refine tt_node [22] (by kernel_rfl) ⟨⟨_, rfl, ?_⟩, trivial⟩
             ·
              refine r_storeE 5 0 [_, _, _, _, _, ⟨some g2, 63, _, 6, true⟩] [_, _, _, _, _, _] rfl rfl rfl rfl ti63 rfl rfl rfl rfl rfl rfl ?_
              refine run_nil ?_
              refine tt_nil rfl ?_
              refine at_tn ?_
              refine at_seq ?_
              refine at_seq ?_
              refine at_region ?_
              refine r_load 4 0 [_] rfl rfl rfl rfl ti4 rfl rfl rfl rfl ?_
              refine run_nil ?_
              refine at_tn ?_
              refine at_cond rfl (fun hb3 => ?_) (fun hb3 => ?_)
              ·
               have hbad : bbad (p0 :: l) = true := by have hh := hb3; rw [List.take_length] at hh; exact hh
               refine at_seq ?_
               refine at_region ?_
               refine r_build [] rfl rfl rfl (bd63_0) ?_
               refine r_store rfl 1 0 [_, ⟨some g0, 63, _, 6, true⟩, _, _, _, _] [_, _, _, _, _, _] rfl rfl rfl rfl ti63 rfl rfl rfl rfl rfl ?_
               refine r_assign rfl rfl rfl ?_
               refine run_nil ?_
               refine at_tn ?_
               refine at_ret ?_
               refine at_tr ?_
               refine at_end2 rfl (res_cell 1 rfl rfl ti63 (vs := [_, _, _, _, _, _]) rfl rfl (Nat.le_of_ble_eq_true rfl) rfl) (res_tmp rfl) (fun w hL => ⟨(), ?_, hL.picks [] trivial rfl rfl⟩)
               rw [bx_bad hbad, bxE_bad (by simp) hbad]; rfl
              ·
               have hbad : bbad (p0 :: l) = false := by have hh := hb3; rw [List.take_length] at hh; exact hh
               refine at_skip ?_
               refine at_tn ?_
               refine at_seq ?_
               refine at_region ?_
               refine r_load 5 0 [_, _, _, _, _, _] rfl rfl rfl rfl ti63 rfl rfl rfl rfl ?_
               refine r_store rfl 1 0 [_, ⟨some g0, 63, _, 6, true⟩, _, _, _, _] [_, _, _, _, _, _] rfl rfl rfl rfl ti63 rfl rfl rfl rfl rfl ?_
               refine r_assign rfl rfl rfl ?_
               refine run_nil ?_
               refine at_tn ?_
               refine at_ret ?_
               refine at_end2 rfl (res_cell 1 rfl rfl ti63 (vs := [_, _, _, _, _, _]) rfl rfl (Nat.le_of_ble_eq_true rfl) rfl) (res_tmp rfl) (fun w hL => ⟨(), ?_, hL.picks [] trivial rfl rfl⟩)
               rw [bx_ok (by simp) hbad, bxE_ok (by simp) hbad, ← bz_toI hbad, List.take_length]; rfl
         ·
          refine r_alloc [_, _, _, _, _, _] 6 (fun g => [_, _, _, _, _, ⟨some g, 63, _, 6, true⟩]) rfl rfl z63 rfl rfl (fun _ => rfl) (fun g2 => ?_)
          refine run_nil ?_
          refine tt_node [18] (by kernel_rfl) ⟨⟨_, rfl, ?_⟩, trivial⟩
          ·
           refine r_pcall [_] rfl rfl rfl (c_rational_Ceil (hiP p0 (l.take l.length)).2 (Nat.le_trans (szP2 (hiP_szt (i := l.length) hp hl)) (Nat.le_of_ble_eq_true rfl))) ?_
           refine run_nil ?_
           refine tt_node [19] (by kernel_rfl) ⟨⟨_, rfl, ?_⟩, trivial⟩
           ·
            refine r_mfcall [I ((hiP p0 (l.take l.length)).2.ceil)] 4 [_, _, _, _, ⟨some g1, 4, [.bool ((((false || badB (loP p0 (l.take l.length)).1.floor) || badB (hiP p0 (l.take l.length)).1.ceil) || badB (loP p0 (l.take l.length)).2.floor) || badB (hiP p0 (l.take l.length)).2.ceil)], 1, true⟩, _] rfl rfl rfl rfl rfl (c_box_small g1 (((false || badB (loP p0 (l.take l.length)).1.floor) || badB (hiP p0 (l.take l.length)).1.ceil) || badB (loP p0 (l.take l.length)).2.floor) (hiP p0 (l.take l.length)).2.ceil) rfl rfl rfl ?_
            refine run_nil ?_
            refine tt_node [20] (by kernel_rfl) ⟨⟨_, rfl, ?_⟩, trivial⟩
            ·
             refine r_build [(0, _), (1, _), (2, _), (3, _)] rfl rfl rfl (bd63_4) ?_
             refine run_nil ?_
             refine tt_node [22] (by kernel_rfl) ⟨⟨_, rfl, ?_⟩, trivial⟩
             ·
              refine r_storeE 5 0 [_, _, _, _, _, ⟨some g2, 63, _, 6, true⟩] [_, _, _, _, _, _] rfl rfl rfl rfl ti63 rfl rfl rfl rfl rfl rfl ?_
              refine run_nil ?_
              refine tt_nil rfl ?_
              refine at_tn ?_
              refine at_seq ?_
              refine at_seq ?_
              refine at_region ?_
              refine r_load 4 0 [_] rfl rfl rfl rfl ti4 rfl rfl rfl rfl ?_
              refine run_nil ?_
              refine at_tn ?_
              refine at_cond rfl (fun hb3 => ?_) (fun hb3 => ?_)
              ·
               have hbad : bbad (p0 :: l) = true := by have hh := hb3; rw [List.take_length] at hh; exact hh
               refine at_seq ?_
               refine at_region ?_
               refine r_build [] rfl rfl rfl (bd63_0) ?_
               refine r_store rfl 1 0 [_, ⟨some g0, 63, _, 6, true⟩, _, _, _, _] [_, _, _, _, _, _] rfl rfl rfl rfl ti63 rfl rfl rfl rfl rfl ?_
               refine r_assign rfl rfl rfl ?_
               refine run_nil ?_
               refine at_tn ?_
               refine at_ret ?_
               refine at_tr ?_
               refine at_end2 rfl (res_cell 1 rfl rfl ti63 (vs := [_, _, _, _, _, _]) rfl rfl (Nat.le_of_ble_eq_true rfl) rfl) (res_tmp rfl) (fun w hL => ⟨(), ?_, hL.picks [] trivial rfl rfl⟩)
               rw [bx_bad hbad, bxE_bad (by simp) hbad]; rfl
              ·
               have hbad : bbad (p0 :: l) = false := by have hh := hb3; rw [List.take_length] at hh; exact hh
               refine at_skip ?_
               refine at_tn ?_
               refine at_seq ?_
               refine at_region ?_
               refine r_load 5 0 [_, _, _, _, _, _] rfl rfl rfl rfl ti63 rfl rfl rfl rfl ?_
               refine r_store rfl 1 0 [_, ⟨some g0, 63, _, 6, true⟩, _, _, _, _] [_, _, _, _, _, _] rfl rfl rfl rfl ti63 rfl rfl rfl rfl rfl ?_
               refine r_assign rfl rfl rfl ?_
               refine run_nil ?_
               refine at_tn ?_
               refine at_ret ?_
               refine at_end2 rfl (res_cell 1 rfl rfl ti63 (vs := [_, _, _, _, _, _]) rfl rfl (Nat.le_of_ble_eq_true rfl) rfl) (res_tmp rfl) (fun w hL => ⟨(), ?_, hL.picks [] trivial rfl rfl⟩)
               rw [bx_ok (by simp) hbad, bxE_ok (by simp) hbad, ← bz_toI hbad, List.take_length]; rfl
        ·
         refine r_alloc [_, _, _, _, _, _] 6 (fun g => [_, _, _, _, _, ⟨some g, 63, _, 6, true⟩]) rfl rfl z63 rfl rfl (fun _ => rfl) (fun g2 => ?_)
         refine run_nil ?_
         refine tt_node [14] (by kernel_rfl) ⟨⟨_, rfl, ?_⟩, trivial⟩
         ·
          refine r_mfcall [I ((loP p0 (l.take l.length)).2.floor)] 4 [_, _, _, _, ⟨some g1, 4, [.bool (((false || badB (loP p0 (l.take l.length)).1.floor) || badB (hiP p0 (l.take l.length)).1.ceil) || badB (loP p0 (l.take l.length)).2.floor)], 1, true⟩, _] rfl rfl rfl rfl rfl (c_box_small g1 ((false || badB (loP p0 (l.take l.length)).1.floor) || badB (hiP p0 (l.take l.length)).1.ceil) (loP p0 (l.take l.length)).2.floor) rfl rfl rfl ?_
          refine run_nil ?_
          refine tt_node [18] (by kernel_rfl) ⟨⟨_, rfl, ?_⟩, trivial⟩
          ·
           refine r_pcall [_] rfl rfl rfl (c_rational_Ceil (hiP p0 (l.take l.length)).2 (Nat.le_trans (szP2 (hiP_szt (i := l.length) hp hl)) (Nat.le_of_ble_eq_true rfl))) ?_
           refine run_nil ?_
           refine tt_node [19] (by kernel_rfl) ⟨⟨_, rfl, ?_⟩, trivial⟩
           ·
            refine r_mfcall [I ((hiP p0 (l.take l.length)).2.ceil)] 4 [_, _, _, _, ⟨some g1, 4, [.bool ((((false || badB (loP p0 (l.take l.length)).1.floor) || badB (hiP p0 (l.take l.length)).1.ceil) || badB (loP p0 (l.take l.length)).2.floor) || badB (hiP p0 (l.take l.length)).2.ceil)], 1, true⟩, _] rfl rfl rfl rfl rfl (c_box_small g1 (((false || badB (loP p0 (l.take l.length)).1.floor) || badB (hiP p0 (l.take l.length)).1.ceil) || badB (loP p0 (l.take l.length)).2.floor) (hiP p0 (l.take l.length)).2.ceil) rfl rfl rfl ?_
            refine run_nil ?_
            refine tt_node [20] (by kernel_rfl) ⟨⟨_, rfl, ?_⟩, trivial⟩
            ·
             refine r_build [(0, _), (1, _), (2, _), (3, _)] rfl rfl rfl (bd63_4) ?_
             refine run_nil ?_
             refine tt_node [22] (by kernel_rfl) ⟨⟨_, rfl, ?_⟩, trivial⟩
             ·
              refine r_storeE 5 0 [_, _, _, _, _, ⟨some g2, 63, _, 6, true⟩] [_, _, _, _, _, _] rfl rfl rfl rfl ti63 rfl rfl rfl rfl rfl rfl ?_
              refine run_nil ?_
              refine tt_nil rfl ?_
              refine at_tn ?_
              refine at_seq ?_
              refine at_seq ?_
              refine at_region ?_
              refine r_load 4 0 [_] rfl rfl rfl rfl ti4 rfl rfl rfl rfl ?_
              refine run_nil ?_
              refine at_tn ?_
              refine at_cond rfl (fun hb3 => ?_) (fun hb3 => ?_)
              ·
               have hbad : bbad (p0 :: l) = true := by have hh := hb3; rw [List.take_length] at hh; exact hh
               refine at_seq ?_
               refine at_region ?_
               refine r_build [] rfl rfl rfl (bd63_0) ?_
               refine r_store rfl 1 0 [_, ⟨some g0, 63, _, 6, true⟩, _, _, _, _] [_, _, _, _, _, _] rfl rfl rfl rfl ti63 rfl rfl rfl rfl rfl ?_
               refine r_assign rfl rfl rfl ?_
               refine run_nil ?_
               refine at_tn ?_
               refine at_ret ?_
               refine at_tr ?_
               refine at_end2 rfl (res_cell 1 rfl rfl ti63 (vs := [_, _, _, _, _, _]) rfl rfl (Nat.le_of_ble_eq_true rfl) rfl) (res_tmp rfl) (fun w hL => ⟨(), ?_, hL.picks [] trivial rfl rfl⟩)
               rw [bx_bad hbad, bxE_bad (by simp) hbad]; rfl
              ·
               have hbad : bbad (p0 :: l) = false := by have hh := hb3; rw [List.take_length] at hh; exact hh
               refine at_skip ?_
               refine at_tn ?_
               refine at_seq ?_
               refine at_region ?_
               refine r_load 5 0 [_, _, _, _, _, _] rfl rfl rfl rfl ti63 rfl rfl rfl rfl ?_
               refine r_store rfl 1 0 [_, ⟨some g0, 63, _, 6, true⟩, _, _, _, _] [_, _, _, _, _, _] rfl rfl rfl rfl ti63 rfl rfl rfl rfl rfl ?_
               refine r_assign rfl rfl rfl ?_
               refine run_nil ?_
               refine at_tn ?_
               refine at_ret ?_
               refine at_end2 rfl (res_cell 1 rfl rfl ti63 (vs := [_, _, _, _, _, _]) rfl rfl (Nat.le_of_ble_eq_true rfl) rfl) (res_tmp rfl) (fun w hL => ⟨(), ?_, hL.picks [] trivial rfl rfl⟩)
               rw [bx_ok (by simp) hbad, bxE_ok (by simp) hbad, ← bz_toI hbad, List.take_length]; rfl
       ·
        refine r_alloc [_, _, _, _, _, _] 6 (fun g => [_, _, _, _, _, ⟨some g, 63, _, 6, true⟩]) rfl rfl z63 rfl rfl (fun _ => rfl) (fun g2 => ?_)
        refine run_nil ?_
        refine tt_node [13] (by kernel_rfl) ⟨⟨_, rfl, ?_⟩, trivial⟩
        ·
         refine r_pcall [_] rfl rfl rfl (c_rational_Floor (loP p0 (l.take l.length)).2 (Nat.le_trans (szP2 (loP_szt (i := l.length) hp hl)) (Nat.le_of_ble_eq_true rfl))) ?_
         refine run_nil ?_
         refine tt_node [14] (by kernel_rfl) ⟨⟨_, rfl, ?_⟩, trivial⟩
         ·
          refine r_mfcall [I ((loP p0 (l.take l.length)).2.floor)] 4 [_, _, _, _, ⟨some g1, 4, [.bool (((false || badB (loP p0 (l.take l.length)).1.floor) || badB (hiP p0 (l.take l.length)).1.ceil) || badB (loP p0 (l.take l.length)).2.floor)], 1, true⟩, _] rfl rfl rfl rfl rfl (c_box_small g1 ((false || badB (loP p0 (l.take l.length)).1.floor) || badB (hiP p0 (l.take l.length)).1.ceil) (loP p0 (l.take l.length)).2.floor) rfl rfl rfl ?_
          refine run_nil ?_
          refine tt_node [18] (by kernel_rfl) ⟨⟨_, rfl, ?_⟩, trivial⟩
          ·
           refine r_pcall [_] rfl rfl rfl (c_rational_Ceil (hiP p0 (l.take l.length)).2 (Nat.le_trans (szP2 (hiP_szt (i := l.length) hp hl)) (Nat.le_of_ble_eq_true rfl))) ?_
           refine run_nil ?_
           refine tt_node [19] (by kernel_rfl) ⟨⟨_, rfl, ?_⟩, trivial⟩
           ·
            refine r_mfcall [I ((hiP p0 (l.take l.length)).2.ceil)] 4 [_, _, _, _, ⟨some g1, 4, [.bool ((((false || badB (loP p0 (l.take l.length)).1.floor) || badB (hiP p0 (l.take l.length)).1.ceil) || badB (loP p0 (l.take l.length)).2.floor) || badB (hiP p0 (l.take l.length)).2.ceil)], 1, true⟩, _] rfl rfl rfl rfl rfl (c_box_small g1 (((false || badB (loP p0 (l.take l.length)).1.floor) || badB (hiP p0 (l.take l.length)).1.ceil) || badB (loP p0 (l.take l.length)).2.floor) (hiP p0 (l.take l.length)).2.ceil) rfl rfl rfl ?_
            refine run_nil ?_
            refine tt_node [20] (by kernel_rfl) ⟨⟨_, rfl, ?_⟩, trivial⟩
            ·
             refine r_build [(0, _), (1, _), (2, _), (3, _)] rfl rfl rfl (bd63_4) ?_
             refine run_nil ?_
             refine tt_node [22] (by kernel_rfl) ⟨⟨_, rfl, ?_⟩, trivial⟩
             ·
              refine r_storeE 5 0 [_, _, _, _, _, ⟨some g2, 63, _, 6, true⟩] [_, _, _, _, _, _] rfl rfl rfl rfl ti63 rfl rfl rfl rfl rfl rfl ?_
              refine run_nil ?_
              refine tt_nil rfl ?_
              refine at_tn ?_
              refine at_seq ?_
              refine at_seq ?_
              refine at_region ?_
              refine r_load 4 0 [_] rfl rfl rfl rfl ti4 rfl rfl rfl rfl ?_
              refine run_nil ?_
              refine at_tn ?_
              refine at_cond rfl (fun hb3 => ?_) (fun hb3 => ?_)
              ·
               have hbad : bbad (p0 :: l) = true := by have hh := hb3; rw [List.take_length] at hh; exact hh
               refine at_seq ?_
               refine at_region ?_
               refine r_build [] rfl rfl rfl (bd63_0) ?_
               refine r_store rfl 1 0 [_, ⟨some g0, 63, _, 6, true⟩, _, _, _, _] [_, _, _, _, _, _] rfl rfl rfl rfl ti63 rfl rfl rfl rfl rfl ?_
               refine r_assign rfl rfl rfl ?_
               refine run_nil ?_
               refine at_tn ?_
               refine at_ret ?_
               refine at_tr ?_
               refine at_end2 rfl (res_cell 1 rfl rfl ti63 (vs := [_, _, _, _, _, _]) rfl rfl (Nat.le_of_ble_eq_true rfl) rfl) (res_tmp rfl) (fun w hL => ⟨(), ?_, hL.picks [] trivial rfl rfl⟩)
               rw [bx_bad hbad, bxE_bad (by simp) hbad]; rfl
              ·
               have hbad : bbad (p0 :: l) = false := by have hh := hb3; rw [List.take_length] at hh; exact hh
               refine at_skip ?_
               refine at_tn ?_
               refine at_seq ?_
               refine at_region ?_
               refine r_load 5 0 [_, _, _, _, _, _] rfl rfl rfl rfl ti63 rfl rfl rfl rfl ?_
               refine r_store rfl 1 0 [_, ⟨some g0, 63, _, 6, true⟩, _, _, _, _] [_, _, _, _, _, _] rfl rfl rfl rfl ti63 rfl rfl rfl rfl rfl ?_
               refine r_assign rfl rfl rfl ?_
               refine run_nil ?_
               refine at_tn ?_
               refine at_ret ?_
               refine at_end2 rfl (res_cell 1 rfl rfl ti63 (vs := [_, _, _, _, _, _]) rfl rfl (Nat.le_of_ble_eq_true rfl) rfl) (res_tmp rfl) (fun w hL => ⟨(), ?_, hL.picks [] trivial rfl rfl⟩)
               rw [bx_ok (by simp) hbad, bxE_ok (by simp) hbad, ← bz_toI hbad, List.take_length]; rfl
      ·
       refine r_alloc [_, _, _, _, _, _] 6 (fun g => [_, _, _, _, _, ⟨some g, 63, _, 6, true⟩]) rfl rfl z63 rfl rfl (fun _ => rfl) (fun g2 => ?_)
       refine run_nil ?_
       refine tt_node [9] (by kernel_rfl) ⟨⟨_, rfl, ?_⟩, trivial⟩
       ·
        refine r_mfcall [I ((hiP p0 (l.take l.length)).1.ceil)] 4 [_, _, _, _, ⟨some g1, 4, [.bool ((false || badB (loP p0 (l.take l.length)).1.floor) || badB (hiP p0 (l.take l.length)).1.ceil)], 1, true⟩, _] rfl rfl rfl rfl rfl (c_box_small g1 (false || badB (loP p0 (l.take l.length)).1.floor) (hiP p0 (l.take l.length)).1.ceil) rfl rfl rfl ?_
        refine run_nil ?_
        refine tt_node [13] (by kernel_rfl) ⟨⟨_, rfl, ?_⟩, trivial⟩
        ·
         refine r_pcall [_] rfl rfl rfl (c_rational_Floor (loP p0 (l.take l.length)).2 (Nat.le_trans (szP2 (loP_szt (i := l.length) hp hl)) (Nat.le_of_ble_eq_true rfl))) ?_
         refine run_nil ?_
         refine tt_node [14] (by kernel_rfl) ⟨⟨_, rfl, ?_⟩, trivial⟩
         ·
          refine r_mfcall [I ((loP p0 (l.take l.length)).2.floor)] 4 [_, _, _, _, ⟨some g1, 4, [.bool (((false || badB (loP p0 (l.take l.length)).1.floor) || badB (hiP p0 (l.take l.length)).1.ceil) || badB (loP p0 (l.take l.length)).2.floor)], 1, true⟩, _] rfl rfl rfl rfl rfl (c_box_small g1 ((false || badB (loP p0 (l.take l.length)).1.floor) || badB (hiP p0 (l.take l.length)).1.ceil) (loP p0 (l.take l.length)).2.floor) rfl rfl rfl ?_
          refine run_nil ?_
          refine tt_node [18] (by kernel_rfl) ⟨⟨_, rfl, ?_⟩, trivial⟩
          ·
           refine r_pcall [_] rfl rfl rfl (c_rational_Ceil (hiP p0 (l.take l.length)).2 (Nat.le_trans (szP2 (hiP_szt (i := l.length) hp hl)) (Nat.le_of_ble_eq_true rfl))) ?_
           refine run_nil ?_
           refine tt_node [19] (by kernel_rfl) ⟨⟨_, rfl, ?_⟩, trivial⟩
           ·
            refine r_mfcall [I ((hiP p0 (l.take l.length)).2.ceil)] 4 [_, _, _, _, ⟨some g1, 4, [.bool ((((false || badB (loP p0 (l.take l.length)).1.floor) || badB (hiP p0 (l.take l.length)).1.ceil) || badB (loP p0 (l.take l.length)).2.floor) || badB (hiP p0 (l.take l.length)).2.ceil)], 1, true⟩, _] rfl rfl rfl rfl rfl (c_box_small g1 (((false || badB (loP p0 (l.take l.length)).1.floor) || badB (hiP p0 (l.take l.length)).1.ceil) || badB (loP p0 (l.take l.length)).2.floor) (hiP p0 (l.take l.length)).2.ceil) rfl rfl rfl ?_
            refine run_nil ?_
            refine tt_node [20] (by kernel_rfl) ⟨⟨_, rfl, ?_⟩, trivial⟩
            ·
             refine r_build [(0, _), (1, _), (2, _), (3, _)] rfl rfl rfl (bd63_4) ?_
             refine run_nil ?_
             refine tt_node [22] (by kernel_rfl) ⟨⟨_, rfl, ?_⟩, trivial⟩
             ·
              refine r_storeE 5 0 [_, _, _, _, _, ⟨some g2, 63, _, 6, true⟩] [_, _, _, _, _, _] rfl rfl rfl rfl ti63 rfl rfl rfl rfl rfl rfl ?_
              refine run_nil ?_
              refine tt_nil rfl ?_
              refine at_tn ?_
              refine at_seq ?_
              refine at_seq ?_
              refine at_region ?_
              refine r_load 4 0 [_] rfl rfl rfl rfl ti4 rfl rfl rfl rfl ?_
              refine run_nil ?_
              refine at_tn ?_
              refine at_cond rfl (fun hb3 => ?_) (fun hb3 => ?_)
              ·
               have hbad : bbad (p0 :: l) = true := by have hh := hb3; rw [List.take_length] at hh; exact hh
               refine at_seq ?_
               refine at_region ?_
               refine r_build [] rfl rfl rfl (bd63_0) ?_
               refine r_store rfl 1 0 [_, ⟨some g0, 63, _, 6, true⟩, _, _, _, _] [_, _, _, _, _, _] rfl rfl rfl rfl ti63 rfl rfl rfl rfl rfl ?_
               refine r_assign rfl rfl rfl ?_
               refine run_nil ?_
               refine at_tn ?_
               refine at_ret ?_
               refine at_tr ?_
               refine at_end2 rfl (res_cell 1 rfl rfl ti63 (vs := [_, _, _, _, _, _]) rfl rfl (Nat.le_of_ble_eq_true rfl) rfl) (res_tmp rfl) (fun w hL => ⟨(), ?_, hL.picks [] trivial rfl rfl⟩)
               rw [bx_bad hbad, bxE_bad (by simp) hbad]; rfl
              ·
               have hbad : bbad (p0 :: l) = false := by have hh := hb3; rw [List.take_length] at hh; exact hh
               refine at_skip ?_
               refine at_tn ?_
               refine at_seq ?_
               refine at_region ?_
               refine r_load 5 0 [_, _, _, _, _, _] rfl rfl rfl rfl ti63 rfl rfl rfl rfl ?_
               refine r_store rfl 1 0 [_, ⟨some g0, 63, _, 6, true⟩, _, _, _, _] [_, _, _, _, _, _] rfl rfl rfl rfl ti63 rfl rfl rfl rfl rfl ?_
               refine r_assign rfl rfl rfl ?_
               refine run_nil ?_
               refine at_tn ?_
               refine at_ret ?_
               refine at_end2 rfl (res_cell 1 rfl rfl ti63 (vs := [_, _, _, _, _, _]) rfl rfl (Nat.le_of_ble_eq_true rfl) rfl) (res_tmp rfl) (fun w hL => ⟨(), ?_, hL.picks [] trivial rfl rfl⟩)
               rw [bx_ok (by simp) hbad, bxE_ok (by simp) hbad, ← bz_toI hbad, List.take_length]; rfl
     ·
      refine r_alloc [_, _, _, _, _, _] 6 (fun g => [_, _, _, _, _, ⟨some g, 63, _, 6, true⟩]) rfl rfl z63 rfl rfl (fun _ => rfl) (fun g2 => ?_)
      refine run_nil ?_
      refine tt_node [8] (by kernel_rfl) ⟨⟨_, rfl, ?_⟩, trivial⟩
      ·
       refine r_pcall [_] rfl rfl rfl (c_rational_Ceil (hiP p0 (l.take l.length)).1 (Nat.le_trans (szP1 (hiP_szt (i := l.length) hp hl)) (Nat.le_of_ble_eq_true rfl))) ?_
       refine run_nil ?_
       refine tt_node [9] (by kernel_rfl) ⟨⟨_, rfl, ?_⟩, trivial⟩
       ·
        refine r_mfcall [I ((hiP p0 (l.take l.length)).1.ceil)] 4 [_, _, _, _, ⟨some g1, 4, [.bool ((false || badB (loP p0 (l.take l.length)).1.floor) || badB (hiP p0 (l.take l.length)).1.ceil)], 1, true⟩, _] rfl rfl rfl rfl rfl (c_box_small g1 (false || badB (loP p0 (l.take l.length)).1.floor) (hiP p0 (l.take l.length)).1.ceil) rfl rfl rfl ?_
        refine run_nil ?_
        refine tt_node [13] (by kernel_rfl) ⟨⟨_, rfl, ?_⟩, trivial⟩
        ·
         refine r_pcall [_] rfl rfl rfl (c_rational_Floor (loP p0 (l.take l.length)).2 (Nat.le_trans (szP2 (loP_szt (i := l.length) hp hl)) (Nat.le_of_ble_eq_true rfl))) ?_
         refine run_nil ?_
         refine tt_node [14] (by kernel_rfl) ⟨⟨_, rfl, ?_⟩, trivial⟩
         ·
          refine r_mfcall [I ((loP p0 (l.take l.length)).2.floor)] 4 [_, _, _, _, ⟨some g1, 4, [.bool (((false || badB (loP p0 (l.take l.length)).1.floor) || badB (hiP p0 (l.take l.length)).1.ceil) || badB (loP p0 (l.take l.length)).2.floor)], 1, true⟩, _] rfl rfl rfl rfl rfl (c_box_small g1 ((false || badB (loP p0 (l.take l.length)).1.floor) || badB (hiP p0 (l.take l.length)).1.ceil) (loP p0 (l.take l.length)).2.floor) rfl rfl rfl ?_
          refine run_nil ?_
          refine tt_node [18] (by kernel_rfl) ⟨⟨_, rfl, ?_⟩, trivial⟩
          ·
           refine r_pcall [_] rfl rfl rfl (c_rational_Ceil (hiP p0 (l.take l.length)).2 (Nat.le_trans (szP2 (hiP_szt (i := l.length) hp hl)) (Nat.le_of_ble_eq_true rfl))) ?_
           refine run_nil ?_
           refine tt_node [19] (by kernel_rfl) ⟨⟨_, rfl, ?_⟩, trivial⟩
           ·
            refine r_mfcall [I ((hiP p0 (l.take l.length)).2.ceil)] 4 [_, _, _, _, ⟨some g1, 4, [.bool ((((false || badB (loP p0 (l.take l.length)).1.floor) || badB (hiP p0 (l.take l.length)).1.ceil) || badB (loP p0 (l.take l.length)).2.floor) || badB (hiP p0 (l.take l.length)).2.ceil)], 1, true⟩, _] rfl rfl rfl rfl rfl (c_box_small g1 (((false || badB (loP p0 (l.take l.length)).1.floor) || badB (hiP p0 (l.take l.length)).1.ceil) || badB (loP p0 (l.take l.length)).2.floor) (hiP p0 (l.take l.length)).2.ceil) rfl rfl rfl ?_
            refine run_nil ?_
            refine tt_node [20] (by kernel_rfl) ⟨⟨_, rfl, ?_⟩, trivial⟩
            ·
             refine r_build [(0, _), (1, _), (2, _), (3, _)] rfl rfl rfl (bd63_4) ?_
             refine run_nil ?_
             refine tt_node [22] (by kernel_rfl) ⟨⟨_, rfl, ?_⟩, trivial⟩
             ·
              refine r_storeE 5 0 [_, _, _, _, _, ⟨some g2, 63, _, 6, true⟩] [_, _, _, _, _, _] rfl rfl rfl rfl ti63 rfl rfl rfl rfl rfl rfl ?_
              refine run_nil ?_
              refine tt_nil rfl ?_
              refine at_tn ?_
              refine at_seq ?_
              refine at_seq ?_
              refine at_region ?_
              refine r_load 4 0 [_] rfl rfl rfl rfl ti4 rfl rfl rfl rfl ?_
              refine run_nil ?_
              refine at_tn ?_
              refine at_cond rfl (fun hb3 => ?_) (fun hb3 => ?_)
              ·
               have hbad : bbad (p0 :: l) = true := by have hh := hb3; rw [List.take_length] at hh; exact hh
               refine at_seq ?_
               refine at_region ?_
               refine r_build [] rfl rfl rfl (bd63_0) ?_
               refine r_store rfl 1 0 [_, ⟨some g0, 63, _, 6, true⟩, _, _, _, _] [_, _, _, _, _, _] rfl rfl rfl rfl ti63 rfl rfl rfl rfl rfl ?_
               refine r_assign rfl rfl rfl ?_
               refine run_nil ?_
               refine at_tn ?_
               refine at_ret ?_
               refine at_tr ?_
               refine at_end2 rfl (res_cell 1 rfl rfl ti63 (vs := [_, _, _, _, _, _]) rfl rfl (Nat.le_of_ble_eq_true rfl) rfl) (res_tmp rfl) (fun w hL => ⟨(), ?_, hL.picks [] trivial rfl rfl⟩)
               rw [bx_bad hbad, bxE_bad (by simp) hbad]; rfl
              ·
               have hbad : bbad (p0 :: l) = false := by have hh := hb3; rw [List.take_length] at hh; exact hh
               refine at_skip ?_
               refine at_tn ?_
               refine at_seq ?_
               refine at_region ?_
               refine r_load 5 0 [_, _, _, _, _, _] rfl rfl rfl rfl ti63 rfl rfl rfl rfl ?_
               refine r_store rfl 1 0 [_, ⟨some g0, 63, _, 6, true⟩, _, _, _, _] [_, _, _, _, _, _] rfl rfl rfl rfl ti63 rfl rfl rfl rfl rfl ?_
               refine r_assign rfl rfl rfl ?_
               refine run_nil ?_
               refine at_tn ?_
               refine at_ret ?_
               refine at_end2 rfl (res_cell 1 rfl rfl ti63 (vs := [_, _, _, _, _, _]) rfl rfl (Nat.le_of_ble_eq_true rfl) rfl) (res_tmp rfl) (fun w hL => ⟨(), ?_, hL.picks [] trivial rfl rfl⟩)
               rw [bx_ok (by simp) hbad, bxE_ok (by simp) hbad, ← bz_toI hbad, List.take_length]; rfl
    ·
     refine r_alloc [_, _, _, _, _, _] 6 (fun g => [_, _, _, _, _, ⟨some g, 63, _, 6, true⟩]) rfl rfl z63 rfl rfl (fun _ => rfl) (fun g2 => ?_)
     refine run_nil ?_
     refine tt_node [4] (by kernel_rfl) ⟨⟨_, rfl, ?_⟩, trivial⟩
     ·
      refine r_mfcall [I ((loP p0 (l.take l.length)).1.floor)] 4 [_, _, _, _, ⟨some g1, 4, [.bool (false || badB (loP p0 (l.take l.length)).1.floor)], 1, true⟩, _] rfl rfl rfl rfl rfl (c_box_small g1 false (loP p0 (l.take l.length)).1.floor) rfl rfl rfl ?_
      refine run_nil ?_
      refine tt_node [8] (by kernel_rfl) ⟨⟨_, rfl, ?_⟩, trivial⟩
      ·
       refine r_pcall [_] rfl rfl rfl (c_rational_Ceil (hiP p0 (l.take l.length)).1 (Nat.le_trans (szP1 (hiP_szt (i := l.length) hp hl)) (Nat.le_of_ble_eq_true rfl))) ?_
       refine run_nil ?_
       refine tt_node [9] (by kernel_rfl) ⟨⟨_, rfl, ?_⟩, trivial⟩
       ·
        refine r_mfcall [I ((hiP p0 (l.take l.length)).1.ceil)] 4 [_, _, _, _, ⟨some g1, 4, [.bool ((false || badB (loP p0 (l.take l.length)).1.floor) || badB (hiP p0 (l.take l.length)).1.ceil)], 1, true⟩, _] rfl rfl rfl rfl rfl (c_box_small g1 (false || badB (loP p0 (l.take l.length)).1.floor) (hiP p0 (l.take l.length)).1.ceil) rfl rfl rfl ?_
        refine run_nil ?_
        refine tt_node [13] (by kernel_rfl) ⟨⟨_, rfl, ?_⟩, trivial⟩
        ·
         refine r_pcall [_] rfl rfl rfl (c_rational_Floor (loP p0 (l.take l.length)).2 (Nat.le_trans (szP2 (loP_szt (i := l.length) hp hl)) (Nat.le_of_ble_eq_true rfl))) ?_
         refine run_nil ?_
         refine tt_node [14] (by kernel_rfl) ⟨⟨_, rfl, ?_⟩, trivial⟩
         ·
          refine r_mfcall [I ((loP p0 (l.take l.length)).2.floor)] 4 [_, _, _, _, ⟨some g1, 4, [.bool (((false || badB (loP p0 (l.take l.length)).1.floor) || badB (hiP p0 (l.take l.length)).1.ceil) || badB (loP p0 (l.take l.length)).2.floor)], 1, true⟩, _] rfl rfl rfl rfl rfl (c_box_small g1 ((false || badB (loP p0 (l.take l.length)).1.floor) || badB (hiP p0 (l.take l.length)).1.ceil) (loP p0 (l.take l.length)).2.floor) rfl rfl rfl ?_
          refine run_nil ?_
          refine tt_node [18] (by kernel_rfl) ⟨⟨_, rfl, ?_⟩, trivial⟩
          ·
           refine r_pcall [_] rfl rfl rfl (c_rational_Ceil (hiP p0 (l.take l.length)).2 (Nat.le_trans (szP2 (hiP_szt (i := l.length) hp hl)) (Nat.le_of_ble_eq_true rfl))) ?_
           refine run_nil ?_
           refine tt_node [19] (by kernel_rfl) ⟨⟨_, rfl, ?_⟩, trivial⟩
           ·
            refine r_mfcall [I ((hiP p0 (l.take l.length)).2.ceil)] 4 [_, _, _, _, ⟨some g1, 4, [.bool ((((false || badB (loP p0 (l.take l.length)).1.floor) || badB (hiP p0 (l.take l.length)).1.ceil) || badB (loP p0 (l.take l.length)).2.floor) || badB (hiP p0 (l.take l.length)).2.ceil)], 1, true⟩, _] rfl rfl rfl rfl rfl (c_box_small g1 (((false || badB (loP p0 (l.take l.length)).1.floor) || badB (hiP p0 (l.take l.length)).1.ceil) || badB (loP p0 (l.take l.length)).2.floor) (hiP p0 (l.take l.length)).2.ceil) rfl rfl rfl ?_
            refine run_nil ?_
            refine tt_node [20] (by kernel_rfl) ⟨⟨_, rfl, ?_⟩, trivial⟩
            ·
             refine r_build [(0, _), (1, _), (2, _), (3, _)] rfl rfl rfl (bd63_4) ?_
             refine run_nil ?_
             refine tt_node [22] (by kernel_rfl) ⟨⟨_, rfl, ?_⟩, trivial⟩
             ·
              refine r_storeE 5 0 [_, _, _, _, _, ⟨some g2, 63, _, 6, true⟩] [_, _, _, _, _, _] rfl rfl rfl rfl ti63 rfl rfl rfl rfl rfl rfl ?_
              refine run_nil ?_
              refine tt_nil rfl ?_
              refine at_tn ?_
              refine at_seq ?_
              refine at_seq ?_
              refine at_region ?_
              refine r_load 4 0 [_] rfl rfl rfl rfl ti4 rfl rfl rfl rfl ?_
              refine run_nil ?_
              refine at_tn ?_
              refine at_cond rfl (fun hb3 => ?_) (fun hb3 => ?_)
              ·
               have hbad : bbad (p0 :: l) = true := by have hh := hb3; rw [List.take_length] at hh; exact hh
               refine at_seq ?_
               refine at_region ?_
               refine r_build [] rfl rfl rfl (bd63_0) ?_
               refine r_store rfl 1 0 [_, ⟨some g0, 63, _, 6, true⟩, _, _, _, _] [_, _, _, _, _, _] rfl rfl rfl rfl ti63 rfl rfl rfl rfl rfl ?_
               refine r_assign rfl rfl rfl ?_
               refine run_nil ?_
               refine at_tn ?_
               refine at_ret ?_
               refine at_tr ?_
               refine at_end2 rfl (res_cell 1 rfl rfl ti63 (vs := [_, _, _, _, _, _]) rfl rfl (Nat.le_of_ble_eq_true rfl) rfl) (res_tmp rfl) (fun w hL => ⟨(), ?_, hL.picks [] trivial rfl rfl⟩)
               rw [bx_bad hbad, bxE_bad (by simp) hbad]; rfl
              ·
               have hbad : bbad (p0 :: l) = false := by have hh := hb3; rw [List.take_length] at hh; exact hh
               refine at_skip ?_
               refine at_tn ?_
               refine at_seq ?_
               refine at_region ?_
               refine r_load 5 0 [_, _, _, _, _, _] rfl rfl rfl rfl ti63 rfl rfl rfl rfl ?_
               refine r_store rfl 1 0 [_, ⟨some g0, 63, _, 6, true⟩, _, _, _, _] [_, _, _, _, _, _] rfl rfl rfl rfl ti63 rfl rfl rfl rfl rfl ?_
               refine r_assign rfl rfl rfl ?_
               refine run_nil ?_
               refine at_tn ?_
               refine at_ret ?_
               refine at_end2 rfl (res_cell 1 rfl rfl ti63 (vs := [_, _, _, _, _, _]) rfl rfl (Nat.le_of_ble_eq_true rfl) rfl) (res_tmp rfl) (fun w hL => ⟨(), ?_, hL.picks [] trivial rfl rfl⟩)
               rw [bx_ok (by simp) hbad, bxE_ok (by simp) hbad, ← bz_toI hbad, List.take_length]; rfl
   ·
    refine r_alloc [_, _, _, _, _, _] 6 (fun g => [_, _, _, _, _, ⟨some g, 63, _, 6, true⟩]) rfl rfl z63 rfl rfl (fun _ => rfl) (fun g2 => ?_)
    refine run_nil ?_
    refine tt_node [3] (by kernel_rfl) ⟨⟨_, rfl, ?_⟩, trivial⟩
    ·
     refine r_pcall [_] rfl rfl rfl (c_rational_Floor (loP p0 (l.take l.length)).1 (Nat.le_trans (szP1 (loP_szt (i := l.length) hp hl)) (Nat.le_of_ble_eq_true rfl))) ?_
     refine run_nil ?_
     refine tt_node [4] (by kernel_rfl) ⟨⟨_, rfl, ?_⟩, trivial⟩
     ·
      refine r_mfcall [I ((loP p0 (l.take l.length)).1.floor)] 4 [_, _, _, _, ⟨some g1, 4, [.bool (false || badB (loP p0 (l.take l.length)).1.floor)], 1, true⟩, _] rfl rfl rfl rfl rfl (c_box_small g1 false (loP p0 (l.take l.length)).1.floor) rfl rfl rfl ?_
      refine run_nil ?_
      refine tt_node [8] (by kernel_rfl) ⟨⟨_, rfl, ?_⟩, trivial⟩
      ·
       refine r_pcall [_] rfl rfl rfl (c_rational_Ceil (hiP p0 (l.take l.length)).1 (Nat.le_trans (szP1 (hiP_szt (i := l.length) hp hl)) (Nat.le_of_ble_eq_true rfl))) ?_
       refine run_nil ?_
       refine tt_node [9] (by kernel_rfl) ⟨⟨_, rfl, ?_⟩, trivial⟩
       ·
        refine r_mfcall [I ((hiP p0 (l.take l.length)).1.ceil)] 4 [_, _, _, _, ⟨some g1, 4, [.bool ((false || badB (loP p0 (l.take l.length)).1.floor) || badB (hiP p0 (l.take l.length)).1.ceil)], 1, true⟩, _] rfl rfl rfl rfl rfl (c_box_small g1 (false || badB (loP p0 (l.take l.length)).1.floor) (hiP p0 (l.take l.length)).1.ceil) rfl rfl rfl ?_
        refine run_nil ?_
        refine tt_node [13] (by kernel_rfl) ⟨⟨_, rfl, ?_⟩, trivial⟩
        ·
         refine r_pcall [_] rfl rfl rfl (c_rational_Floor (loP p0 (l.take l.length)).2 (Nat.le_trans (szP2 (loP_szt (i := l.length) hp hl)) (Nat.le_of_ble_eq_true rfl))) ?_
         refine run_nil ?_
         refine tt_node [14] (by kernel_rfl) ⟨⟨_, rfl, ?_⟩, trivial⟩
         ·
          refine r_mfcall [I ((loP p0 (l.take l.length)).2.floor)] 4 [_, _, _, _, ⟨some g1, 4, [.bool (((false || badB (loP p0 (l.take l.length)).1.floor) || badB (hiP p0 (l.take l.length)).1.ceil) || badB (loP p0 (l.take l.length)).2.floor)], 1, true⟩, _] rfl rfl rfl rfl rfl (c_box_small g1 ((false || badB (loP p0 (l.take l.length)).1.floor) || badB (hiP p0 (l.take l.length)).1.ceil) (loP p0 (l.take l.length)).2.floor) rfl rfl rfl ?_
          refine run_nil ?_
          refine tt_node [18] (by kernel_rfl) ⟨⟨_, rfl, ?_⟩, trivial⟩
          ·
           refine r_pcall [_] rfl rfl rfl (c_rational_Ceil (hiP p0 (l.take l.length)).2 (Nat.le_trans (szP2 (hiP_szt (i := l.length) hp hl)) (Nat.le_of_ble_eq_true rfl))) ?_
           refine run_nil ?_
           refine tt_node [19] (by kernel_rfl) ⟨⟨_, rfl, ?_⟩, trivial⟩
           ·
            refine r_mfcall [I ((hiP p0 (l.take l.length)).2.ceil)] 4 [_, _, _, _, ⟨some g1, 4, [.bool ((((false || badB (loP p0 (l.take l.length)).1.floor) || badB (hiP p0 (l.take l.length)).1.ceil) || badB (loP p0 (l.take l.length)).2.floor) || badB (hiP p0 (l.take l.length)).2.ceil)], 1, true⟩, _] rfl rfl rfl rfl rfl (c_box_small g1 (((false || badB (loP p0 (l.take l.length)).1.floor) || badB (hiP p0 (l.take l.length)).1.ceil) || badB (loP p0 (l.take l.length)).2.floor) (hiP p0 (l.take l.length)).2.ceil) rfl rfl rfl ?_
            refine run_nil ?_
            refine tt_node [20] (by kernel_rfl) ⟨⟨_, rfl, ?_⟩, trivial⟩
            ·
             refine r_build [(0, _), (1, _), (2, _), (3, _)] rfl rfl rfl (bd63_4) ?_
             refine run_nil ?_
             refine tt_node [22] (by kernel_rfl) ⟨⟨_, rfl, ?_⟩, trivial⟩
             ·
              refine r_storeE 5 0 [_, _, _, _, _, ⟨some g2, 63, _, 6, true⟩] [_, _, _, _, _, _] rfl rfl rfl rfl ti63 rfl rfl rfl rfl rfl rfl ?_
              refine run_nil ?_
              refine tt_nil rfl ?_
              refine at_tn ?_
              refine at_seq ?_
              refine at_seq ?_
              refine at_region ?_
              refine r_load 4 0 [_] rfl rfl rfl rfl ti4 rfl rfl rfl rfl ?_
              refine run_nil ?_
              refine at_tn ?_
              refine at_cond rfl (fun hb3 => ?_) (fun hb3 => ?_)
              ·
               have hbad : bbad (p0 :: l) = true := by have hh := hb3; rw [List.take_length] at hh; exact hh
               refine at_seq ?_
               refine at_region ?_
               refine r_build [] rfl rfl rfl (bd63_0) ?_
               refine r_store rfl 1 0 [_, ⟨some g0, 63, _, 6, true⟩, _, _, _, _] [_, _, _, _, _, _] rfl rfl rfl rfl ti63 rfl rfl rfl rfl rfl ?_
               refine r_assign rfl rfl rfl ?_
               refine run_nil ?_
               refine at_tn ?_
               refine at_ret ?_
               refine at_tr ?_
               refine at_end2 rfl (res_cell 1 rfl rfl ti63 (vs := [_, _, _, _, _, _]) rfl rfl (Nat.le_of_ble_eq_true rfl) rfl) (res_tmp rfl) (fun w hL => ⟨(), ?_, hL.picks [] trivial rfl rfl⟩)
               rw [bx_bad hbad, bxE_bad (by simp) hbad]; rfl
              ·
               have hbad : bbad (p0 :: l) = false := by have hh := hb3; rw [List.take_length] at hh; exact hh
               refine at_skip ?_
               refine at_tn ?_
               refine at_seq ?_
               refine at_region ?_
               refine r_load 5 0 [_, _, _, _, _, _] rfl rfl rfl rfl ti63 rfl rfl rfl rfl ?_
               refine r_store rfl 1 0 [_, ⟨some g0, 63, _, 6, true⟩, _, _, _, _] [_, _, _, _, _, _] rfl rfl rfl rfl ti63 rfl rfl rfl rfl rfl ?_
               refine r_assign rfl rfl rfl ?_
               refine run_nil ?_
               refine at_tn ?_
               refine at_ret ?_
               refine at_end2 rfl (res_cell 1 rfl rfl ti63 (vs := [_, _, _, _, _, _]) rfl rfl (Nat.le_of_ble_eq_true rfl) rfl) (res_tmp rfl) (fun w hL => ⟨(), ?_, hL.picks [] trivial rfl rfl⟩)
               rw [bx_ok (by simp) hbad, bxE_ok (by simp) hbad, ← bz_toI hbad, List.take_length]; rfl
end Go.Proofs.YthnlafhnpphdhaaGreatDoor
set_option linter.unusedVariables false
set_option linter.unusedSimpArgs false
namespace Go.Via
open Go Go.RowKit
/-! ### PlaneBoxes: rows of raw points, comparisons -/
noncomputable def rawOf (p : P2) : RawP := ⟨decide (p.1.num < 0), mag p.1.num.natAbs, false, dm p.1, decide (p.2.num < 0), mag p.2.num.natAbs, false, dm p.2⟩
theorem RLc_pts : ∀ l : List P2, RLc (l.map rawOf) = PLc l
  | [] => rfl
  | p :: l => by rw [List.map_cons, RLc, PLc, RLc_pts l]; rfl
theorem small_pts : ∀ {l : List RawP}, l.all smallP = true → ∃ pts : List P2, l = pts.map rawOf ∧ ∀ p ∈ pts, szP p ≤ 8
  | [], _ => ⟨[], rfl, fun _ h => by cases h⟩
  | r :: l, h => by
    rw [List.all_cons, Bool.and_eq_true] at h
    obtain ⟨pts, e, hs⟩ := small_pts h.2
    obtain ⟨p, ⟨⟨h1, h2, h3, h4⟩, ⟨h5, h6, h7, h8⟩⟩, hp⟩ := smallP_q h.1
    refine ⟨p :: pts, ?_, fun q hq => ?_⟩
    · rw [List.map_cons, ← e]
      congr 1
      cases r
      simp only at h1 h2 h3 h4 h5 h6 h7 h8
      rw [h1, h2, h3, h4, h5, h6, h7, h8]; rfl
    · rcases List.mem_cons.1 hq with rfl | hq
      · exact hp
      · exact hs q hq
theorem bx_rng (l : List P2) : ((-9223372036854775808 ≤ (bx l).1 ∧ (bx l).1 ≤ 9223372036854775807) ∧ (-9223372036854775808 ≤ (bx l).2.1 ∧ (bx l).2.1 ≤ 9223372036854775807)) ∧
    ((-9223372036854775808 ≤ (bx l).2.2.1 ∧ (bx l).2.2.1 ≤ 9223372036854775807) ∧ (-9223372036854775808 ≤ (bx l).2.2.2 ∧ (bx l).2.2.2 ≤ 9223372036854775807)) := by
  unfold bx
  split
  · exact ⟨⟨⟨by decide, by decide⟩, ⟨by decide, by decide⟩⟩, ⟨⟨by decide, by decide⟩, ⟨by decide, by decide⟩⟩⟩
  · rename_i h
    have hb : bbad l = false := by cases hb : bbad l with | false => rfl | true => exact absurd (.inr hb) h
    obtain ⟨h1, h2, h3, h4⟩ := bbad_no hb
    have k1 := badB_no h1
    have k2 := badB_no h2
    have k3 := badB_no h3
    have k4 := badB_no h4
    refine ⟨⟨⟨?_, ?_⟩, ⟨?_, ?_⟩⟩, ⟨⟨?_, ?_⟩, ⟨?_, ?_⟩⟩⟩ <;> omega
theorem szLim : szQ (Rat.divInt 1099511627776 1) ≤ 8 := by
  rw [lim_eq]
  refine Nat.le_trans (szQ_cast _) ?_
  have : nb (1099511627776 : Int).natAbs ≤ 6 := nb_le (by decide)
  omega
theorem bndL_get {p : P2} {l : List P2} {k : Nat} {z : Int} (h : (bzL (p :: l))[k]? = some z) : (bndL p l)[k]? = some (z : Rat) := by
  rw [bndL_bz, List.getElem?_map, h]; rfl
theorem bz_step {l : List P2} {k : Nat} {z : Int} (h : ∀ j, j < k → ∀ z, (bzL l)[j]? = some z → badB z = false) (hz : (bzL l)[k]? = some z) (hb : badB z = false) : ∀ j, j < k + 1 → ∀ z, (bzL l)[j]? = some z → badB z = false := fun j hj y hy => by
  by_cases e : j = k
  · subst e; rw [hz] at hy; cases hy; exact hb
  · exact h j (by omega) y hy
theorem eq66_same {x0 x1 x2 x3 y0 y1 y2 y3 : Rat} (h0 : x0 = y0) (h1 : x1 = y1) (h2 : x2 = y2) (h3 : x3 = y3) : (decide (x0 = y0) && (decide (x1 = y1) && (decide (x2 = y2) && (decide (x3 = y3) && true)))) = true := by
  subst h0; subst h1; subst h2; subst h3; simp
end Go.Via
namespace Go.Proofs.YthnlafhnpphdhaaGreatDoor
open Go Go.RowKit Go.Via
theorem eq63r (a b c d e f a' b' c' d' e' f' : Int) (w : World) : (Op.equalIn 10000 63 (.agg #[.int .i64 a, .int .i64 b, .int .i64 c, .int .i64 d, .int .i64 e, .int .i64 f]) (.agg #[.int .i64 a', .int .i64 b', .int .i64 c', .int .i64 d', .int .i64 e', .int .i64 f'])).run Tryz.prog w =
    .ok ((a == a') && ((b == b') && ((c == c') && ((d == d') && ((e == e') && (f == f')))))) w := by
  simp [go_sem]
  (repeat' split) <;> simp_all
theorem eq63 (x y : Int × Int × Int × Int) (w : World) : (Op.equalIn 10000 63 (Bx x) (Bx y)).run Tryz.prog w = .ok (decide (x = y)) w := by
  unfold Bx
  rw [eq63r]
  congr 1
  rw [Bool.eq_iff_iff]
  simp [Prod.ext_iff]
theorem eqItem {P : Program} {d e c i : Nat} {xs ys : Array Value} {is : List Nat} {x y : Value} {r r' : Bool} {w : World} (hx : (part e xs (i * c)).run P w = .ok x w) (hy : (part e ys (i * c)).run P w = .ok y w)
    (h : (Op.equalIn d e x y).run P w = .ok r w) (h' : (Op.eqItems d e c xs ys is).run P w = .ok r' w) : (Op.eqItems d e c xs ys (i :: is)).run P w = .ok (r && r') w := by
  simp only [Op.eqItems, Sem.run_bind, hx, hy, h, Result.andThen_ok]
  cases r <;> simp [h']
theorem eq25r9 (a a' c c' : Bool) (b b' d d' : ByteArray) (w : World) : (Op.equalIn 9999 25 (.agg #[.bool a, .string b, .bool c, .string d]) (.agg #[.bool a', .string b', .bool c', .string d'])).run Tryz.prog w =
    .ok ((a == a') && ((b == b') && ((c == c') && (d == d')))) w := by
  simp only [beq_toListBytes]
  simp [go_sem]
  (repeat' split) <;> simp_all
theorem eq25i (p q : Rat) (w : World) : (Op.equalIn 9999 25 (Q p) (Q q)).run Tryz.prog w = .ok (decide (p = q)) w := by
  refine (eq25r9 _ _ _ _ _ _ _ _ w).trans ?_
  rw [← Q_eq]
  congr 1
  simp [Bool.and_assoc]
theorem eq66 (a0 a1 a2 a3 b0 b1 b2 b3 : Rat) (w : World) : (Op.equalIn 10000 66 (.agg (QLc [a0, a1, a2, a3]).toArray) (.agg (QLc [b0, b1, b2, b3]).toArray)).run Tryz.prog w =
    .ok (decide (a0 = b0) && (decide (a1 = b1) && (decide (a2 = b2) && (decide (a3 = b3) && true)))) w := by
  obtain ⟨i, hi, _⟩ := ti_size ti25
  rw [run_equalIn_array w 9999 _ _ u66 hi]
  have ce : Tryz.prog.cellsOf 25 = 4 := by kernel_rfl
  have ia : (isAgg 25).run Tryz.prog w = .ok true w := by kernel_rfl
  have so : (sizeOf 25).run Tryz.prog w = .ok 4 w := by kernel_rfl
  rw [ce]
  show (Op.eqItems 9999 25 4 _ _ [0, 1, 2, 3]).run Tryz.prog w = _
  refine eqItem (x := Q a0) (y := Q b0) ?_ ?_ (eq25i _ _ w) (eqItem (x := Q a1) (y := Q b1) ?_ ?_ (eq25i _ _ w) (eqItem (x := Q a2) (y := Q b2) ?_ ?_ (eq25i _ _ w) (eqItem (x := Q a3) (y := Q b3) ?_ ?_ (eq25i _ _ w) rfl))) <;>
    (simp [part, ia, so]; rfl)
end Go.Proofs.YthnlafhnpphdhaaGreatDoor
set_option linter.unusedVariables false
namespace Go.Proofs.YthnlafhnpphdhaaGreatDoor
open Go Go.RowKit Go.Via
set_option maxRecDepth 20000 in
theorem c_PlaneBoxes (raw : List RawP) (hz : ∀ p ∈ raw, szR p) (a : Option Addr) (b : Option Nat) (e0 : TypeId) (pre : List Value) (N cap : Nat) (hc : raw.length ≤ cap) (ha : raw ≠ [] → a = b.map fun g => ⟨g, pre.length, none⟩) : SCall Tryz.prog 12 [⟨b, e0, pre ++ RLc raw, N, false⟩] [.slice a raw.length cap] Unit (fun _ => .bool true) (fun _ => []) := by
 refine ⟨by kernel_rfl, fun w hL0 => ?_⟩
 refine calls_at (args := [.slice a raw.length cap]) Tryz.func12 rfl (Nat.le_of_ble_eq_true rfl) hL0 ?_
 show At w ⟨96, [(0, .slice a raw.length cap)], [⟨b, e0, pre ++ RLc raw, N, false⟩]⟩ _
 refine at_seq ?_
 refine at_region ?_
 refine r_assign rfl rfl rfl ?_
 refine run_nil ?_
 refine at_tn ?_
 refine at_seq ?_
 refine at_seq ?_
 refine at_region ?_
 refine r_pcall [] rfl rfl rfl (c_law_known) ?_
 refine r_not rfl rfl rfl ?_
 refine r_move rfl rfl rfl ?_
 refine r_move rfl rfl rfl ?_
 refine r_lenV u61 rfl rfl rfl ?_
 refine r_cmpInt rfl rfl rfl rfl rfl ?_
 refine r_pickF rfl rfl rfl rfl ?_
 refine r_move rfl rfl rfl ?_
 refine r_split 16 rfl (fun hb0 => ?_) (fun hb0 => ?_)
 ·
  refine r_no rfl rfl rfl ?_
  refine r_no rfl rfl rfl ?_
  refine r_no rfl rfl rfl ?_
  refine r_pickT rfl rfl rfl rfl ?_
  refine run_nil ?_
  refine at_tn ?_
  refine at_condT rfl ?_
  refine at_seq ?_
  refine at_region ?_
  refine r_pcall [] rfl rfl rfl (c_law_known) ?_
  refine r_assign rfl rfl rfl ?_
  refine run_nil ?_
  refine at_tn ?_
  refine at_ret ?_
  refine at_tr ?_
  refine at_end1 rfl (res_tmp rfl) (fun w hL => ⟨(), ?_, hL.picks [] trivial rfl rfl⟩)
  exact rfl
 ·
  have hlen : raw.length ≤ 12 := by have := of_decide_eq_false hb0; omega
  refine r_move rfl rfl rfl ?_
  refine r_scall0 [_] [0] rfl rfl rfl (c_law_pointsG raw hz (by omega) a b e0 pre _ _ hc ha) ⟨⟨_, rfl, Blk.le_refl _⟩, trivial⟩ rfl ?_
  refine r_not rfl rfl rfl ?_
  refine r_pickF rfl rfl rfl rfl ?_
  refine run_nil ?_
  refine at_tn ?_
  refine at_cond rfl (fun hb1 => ?_) (fun hb1 => ?_)
  ·
   refine at_seq ?_
   refine at_region ?_
   refine r_pcall [] rfl rfl rfl (c_law_known) ?_
   refine r_assign rfl rfl rfl ?_
   refine run_nil ?_
   refine at_tn ?_
   refine at_ret ?_
   refine at_tr ?_
   refine at_end1 rfl (res_tmp rfl) (fun w hL => ⟨(), ?_, hL.picks [] trivial rfl rfl⟩)
   exact rfl
  ·
   have hall : raw.all smallP = true := by simpa using hb1
   obtain ⟨pts, hpts, hzp⟩ := small_pts hall
   subst hpts
   have hpl : (pts.map rawOf).length = pts.length := List.length_map ..
   rw [hpl] at hlen hc
   replace ha : pts ≠ [] → a = b.map fun g => ⟨g, pre.length, none⟩ := fun h => ha (by simpa using h)
   refine at_weak _ (weak_picks (L' := [⟨b, e0, pre ++ PLc pts, N, false⟩]) [some 0] ⟨⟨_, rfl, le_same (congrArg (fun c => (⟨b, e0, pre ++ c, N, false⟩ : Blk)) (RLc_pts pts).symm)⟩, trivial⟩ rfl rfl) ?_
   refine at_know 0 (.slice a pts.length cap) rfl (congrArg (fun n => Value.slice a n cap) hpl) ?_
   refine at_skip ?_
   refine at_tn ?_
   refine at_seq ?_
   refine at_region ?_
   refine r_move rfl rfl rfl ?_
   refine r_scall0 [_] [0] rfl rfl rfl (c_plane_Box pts (fun p hp => Nat.le_trans (hzp p hp) (Nat.le_of_ble_eq_true rfl)) (by omega) a b e0 pre _ _ hc ha) ⟨⟨_, rfl, Blk.le_refl _⟩, trivial⟩ rfl ?_
   refine r_move rfl rfl rfl ?_
   refine r_extract (vs := [_, _]) rfl rfl rfl rfl ?_
   refine r_extract (vs := [_, _]) rfl rfl rfl rfl ?_
   refine r_alloc [_, _, _, _, _, _] 6 (fun g => [_, ⟨some g, 63, _, 6, true⟩]) rfl rfl z63 rfl rfl (fun _ => rfl) (fun g0 => ?_)
   refine r_store rfl 1 0 [_, ⟨some g0, 63, _, 6, true⟩] [_, _, _, _, _, _] rfl rfl rfl rfl ti63 rfl rfl rfl rfl rfl ?_
   refine r_assign rfl rfl rfl ?_
   refine run_nil ?_
   refine at_tn ?_
   refine at_seq ?_
   refine at_seq ?_
   refine at_region ?_
   refine r_move rfl rfl rfl ?_
   refine r_lenV u61 rfl rfl rfl ?_
   refine r_cmpInt rfl rfl rfl rfl rfl ?_
   refine run_nil ?_
   refine at_tn ?_
   refine at_cond rfl (fun hb2 => ?_) (fun hb2 => ?_)
   ·
    obtain rfl : pts = [] := List.eq_nil_of_length_eq_zero (by have := eq_of_beq hb2; omega)
    refine at_seq ?_
    refine at_region ?_
    refine r_load 1 0 [_, _, _, _, _, _] rfl rfl rfl rfl ti63 rfl rfl rfl rfl ?_
    refine r_build [] rfl rfl rfl (bd63_0) ?_
    refine r_eqlAgg rfl rfl rfl rfl gd63 (eq63 (bx []) (0, 0, 0, 0)) ?_
    refine r_know 32 (.bool true) rfl (congrArg Value.bool (decide_eq_true bx_nil)) ?_
    refine r_move rfl rfl rfl ?_
    refine r_move rfl rfl rfl ?_
    refine r_cmpInt rfl rfl rfl rfl rfl ?_
    refine r_know 35 (.bool true) rfl (congrArg Value.bool (beq_iff_eq.2 bxE_nil)) ?_
    refine r_pickT rfl rfl rfl rfl ?_
    refine r_assign rfl rfl rfl ?_
    refine run_nil ?_
    refine at_tn ?_
    refine at_ret ?_
    refine at_tr ?_
    refine at_end1 rfl (res_tmp rfl) (fun w hL => ⟨(), ?_, hL.picks [] trivial rfl rfl⟩)
    exact rfl
   ·
    obtain ⟨p0, l, rfl⟩ : ∃ p0 l', pts = p0 :: l' := List.exists_cons_of_ne_nil (fun e => by rw [e] at hb2; cases hb2)
    refine at_base 0 rfl (fun hbase => ?_)
    obtain ⟨gb, hgb⟩ := row_baseP hbase
    replace hgb : b = some gb := hgb
    subst hgb
    obtain rfl : a = some ⟨gb, pre.length, none⟩ := ha (by simp)
    have hp0 : szP p0 ≤ 8 := hzp p0 (by simp)
    have hl : ∀ q ∈ l, szP q ≤ 8 := fun q hq => hzp q (by simp [hq])
    replace hc : l.length + 1 ≤ cap := hc
    replace hlen : l.length + 1 ≤ 12 := hlen
    have hne : p0 :: l ≠ [] := by simp
    refine at_skip ?_
    refine at_tn ?_
    refine at_seq ?_
    refine at_region ?_
    refine r_move rfl rfl rfl ?_
    refine r_scall0 [_] [0] rfl rfl rfl (c_ref07_Bounds p0 l (Nat.le_trans hp0 (Nat.le_of_ble_eq_true rfl)) (fun q hq => Nat.le_trans (hl q hq) (Nat.le_of_ble_eq_true rfl)) (by omega) gb e0 pre _ _ hc) ⟨⟨_, rfl, Blk.le_refl _⟩, trivial⟩ rfl ?_
    refine r_alloc [_, _, _, _, _, _, _, _, _, _, _, _, _, _, _, _] 16 (fun g => [_, _, ⟨some g, 66, _, 16, true⟩]) rfl rfl z66 rfl rfl (fun _ => rfl) (fun g1 => ?_)
    refine r_store rfl 2 0 [_, _, ⟨some g1, 66, _, 16, true⟩] [_, _, _, _, _, _, _, _, _, _, _, _, _, _, _, _] rfl rfl rfl rfl ti66 rfl rfl rfl rfl rfl ?_
    refine run_nil ?_
    refine at_tn ?_
    refine at_seq ?_
    refine at_region ?_
    refine r_pcall [_, _] rfl rfl rfl (c_ref02_Of 1099511627776 1 (by omega) (by omega) (by omega) (by omega) (by omega)) ?_
    refine r_alloc [_, _, _, _] 4 (fun g => [_, _, _, ⟨some g, 25, _, 4, true⟩]) rfl rfl z25 rfl rfl (fun _ => rfl) (fun g2 => ?_)
    refine r_store rfl 3 0 [_, _, _, ⟨some g2, 25, _, 4, true⟩] [_, _, _, _] rfl rfl rfl rfl ti25 rfl rfl rfl rfl rfl ?_
    refine run_nil ?_
    refine at_tn ?_
    refine at_seq ?_
    refine at_seq ?_
    refine at_region ?_
    refine r_assign rfl rfl rfl ?_
    refine run_nil ?_
    refine at_tn ?_
    refine at_block ?_
    refine enterL (nt := 96) (ι := {k : Nat // k ≤ 4 ∧ ∀ j, j < k → ∀ z, (bzL (p0 :: l))[j]? = some z → badB z = false}) (fun ⟨k, hk, hks⟩ => [(0, slv (some gb) pre.length (l.length + 1) cap), (3, .pointer (some ⟨g0, 0, none⟩)), (4, .int .i64 (bxE (p0 :: l))), (5, .pointer (some ⟨g1, 0, none⟩)), (6, .pointer (some ⟨g2, 0, none⟩)), (7, .int .i64 (k : Nat))]) (fun ⟨k, hk, hks⟩ => [⟨some gb, e0, pre ++ PLc (p0 :: l), N, false⟩, ⟨some g0, 63, [.int .i64 (bx (p0 :: l)).1, .int .i64 (bx (p0 :: l)).2.1, .int .i64 (bx (p0 :: l)).2.2.1, .int .i64 (bx (p0 :: l)).2.2.2, .int .i64 0, .int .i64 0], 6, true⟩, ⟨some g1, 66, QLc (bndL p0 l), 16, true⟩, ⟨some g2, 25, qC (Rat.divInt 1099511627776 1), 4, true⟩]) (fun ⟨k, hk, hks⟩ => 4 - k) ⟨0, Nat.zero_le _, fun j hj => absurd hj (by omega)⟩ ⟨rfl, rfl, rfl, rfl, rfl, rfl, trivial⟩ (weak_picks [some 0, some 1, some 2, some 3] ⟨⟨_, rfl, Blk.le_refl _⟩, ⟨_, rfl, Blk.le_refl _⟩, ⟨_, rfl, Blk.le_refl _⟩, ⟨_, rfl, Blk.le_refl _⟩, trivial⟩ rfl rfl) ?_
    rintro ⟨k, hk, hks⟩
    show At _ ⟨96, [(0, slv (some gb) pre.length (l.length + 1) cap), (3, .pointer (some ⟨g0, 0, none⟩)), (4, .int .i64 (bxE (p0 :: l))), (5, .pointer (some ⟨g1, 0, none⟩)), (6, .pointer (some ⟨g2, 0, none⟩)), (7, .int .i64 (k : Nat))], [⟨some gb, e0, pre ++ PLc (p0 :: l), N, false⟩, ⟨some g0, 63, [.int .i64 (bx (p0 :: l)).1, .int .i64 (bx (p0 :: l)).2.1, .int .i64 (bx (p0 :: l)).2.2.1, .int .i64 (bx (p0 :: l)).2.2.2, .int .i64 0, .int .i64 0], 6, true⟩, ⟨some g1, 66, QLc (bndL p0 l), 16, true⟩, ⟨some g2, 25, qC (Rat.divInt 1099511627776 1), 4, true⟩]⟩ _
    refine at_seq ?_
    refine at_seq ?_
    refine at_region ?_
    refine r_move rfl rfl rfl ?_
    refine r_cmpInt rfl rfl rfl rfl rfl ?_
    refine run_nil ?_
    refine at_tn ?_
    refine at_cond rfl (fun hb4 => ?_) (fun hb4 => ?_)
    ·
     have hk4 : k < 4 := (by have := of_decide_eq_true hb4; omega)
     obtain ⟨z, hzk⟩ : ∃ z, (bzL (p0 :: l))[k]? = some z := ⟨_, List.getElem?_eq_getElem (by show k < 4; omega)⟩
     have hw := bndL_get hzk
     have hszz : szQ (z : Rat) ≤ 9 := bndL_sz hp0 hl _ (List.mem_of_getElem? hw)
     refine at_skip ?_
     refine at_tn ?_
     refine at_seq ?_
     refine at_block ?_
     refine at_seq ?_
     refine at_drawn (l' := [⟨_,_,_,_,_,_⟩, ⟨_,_,_,_,_,_⟩, ⟨_,_,_,_,_,_⟩, ⟨_,_,_,_,_,_⟩, ⟨_,_,_,_,_,_⟩, ⟨_,_,_,_,_,_⟩, ⟨_,_,_,_,_,_⟩, ⟨_,_,_,_,_,_⟩, ⟨_,_,_,_,_,_⟩, ⟨_,_,_,_,_,_⟩, ⟨_,_,_,_,_,_⟩, ⟨_,_,_,_,_,_⟩, ⟨_,_,_,_,_,_⟩, ⟨_,_,_,_,_,_⟩, ⟨_,_,_,_,_,_⟩]) [] [0, 1, 2, 3, 4, 5, 6, 7, 8, 9, 10, 11, 12, 13, 14] mixed (by kernel_rfl) rfl (by kernel_rfl) ?_
     refine r_move rfl rfl rfl ?_
     refine r_indexAddrA (k * 4) u66 ti25 rfl rfl rfl rfl (by omega) (by omega) (by show 0 + Int.toNat _ * 4 = _; omega) ?_
     refine r_load (v := Q (z : Rat)) 2 (k * 4) _ rfl rfl rfl rfl ti25 (QLc_get hw) rfl (by decide) rfl ?_
     refine r_load 3 0 [_, _, _, _] rfl rfl rfl rfl ti25 rfl rfl rfl rfl ?_
     refine r_pcall [_, _] rfl rfl rfl (c_ref02_Compare (z : Rat) (Rat.divInt 1099511627776 1) (Nat.le_trans hszz (Nat.le_of_ble_eq_true rfl)) (Nat.le_trans szLim (Nat.le_of_ble_eq_true rfl))) ?_
     refine r_cmpInt rfl rfl rfl rfl rfl ?_
     refine r_move rfl rfl rfl ?_
     refine r_split 50 rfl (fun hb5 => ?_) (fun hb5 => ?_)
     ·
      have hbad : bbad (p0 :: l) = true := bbad_of hzk (lim_up hb5)
      refine r_no rfl rfl rfl ?_
      refine r_no rfl rfl rfl ?_
      refine r_no rfl rfl rfl ?_
      refine r_no rfl rfl rfl ?_
      refine r_no rfl rfl rfl ?_
      refine r_no rfl rfl rfl ?_
      refine r_no rfl rfl rfl ?_
      refine r_pickT rfl rfl rfl rfl ?_
      refine run_nil ?_
      refine at_tn ?_
      refine at_condT rfl ?_
      refine at_seq ?_
      refine at_region ?_
      refine r_load 1 0 [_, _, _, _, _, _] rfl rfl rfl rfl ti63 rfl rfl rfl rfl ?_
      refine r_build [] rfl rfl rfl (bd63_0) ?_
      refine r_eqlAgg rfl rfl rfl rfl gd63 (eq63 (bx (p0 :: l)) (0, 0, 0, 0)) ?_
      refine r_know 61 (.bool true) rfl (congrArg Value.bool (decide_eq_true (bx_bad hbad))) ?_
      refine r_move rfl rfl rfl ?_
      refine r_move rfl rfl rfl ?_
      refine r_cmpInt rfl rfl rfl rfl rfl ?_
      refine r_know 64 (.bool true) rfl (congrArg Value.bool (beq_iff_eq.2 (bxE_bad hne hbad))) ?_
      refine r_pickT rfl rfl rfl rfl ?_
      refine r_assign rfl rfl rfl ?_
      refine run_nil ?_
      refine at_tn ?_
      refine at_ret ?_
      refine at_br ?_
      refine at_tr ?_
      refine at_tr ?_
      refine at_br ?_
      refine at_tr ?_
      refine at_end1 rfl (res_tmp rfl) (fun w hL => ⟨(), ?_, hL.picks [] trivial rfl rfl⟩)
      exact rfl
     ·
      have hb_up := hb5
      refine r_move rfl rfl rfl ?_
      refine r_indexAddrA (k * 4) u66 ti25 rfl rfl rfl rfl (by omega) (by omega) (by show 0 + Int.toNat _ * 4 = _; omega) ?_
      refine r_load (v := Q (z : Rat)) 2 (k * 4) _ rfl rfl rfl rfl ti25 (QLc_get hw) rfl (by decide) rfl ?_
      refine r_load 3 0 [_, _, _, _] rfl rfl rfl rfl ti25 rfl rfl rfl rfl ?_
      refine r_pcall [_] rfl rfl rfl (c_ref02_Neg (Rat.divInt 1099511627776 1)) ?_
      refine r_pcall [_, _] rfl rfl rfl (c_ref02_Compare (z : Rat) (-Rat.divInt 1099511627776 1) (Nat.le_trans hszz (Nat.le_of_ble_eq_true rfl)) (Nat.le_trans (szQ_neg szLim) (Nat.le_of_ble_eq_true rfl))) ?_
      refine r_cmpInt rfl rfl rfl rfl rfl ?_
      refine r_pickF rfl rfl rfl rfl ?_
      refine run_nil ?_
      refine at_tn ?_
      refine at_cond rfl (fun hb6 => ?_) (fun hb6 => ?_)
      ·
       have hbad : bbad (p0 :: l) = true := bbad_of hzk (lim_dn hb6)
       refine at_seq ?_
       refine at_region ?_
       refine r_load 1 0 [_, _, _, _, _, _] rfl rfl rfl rfl ti63 rfl rfl rfl rfl ?_
       refine r_build [] rfl rfl rfl (bd63_0) ?_
       refine r_eqlAgg rfl rfl rfl rfl gd63 (eq63 (bx (p0 :: l)) (0, 0, 0, 0)) ?_
       refine r_know 61 (.bool true) rfl (congrArg Value.bool (decide_eq_true (bx_bad hbad))) ?_
       refine r_move rfl rfl rfl ?_
       refine r_move rfl rfl rfl ?_
       refine r_cmpInt rfl rfl rfl rfl rfl ?_
       refine r_know 64 (.bool true) rfl (congrArg Value.bool (beq_iff_eq.2 (bxE_bad hne hbad))) ?_
       refine r_pickT rfl rfl rfl rfl ?_
       refine r_assign rfl rfl rfl ?_
       refine run_nil ?_
       refine at_tn ?_
       refine at_ret ?_
       refine at_br ?_
       refine at_tr ?_
       refine at_tr ?_
       refine at_br ?_
       refine at_tr ?_
       refine at_end1 rfl (res_tmp rfl) (fun w hL => ⟨(), ?_, hL.picks [] trivial rfl rfl⟩)
       exact rfl
      ·
       have hgood : badB z = false := lim_no hb_up hb6
       refine at_skip ?_
       refine at_bn ?_
       refine at_tn ?_
       refine at_region ?_
       refine r_move rfl rfl rfl ?_
       refine r_arith (r := ((k + 1 : Nat) : Int)) rfl rfl rfl rfl (congrArg some (wi (by omega) (by omega) (by omega))) ?_
       refine r_assign rfl rfl rfl ?_
       refine run_nil ?_
       refine at_tn ?_
       exact nextL ⟨k + 1, hk4, bz_step hks hzk hgood⟩ (by simp only []; omega) ⟨rfl, rfl, rfl, rfl, rfl, rfl, trivial⟩ (weak_picks [some 0, some 1, some 2, some 3] ⟨⟨_, rfl, Blk.le_refl _⟩, ⟨_, rfl, Blk.le_refl _⟩, ⟨_, rfl, Blk.le_refl _⟩, ⟨_, rfl, Blk.le_refl _⟩, trivial⟩ rfl rfl)
    ·
     have hge : k = 4 := (by have := of_decide_eq_false hb4; omega)
     subst hge
     have hok : bbad (p0 :: l) = false := bbad_none (fun j z hj h => hks j hj z h)
     have hbx : bx (p0 :: l) = bz (p0 :: l) := bx_ok hne hok
     have hr := bx_rng (p0 :: l)
     refine at_exit ?_
     refine at_te ?_
     refine at_te ?_
     refine at_be ?_
     refine at_tn ?_
     refine at_seq ?_
     refine at_drawnA (l' := [⟨_,_,_,_,_,_⟩, ⟨_,_,_,_,_,_⟩, ⟨_,_,_,_,_,_⟩, ⟨_,_,_,_,_,_⟩, ⟨_,_,_,_,_,_⟩, ⟨_,_,_,_,_,_⟩, ⟨_,_,_,_,_,_⟩, ⟨_,_,_,_,_,_⟩, ⟨_,_,_,_,_,_⟩, ⟨_,_,_,_,_,_⟩, ⟨_,_,_,_,_,_⟩, ⟨_,_,_,_,_,_⟩, ⟨_,_,_,_,_,_⟩, ⟨_,_,_,_,_,_⟩, ⟨_,_,_,_,_,_⟩]) [3000000] [0, 1, 3, 4, 6, 7, 9, 10, 2, 5, 8, 11, 12, 13, 14] mixed (by kernel_rfl) rfl ?_
     refine r_fieldAddr 1 0 0 rfl rfl rfl rfl rfl ti63 rfl rfl ?_
     refine r_load 1 0 [_] rfl rfl rfl rfl ti3 rfl rfl rfl rfl ?_
     refine r_fieldAddr 1 0 1 rfl rfl rfl rfl rfl ti63 rfl rfl ?_
     refine r_load 1 1 [_] rfl rfl rfl rfl ti3 rfl rfl rfl rfl ?_
     refine r_fieldAddr 1 0 2 rfl rfl rfl rfl rfl ti63 rfl rfl ?_
     refine r_load 1 2 [_] rfl rfl rfl rfl ti3 rfl rfl rfl rfl ?_
     refine r_fieldAddr 1 0 3 rfl rfl rfl rfl rfl ti63 rfl rfl ?_
     refine r_load 1 3 [_] rfl rfl rfl rfl ti3 rfl rfl rfl rfl ?_
     refine r_pcall [_] rfl rfl rfl (c_ref07_Whole (bx (p0 :: l)).1 hr.1.1.1 hr.1.1.2) ?_
     refine r_pcall [_] rfl rfl rfl (c_ref07_Whole (bx (p0 :: l)).2.1 hr.1.2.1 hr.1.2.2) ?_
     refine r_pcall [_] rfl rfl rfl (c_ref07_Whole (bx (p0 :: l)).2.2.1 hr.2.1.1 hr.2.1.2) ?_
     refine r_pcall [_] rfl rfl rfl (c_ref07_Whole (bx (p0 :: l)).2.2.2 hr.2.2.1 hr.2.2.2) ?_
     refine r_build [(0, _), (1, _), (2, _), (3, _)] rfl rfl rfl (bd66_4) ?_
     refine r_alloc [_, _, _, _, _, _, _, _, _, _, _, _, _, _, _, _] 16 (fun g => [_, _, _, _, ⟨some g, 66, _, 16, true⟩]) rfl rfl z66 rfl rfl (fun _ => rfl) (fun g3 => ?_)
     refine r_store rfl 4 0 [_, _, _, _, ⟨some g3, 66, _, 16, true⟩] [_, _, _, _, _, _, _, _, _, _, _, _, _, _, _, _] rfl rfl rfl rfl ti66 rfl rfl rfl rfl rfl ?_
     refine run_nil ?_
     refine at_tn ?_
     refine at_seq ?_
     refine at_region ?_
     refine r_load 4 0 [_, _, _, _, _, _, _, _, _, _, _, _, _, _, _, _] rfl rfl rfl rfl ti66 rfl rfl rfl rfl ?_
     refine r_load 2 0 [_, _, _, _, _, _, _, _, _, _, _, _, _, _, _, _] rfl rfl rfl rfl ti66 rfl rfl rfl rfl ?_
     refine r_eqlAgg rfl rfl rfl rfl gd66 (eq66 (((bx (p0 :: l)).1 : Int) : Rat) (((bx (p0 :: l)).2.1 : Int) : Rat) (((bx (p0 :: l)).2.2.1 : Int) : Rat) (((bx (p0 :: l)).2.2.2 : Int) : Rat) ((loP p0 l).1.floor : Rat) ((hiP p0 l).1.ceil : Rat) ((loP p0 l).2.floor : Rat) ((hiP p0 l).2.ceil : Rat)) ?_
     refine r_know 81 (.bool true) rfl (congrArg Value.bool (eq66_same (by rw [hbx]; rfl) (by rw [hbx]; rfl) (by rw [hbx]; rfl) (by rw [hbx]; rfl))) ?_
     refine r_move rfl rfl rfl ?_
     refine r_fieldAddr 1 0 4 rfl rfl rfl rfl rfl ti63 rfl rfl ?_
     refine r_load 1 4 [_] rfl rfl rfl rfl ti3 rfl rfl rfl rfl ?_
     refine r_cmpInt rfl rfl rfl rfl rfl ?_
     refine r_know 85 (.bool true) rfl (congrArg Value.bool (beq_iff_eq.2 rfl)) ?_
     refine r_pickT rfl rfl rfl rfl ?_
     refine r_move rfl rfl rfl ?_
     refine r_fieldAddr 1 0 5 rfl rfl rfl rfl rfl ti63 rfl rfl ?_
     refine r_load 1 5 [_] rfl rfl rfl rfl ti3 rfl rfl rfl rfl ?_
     refine r_cmpInt rfl rfl rfl rfl rfl ?_
     refine r_know 90 (.bool true) rfl (congrArg Value.bool (beq_iff_eq.2 rfl)) ?_
     refine r_pickT rfl rfl rfl rfl ?_
     refine r_move rfl rfl rfl ?_
     refine r_move rfl rfl rfl ?_
     refine r_cmpInt rfl rfl rfl rfl rfl ?_
     refine r_know 94 (.bool true) rfl (congrArg Value.bool (beq_iff_eq.2 (bxE_ok hne hok))) ?_
     refine r_pickT rfl rfl rfl rfl ?_
     refine r_assign rfl rfl rfl ?_
     refine run_nil ?_
     refine at_tn ?_
     refine at_ret ?_
     refine at_end1 rfl (res_tmp rfl) (fun w hL => ⟨(), ?_, hL.picks [] trivial rfl rfl⟩)
     exact rfl
end Go.Proofs.YthnlafhnpphdhaaGreatDoor
set_option linter.unusedVariables false
namespace Go.Proofs.YthnlafhnpphdhaaGreatDoor.planeBoxes
open Go Go.ChangeShapes Go.WideShapes Go.ChangeAt Go.RowKit Go.Via
theorem big {n : Nat} (h : n ≤ reachBytes) : n ≤ BIG := Nat.le_trans h (by decide)
theorem laid : laidOutB Tryz.prog = true := by kernel_rfl
set_option maxRecDepth 20000 in
theorem contract (H : Type) (enc : TypeId × Value → H) (W : World) (base : Nat) (args : Array Value) (ds gs : List (DataW H)) (before : List MemPlace)
    (hval : ∀ (j : Nat) t v, Tryz.f12.params[j]? = some t → args[j]? = some v → Value.okWide Tryz.prog W .any base t v)
    (hW : DataW.Whole enc Tryz.prog Tryz.f12.params.toList Rows.planeBoxesSpec.vars false W args.toList ds gs before)
    (hsz : (DataW.weightsEach Tryz.prog (Tryz.f12.params.toList ++ (OpenSpec.ofChange Rows.planeBoxesSpec).bare.plain.varTypes Tryz.prog) (ds ++ gs)).all (· ≤ reachBytes) = true) :
    Calls Tryz.prog 12 args W fun e W' => ∃ v, e = .returned v ∧ Rows.planeBoxesSpec.post enc Tryz.prog Tryz.f12 false true false false W args v W' := by
  have hW' := hW
  obtain ⟨p, q, hA0, hV, rfl, hfz, hnd⟩ := hW
  have hA : DataW.TrodAll enc Tryz.prog W 0 (fun _ => true) true Tryz.f12.params.toList args.toList ds p := hA0
  rw [Tryz.params12] at hA hval
  obtain ⟨v0, vs0, d0, ds0, p0, q0, hargs, rfl, rfl, h0, r0⟩ := trodAll_cons hA
  obtain ⟨rfl, rfl, rfl⟩ := trodAll_nil r0
  obtain rfl : args = #[v0] := by cases args; simp_all
  obtain ⟨rfl, rfl⟩ := trodVars_none hV
  have h0k := h0
  obtain ⟨raw, a, b, e0, pre, N, cap, rfl, hc, ha, hL, hs⟩ := openL (hval 0 61 v0 rfl rfl) h0
  clear hA0
  simp only [List.append_nil] at hW'
  have hz : ∀ n ∈ d0.weights Tryz.prog 61, n ≤ reachBytes := fun n hn => by
    have h : (DataW.weightsEach Tryz.prog [61] [d0]).all (· ≤ reachBytes) = true := hsz
    rw [DataW.weightsEach, DataW.weightsEach] at h
    · have := List.all_eq_true.1 h n (List.mem_append_left _ hn)
      simpa using this
    all_goals (intros; simp_all)
  have hz2 : ∀ p ∈ raw, szR p := fun p hp => ⟨big (hz _ (hs p hp _ (by simp))), big (hz _ (hs p hp _ (by simp))), big (hz _ (hs p hp _ (by simp))), big (hz _ (hs p hp _ (by simp)))⟩
  have walk := (c_PlaneBoxes raw hz2 a b e0 pre N cap hc ha).2 W hL
  refine walk.mono fun e W' ⟨_, he, hg⟩ => ?_
  subst he
  have hlt : ∀ x ∈ p0, x.block < W.heap.size := fun x hx => hW'.lt x (by simpa using hx)
  have h1 : DataW.Trod enc Tryz.prog W' 0 (fun b => decide (b < W.heap.size)) true 61 (.slice a raw.length cap) d0 p0 := Below.trod laid (by kernel_rfl) (of_decide_eq_true (by kernel_rfl)) h0k hg.below hlt
  exact ⟨_, rfl, [d0], [], p0 ++ [], [], p0 ++ [], [], by simpa using hW', trodAll_cons_mk (shut_bool Tryz.underlying4 _) trodAll_mk0, trodAll_cons_mk h1 trodAll_mk0, rfl, below_kept hg.below _, fun h => by cases h⟩
abbrev wit : Array Value := #[.slice none 0 0]
theorem reads (os : Os) {H : Type} (enc : TypeId × Value → H) : ∃ places, DataW.whole enc Tryz.prog ((laidWorld os).forCall (fun _ _ => 0) ⟨#[], wit, []⟩).memory Tryz.f12.params.toList Rows.planeBoxesSpec.vars false wit.toList 8 = some ([.nil], [], places) :=
  ⟨[], by kernel_rfl⟩
set_option maxRecDepth 100000 in
theorem lifted (os : Os) (started : os.Started) (H : Type) (enc : TypeId × Value → H) (F : Stop.Interp) :
    ReturnsInHanded {} Tryz.checked os 12 .any ((OpenSpec.ofChange Rows.planeBoxesSpec).preRow enc Tryz.prog Tryz.f12 Rows.planeBoxesRow.domain false Rows.planeBoxesRow.laid) (((OpenSpec.ofChange Rows.planeBoxesSpec).at F).post enc Tryz.prog Tryz.f12 false true false false) := by
  obtain ⟨places, hx⟩ := reads os enc
  refine returnsInHanded_of_row (C := Tryz.checked) (s := OpenSpec.ofChange Rows.planeBoxesSpec) own started (by kernel_rfl) Tryz.func12
    (witness_row_at (enc := enc) (C := Tryz.checked) false (laidWorld os) wit rfl (by kernel_rfl) (by kernel_rfl) (by kernel_rfl)
      (OpenSpec.preRow_of_cond 8 hx (by kernel_rfl) (fun k hk => by cases hk) (by kernel_rfl) (laid_met os _))) ?_
  intro W base args ds gs before hval hW _ _ hsz hL _ _
  exact contract H enc W base args ds gs before hval hW hsz
theorem said : Rows.PlaneBoxesSaid :=
  OpenClaim.holds_of_cond 12 Tryz.f12 rfl rfl rfl rfl rfl rfl rfl ⟨rfl, rfl, rfl, rfl, rfl⟩ rfl rfl rfl rfl rfl (by kernel_rfl) Tryz.func12 (by kernel_rfl)
    (of_decide_eq_true (by kernel_rfl)) (by unfold Func.isWrapper; first | (rw [if_pos (by decide +kernel)]; kernel_rfl) | (rw [if_neg (by decide +kernel)]; exact ⟨rfl, rfl⟩))
    (fun os started H enc _ F => by rw [OpenClaim.pre_eq_preRow]; exact lifted os started H enc F)
/-- No parameter wants a stand-in; the program's own looks are off. -/
theorem plain (f : FuncId) (fn : Func) (hf : Tryz.pinned.checked.prog.funcNamed "viator/viatorlaw07.PlaneBoxes" = some f) (hfn : Tryz.pinned.checked.prog.funcs[f]? = some fn) :
    false = Tryz.pinned.checked.prog.looks [] ∧ ∀ (j : Nat) t, fn.params[j]? = some t → Tryz.pinned.checked.prog.wantsStandIn t = false := by
  obtain rfl : f = 12 := Option.some.inj ((show Tryz.prog.funcNamed "viator/viatorlaw07.PlaneBoxes" = some 12 by kernel_rfl).symm.trans hf) |>.symm
  obtain rfl : fn = Tryz.f12 := (Option.some.inj (Tryz.func12.symm.trans hfn)).symm
  refine ⟨by kernel_rfl, fun j t ht => ?_⟩
  rw [Tryz.params12] at ht
  have hm : t ∈ ([61] : List Nat) := by simpa using Array.mem_of_getElem? ht
  have hw : ∀ t ∈ ([61] : List Nat), Tryz.prog.wantsStandIn t = false := by
    intro t ht
    simp only [List.mem_cons, List.mem_nil_iff, or_false] at ht
    subst ht
    exact (show Tryz.prog.wantsStandIn 61 = false by kernel_rfl)
  exact hw t hm
/-- ████ THE CARD ████ -/
theorem card : Rows.PlaneBoxesCardSaid :=
  Claim7.holds_tied_plain_at .later [] _ _ _ _ said (fun _ h => by cases h) (by kernel_rfl) (fun _ h => by cases h) planeBoxes_row_tie rfl ⟨rfl, rfl⟩ (by kernel_rfl) rfl plain (by kernel_rfl)
end Go.Proofs.YthnlafhnpphdhaaGreatDoor.planeBoxes
namespace Go.Proofs.YthnlafhnpphdhaaGreatDoor
/-- the card -/
theorem planeBoxes_holds : Rows.PlaneBoxesCardSaid := planeBoxes.card
end Go.Proofs.YthnlafhnpphdhaaGreatDoor
