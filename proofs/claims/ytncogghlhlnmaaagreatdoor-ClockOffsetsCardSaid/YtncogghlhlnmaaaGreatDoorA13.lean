/-
  For any exchanges and any device, ClockOffsets returns true: for up to 12 valid exchanges Offset returns the bounds of the definition, or the first error. No further conditions.
-/
import Derived.Test.YtncogghlhlnmaaaGreatDoorA04
import Derived.Test.YtncogghlhlnmaaaGreatDoorA06
import Derived.Test.YtncogghlhlnmaaaGreatDoorA12
set_option linter.unusedVariables false
set_option linter.unusedVariables false
namespace Go.Proofs.YtncogghlhlnmaaaGreatDoor
open Go Go.RowKit Go.Via
set_option maxRecDepth 20000 in
theorem c_law_component (l : List Ex) (a : Option Addr) (b : Option Nat) (pre : List Value) (N cap : Nat) (hc : l.length ≤ cap) (ha : l ≠ [] → a = b.map fun g => ⟨g, pre.length, none⟩) (hn : l.length ≤ 100000) (d : Int) : SCall Tryz.prog 22 [⟨b, 49, pre ++ XLc l, N, false⟩] [.slice a l.length cap, .int .i64 d] (SR (compL l d).length) (fun x => x.v) (fun x => [⟨x.b, 3, ILc (compL l d), x.n, true⟩]) := by
 refine ⟨by kernel_rfl, fun w hL0 => ?_⟩
 refine calls_at (args := [.slice a l.length cap, .int .i64 d]) Tryz.func22 rfl (Nat.le_of_ble_eq_true rfl) hL0 ?_
 show At w ⟨52, [(0, .slice a l.length cap), (1, .int .i64 d)], [⟨b, 49, pre ++ XLc l, N, false⟩]⟩ _
 refine at_seq ?_
 refine at_base 0 rfl (fun hbase => ?_)
 refine at_region (r_assign rfl rfl rfl (run_nil (at_tn (at_seq (at_region (r_move rfl rfl rfl ?_))))))
 refine r_buildSlice [(0, _)] (fun g => [_, ⟨some g, 3, _, 1, true⟩]) rfl rfl rfl (bs33_1) rfl (fun _ => rfl) (fun g0 => ?_)
 refine r_assign rfl rfl rfl (run_nil (at_tn (at_seq (at_seq (at_region (r_assign rfl rfl rfl (run_nil (at_tn (at_block ?_)))))))))
 refine enterL (nt := 52) (ι := {x : Nat × List Int × Option Nat × Nat × Nat // x.1 ≤ l.length ∧ x.2.1.length ≤ x.2.2.2.2 ∧ CO l d x.2.1 ∧ compL l d = cmpR l (l.length - x.1) x.2.1}) (fun ⟨⟨r, o, ob, oN, oc⟩, hr, h0, hO, hR⟩ => [(0, .slice a l.length cap), (5, slv ob 0 o.length oc), (6, .int .i64 (r : Nat))]) (fun ⟨⟨r, o, ob, oN, oc⟩, hr, h0, hO, hR⟩ => [⟨b, 49, pre ++ XLc l, N, false⟩, ⟨ob, 3, ILc o, oN, true⟩]) (fun ⟨⟨r, o, ob, oN, oc⟩, hr, h0, hO, hR⟩ => l.length - r) ⟨(0, [d], some g0, 1, 1), Nat.zero_le _, Nat.le_refl _, CO.init l d, rfl⟩ ⟨rfl, rfl, rfl, trivial⟩ (Weak.refl _) ?_
 rintro ⟨⟨r, o, ob, oN, oc⟩, hr, h0, hO, hR⟩
 show At _ ⟨52, [(0, .slice a l.length cap), (5, slv ob 0 o.length oc), (6, .int .i64 (r : Nat))], [⟨b, 49, pre ++ XLc l, N, false⟩, ⟨ob, 3, ILc o, oN, true⟩]⟩ _
 replace hr : r ≤ l.length := hr
 replace h0 : o.length ≤ oc := h0
 replace hO : CO l d o := hO
 replace hR : compL l d = cmpR l (l.length - r) o := hR
 refine at_seq (at_seq (at_region (r_move rfl rfl rfl (r_move rfl rfl rfl ?_))))
 refine r_lenV u22 rfl rfl rfl ?_
 refine r_cmpInt rfl rfl rfl rfl rfl (run_nil (at_tn ?_))
 refine at_cond rfl (fun hb1 => ?_) (fun hb1 => ?_)
 ·
  have hrlt : r < l.length := (by have := of_decide_eq_true hb1; omega)
  refine at_skip (at_tn (at_seq (at_block (at_seq (at_region (r_assign rfl rfl rfl (run_nil (at_tn (at_block ?_)))))))))
  refine enterL (nt := 52) (ι := {x : Nat × Option Nat × Nat × Nat // x.1 ≤ l.length ∧ ((l.take x.1).foldl cmpF o).length ≤ x.2.2.2}) (fun ⟨⟨i, ob, oN, oc⟩, hi, h1⟩ => [(0, .slice a l.length cap), (5, slv ob 0 ((l.take i).foldl cmpF o).length oc), (6, .int .i64 (r : Nat)), (7, .int .i64 (i : Nat))]) (fun ⟨⟨i, ob, oN, oc⟩, hi, h1⟩ => [⟨b, 49, pre ++ XLc l, N, false⟩, ⟨ob, 3, ILc ((l.take i).foldl cmpF o), oN, true⟩]) (fun ⟨⟨i, ob, oN, oc⟩, hi, h1⟩ => l.length - i) ⟨(0, ob, oN, oc), Nat.zero_le _, h0⟩ ⟨rfl, rfl, rfl, rfl, trivial⟩ (Weak.refl _) ?_
  rintro ⟨⟨i, ob, oN, oc⟩, hi, h1⟩
  show At _ ⟨52, [(0, .slice a l.length cap), (5, slv ob 0 ((l.take i).foldl cmpF o).length oc), (6, .int .i64 (r : Nat)), (7, .int .i64 (i : Nat))], [⟨b, 49, pre ++ XLc l, N, false⟩, ⟨ob, 3, ILc ((l.take i).foldl cmpF o), oN, true⟩]⟩ _
  replace hi : i ≤ l.length := hi
  replace h1 : ((l.take i).foldl cmpF o).length ≤ oc := h1
  refine at_seq (at_seq (at_region (r_move rfl rfl rfl (r_move rfl rfl rfl ?_))))
  refine r_lenV u22 rfl rfl rfl ?_
  refine r_cmpInt rfl rfl rfl rfl rfl (run_nil (at_tn ?_))
  refine at_cond rfl (fun hb3 => ?_) (fun hb3 => ?_)
  ·
   have hlt : i < l.length := (by have := of_decide_eq_true hb3; omega)
   obtain ⟨x, hx⟩ : ∃ x, l[i]? = some x := ⟨l[i], List.getElem?_eq_getElem hlt⟩
   have hci := (CO.fold hO i).len
   obtain ⟨gb, hgb⟩ := ex_base hbase (by omega)
   replace hgb : b = some gb := hgb
   subst hgb
   obtain rfl : a = some ⟨gb, pre.length, none⟩ := ha (fun e => by rw [e] at hlt; cases hlt)
   refine at_skip (at_tn (at_seq (at_block (at_seq (at_region (r_move rfl rfl rfl (r_move rfl rfl rfl (r_move rfl rfl rfl ?_))))))))
   refine r_indexAddr 0 (pre.length + i * 5) u22 ti49 rfl rfl rfl rfl rfl (by omega) (by omega) (pre_ne (XLc_ne (by omega))) (by show pre.length + Int.toNat _ * 5 = _; omega) ?_
   refine r_fieldAddr 0 (pre.length + i * 5) 0 rfl rfl rfl rfl rfl ti49 rfl rfl ?_
   refine r_load (v := .int .i64 x.f) 0 (pre.length + (i * 5 + 0)) _ rfl rfl rfl rfl ti3 (pre_get (XLc_f hx) rfl) rfl (by decide) rfl ?_
   refine r_scall0 [_, _] [1] rfl rfl rfl (c_law_has ((l.take i).foldl cmpF o) ob oN oc h1 (by omega) x.f) ⟨⟨_, rfl, le_share⟩, trivial⟩ rfl ?_
   refine r_move rfl rfl rfl ?_
   refine r_split 29 rfl (fun hb4 => ?_) (fun hb4 => ?_)
   ·
    have hcy := cmpF_yes hx (by rw [hb4]; rfl) (o := o)
    refine r_no rfl rfl rfl (r_no rfl rfl rfl (r_no rfl rfl rfl (r_no rfl rfl rfl (r_no rfl rfl rfl (r_no rfl rfl rfl (r_no rfl rfl rfl (r_pickT rfl rfl rfl rfl (run_nil (at_tn (at_condT rfl ?_))))))))))
    refine at_drawn (l' := [⟨_,_,_,_,_,_⟩, ⟨_,_,_,_,_,_⟩, ⟨_,_,_,_,_,_⟩, ⟨_,_,_,_,_,_⟩, ⟨_,_,_,_,_,_⟩, ⟨_,_,_,_,_,_⟩, ⟨_,_,_,_,_,_⟩, ⟨_,_,_,_,_,_⟩, ⟨_,_,_,_,_,_⟩, ⟨_,_,_,_,_,_⟩, ⟨_,_,_,_,_,_⟩, ⟨_,_,_,_,_,_⟩, ⟨_,_,_,_,_,_⟩, ⟨_,_,_,_,_,_⟩]) [1] [0, 1, 2, 3, 4, 5, 7, 8, 9, 10, 11, 6, 12, 13] mixed (by kernel_rfl) rfl (by kernel_rfl) ?_
    refine r_move rfl rfl rfl (r_move rfl rfl rfl (r_move rfl rfl rfl ?_))
    refine r_indexAddr 0 (pre.length + i * 5) u22 ti49 rfl rfl rfl rfl rfl (by omega) (by omega) (pre_ne (XLc_ne (by omega))) (by show pre.length + Int.toNat _ * 5 = _; omega) ?_
    refine r_fieldAddr 0 (pre.length + i * 5) 0 rfl rfl rfl rfl rfl ti49 rfl rfl ?_
    refine r_load (v := .int .i64 x.f) 0 (pre.length + (i * 5 + 0)) _ rfl rfl rfl rfl ti3 (pre_get (XLc_f hx) rfl) rfl (by decide) rfl ?_
    refine r_move rfl rfl rfl (r_move rfl rfl rfl ?_)
    refine r_indexAddr 0 (pre.length + i * 5) u22 ti49 rfl rfl rfl rfl rfl (by omega) (by omega) (pre_ne (XLc_ne (by omega))) (by show pre.length + Int.toNat _ * 5 = _; omega) ?_
    refine r_fieldAddr 0 (pre.length + i * 5) 1 rfl rfl rfl rfl rfl ti49 rfl rfl ?_
    refine r_load (v := .int .i64 x.t) 0 (pre.length + (i * 5 + 1)) _ rfl rfl rfl rfl ti3 (pre_get (XLc_t hx) rfl) rfl (by decide) rfl ?_
    refine r_kcall1 [_, _] [1] 1 (fun (y : SR (insS (((l.take i).foldl cmpF o)) x.f).length) => y.v) (fun y => ⟨y.b, 3, ILc (insS (((l.take i).foldl cmpF o)) x.f), y.n, true⟩) (fun y => [_, ⟨y.b, 3, ILc (insS (((l.take i).foldl cmpF o)) x.f), y.n, true⟩]) rfl rfl rfl rfl rfl (c_law_insert (((l.take i).foldl cmpF o)) ob oN oc h1 (by omega) x.f) ⟨⟨_, rfl, le_share⟩, trivial⟩ rfl (insNew_own _ _) (fun z => ins_merge h1 (k := 1) rfl z) (fun _ => rfl) (fun y1 => ?_)
    refine r_kcall1 [_, _] [1] 1 (fun (y : SR (insS (insS ((l.take i).foldl cmpF o) x.f) x.t).length) => y.v) (fun y => ⟨y.b, 3, ILc (insS (insS ((l.take i).foldl cmpF o) x.f) x.t), y.n, true⟩) (fun y => [_, ⟨y.b, 3, ILc (insS (insS ((l.take i).foldl cmpF o) x.f) x.t), y.n, true⟩]) rfl rfl rfl rfl rfl (c_law_insert (insS ((l.take i).foldl cmpF o) x.f) y1.b y1.n y1.cap y1.h (by have := insS_len ((l.take i).foldl cmpF o) x.f; omega) x.t) ⟨⟨_, rfl, le_share⟩, trivial⟩ rfl (insNew_own _ _) (fun z => ins_merge y1.h (k := 1) rfl z) (fun _ => rfl) (fun y2 => ?_)
    refine r_assign rfl rfl rfl (run_nil (at_bn (at_tn (at_region (r_move rfl rfl rfl ?_)))))
    refine r_arith (r := ((i + 1 : Nat) : Int)) rfl rfl rfl rfl (congrArg some (wi (by omega) (by omega) (by omega))) ?_
    refine r_assign rfl rfl rfl (run_nil (at_tn ?_))
    exact nextL ⟨(i + 1, y2.b, y2.n, y2.cap), hlt, by rw [hcy]; exact y2.h⟩ (by show l.length - (i + 1) < l.length - i; omega) ⟨rfl, (look_val rfl (by rw [hcy]; rfl)), rfl, rfl, trivial⟩ (weak_picks [some 0, some 1] ⟨⟨_, rfl, Blk.le_refl _⟩, ⟨_, rfl, le_same (by show Blk.mk _ _ _ _ _ = Blk.mk _ _ _ _ _; rw [hcy])⟩, trivial⟩ rfl rfl)
   ·
    have h29 := hb4
    refine r_move rfl rfl rfl (r_move rfl rfl rfl (r_move rfl rfl rfl ?_))
    refine r_indexAddr 0 (pre.length + i * 5) u22 ti49 rfl rfl rfl rfl rfl (by omega) (by omega) (pre_ne (XLc_ne (by omega))) (by show pre.length + Int.toNat _ * 5 = _; omega) ?_
    refine r_fieldAddr 0 (pre.length + i * 5) 1 rfl rfl rfl rfl rfl ti49 rfl rfl ?_
    refine r_load (v := .int .i64 x.t) 0 (pre.length + (i * 5 + 1)) _ rfl rfl rfl rfl ti3 (pre_get (XLc_t hx) rfl) rfl (by decide) rfl ?_
    refine r_scall0 [_, _] [1] rfl rfl rfl (c_law_has ((l.take i).foldl cmpF o) ob oN oc h1 (by omega) x.t) ⟨⟨_, rfl, le_share⟩, trivial⟩ rfl ?_
    refine r_pickF rfl rfl rfl rfl (run_nil (at_tn ?_))
    refine at_cond rfl (fun hb5 => ?_) (fun hb5 => ?_)
    ·
     have hcy := cmpF_yes hx (by rw [h29, hb5]; rfl) (o := o)
     refine at_drawn (l' := [⟨_,_,_,_,_,_⟩, ⟨_,_,_,_,_,_⟩, ⟨_,_,_,_,_,_⟩, ⟨_,_,_,_,_,_⟩, ⟨_,_,_,_,_,_⟩, ⟨_,_,_,_,_,_⟩, ⟨_,_,_,_,_,_⟩, ⟨_,_,_,_,_,_⟩, ⟨_,_,_,_,_,_⟩, ⟨_,_,_,_,_,_⟩, ⟨_,_,_,_,_,_⟩, ⟨_,_,_,_,_,_⟩, ⟨_,_,_,_,_,_⟩, ⟨_,_,_,_,_,_⟩]) [1] [0, 1, 2, 3, 4, 5, 7, 8, 9, 10, 11, 6, 12, 13] mixed (by kernel_rfl) rfl (by kernel_rfl) ?_
     refine r_move rfl rfl rfl (r_move rfl rfl rfl (r_move rfl rfl rfl ?_))
     refine r_indexAddr 0 (pre.length + i * 5) u22 ti49 rfl rfl rfl rfl rfl (by omega) (by omega) (pre_ne (XLc_ne (by omega))) (by show pre.length + Int.toNat _ * 5 = _; omega) ?_
     refine r_fieldAddr 0 (pre.length + i * 5) 0 rfl rfl rfl rfl rfl ti49 rfl rfl ?_
     refine r_load (v := .int .i64 x.f) 0 (pre.length + (i * 5 + 0)) _ rfl rfl rfl rfl ti3 (pre_get (XLc_f hx) rfl) rfl (by decide) rfl ?_
     refine r_move rfl rfl rfl (r_move rfl rfl rfl ?_)
     refine r_indexAddr 0 (pre.length + i * 5) u22 ti49 rfl rfl rfl rfl rfl (by omega) (by omega) (pre_ne (XLc_ne (by omega))) (by show pre.length + Int.toNat _ * 5 = _; omega) ?_
     refine r_fieldAddr 0 (pre.length + i * 5) 1 rfl rfl rfl rfl rfl ti49 rfl rfl ?_
     refine r_load (v := .int .i64 x.t) 0 (pre.length + (i * 5 + 1)) _ rfl rfl rfl rfl ti3 (pre_get (XLc_t hx) rfl) rfl (by decide) rfl ?_
     refine r_kcall1 [_, _] [1] 1 (fun (y : SR (insS (((l.take i).foldl cmpF o)) x.f).length) => y.v) (fun y => ⟨y.b, 3, ILc (insS (((l.take i).foldl cmpF o)) x.f), y.n, true⟩) (fun y => [_, ⟨y.b, 3, ILc (insS (((l.take i).foldl cmpF o)) x.f), y.n, true⟩]) rfl rfl rfl rfl rfl (c_law_insert (((l.take i).foldl cmpF o)) ob oN oc h1 (by omega) x.f) ⟨⟨_, rfl, le_share⟩, trivial⟩ rfl (insNew_own _ _) (fun z => ins_merge h1 (k := 1) rfl z) (fun _ => rfl) (fun y1 => ?_)
     refine r_kcall1 [_, _] [1] 1 (fun (y : SR (insS (insS ((l.take i).foldl cmpF o) x.f) x.t).length) => y.v) (fun y => ⟨y.b, 3, ILc (insS (insS ((l.take i).foldl cmpF o) x.f) x.t), y.n, true⟩) (fun y => [_, ⟨y.b, 3, ILc (insS (insS ((l.take i).foldl cmpF o) x.f) x.t), y.n, true⟩]) rfl rfl rfl rfl rfl (c_law_insert (insS ((l.take i).foldl cmpF o) x.f) y1.b y1.n y1.cap y1.h (by have := insS_len ((l.take i).foldl cmpF o) x.f; omega) x.t) ⟨⟨_, rfl, le_share⟩, trivial⟩ rfl (insNew_own _ _) (fun z => ins_merge y1.h (k := 1) rfl z) (fun _ => rfl) (fun y2 => ?_)
     refine r_assign rfl rfl rfl (run_nil (at_bn (at_tn (at_region (r_move rfl rfl rfl ?_)))))
     refine r_arith (r := ((i + 1 : Nat) : Int)) rfl rfl rfl rfl (congrArg some (wi (by omega) (by omega) (by omega))) ?_
     refine r_assign rfl rfl rfl (run_nil (at_tn ?_))
     exact nextL ⟨(i + 1, y2.b, y2.n, y2.cap), hlt, by rw [hcy]; exact y2.h⟩ (by show l.length - (i + 1) < l.length - i; omega) ⟨rfl, (look_val rfl (by rw [hcy]; rfl)), rfl, rfl, trivial⟩ (weak_picks [some 0, some 1] ⟨⟨_, rfl, Blk.le_refl _⟩, ⟨_, rfl, le_same (by show Blk.mk _ _ _ _ _ = Blk.mk _ _ _ _ _; rw [hcy])⟩, trivial⟩ rfl rfl)
    ·
     have hcy := cmpF_no hx (by rw [h29, hb5]; rfl) (o := o)
     refine at_skip (at_bn (at_tn (at_region (r_move rfl rfl rfl ?_))))
     refine r_arith (r := ((i + 1 : Nat) : Int)) rfl rfl rfl rfl (congrArg some (wi (by omega) (by omega) (by omega))) ?_
     refine r_assign rfl rfl rfl (run_nil (at_tn ?_))
     exact nextL ⟨(i + 1, ob, oN, oc), hlt, by rw [hcy]; exact h1⟩ (by show l.length - (i + 1) < l.length - i; omega) ⟨rfl, (look_val rfl (by rw [hcy])), rfl, rfl, trivial⟩ (weak_picks [some 0, some 1] ⟨⟨_, rfl, Blk.le_refl _⟩, ⟨_, rfl, le_same (by show Blk.mk _ _ _ _ _ = Blk.mk _ _ _ _ _; rw [hcy])⟩, trivial⟩ rfl rfl)
  ·
   have hge : i = l.length := (by have := of_decide_eq_false hb3; omega)
   subst hge
   refine at_exit (at_te (at_te (at_be (at_bn (at_tn (at_region (r_move rfl rfl rfl ?_)))))))
   refine r_arith (r := ((r + 1 : Nat) : Int)) rfl rfl rfl rfl (congrArg some (wi (by omega) (by omega) (by omega))) ?_
   refine r_assign rfl rfl rfl (run_nil (at_tn ?_))
   have hte : l.take l.length = l := List.take_length
   exact nextL ⟨(r + 1, ((l.take l.length).foldl cmpF o), ob, oN, oc), hrlt, h1, CO.fold hO l.length, hR.trans (by show cmpR l (l.length - r) o = cmpR l (l.length - (r + 1)) _; rw [show l.length - r = (l.length - (r + 1)) + 1 by omega, hte]; rfl)⟩ (by show l.length - (r + 1) < l.length - r; omega) ⟨rfl, rfl, rfl, trivial⟩ (weak_picks [some 0, some 1] ⟨⟨_, rfl, Blk.le_refl _⟩, ⟨_, rfl, Blk.le_refl _⟩, trivial⟩ rfl rfl)
 ·
  have hge : r = l.length := (by have := of_decide_eq_false hb1; omega)
  subst hge
  have hcE : compL l d = o := by rw [hR, Nat.sub_self]; rfl
  refine at_exit (at_te (at_te (at_be (at_tn (at_seq (at_region (r_move rfl rfl rfl (r_assign rfl rfl rfl (run_nil (at_tn (at_ret ?_)))))))))))
  refine at_end1 rfl (res_tmp rfl) (fun w hL => ⟨⟨ob, oN, oc, by rw [hcE]; exact h0⟩, ?_, hL.picks [some 1] ⟨⟨_, rfl, le_same (congrArg (fun c => (⟨ob, 3, ILc c, oN, true⟩ : Blk)) hcE)⟩, trivial⟩ rfl rfl⟩)
  exact congrArg (fun c => Ending.returned (slv ob 0 (List.length c) oc)) hcE.symm
end Go.Proofs.YtncogghlhlnmaaaGreatDoor
set_option linter.unusedVariables false
namespace Go.Proofs.YtncogghlhlnmaaaGreatDoor
open Go Go.RowKit Go.Via
set_option maxRecDepth 20000 in
set_option maxHeartbeats 4000000 in
theorem c_law_offset (l : List Ex) (a : Option Addr) (b : Option Nat) (pre : List Value) (N cap : Nat) (hc : l.length ≤ cap) (ha : l ≠ [] → a = b.map fun g => ⟨g, pre.length, none⟩) (hok : ∀ x ∈ l, okX x) (hn : l.length ≤ 1000) (d : Int) : SCall Tryz.prog 15 [⟨b, 49, pre ++ XLc l, N, false⟩] [.slice a l.length cap, .int .i64 d] Unit (fun _ => .tuple #[.int .i64 (mLo l d), .int .i64 (mHi l d), .int .i64 (mE_ l d)]) (fun _ => []) := by
 refine ⟨by kernel_rfl, fun w hL0 => ?_⟩
 refine calls_at (args := [.slice a l.length cap, .int .i64 d]) Tryz.func15 rfl (Nat.le_of_ble_eq_true rfl) hL0 ?_
 show At w ⟨77, [(0, .slice a l.length cap), (1, .int .i64 d)], [⟨b, 49, pre ++ XLc l, N, false⟩]⟩ _
 refine at_seq (at_region (r_assign rfl rfl rfl (r_assign rfl rfl rfl (r_assign rfl rfl rfl (run_nil (at_tn (at_seq (at_seq (at_region (r_move rfl rfl rfl (r_cmpInt rfl rfl rfl rfl rfl (r_move rfl rfl rfl ?_))))))))))))
 refine r_split 13 rfl (fun hb0 => ?_) (fun hb0 => ?_)
 ·
  have h13 : d < 0 := of_decide_eq_true hb0
  obtain ⟨hE, hLo, hHi⟩ := mE_1 (l := l) (.inl h13)
  refine r_no rfl rfl rfl (r_no rfl rfl rfl (r_pickT rfl rfl rfl rfl (run_nil (at_tn (at_condT rfl (at_seq (at_region (r_assign rfl rfl rfl (r_assign rfl rfl rfl (r_assign rfl rfl rfl (run_nil (at_tn (at_ret (at_tr ?_))))))))))))))
  refine at_end3 rfl (res_tmp rfl) (res_tmp rfl) (res_tmp rfl) (fun w hL => ⟨(), ?_, hL.picks [] trivial rfl rfl⟩)
  rw [hE, hLo, hHi]
 ·
  have h13 : ¬ d < 0 := of_decide_eq_false hb0
  refine r_move rfl rfl rfl (r_cmpInt rfl rfl rfl rfl rfl (r_pickF rfl rfl rfl rfl (run_nil (at_tn ?_))))
  refine at_cond rfl (fun hb1 => ?_) (fun hb1 => ?_)
  ·
   have h16 : 1073741824 < d := of_decide_eq_true hb1
   obtain ⟨hE, hLo, hHi⟩ := mE_1 (l := l) (.inr h16)
   refine at_seq (at_region (r_assign rfl rfl rfl (r_assign rfl rfl rfl (r_assign rfl rfl rfl (run_nil (at_tn (at_ret (at_tr ?_))))))))
   refine at_end3 rfl (res_tmp rfl) (res_tmp rfl) (res_tmp rfl) (fun w hL => ⟨(), ?_, hL.picks [] trivial rfl rfl⟩)
   rw [hE, hLo, hHi]
  ·
   have h16 : ¬ 1073741824 < d := of_decide_eq_false hb1
   have hr : ¬ (d < 0 ∨ 1073741824 < d) := by omega
   refine at_skip (at_tn (at_seq (at_seq (at_region (r_move rfl rfl rfl (r_cmpInt rfl rfl rfl rfl rfl (r_move rfl rfl rfl ?_)))))))
   refine r_split 19 rfl (fun hb2 => ?_) (fun hb2 => ?_)
   ·
    have h19 : d = 0 := eq_of_beq hb2
    obtain ⟨hE, hLo, hHi⟩ := mE_2 (l := l) hr (.inl h19)
    refine r_no rfl rfl rfl (r_no rfl rfl rfl (r_no rfl rfl rfl (r_no rfl rfl rfl (r_no rfl rfl rfl (r_pickT rfl rfl rfl rfl (run_nil (at_tn (at_condT rfl (at_seq (at_region (r_assign rfl rfl rfl (r_assign rfl rfl rfl (r_assign rfl rfl rfl (run_nil (at_tn (at_ret (at_tr ?_)))))))))))))))))
    refine at_end3 rfl (res_tmp rfl) (res_tmp rfl) (res_tmp rfl) (fun w hL => ⟨(), ?_, hL.picks [] trivial rfl rfl⟩)
    rw [hE, hLo, hHi]
   ·
    have h19 : d ≠ 0 := ne_of_beq_false hb2
    refine r_move rfl rfl rfl ?_
    refine r_scall [_] [0] rfl rfl rfl (c_law_devices l a b pre N cap hc ha (by omega)) ⟨⟨_, rfl, Blk.le_refl _⟩, trivial⟩ rfl (.inr fun z b hb => by rw [List.mem_singleton.1 hb]) (fun zd => ?_)
    refine r_move rfl rfl rfl ?_
    refine r_scall0 [_, _] [1] rfl rfl rfl (c_law_has (devL l) zd.b zd.n zd.cap zd.h (by have := devL_len l; omega) d) ⟨⟨_, rfl, le_share⟩, trivial⟩ rfl ?_
    refine r_not rfl rfl rfl (r_pickF rfl rfl rfl rfl (run_nil (at_tn ?_)))
    refine at_cond rfl (fun hb3 => ?_) (fun hb3 => ?_)
    ·
     have h25 : (devL l).contains d = false := by simpa using hb3
     obtain ⟨hE, hLo, hHi⟩ := mE_2 (l := l) hr (.inr h25)
     refine at_seq (at_region (r_assign rfl rfl rfl (r_assign rfl rfl rfl (r_assign rfl rfl rfl (run_nil (at_tn (at_ret (at_tr ?_))))))))
     refine at_end3 rfl (res_tmp rfl) (res_tmp rfl) (res_tmp rfl) (fun w hL => ⟨(), ?_, hL.picks [] trivial rfl rfl⟩)
     rw [hE, hLo, hHi]
    ·
     have h25 : (devL l).contains d = true := by simpa using hb3
     have hz : ¬ (d = 0 ∨ (devL l).contains d = false) := fun h => by rcases h with h | h; exact h19 h; rw [h25] at h; cases h
     refine at_skip (at_tn (at_seq (at_region (r_move rfl rfl rfl (r_move rfl rfl rfl ?_)))))
     refine r_scall [_, _] [0] rfl rfl rfl (c_law_component l a b pre N cap hc ha (by omega) d) ⟨⟨_, rfl, Blk.le_refl _⟩, trivial⟩ rfl (.inr fun z b hb => by rw [List.mem_singleton.1 hb]) (fun zc => ?_)
     obtain ⟨cb, cN, cc, hcc⟩ := zc
     have hcl := compL_len l d
     refine r_assign rfl rfl rfl (run_nil (at_tn (at_seq (at_seq (at_region (r_move rfl rfl rfl (r_move rfl rfl rfl ?_)))))))
     refine r_scall0 [_, _] [0, 2] rfl rfl rfl (c_law_contradicted l a b pre N cap hc ha hok hn (compL l d) cb cN cc hcc (by omega)) ⟨⟨_, rfl, Blk.le_refl _⟩, ⟨_, rfl, le_share⟩, trivial⟩ rfl ?_
     refine run_nil (at_tn ?_)
     refine at_cond rfl (fun hb4 => ?_) (fun hb4 => ?_)
     ·
      have h31 : conB l (compL l d) = true := hb4
      obtain ⟨hE, hLo, hHi⟩ := mE_3 hr hz h31
      refine at_seq (at_region (r_assign rfl rfl rfl (r_assign rfl rfl rfl (r_assign rfl rfl rfl (run_nil (at_tn (at_ret (at_tr ?_))))))))
      refine at_end3 rfl (res_tmp rfl) (res_tmp rfl) (res_tmp rfl) (fun w hL => ⟨(), ?_, hL.picks [] trivial rfl rfl⟩)
      rw [hE, hLo, hHi]
     ·
      have h31 : conB l (compL l d) = false := hb4
      refine at_skip (at_tn (at_seq (at_region (r_move rfl rfl rfl (r_move rfl rfl rfl (r_move rfl rfl rfl ?_))))))
      refine r_lenV u33 rfl rfl rfl ?_
      refine r_scall [_, _, _, _] [0, 2] rfl rfl rfl (c_law_least l a b pre N cap hc ha hok hn (compL l d) cb cN cc hcc (by omega) 0 (compL l d).length (by omega)) ⟨⟨_, rfl, Blk.le_refl _⟩, ⟨_, rfl, le_share⟩, trivial⟩ rfl (.inr fun z b hb => by rw [List.mem_singleton.1 hb]) (fun z => ?_)
      obtain ⟨tb, tn, tc, th⟩ := z
      refine r_move rfl rfl rfl (r_move rfl rfl rfl (r_move rfl rfl rfl (r_move rfl rfl rfl ?_)))
      refine r_lenV u33 rfl rfl rfl ?_
      refine r_scall [_, _, _, _] [0, 2] rfl rfl rfl (c_law_least l a b pre N cap hc ha hok hn (compL l d) cb cN cc hcc (by omega) d (compL l d).length (by omega)) ⟨⟨_, rfl, Blk.le_refl _⟩, ⟨_, rfl, le_share⟩, trivial⟩ rfl (.inr fun z b hb => by rw [List.mem_singleton.1 hb]) (fun z => ?_)
      obtain ⟨ub, un, uc, uh⟩ := z
      refine r_assign rfl rfl rfl (r_assign rfl rfl rfl (run_nil (at_tn (at_seq (at_region (r_assign rfl rfl rfl (r_assign rfl rfl rfl (run_nil (at_tn (at_seq (at_seq (at_region (r_assign rfl rfl rfl (run_nil (at_tn (at_block ?_))))))))))))))))
      refine enterL (nt := 77) (ι := {i : Nat // i ≤ (compL l d).length}) (fun ⟨i, hi⟩ => [(1, .int .i64 d), (4, .int .i64 (pickJ (compL l d) (leastJ l (compL l d) d (compL l d).length) 0 i)), (5, .int .i64 (pickJ (compL l d) (leastJ l (compL l d) 0 (compL l d).length) d i)), (7, slv cb 0 (compL l d).length cc), (8, slv tb 0 (leastJ l (compL l d) 0 (compL l d).length).length tc), (9, slv ub 0 (leastJ l (compL l d) d (compL l d).length).length uc), (10, .int .i64 (i : Nat))]) (fun ⟨i, hi⟩ => [⟨b, 49, pre ++ XLc l, N, false⟩, ⟨zd.b, 3, ILc (devL l), zd.n, true⟩, ⟨cb, 3, ILc (compL l d), cN, true⟩, ⟨tb, 3, ILc (leastJ l (compL l d) 0 (compL l d).length), tn, true⟩, ⟨ub, 3, ILc (leastJ l (compL l d) d (compL l d).length), un, true⟩]) (fun ⟨i, hi⟩ => (compL l d).length - i) ⟨0, Nat.zero_le _⟩ ⟨rfl, rfl, rfl, rfl, rfl, rfl, rfl, trivial⟩ (Weak.refl _) ?_
      rintro ⟨i, hi⟩
      show At _ ⟨77, [(1, .int .i64 d), (4, .int .i64 (pickJ (compL l d) (leastJ l (compL l d) d (compL l d).length) 0 i)), (5, .int .i64 (pickJ (compL l d) (leastJ l (compL l d) 0 (compL l d).length) d i)), (7, slv cb 0 (compL l d).length cc), (8, slv tb 0 (leastJ l (compL l d) 0 (compL l d).length).length tc), (9, slv ub 0 (leastJ l (compL l d) d (compL l d).length).length uc), (10, .int .i64 (i : Nat))], [⟨b, 49, pre ++ XLc l, N, false⟩, ⟨zd.b, 3, ILc (devL l), zd.n, true⟩, ⟨cb, 3, ILc (compL l d), cN, true⟩, ⟨tb, 3, ILc (leastJ l (compL l d) 0 (compL l d).length), tn, true⟩, ⟨ub, 3, ILc (leastJ l (compL l d) d (compL l d).length), un, true⟩]⟩ _
      refine at_base 2 rfl (fun hbc => ?_)
      refine at_base 3 rfl (fun hbt => ?_)
      refine at_base 4 rfl (fun hbu => ?_)
      refine at_seq (at_seq (at_region (r_move rfl rfl rfl (r_move rfl rfl rfl ?_))))
      refine r_lenV u33 rfl rfl rfl ?_
      refine r_cmpInt rfl rfl rfl rfl rfl (run_nil (at_tn ?_))
      refine at_cond rfl (fun hb6 => ?_) (fun hb6 => ?_)
      ·
       have hlt : i < (compL l d).length := (by have := of_decide_eq_true hb6; omega)
       have hl1 : (leastJ l (compL l d) 0 (compL l d).length).length = (compL l d).length := leastJ_len ..
       have hl2 : (leastJ l (compL l d) d (compL l d).length).length = (compL l d).length := leastJ_len ..
       obtain ⟨gc, hgc⟩ := il_base (pre := []) hbc (by omega)
       replace hgc : cb = some gc := hgc
       subst hgc
       obtain ⟨gt, hgt⟩ := il_base (pre := []) hbt (by omega)
       replace hgt : tb = some gt := hgt
       subst hgt
       obtain ⟨gu, hgu⟩ := il_base (pre := []) hbu (by omega)
       replace hgu : ub = some gu := hgu
       subst hgu
       obtain ⟨cz, hcz⟩ : ∃ z, ((compL l d))[i]? = some z := ⟨_, List.getElem?_eq_getElem (hlt)⟩
       obtain ⟨tz, htz⟩ : ∃ z, ((leastJ l (compL l d) 0 (compL l d).length))[i]? = some z := ⟨_, List.getElem?_eq_getElem (by omega)⟩
       obtain ⟨uz, huz⟩ : ∃ z, ((leastJ l (compL l d) d (compL l d).length))[i]? = some z := ⟨_, List.getElem?_eq_getElem (by omega)⟩
       refine at_skip (at_tn (at_seq (at_block (at_seq (at_seq (at_region (r_move rfl rfl rfl (r_move rfl rfl rfl ?_))))))))
       refine r_indexAddr 2 (i * 1) u33 ti3 rfl rfl rfl rfl rfl (by omega) (by omega) (ILc_ne (by omega)) (by show 0 + Int.toNat _ * 1 = _; omega) ?_
       refine r_load (v := .int .i64 cz) 2 (i * 1) _ rfl rfl rfl rfl ti3 (ILc_get hcz) rfl (by decide) rfl ?_
       refine r_move rfl rfl rfl (r_cmpInt rfl rfl rfl rfl rfl (run_nil (at_tn ?_)))
       refine at_cond rfl (fun hb7 => ?_) (fun hb7 => ?_)
       ·
        have h54 : cz = d := eq_of_beq hb7
        have hp1 := pickJ_yes (vals := (leastJ l (compL l d) 0 (compL l d).length)) (by rw [hcz, h54]) htz (z := d)
        refine at_region (r_move rfl rfl rfl (r_move rfl rfl rfl ?_))
        refine r_indexAddr 3 (i * 1) u33 ti3 rfl rfl rfl rfl rfl (by omega) (by omega) (ILc_ne (by omega)) (by show 0 + Int.toNat _ * 1 = _; omega) ?_
        refine r_load (v := .int .i64 tz) 3 (i * 1) _ rfl rfl rfl rfl ti3 (ILc_get htz) rfl (by decide) rfl ?_
        refine r_assign rfl rfl rfl (run_nil (at_tn (at_seq (at_region (r_move rfl rfl rfl (r_move rfl rfl rfl ?_))))))
        refine r_indexAddr 2 (i * 1) u33 ti3 rfl rfl rfl rfl rfl (by omega) (by omega) (ILc_ne (by omega)) (by show 0 + Int.toNat _ * 1 = _; omega) ?_
        refine r_load (v := .int .i64 cz) 2 (i * 1) _ rfl rfl rfl rfl ti3 (ILc_get hcz) rfl (by decide) rfl ?_
        refine r_cmpInt rfl rfl rfl rfl rfl (run_nil (at_tn ?_))
        refine at_cond rfl (fun hb8 => ?_) (fun hb8 => ?_)
        ·
         have h63 : cz = 0 := eq_of_beq hb8
         have hp2 := pickJ_yes (vals := (leastJ l (compL l d) d (compL l d).length)) (by rw [hcz, h63]) huz (z := 0)
         refine at_region (r_move rfl rfl rfl (r_move rfl rfl rfl ?_))
         refine r_indexAddr 4 (i * 1) u33 ti3 rfl rfl rfl rfl rfl (by omega) (by omega) (ILc_ne (by omega)) (by show 0 + Int.toNat _ * 1 = _; omega) ?_
         refine r_load (v := .int .i64 uz) 4 (i * 1) _ rfl rfl rfl rfl ti3 (ILc_get huz) rfl (by decide) rfl ?_
         refine r_assign rfl rfl rfl (run_nil (at_bn (at_tn (at_region (r_move rfl rfl rfl ?_)))))
         refine r_arith (r := ((i + 1 : Nat) : Int)) rfl rfl rfl rfl (congrArg some (wi (by omega) (by omega) (by omega))) ?_
         refine r_assign rfl rfl rfl (run_nil (at_tn ?_))
         exact nextL ⟨i + 1, hlt⟩ (by simp only []; omega) ⟨rfl, (look_val rfl (congrArg (Value.int .i64) hp2.symm)), (look_val rfl (congrArg (Value.int .i64) hp1.symm)), rfl, rfl, rfl, rfl, trivial⟩ (Weak.refl _)
        ·
         have h63 : cz ≠ 0 := ne_of_beq_false hb8
         have hp2 := pickJ_no (vals := (leastJ l (compL l d) d (compL l d).length)) hcz h63
         refine at_skip (at_bn (at_tn (at_region (r_move rfl rfl rfl ?_))))
         refine r_arith (r := ((i + 1 : Nat) : Int)) rfl rfl rfl rfl (congrArg some (wi (by omega) (by omega) (by omega))) ?_
         refine r_assign rfl rfl rfl (run_nil (at_tn ?_))
         exact nextL ⟨i + 1, hlt⟩ (by simp only []; omega) ⟨rfl, (look_val rfl (congrArg (Value.int .i64) hp2.symm)), (look_val rfl (congrArg (Value.int .i64) hp1.symm)), rfl, rfl, rfl, rfl, trivial⟩ (Weak.refl _)
       ·
        have h54 : cz ≠ d := ne_of_beq_false hb7
        have hp1 := pickJ_no (vals := (leastJ l (compL l d) 0 (compL l d).length)) hcz h54
        refine at_skip (at_tn (at_seq (at_region (r_move rfl rfl rfl (r_move rfl rfl rfl ?_)))))
        refine r_indexAddr 2 (i * 1) u33 ti3 rfl rfl rfl rfl rfl (by omega) (by omega) (ILc_ne (by omega)) (by show 0 + Int.toNat _ * 1 = _; omega) ?_
        refine r_load (v := .int .i64 cz) 2 (i * 1) _ rfl rfl rfl rfl ti3 (ILc_get hcz) rfl (by decide) rfl ?_
        refine r_cmpInt rfl rfl rfl rfl rfl (run_nil (at_tn ?_))
        refine at_cond rfl (fun hb8 => ?_) (fun hb8 => ?_)
        ·
         have h63 : cz = 0 := eq_of_beq hb8
         have hp2 := pickJ_yes (vals := (leastJ l (compL l d) d (compL l d).length)) (by rw [hcz, h63]) huz (z := 0)
         refine at_region (r_move rfl rfl rfl (r_move rfl rfl rfl ?_))
         refine r_indexAddr 4 (i * 1) u33 ti3 rfl rfl rfl rfl rfl (by omega) (by omega) (ILc_ne (by omega)) (by show 0 + Int.toNat _ * 1 = _; omega) ?_
         refine r_load (v := .int .i64 uz) 4 (i * 1) _ rfl rfl rfl rfl ti3 (ILc_get huz) rfl (by decide) rfl ?_
         refine r_assign rfl rfl rfl (run_nil (at_bn (at_tn (at_region (r_move rfl rfl rfl ?_)))))
         refine r_arith (r := ((i + 1 : Nat) : Int)) rfl rfl rfl rfl (congrArg some (wi (by omega) (by omega) (by omega))) ?_
         refine r_assign rfl rfl rfl (run_nil (at_tn ?_))
         exact nextL ⟨i + 1, hlt⟩ (by simp only []; omega) ⟨rfl, (look_val rfl (congrArg (Value.int .i64) hp2.symm)), (look_val rfl (congrArg (Value.int .i64) hp1.symm)), rfl, rfl, rfl, rfl, trivial⟩ (Weak.refl _)
        ·
         have h63 : cz ≠ 0 := ne_of_beq_false hb8
         have hp2 := pickJ_no (vals := (leastJ l (compL l d) d (compL l d).length)) hcz h63
         refine at_skip (at_bn (at_tn (at_region (r_move rfl rfl rfl ?_))))
         refine r_arith (r := ((i + 1 : Nat) : Int)) rfl rfl rfl rfl (congrArg some (wi (by omega) (by omega) (by omega))) ?_
         refine r_assign rfl rfl rfl (run_nil (at_tn ?_))
         exact nextL ⟨i + 1, hlt⟩ (by simp only []; omega) ⟨rfl, (look_val rfl (congrArg (Value.int .i64) hp2.symm)), (look_val rfl (congrArg (Value.int .i64) hp1.symm)), rfl, rfl, rfl, rfl, trivial⟩ (Weak.refl _)
      ·
       have hge : i = (compL l d).length := (by have := of_decide_eq_false hb6; omega)
       subst hge
       have hlb := pickJ_bnd hok (compL l d) d 0 (k := (compL l d).length) (by omega) (compL l d).length
       unfold farJ at hlb
       refine at_exit (at_te (at_te (at_be (at_tn (at_seq (at_seq (at_region (r_move rfl rfl rfl (r_cmpInt rfl rfl rfl rfl rfl (r_move rfl rfl rfl ?_))))))))))
       refine r_split 70 rfl (fun hb7 => ?_) (fun hb7 => ?_)
       ·
        have h70 : farJ ≤ highJ l d := of_decide_eq_true hb7
        obtain ⟨hE, hLo, hHi⟩ := mE_4 hr hz h31 (.inl h70)
        refine r_no rfl rfl rfl (r_no rfl rfl rfl (r_pickT rfl rfl rfl rfl (run_nil (at_tn (at_condT rfl (at_seq (at_region (r_assign rfl rfl rfl (r_assign rfl rfl rfl (r_assign rfl rfl rfl (run_nil (at_tn (at_ret (at_tr ?_))))))))))))))
        refine at_end3 rfl (res_tmp rfl) (res_tmp rfl) (res_tmp rfl) (fun w hL => ⟨(), ?_, hL.picks [] trivial rfl rfl⟩)
        rw [hE, hLo, hHi]
       ·
        have h70 : ¬ farJ ≤ highJ l d := of_decide_eq_false hb7
        refine r_move rfl rfl rfl (r_cmpInt rfl rfl rfl rfl rfl (r_pickF rfl rfl rfl rfl (run_nil (at_tn ?_))))
        refine at_cond rfl (fun hb8 => ?_) (fun hb8 => ?_)
        ·
         have h73 : farJ ≤ lowJ l d := of_decide_eq_true hb8
         obtain ⟨hE, hLo, hHi⟩ := mE_4 hr hz h31 (.inr h73)
         refine at_seq (at_region (r_assign rfl rfl rfl (r_assign rfl rfl rfl (r_assign rfl rfl rfl (run_nil (at_tn (at_ret (at_tr ?_))))))))
         refine at_end3 rfl (res_tmp rfl) (res_tmp rfl) (res_tmp rfl) (fun w hL => ⟨(), ?_, hL.picks [] trivial rfl rfl⟩)
         rw [hE, hLo, hHi]
        ·
         have h73 : ¬ farJ ≤ lowJ l d := of_decide_eq_false hb8
         obtain ⟨hE, hLo, hHi⟩ := mE_5 hr hz h31 (fun h => h.elim h70 h73)
         refine at_skip (at_tn (at_seq (at_region (r_move rfl rfl rfl ?_))))
         refine r_arith (r := 0 - (pickJ (compL l d) (leastJ l (compL l d) d (compL l d).length) 0 (compL l d).length)) rfl rfl rfl rfl (congrArg some (wi (by omega) (by omega) rfl)) ?_
         refine r_move rfl rfl rfl (r_assign rfl rfl rfl (r_assign rfl rfl rfl (r_assign rfl rfl rfl (run_nil (at_tn (at_ret ?_))))))
         refine at_end3 rfl (res_tmp rfl) (res_tmp rfl) (res_tmp rfl) (fun w hL => ⟨(), ?_, hL.picks [] trivial rfl rfl⟩)
         rw [hE, hLo, hHi]; rfl
end Go.Proofs.YtncogghlhlnmaaaGreatDoor
set_option linter.unusedVariables false
namespace Go.Proofs.YtncogghlhlnmaaaGreatDoor
open Go Go.RowKit Go.Via
set_option maxRecDepth 20000 in
set_option maxHeartbeats 4000000 in
theorem c_ClockOffsets (l : List Ex) (a : Option Addr) (b : Option Nat) (pre : List Value) (N cap : Nat) (hc : l.length ≤ cap) (ha : l ≠ [] → a = b.map fun g => ⟨g, pre.length, none⟩) (d : Int) (hd : inI64 d) : SCall Tryz.prog 3 [⟨b, 49, pre ++ XLc l, N, false⟩] [.slice a l.length cap, .int .i64 d] Unit (fun _ => .bool true) (fun _ => []) := by
 refine ⟨by kernel_rfl, fun w hL0 => ?_⟩
 refine calls_at (args := [.slice a l.length cap, .int .i64 d]) Tryz.func3 rfl (Nat.le_of_ble_eq_true rfl) hL0 ?_
 show At w ⟨41, [(0, .slice a l.length cap), (1, .int .i64 d)], [⟨b, 49, pre ++ XLc l, N, false⟩]⟩ _
 refine at_seq (at_region (r_assign rfl rfl rfl (run_nil (at_tn (at_seq (at_seq (at_region ?_)))))))
 refine r_pcall [] rfl rfl rfl (c_law_known) ?_
 refine r_know 10 (.bool true) rfl rfl ?_
 refine r_not rfl rfl rfl (r_move rfl rfl rfl (r_move rfl rfl rfl ?_))
 refine r_scall0 [_] [0] rfl rfl rfl (c_law_few l a b pre N cap hc ha) ⟨⟨_, rfl, Blk.le_refl _⟩, trivial⟩ rfl ?_
 refine r_not rfl rfl rfl (r_pickF rfl rfl rfl rfl (run_nil (at_tn ?_)))
 refine at_cond rfl (fun hb0 => ?_) (fun hb0 => ?_)
 ·
  have hf : fewB l = false := by simpa using hb0
  refine at_seq (at_region ?_)
  refine r_pcall [] rfl rfl rfl (c_law_known) ?_
  refine r_assign rfl rfl rfl (run_nil (at_tn (at_ret (at_tr ?_))))
  refine at_end1 rfl (res_tmp rfl) (fun w hL => ⟨(), ?_, hL.picks [] trivial rfl rfl⟩)
  exact rfl
 ·
  have hf : fewB l = true := by simpa using hb0
  obtain ⟨h12, hok⟩ := fewB_ok hf
  have hm := model_eq hok (by omega) d
  refine at_skip (at_tn (at_seq (at_region (r_move rfl rfl rfl (r_move rfl rfl rfl ?_)))))
  refine r_scall0 [_, _] [0] rfl rfl rfl (c_clock_Offset l a b pre N cap hc ha hok (by omega) d hd (cycT hok (by omega)) (chOK hok d (by omega))) ⟨⟨_, rfl, Blk.le_refl _⟩, trivial⟩ rfl ?_
  refine r_move rfl rfl rfl ?_
  refine r_extract (vs := [_, _]) rfl rfl rfl rfl ?_
  refine r_extract (vs := [_, _]) rfl rfl rfl rfl ?_
  refine r_alloc [_, _] 2 (fun g => [_, ⟨some g, 26, _, 2, true⟩]) rfl rfl z26 rfl rfl (fun _ => rfl) (fun g0 => ?_)
  refine r_store rfl 1 0 [_, ⟨some g0, 26, _, 2, true⟩] [_, _] rfl rfl rfl rfl ti26 rfl rfl rfl rfl rfl ?_
  refine r_assign rfl rfl rfl (run_nil (at_tn (at_seq (at_region (r_move rfl rfl rfl (r_move rfl rfl rfl ?_))))))
  refine r_scall0 [_, _] [0] rfl rfl rfl (c_law_offset l a b pre N cap hc ha hok (by omega) d) ⟨⟨_, rfl, Blk.le_refl _⟩, trivial⟩ rfl ?_
  refine r_move rfl rfl rfl ?_
  refine r_extract (vs := [_, _, _]) rfl rfl rfl rfl ?_
  refine r_extract (vs := [_, _, _]) rfl rfl rfl rfl ?_
  refine r_extract (vs := [_, _, _]) rfl rfl rfl rfl ?_
  refine r_assign rfl rfl rfl (r_assign rfl rfl rfl (r_assign rfl rfl rfl (run_nil (at_tn (at_seq (at_region (r_move rfl rfl rfl (r_move rfl rfl rfl (r_cmpInt rfl rfl rfl rfl rfl ?_)))))))))
  refine r_know 33 (.bool true) rfl (by rw [hm.2.2, beq_self_eq_true]) ?_
  refine r_move rfl rfl rfl ?_
  refine r_load 1 0 [_, _] rfl rfl rfl rfl ti26 rfl rfl rfl rfl ?_
  refine r_move rfl rfl rfl (r_move rfl rfl rfl ?_)
  refine r_build [(0, _), (1, _)] rfl rfl rfl (bd26_2) ?_
  refine r_eqlAgg rfl rfl rfl rfl gd26 (eq26 _ _ _ _) ?_
  refine r_know 39 (.bool true) rfl (by rw [hm.1, hm.2.1, beq_self_eq_true, beq_self_eq_true]; rfl) ?_
  refine r_pickT rfl rfl rfl rfl (r_assign rfl rfl rfl (run_nil (at_tn (at_ret ?_))))
  refine at_end1 rfl (res_tmp rfl) (fun w hL => ⟨(), ?_, hL.picks [] trivial rfl rfl⟩)
  exact rfl
end Go.Proofs.YtncogghlhlnmaaaGreatDoor
set_option linter.unusedVariables false
namespace Go.Proofs.YtncogghlhlnmaaaGreatDoor.clockOffsets
open Go Go.ChangeShapes Go.WideShapes Go.ChangeAt Go.RowKit Go.Via
theorem laid : laidOutB Tryz.prog = true := by kernel_rfl
set_option maxRecDepth 20000 in
theorem contract (H : Type) (enc : TypeId × Value → H) (W : World) (base : Nat) (args : Array Value) (ds gs : List (DataW H)) (before : List MemPlace)
    (hval : ∀ (j : Nat) t v, Tryz.f3.params[j]? = some t → args[j]? = some v → Value.okWide Tryz.prog W .any base t v)
    (hW : DataW.Whole enc Tryz.prog Tryz.f3.params.toList Rows.clockOffsetsSpec.vars false W args.toList ds gs before)
    (hsz : (DataW.weightsEach Tryz.prog (Tryz.f3.params.toList ++ (OpenSpec.ofChange Rows.clockOffsetsSpec).bare.plain.varTypes Tryz.prog) (ds ++ gs)).all (· ≤ reachBytes) = true) :
    Calls Tryz.prog 3 args W fun e W' => ∃ v, e = .returned v ∧ Rows.clockOffsetsSpec.post enc Tryz.prog Tryz.f3 false true false false W args v W' := by
  have hW' := hW
  obtain ⟨p, q, hA0, hV, rfl, hfz, hnd⟩ := hW
  have hA : DataW.TrodAll enc Tryz.prog W 0 (fun _ => true) true Tryz.f3.params.toList args.toList ds p := hA0
  rw [Tryz.params3] at hA hval
  obtain ⟨v0, vs0, d0, ds0, p0, q0, hargs, rfl, rfl, h0, r0⟩ := trodAll_cons hA
  obtain ⟨v1, vs1, d1, ds1, p1, q1, rfl, rfl, rfl, h1, r1⟩ := trodAll_cons r0
  obtain ⟨rfl, rfl, rfl⟩ := trodAll_nil r1
  obtain rfl : args = #[v0, v1] := by cases args; simp_all
  obtain ⟨rfl, rfl⟩ := trodVars_none hV
  have h0k := h0
  have h1k := h1
  obtain ⟨l0, a0, b0, pre0, N0, cap0, rfl, hc0, ha0, hB0, hn0⟩ := openXs (hval 0 22 v0 rfl rfl) h0
  obtain ⟨n1, rfl, z1⟩ := openN (hval 1 3 v1 rfl rfl) h1
  clear hA0
  simp only [List.append_nil] at hW'
  have walk := (c_ClockOffsets l0 a0 b0 pre0 N0 cap0 hc0 ha0 n1 z1).2 W (relF_cons rfl hB0 hn0 (relF_nil W) (fun c hc => by cases hc))
  refine walk.mono fun e W' ⟨_, he, hg⟩ => ?_
  subst he
  have hlt : ∀ x ∈ p0 ++ (p1 ++ []), x.block < W.heap.size := fun x hx => hW'.lt x (by simpa using hx)
  have k0 : DataW.Trod enc Tryz.prog W' 0 (fun b => decide (b < W.heap.size)) true 22 (.slice a0 l0.length cap0) d0 p0 := Below.trod laid (by kernel_rfl) (of_decide_eq_true (by kernel_rfl)) h0k hg.below (fun x hx => hlt x (by simp [hx]))
  have k1 : DataW.Trod enc Tryz.prog W' 0 (fun b => decide (b < W.heap.size)) true 3 (.int .i64 n1) d1 p1 := Below.trod laid (by kernel_rfl) (of_decide_eq_true (by kernel_rfl)) h1k hg.below (fun x hx => hlt x (by simp [hx]))
  exact ⟨_, rfl, [d0, d1], [], p0 ++ (p1 ++ []), [], p0 ++ (p1 ++ []), [], by simpa using hW', trodAll_cons_mk (shut_bool Tryz.underlying4 _) trodAll_mk0, trodAll_cons_mk k0 (trodAll_cons_mk k1 (trodAll_mk0)), rfl, below_kept hg.below _, fun h => by cases h⟩
abbrev wit : Array Value := #[.slice none 0 0, .int .i64 0]
theorem reads (os : Os) {H : Type} (enc : TypeId × Value → H) : ∃ places, DataW.whole enc Tryz.prog ((laidWorld os).forCall (fun _ _ => 0) ⟨#[], wit, []⟩).memory Tryz.f3.params.toList Rows.clockOffsetsSpec.vars false wit.toList 8 = some ([.nil, .lit (.int .i64 0)], [], places) :=
  ⟨[], by kernel_rfl⟩
set_option maxRecDepth 100000 in
theorem lifted (os : Os) (started : os.Started) (H : Type) (enc : TypeId × Value → H) (F : Stop.Interp) :
    ReturnsInHanded {} Tryz.checked os 3 .any ((OpenSpec.ofChange Rows.clockOffsetsSpec).preRow enc Tryz.prog Tryz.f3 Rows.clockOffsetsRow.domain false Rows.clockOffsetsRow.laid) (((OpenSpec.ofChange Rows.clockOffsetsSpec).at F).post enc Tryz.prog Tryz.f3 false true false false) := by
  obtain ⟨places, hx⟩ := reads os enc
  refine returnsInHanded_of_row (C := Tryz.checked) (s := OpenSpec.ofChange Rows.clockOffsetsSpec) own started (by kernel_rfl) Tryz.func3
    (witness_row_at (enc := enc) (C := Tryz.checked) false (laidWorld os) wit rfl (by kernel_rfl) (by kernel_rfl) (by kernel_rfl)
      (OpenSpec.preRow_of_cond 8 hx (by kernel_rfl) (fun k hk => by cases hk) (by kernel_rfl) (laid_met os _))) ?_
  intro W base args ds gs before hval hW _ _ hsz hL _ _
  exact contract H enc W base args ds gs before hval hW hsz
theorem said : Rows.ClockOffsetsSaid :=
  OpenClaim.holds_of_cond 3 Tryz.f3 rfl rfl rfl rfl rfl rfl rfl ⟨rfl, rfl, rfl, rfl, rfl⟩ rfl rfl rfl rfl rfl (by kernel_rfl) Tryz.func3 (by kernel_rfl)
    (of_decide_eq_true (by kernel_rfl)) (by unfold Func.isWrapper; first | (rw [if_pos (by decide +kernel)]; kernel_rfl) | (rw [if_neg (by decide +kernel)]; exact ⟨rfl, rfl⟩))
    (fun os started H enc _ F => by rw [OpenClaim.pre_eq_preRow]; exact lifted os started H enc F)
/-- No parameter wants a stand-in; the program's own looks are off. -/
theorem plain (f : FuncId) (fn : Func) (hf : Tryz.pinned.checked.prog.funcNamed "viator/viatorlaw26.ClockOffsets" = some f) (hfn : Tryz.pinned.checked.prog.funcs[f]? = some fn) :
    false = Tryz.pinned.checked.prog.looks [] ∧ ∀ (j : Nat) t, fn.params[j]? = some t → Tryz.pinned.checked.prog.wantsStandIn t = false := by
  obtain rfl : f = 3 := Option.some.inj ((show Tryz.prog.funcNamed "viator/viatorlaw26.ClockOffsets" = some 3 by kernel_rfl).symm.trans hf) |>.symm
  obtain rfl : fn = Tryz.f3 := (Option.some.inj (Tryz.func3.symm.trans hfn)).symm
  refine ⟨by kernel_rfl, fun j t ht => ?_⟩
  rw [Tryz.params3] at ht
  have hm : t ∈ ([22, 3] : List Nat) := by simpa using Array.mem_of_getElem? ht
  have hw : ∀ t ∈ ([22, 3] : List Nat), Tryz.prog.wantsStandIn t = false := by
    intro t ht
    simp only [List.mem_cons, List.mem_nil_iff, or_false] at ht
    rcases ht with rfl | rfl
    · exact (show Tryz.prog.wantsStandIn 22 = false by kernel_rfl)
    · exact (show Tryz.prog.wantsStandIn 3 = false by kernel_rfl)
  exact hw t hm
/-- ████ THE CARD ████ -/
theorem card : Rows.ClockOffsetsCardSaid :=
  Claim7.holds_tied_plain_at .later [] _ _ _ _ said (fun _ h => by cases h) (by kernel_rfl) (fun _ h => by cases h) clockOffsets_row_tie rfl ⟨rfl, rfl⟩ (by kernel_rfl) rfl plain (by kernel_rfl)
end Go.Proofs.YtncogghlhlnmaaaGreatDoor.clockOffsets
namespace Go.Proofs.YtncogghlhlnmaaaGreatDoor
/-- the card -/
theorem clockOffsets_holds : Rows.ClockOffsetsCardSaid := clockOffsets.card
end Go.Proofs.YtncogghlhlnmaaaGreatDoor
