/-
  For any exchanges and any device, ClockCycles returns true: for up to 12 valid exchanges Cycle returns a contradiction within the component of the device exactly if there is one. No further conditions.
-/
import Derived.Test.YtncogghlhlnmaaaGreatDoorA04
import Derived.Test.YtncogghlhlnmaaaGreatDoorA05
import Derived.Test.YtncogghlhlnmaaaGreatDoorA12
set_option linter.unusedVariables false
set_option linter.unusedVariables false
namespace Go.Proofs.YtncogghlhlnmaaaGreatDoor
open Go Go.RowKit Go.Via
set_option maxRecDepth 20000 in
theorem c_law_component (l : List Ex) (a : Option Addr) (b : Option Nat) (pre : List Value) (N cap : Nat) (hc : l.length ≤ cap) (ha : l ≠ [] → a = b.map fun g => ⟨g, pre.length, none⟩) (hn : l.length ≤ 100000) (d : Int) : SCall Tryz.prog 22 [⟨b, 49, pre ++ XLc l, N, false⟩] [.slice a l.length cap, .int .i64 d] (SR (compL l d).length) (fun x => x.v) (fun x => [⟨x.b, 3, ILc (compL l d), x.n, true⟩]) := by
 refine ⟨by kernel_rfl, fun w hL0 => ?_⟩
 refine calls_at (args := [.slice a l.length cap, .int .i64 d]) Tryz.func22 rfl (Nat.le_of_ble_eq_true rfl) hL0 ?_
 show At w ⟨52, [(0, .slice a l.length cap), (1, .int .i64 d)], [⟨b, 49, pre ++ XLc l, N, false⟩]⟩ _
 refine at_seq ?_
 refine at_base 0 rfl (fun hbase => ?_)
 refine at_region (r_assign rfl rfl rfl (run_nil (at_tn (at_seq (at_region (r_move rfl rfl rfl ?_))))))
 refine r_buildSlice [(0, _)] (fun g => [_, ⟨some g, 3, _, 1, true⟩]) rfl rfl rfl (bs33_1) rfl (fun _ => rfl) (fun g0 => ?_)
 refine r_assign rfl rfl rfl (run_nil (at_tn (at_seq (at_seq (at_region (r_assign rfl rfl rfl (run_nil (at_tn (at_block ?_)))))))))
 refine enterL (nt := 52) (ι := {x : Nat × List Int × Option Nat × Nat × Nat // x.1 ≤ l.length ∧ x.2.1.length ≤ x.2.2.2.2 ∧ CO l d x.2.1 ∧ compL l d = cmpR l (l.length - x.1) x.2.1}) (fun ⟨⟨r, o, ob, oN, oc⟩, hr, h0, hO, hR⟩ => [(0, .slice a l.length cap), (5, slv ob 0 o.length oc), (6, .int .i64 (r : Nat))]) (fun ⟨⟨r, o, ob, oN, oc⟩, hr, h0, hO, hR⟩ => [⟨b, 49, pre ++ XLc l, N, false⟩, ⟨ob, 3, ILc o, oN, true⟩]) (fun ⟨⟨r, o, ob, oN, oc⟩, hr, h0, hO, hR⟩ => l.length - r) ⟨(0, [d], some g0, 1, 1), Nat.zero_le _, Nat.le_refl _, CO.init l d, rfl⟩ ⟨rfl, rfl, rfl, trivial⟩ (Weak.refl _) ?_
 rintro ⟨⟨r, o, ob, oN, oc⟩, hr, h0, hO, hR⟩
 show At _ ⟨52, [(0, .slice a l.length cap), (5, slv ob 0 o.length oc), (6, .int .i64 (r : Nat))], [⟨b, 49, pre ++ XLc l, N, false⟩, ⟨ob, 3, ILc o, oN, true⟩]⟩ _
 replace hr : r ≤ l.length := hr
 replace h0 : o.length ≤ oc := h0
 replace hO : CO l d o := hO
 replace hR : compL l d = cmpR l (l.length - r) o := hR
 refine at_seq (at_seq (at_region (r_move rfl rfl rfl (r_move rfl rfl rfl ?_))))
 refine r_lenV u22 rfl rfl rfl ?_
 refine r_cmpInt rfl rfl rfl rfl rfl (run_nil (at_tn ?_))
 refine at_cond rfl (fun hb1 => ?_) (fun hb1 => ?_)
 ·
  have hrlt : r < l.length := (by have := of_decide_eq_true hb1; omega)
  refine at_skip (at_tn (at_seq (at_block (at_seq (at_region (r_assign rfl rfl rfl (run_nil (at_tn (at_block ?_)))))))))
  refine enterL (nt := 52) (ι := {x : Nat × Option Nat × Nat × Nat // x.1 ≤ l.length ∧ ((l.take x.1).foldl cmpF o).length ≤ x.2.2.2}) (fun ⟨⟨i, ob, oN, oc⟩, hi, h1⟩ => [(0, .slice a l.length cap), (5, slv ob 0 ((l.take i).foldl cmpF o).length oc), (6, .int .i64 (r : Nat)), (7, .int .i64 (i : Nat))]) (fun ⟨⟨i, ob, oN, oc⟩, hi, h1⟩ => [⟨b, 49, pre ++ XLc l, N, false⟩, ⟨ob, 3, ILc ((l.take i).foldl cmpF o), oN, true⟩]) (fun ⟨⟨i, ob, oN, oc⟩, hi, h1⟩ => l.length - i) ⟨(0, ob, oN, oc), Nat.zero_le _, h0⟩ ⟨rfl, rfl, rfl, rfl, trivial⟩ (Weak.refl _) ?_
  rintro ⟨⟨i, ob, oN, oc⟩, hi, h1⟩
  show At _ ⟨52, [(0, .slice a l.length cap), (5, slv ob 0 ((l.take i).foldl cmpF o).length oc), (6, .int .i64 (r : Nat)), (7, .int .i64 (i : Nat))], [⟨b, 49, pre ++ XLc l, N, false⟩, ⟨ob, 3, ILc ((l.take i).foldl cmpF o), oN, true⟩]⟩ _
  replace hi : i ≤ l.length := hi
  replace h1 : ((l.take i).foldl cmpF o).length ≤ oc := h1
  refine at_seq (at_seq (at_region (r_move rfl rfl rfl (r_move rfl rfl rfl ?_))))
  refine r_lenV u22 rfl rfl rfl ?_
  refine r_cmpInt rfl rfl rfl rfl rfl (run_nil (at_tn ?_))
  refine at_cond rfl (fun hb3 => ?_) (fun hb3 => ?_)
  ·
   have hlt : i < l.length := (by have := of_decide_eq_true hb3; omega)
   obtain ⟨x, hx⟩ : ∃ x, l[i]? = some x := ⟨l[i], List.getElem?_eq_getElem hlt⟩
   have hci := (CO.fold hO i).len
   obtain ⟨gb, hgb⟩ := ex_base hbase (by omega)
   replace hgb : b = some gb := hgb
   subst hgb
   obtain rfl : a = some ⟨gb, pre.length, none⟩ := ha (fun e => by rw [e] at hlt; cases hlt)
   refine at_skip (at_tn (at_seq (at_block (at_seq (at_region (r_move rfl rfl rfl (r_move rfl rfl rfl (r_move rfl rfl rfl ?_))))))))
   refine r_indexAddr 0 (pre.length + i * 5) u22 ti49 rfl rfl rfl rfl rfl (by omega) (by omega) (pre_ne (XLc_ne (by omega))) (by show pre.length + Int.toNat _ * 5 = _; omega) ?_
   refine r_fieldAddr 0 (pre.length + i * 5) 0 rfl rfl rfl rfl rfl ti49 rfl rfl ?_
   refine r_load (v := .int .i64 x.f) 0 (pre.length + (i * 5 + 0)) _ rfl rfl rfl rfl ti3 (pre_get (XLc_f hx) rfl) rfl (by decide) rfl ?_
   refine r_scall0 [_, _] [1] rfl rfl rfl (c_law_has ((l.take i).foldl cmpF o) ob oN oc h1 (by omega) x.f) ⟨⟨_, rfl, le_share⟩, trivial⟩ rfl ?_
   refine r_move rfl rfl rfl ?_
   refine r_split 29 rfl (fun hb4 => ?_) (fun hb4 => ?_)
   ·
    have hcy := cmpF_yes hx (by rw [hb4]; rfl) (o := o)
    refine r_no rfl rfl rfl (r_no rfl rfl rfl (r_no rfl rfl rfl (r_no rfl rfl rfl (r_no rfl rfl rfl (r_no rfl rfl rfl (r_no rfl rfl rfl (r_pickT rfl rfl rfl rfl (run_nil (at_tn (at_condT rfl ?_))))))))))
    refine at_drawn (l' := [⟨_,_,_,_,_,_⟩, ⟨_,_,_,_,_,_⟩, ⟨_,_,_,_,_,_⟩, ⟨_,_,_,_,_,_⟩, ⟨_,_,_,_,_,_⟩, ⟨_,_,_,_,_,_⟩, ⟨_,_,_,_,_,_⟩, ⟨_,_,_,_,_,_⟩, ⟨_,_,_,_,_,_⟩, ⟨_,_,_,_,_,_⟩, ⟨_,_,_,_,_,_⟩, ⟨_,_,_,_,_,_⟩, ⟨_,_,_,_,_,_⟩, ⟨_,_,_,_,_,_⟩]) [1] [0, 1, 2, 3, 4, 5, 7, 8, 9, 10, 11, 6, 12, 13] mixed (by kernel_rfl) rfl (by kernel_rfl) ?_
    refine r_move rfl rfl rfl (r_move rfl rfl rfl (r_move rfl rfl rfl ?_))
    refine r_indexAddr 0 (pre.length + i * 5) u22 ti49 rfl rfl rfl rfl rfl (by omega) (by omega) (pre_ne (XLc_ne (by omega))) (by show pre.length + Int.toNat _ * 5 = _; omega) ?_
    refine r_fieldAddr 0 (pre.length + i * 5) 0 rfl rfl rfl rfl rfl ti49 rfl rfl ?_
    refine r_load (v := .int .i64 x.f) 0 (pre.length + (i * 5 + 0)) _ rfl rfl rfl rfl ti3 (pre_get (XLc_f hx) rfl) rfl (by decide) rfl ?_
    refine r_move rfl rfl rfl (r_move rfl rfl rfl ?_)
    refine r_indexAddr 0 (pre.length + i * 5) u22 ti49 rfl rfl rfl rfl rfl (by omega) (by omega) (pre_ne (XLc_ne (by omega))) (by show pre.length + Int.toNat _ * 5 = _; omega) ?_
    refine r_fieldAddr 0 (pre.length + i * 5) 1 rfl rfl rfl rfl rfl ti49 rfl rfl ?_
    refine r_load (v := .int .i64 x.t) 0 (pre.length + (i * 5 + 1)) _ rfl rfl rfl rfl ti3 (pre_get (XLc_t hx) rfl) rfl (by decide) rfl ?_
    refine r_kcall1 [_, _] [1] 1 (fun (y : SR (insS (((l.take i).foldl cmpF o)) x.f).length) => y.v) (fun y => ⟨y.b, 3, ILc (insS (((l.take i).foldl cmpF o)) x.f), y.n, true⟩) (fun y => [_, ⟨y.b, 3, ILc (insS (((l.take i).foldl cmpF o)) x.f), y.n, true⟩]) rfl rfl rfl rfl rfl (c_law_insert (((l.take i).foldl cmpF o)) ob oN oc h1 (by omega) x.f) ⟨⟨_, rfl, le_share⟩, trivial⟩ rfl (insNew_own _ _) (fun z => ins_merge h1 (k := 1) rfl z) (fun _ => rfl) (fun y1 => ?_)
    refine r_kcall1 [_, _] [1] 1 (fun (y : SR (insS (insS ((l.take i).foldl cmpF o) x.f) x.t).length) => y.v) (fun y => ⟨y.b, 3, ILc (insS (insS ((l.take i).foldl cmpF o) x.f) x.t), y.n, true⟩) (fun y => [_, ⟨y.b, 3, ILc (insS (insS ((l.take i).foldl cmpF o) x.f) x.t), y.n, true⟩]) rfl rfl rfl rfl rfl (c_law_insert (insS ((l.take i).foldl cmpF o) x.f) y1.b y1.n y1.cap y1.h (by have := insS_len ((l.take i).foldl cmpF o) x.f; omega) x.t) ⟨⟨_, rfl, le_share⟩, trivial⟩ rfl (insNew_own _ _) (fun z => ins_merge y1.h (k := 1) rfl z) (fun _ => rfl) (fun y2 => ?_)
    refine r_assign rfl rfl rfl (run_nil (at_bn (at_tn (at_region (r_move rfl rfl rfl ?_)))))
    refine r_arith (r := ((i + 1 : Nat) : Int)) rfl rfl rfl rfl (congrArg some (wi (by omega) (by omega) (by omega))) ?_
    refine r_assign rfl rfl rfl (run_nil (at_tn ?_))
    exact nextL ⟨(i + 1, y2.b, y2.n, y2.cap), hlt, by rw [hcy]; exact y2.h⟩ (by show l.length - (i + 1) < l.length - i; omega) ⟨rfl, (look_val rfl (by rw [hcy]; rfl)), rfl, rfl, trivial⟩ (weak_picks [some 0, some 1] ⟨⟨_, rfl, Blk.le_refl _⟩, ⟨_, rfl, le_same (by show Blk.mk _ _ _ _ _ = Blk.mk _ _ _ _ _; rw [hcy])⟩, trivial⟩ rfl rfl)
   ·
    have h29 := hb4
    refine r_move rfl rfl rfl (r_move rfl rfl rfl (r_move rfl rfl rfl ?_))
    refine r_indexAddr 0 (pre.length + i * 5) u22 ti49 rfl rfl rfl rfl rfl (by omega) (by omega) (pre_ne (XLc_ne (by omega))) (by show pre.length + Int.toNat _ * 5 = _; omega) ?_
    refine r_fieldAddr 0 (pre.length + i * 5) 1 rfl rfl rfl rfl rfl ti49 rfl rfl ?_
    refine r_load (v := .int .i64 x.t) 0 (pre.length + (i * 5 + 1)) _ rfl rfl rfl rfl ti3 (pre_get (XLc_t hx) rfl) rfl (by decide) rfl ?_
    refine r_scall0 [_, _] [1] rfl rfl rfl (c_law_has ((l.take i).foldl cmpF o) ob oN oc h1 (by omega) x.t) ⟨⟨_, rfl, le_share⟩, trivial⟩ rfl ?_
    refine r_pickF rfl rfl rfl rfl (run_nil (at_tn ?_))
    refine at_cond rfl (fun hb5 => ?_) (fun hb5 => ?_)
    ·
     have hcy := cmpF_yes hx (by rw [h29, hb5]; rfl) (o := o)
     refine at_drawn (l' := [⟨_,_,_,_,_,_⟩, ⟨_,_,_,_,_,_⟩, ⟨_,_,_,_,_,_⟩, ⟨_,_,_,_,_,_⟩, ⟨_,_,_,_,_,_⟩, ⟨_,_,_,_,_,_⟩, ⟨_,_,_,_,_,_⟩, ⟨_,_,_,_,_,_⟩, ⟨_,_,_,_,_,_⟩, ⟨_,_,_,_,_,_⟩, ⟨_,_,_,_,_,_⟩, ⟨_,_,_,_,_,_⟩, ⟨_,_,_,_,_,_⟩, ⟨_,_,_,_,_,_⟩]) [1] [0, 1, 2, 3, 4, 5, 7, 8, 9, 10, 11, 6, 12, 13] mixed (by kernel_rfl) rfl (by kernel_rfl) ?_
     refine r_move rfl rfl rfl (r_move rfl rfl rfl (r_move rfl rfl rfl ?_))
     refine r_indexAddr 0 (pre.length + i * 5) u22 ti49 rfl rfl rfl rfl rfl (by omega) (by omega) (pre_ne (XLc_ne (by omega))) (by show pre.length + Int.toNat _ * 5 = _; omega) ?_
     refine r_fieldAddr 0 (pre.length + i * 5) 0 rfl rfl rfl rfl rfl ti49 rfl rfl ?_
     refine r_load (v := .int .i64 x.f) 0 (pre.length + (i * 5 + 0)) _ rfl rfl rfl rfl ti3 (pre_get (XLc_f hx) rfl) rfl (by decide) rfl ?_
     refine r_move rfl rfl rfl (r_move rfl rfl rfl ?_)
     refine r_indexAddr 0 (pre.length + i * 5) u22 ti49 rfl rfl rfl rfl rfl (by omega) (by omega) (pre_ne (XLc_ne (by omega))) (by show pre.length + Int.toNat _ * 5 = _; omega) ?_
     refine r_fieldAddr 0 (pre.length + i * 5) 1 rfl rfl rfl rfl rfl ti49 rfl rfl ?_
     refine r_load (v := .int .i64 x.t) 0 (pre.length + (i * 5 + 1)) _ rfl rfl rfl rfl ti3 (pre_get (XLc_t hx) rfl) rfl (by decide) rfl ?_
     refine r_kcall1 [_, _] [1] 1 (fun (y : SR (insS (((l.take i).foldl cmpF o)) x.f).length) => y.v) (fun y => ⟨y.b, 3, ILc (insS (((l.take i).foldl cmpF o)) x.f), y.n, true⟩) (fun y => [_, ⟨y.b, 3, ILc (insS (((l.take i).foldl cmpF o)) x.f), y.n, true⟩]) rfl rfl rfl rfl rfl (c_law_insert (((l.take i).foldl cmpF o)) ob oN oc h1 (by omega) x.f) ⟨⟨_, rfl, le_share⟩, trivial⟩ rfl (insNew_own _ _) (fun z => ins_merge h1 (k := 1) rfl z) (fun _ => rfl) (fun y1 => ?_)
     refine r_kcall1 [_, _] [1] 1 (fun (y : SR (insS (insS ((l.take i).foldl cmpF o) x.f) x.t).length) => y.v) (fun y => ⟨y.b, 3, ILc (insS (insS ((l.take i).foldl cmpF o) x.f) x.t), y.n, true⟩) (fun y => [_, ⟨y.b, 3, ILc (insS (insS ((l.take i).foldl cmpF o) x.f) x.t), y.n, true⟩]) rfl rfl rfl rfl rfl (c_law_insert (insS ((l.take i).foldl cmpF o) x.f) y1.b y1.n y1.cap y1.h (by have := insS_len ((l.take i).foldl cmpF o) x.f; omega) x.t) ⟨⟨_, rfl, le_share⟩, trivial⟩ rfl (insNew_own _ _) (fun z => ins_merge y1.h (k := 1) rfl z) (fun _ => rfl) (fun y2 => ?_)
     refine r_assign rfl rfl rfl (run_nil (at_bn (at_tn (at_region (r_move rfl rfl rfl ?_)))))
     refine r_arith (r := ((i + 1 : Nat) : Int)) rfl rfl rfl rfl (congrArg some (wi (by omega) (by omega) (by omega))) ?_
     refine r_assign rfl rfl rfl (run_nil (at_tn ?_))
     exact nextL ⟨(i + 1, y2.b, y2.n, y2.cap), hlt, by rw [hcy]; exact y2.h⟩ (by show l.length - (i + 1) < l.length - i; omega) ⟨rfl, (look_val rfl (by rw [hcy]; rfl)), rfl, rfl, trivial⟩ (weak_picks [some 0, some 1] ⟨⟨_, rfl, Blk.le_refl _⟩, ⟨_, rfl, le_same (by show Blk.mk _ _ _ _ _ = Blk.mk _ _ _ _ _; rw [hcy])⟩, trivial⟩ rfl rfl)
    ·
     have hcy := cmpF_no hx (by rw [h29, hb5]; rfl) (o := o)
     refine at_skip (at_bn (at_tn (at_region (r_move rfl rfl rfl ?_))))
     refine r_arith (r := ((i + 1 : Nat) : Int)) rfl rfl rfl rfl (congrArg some (wi (by omega) (by omega) (by omega))) ?_
     refine r_assign rfl rfl rfl (run_nil (at_tn ?_))
     exact nextL ⟨(i + 1, ob, oN, oc), hlt, by rw [hcy]; exact h1⟩ (by show l.length - (i + 1) < l.length - i; omega) ⟨rfl, (look_val rfl (by rw [hcy])), rfl, rfl, trivial⟩ (weak_picks [some 0, some 1] ⟨⟨_, rfl, Blk.le_refl _⟩, ⟨_, rfl, le_same (by show Blk.mk _ _ _ _ _ = Blk.mk _ _ _ _ _; rw [hcy])⟩, trivial⟩ rfl rfl)
  ·
   have hge : i = l.length := (by have := of_decide_eq_false hb3; omega)
   subst hge
   refine at_exit (at_te (at_te (at_be (at_bn (at_tn (at_region (r_move rfl rfl rfl ?_)))))))
   refine r_arith (r := ((r + 1 : Nat) : Int)) rfl rfl rfl rfl (congrArg some (wi (by omega) (by omega) (by omega))) ?_
   refine r_assign rfl rfl rfl (run_nil (at_tn ?_))
   have hte : l.take l.length = l := List.take_length
   exact nextL ⟨(r + 1, ((l.take l.length).foldl cmpF o), ob, oN, oc), hrlt, h1, CO.fold hO l.length, hR.trans (by show cmpR l (l.length - r) o = cmpR l (l.length - (r + 1)) _; rw [show l.length - r = (l.length - (r + 1)) + 1 by omega, hte]; rfl)⟩ (by show l.length - (r + 1) < l.length - r; omega) ⟨rfl, rfl, rfl, trivial⟩ (weak_picks [some 0, some 1] ⟨⟨_, rfl, Blk.le_refl _⟩, ⟨_, rfl, Blk.le_refl _⟩, trivial⟩ rfl rfl)
 ·
  have hge : r = l.length := (by have := of_decide_eq_false hb1; omega)
  subst hge
  have hcE : compL l d = o := by rw [hR, Nat.sub_self]; rfl
  refine at_exit (at_te (at_te (at_be (at_tn (at_seq (at_region (r_move rfl rfl rfl (r_assign rfl rfl rfl (run_nil (at_tn (at_ret ?_)))))))))))
  refine at_end1 rfl (res_tmp rfl) (fun w hL => ⟨⟨ob, oN, oc, by rw [hcE]; exact h0⟩, ?_, hL.picks [some 1] ⟨⟨_, rfl, le_same (congrArg (fun c => (⟨ob, 3, ILc c, oN, true⟩ : Blk)) hcE)⟩, trivial⟩ rfl rfl⟩)
  exact congrArg (fun c => Ending.returned (slv ob 0 (List.length c) oc)) hcE.symm
end Go.Proofs.YtncogghlhlnmaaaGreatDoor
set_option linter.unusedVariables false
namespace Go.Proofs.YtncogghlhlnmaaaGreatDoor
open Go Go.RowKit Go.Via
set_option maxRecDepth 20000 in
set_option maxHeartbeats 4000000 in
theorem c_ClockCycles (l : List Ex) (a : Option Addr) (b : Option Nat) (pre : List Value) (N cap : Nat) (hc : l.length ≤ cap) (ha : l ≠ [] → a = b.map fun g => ⟨g, pre.length, none⟩) (d : Int) (hd : inI64 d) : SCall Tryz.prog 6 [⟨b, 49, pre ++ XLc l, N, false⟩] [.slice a l.length cap, .int .i64 d] Unit (fun _ => .bool true) (fun _ => []) := by
 refine ⟨by kernel_rfl, fun w hL0 => ?_⟩
 refine calls_at (args := [.slice a l.length cap, .int .i64 d]) Tryz.func6 rfl (Nat.le_of_ble_eq_true rfl) hL0 ?_
 show At w ⟨80, [(0, .slice a l.length cap), (1, .int .i64 d)], [⟨b, 49, pre ++ XLc l, N, false⟩]⟩ _
 refine at_seq (at_region (r_assign rfl rfl rfl (run_nil (at_tn (at_seq (at_seq (at_region ?_)))))))
 refine r_pcall [] rfl rfl rfl (c_law_known) ?_
 refine r_know 11 (.bool true) rfl rfl ?_
 refine r_not rfl rfl rfl (r_move rfl rfl rfl (r_move rfl rfl rfl ?_))
 refine r_scall0 [_] [0] rfl rfl rfl (c_law_few l a b pre N cap hc ha) ⟨⟨_, rfl, Blk.le_refl _⟩, trivial⟩ rfl ?_
 refine r_not rfl rfl rfl (r_pickF rfl rfl rfl rfl (run_nil (at_tn ?_)))
 refine at_cond rfl (fun hb0 => ?_) (fun hb0 => ?_)
 ·
  have hf : fewB l = false := by simpa using hb0
  refine at_seq (at_region ?_)
  refine r_pcall [] rfl rfl rfl (c_law_known) ?_
  refine r_assign rfl rfl rfl (run_nil (at_tn (at_ret (at_tr ?_))))
  refine at_end1 rfl (res_tmp rfl) (fun w hL => ⟨(), ?_, hL.picks [] trivial rfl rfl⟩)
  exact rfl
 ·
  have hf : fewB l = true := by simpa using hb0
  obtain ⟨h12, hok⟩ := fewB_ok hf
  refine at_skip (at_tn (at_seq (at_region (r_move rfl rfl rfl (r_move rfl rfl rfl ?_)))))
  refine r_scall (hX := (cycOK hok d (by omega)).ne) [_, _] [0] rfl rfl rfl (c_clock_Cycle l a b pre N cap hc ha hok (by omega) d hd (CycQ l d) (cycOK hok d (by omega))) ⟨⟨_, rfl, Blk.le_refl _⟩, trivial⟩ rfl (.inr fun z b hb => by rw [List.mem_singleton.1 hb]) (fun zc => ?_)
  obtain ⟨c, cb, cN, cc, hcc, hcf, hct⟩ := zc
  refine r_know 22 (.tuple #[slv cb 0 c.length cc, .bool (badA l d)]) rfl rfl ?_
  refine r_move rfl rfl rfl ?_
  refine r_extract (vs := [_, _]) rfl rfl rfl rfl ?_
  refine r_extract (vs := [_, _]) rfl rfl rfl rfl ?_
  refine r_assign rfl rfl rfl (r_assign rfl rfl rfl (run_nil (at_tn (at_seq (at_region (r_move rfl rfl rfl (r_move rfl rfl rfl ?_)))))))
  refine r_scall [_, _] [0] rfl rfl rfl (c_law_component l a b pre N cap hc ha (by omega) d) ⟨⟨_, rfl, Blk.le_refl _⟩, trivial⟩ rfl (.inr fun z b hb => by rw [List.mem_singleton.1 hb]) (fun zk => ?_)
  obtain ⟨kb, kN, kc, hkc⟩ := zk
  have hcl := compL_len l d
  refine r_assign rfl rfl rfl (run_nil (at_tn (at_seq (at_seq (at_region (r_move rfl rfl rfl (r_move rfl rfl rfl (r_move rfl rfl rfl ?_))))))))
  refine r_scall0 [_, _] [0, 2] rfl rfl rfl (c_law_contradicted l a b pre N cap hc ha hok (by omega) (compL l d) kb kN kc hkc (by omega)) ⟨⟨_, rfl, Blk.le_refl _⟩, ⟨_, rfl, le_share⟩, trivial⟩ rfl ?_
  refine r_neqBool rfl u4 rfl rfl rfl ?_
  refine r_know 32 (.bool false) rfl (by rw [con_bad hok (by omega) d, bne_self_eq_false]) ?_
  refine run_nil (at_tn (at_condF rfl (at_skip (at_tn (at_seq (at_seq (at_region (r_move rfl rfl rfl (r_not rfl rfl rfl (run_nil (at_tn ?_)))))))))))
  refine at_cond rfl (fun hb1 => ?_) (fun hb1 => ?_)
  ·
   have hb : badA l d = false := by simpa using hb1
   have hc0 := hcf hb
   refine at_seq (at_region (r_move rfl rfl rfl ?_))
   refine r_lenV u33 rfl rfl rfl ?_
   refine r_cmpInt rfl rfl rfl rfl rfl ?_
   refine r_know 37 (.bool true) rfl (by rw [hc0]; rfl) ?_
   refine r_assign rfl rfl rfl (run_nil (at_tn (at_ret (at_tr ?_))))
   refine at_end1 rfl (res_tmp rfl) (fun w hL => ⟨(), ?_, hL.picks [] trivial rfl rfl⟩)
   exact rfl
  ·
   have hb : badA l d = true := by simpa using hb1
   have hq := hct hb
   obtain ⟨k, x, n, hk, hk0, hk1, hx, hxc, hM, hO, hneg⟩ := hq.first
   have hcl0 : 0 < c.length := (List.getElem?_eq_some_iff.1 hk).1
   refine at_base 0 rfl (fun hbase => ?_)
   refine at_base 1 rfl (fun hbc => ?_)
   obtain ⟨gc, hgc⟩ := il_base (pre := []) hbc (by omega)
   replace hgc : cb = some gc := hgc
   subst hgc
   have hk2 : k.toNat < l.length := by omega
   obtain ⟨gb, hgb⟩ := ex_base hbase (by omega)
   replace hgb : b = some gb := hgb
   subst hgb
   obtain rfl : a = some ⟨gb, pre.length, none⟩ := ha (fun e => by rw [e] at hk2; cases hk2)
   refine at_skip (at_tn (at_seq (at_seq (at_region (r_move rfl rfl rfl ?_)))))
   refine r_lenV u33 rfl rfl rfl ?_
   refine r_cmpInt rfl rfl rfl rfl rfl ?_
   refine r_know 40 (.bool false) rfl (congrArg Value.bool (by rw [beq_eq_false_iff_ne]; omega)) ?_
   refine r_move rfl rfl rfl (r_move rfl rfl rfl ?_)
   refine r_indexAddr 1 (0 * 1) u33 ti3 rfl rfl rfl rfl rfl (by omega) (by omega) (ILc_ne (by omega)) (by show 0 + Int.toNat _ * 1 = _; omega) ?_
   refine r_load (v := .int .i64 k) 1 (0 * 1) _ rfl rfl rfl rfl ti3 (ILc_get hk) rfl (by decide) rfl ?_
   refine r_cmpInt rfl rfl rfl rfl rfl ?_
   refine r_know 45 (.bool false) rfl (congrArg Value.bool (decide_eq_false (by omega))) ?_
   refine r_pickF rfl rfl rfl rfl (r_move rfl rfl rfl (r_move rfl rfl rfl ?_))
   refine r_indexAddr 1 (0 * 1) u33 ti3 rfl rfl rfl rfl rfl (by omega) (by omega) (ILc_ne (by omega)) (by show 0 + Int.toNat _ * 1 = _; omega) ?_
   refine r_load (v := .int .i64 k) 1 (0 * 1) _ rfl rfl rfl rfl ti3 (ILc_get hk) rfl (by decide) rfl ?_
   refine r_move rfl rfl rfl ?_
   refine r_lenV u22 rfl rfl rfl ?_
   refine r_cmpInt rfl rfl rfl rfl rfl ?_
   refine r_know 53 (.bool false) rfl (congrArg Value.bool (decide_eq_false (by omega))) ?_
   refine r_pickF rfl rfl rfl rfl (run_nil (at_tn (at_condF rfl (at_skip (at_tn (at_seq (at_region (r_move rfl rfl rfl (r_move rfl rfl rfl ?_)))))))))
   refine r_indexAddr 1 (0 * 1) u33 ti3 rfl rfl rfl rfl rfl (by omega) (by omega) (ILc_ne (by omega)) (by show 0 + Int.toNat _ * 1 = _; omega) ?_
   refine r_load (v := .int .i64 k) 1 (0 * 1) _ rfl rfl rfl rfl ti3 (ILc_get hk) rfl (by decide) rfl ?_
   refine r_indexAddr 0 (pre.length + k.toNat * 5) u22 ti49 rfl rfl rfl rfl rfl (by omega) (by omega) (pre_ne (XLc_ne (by omega))) (by show pre.length + Int.toNat _ * 5 = _; omega) ?_
   refine r_fieldAddr 0 (pre.length + k.toNat * 5) 0 rfl rfl rfl rfl rfl ti49 rfl rfl ?_
   refine r_load (v := .int .i64 x.f) 0 (pre.length + (k.toNat * 5 + 0)) _ rfl rfl rfl rfl ti3 (pre_get (XLc_f hx) rfl) rfl (by decide) rfl ?_
   refine r_assign rfl rfl rfl (run_nil (at_tn (at_seq (at_region (r_move rfl rfl rfl (r_move rfl rfl rfl (r_move rfl rfl rfl (r_move rfl rfl rfl ?_))))))))
   refine r_scall0 [_, _, _, _] [0, 1] rfl rfl rfl (c_law_sum l (some ⟨gb, pre.length, none⟩) (some gb) pre N cap hc ha hok c (some ⟨gc, 0, none⟩) (some gc) [] cN cc hcc (fun _ => rfl) hq.2.1 x.f x.f) ⟨⟨_, rfl, Blk.le_refl _⟩, ⟨_, rfl, le_share⟩, trivial⟩ rfl ?_
   refine r_know 67 (.tuple #[.int .i64 n, .bool true]) rfl (by rw [hM, hO]) ?_
   refine r_move rfl rfl rfl ?_
   refine r_extract (vs := [_, _]) rfl rfl rfl rfl ?_
   refine r_extract (vs := [_, _]) rfl rfl rfl rfl ?_
   refine r_know 69 (.bool true) rfl rfl ?_
   refine r_assign rfl rfl rfl (r_assign rfl rfl rfl (run_nil (at_tn (at_seq (at_region (r_move rfl rfl rfl (r_move rfl rfl rfl (r_move rfl rfl rfl (r_cmpInt rfl rfl rfl rfl rfl ?_)))))))))
   refine r_know 73 (.bool true) rfl (congrArg Value.bool (decide_eq_true hneg)) ?_
   refine r_pickT rfl rfl rfl rfl (r_move rfl rfl rfl (r_move rfl rfl rfl (r_move rfl rfl rfl ?_)))
   refine r_scall0 [_, _] [2] rfl rfl rfl (c_law_has (compL l d) kb kN kc hkc (by omega) x.f) ⟨⟨_, rfl, le_share⟩, trivial⟩ rfl ?_
   refine r_know 78 (.bool true) rfl (by rw [show (compL l d).contains x.f = true by simpa using hxc]) ?_
   refine r_pickT rfl rfl rfl rfl (r_assign rfl rfl rfl (run_nil (at_tn (at_ret ?_))))
   refine at_end1 rfl (res_tmp rfl) (fun w hL => ⟨(), ?_, hL.picks [] trivial rfl rfl⟩)
   exact rfl
end Go.Proofs.YtncogghlhlnmaaaGreatDoor
set_option linter.unusedVariables false
namespace Go.Proofs.YtncogghlhlnmaaaGreatDoor.clockCycles
open Go Go.ChangeShapes Go.WideShapes Go.ChangeAt Go.RowKit Go.Via
theorem laid : laidOutB Tryz.prog = true := by kernel_rfl
set_option maxRecDepth 20000 in
theorem contract (H : Type) (enc : TypeId × Value → H) (W : World) (base : Nat) (args : Array Value) (ds gs : List (DataW H)) (before : List MemPlace)
    (hval : ∀ (j : Nat) t v, Tryz.f6.params[j]? = some t → args[j]? = some v → Value.okWide Tryz.prog W .any base t v)
    (hW : DataW.Whole enc Tryz.prog Tryz.f6.params.toList Rows.clockCyclesSpec.vars false W args.toList ds gs before)
    (hsz : (DataW.weightsEach Tryz.prog (Tryz.f6.params.toList ++ (OpenSpec.ofChange Rows.clockCyclesSpec).bare.plain.varTypes Tryz.prog) (ds ++ gs)).all (· ≤ reachBytes) = true) :
    Calls Tryz.prog 6 args W fun e W' => ∃ v, e = .returned v ∧ Rows.clockCyclesSpec.post enc Tryz.prog Tryz.f6 false true false false W args v W' := by
  have hW' := hW
  obtain ⟨p, q, hA0, hV, rfl, hfz, hnd⟩ := hW
  have hA : DataW.TrodAll enc Tryz.prog W 0 (fun _ => true) true Tryz.f6.params.toList args.toList ds p := hA0
  rw [Tryz.params6] at hA hval
  obtain ⟨v0, vs0, d0, ds0, p0, q0, hargs, rfl, rfl, h0, r0⟩ := trodAll_cons hA
  obtain ⟨v1, vs1, d1, ds1, p1, q1, rfl, rfl, rfl, h1, r1⟩ := trodAll_cons r0
  obtain ⟨rfl, rfl, rfl⟩ := trodAll_nil r1
  obtain rfl : args = #[v0, v1] := by cases args; simp_all
  obtain ⟨rfl, rfl⟩ := trodVars_none hV
  have h0k := h0
  have h1k := h1
  obtain ⟨l0, a0, b0, pre0, N0, cap0, rfl, hc0, ha0, hB0, hn0⟩ := openXs (hval 0 22 v0 rfl rfl) h0
  obtain ⟨n1, rfl, z1⟩ := openN (hval 1 3 v1 rfl rfl) h1
  clear hA0
  simp only [List.append_nil] at hW'
  have walk := (c_ClockCycles l0 a0 b0 pre0 N0 cap0 hc0 ha0 n1 z1).2 W (relF_cons rfl hB0 hn0 (relF_nil W) (fun c hc => by cases hc))
  refine walk.mono fun e W' ⟨_, he, hg⟩ => ?_
  subst he
  have hlt : ∀ x ∈ p0 ++ (p1 ++ []), x.block < W.heap.size := fun x hx => hW'.lt x (by simpa using hx)
  have k0 : DataW.Trod enc Tryz.prog W' 0 (fun b => decide (b < W.heap.size)) true 22 (.slice a0 l0.length cap0) d0 p0 := Below.trod laid (by kernel_rfl) (of_decide_eq_true (by kernel_rfl)) h0k hg.below (fun x hx => hlt x (by simp [hx]))
  have k1 : DataW.Trod enc Tryz.prog W' 0 (fun b => decide (b < W.heap.size)) true 3 (.int .i64 n1) d1 p1 := Below.trod laid (by kernel_rfl) (of_decide_eq_true (by kernel_rfl)) h1k hg.below (fun x hx => hlt x (by simp [hx]))
  exact ⟨_, rfl, [d0, d1], [], p0 ++ (p1 ++ []), [], p0 ++ (p1 ++ []), [], by simpa using hW', trodAll_cons_mk (shut_bool Tryz.underlying4 _) trodAll_mk0, trodAll_cons_mk k0 (trodAll_cons_mk k1 (trodAll_mk0)), rfl, below_kept hg.below _, fun h => by cases h⟩
abbrev wit : Array Value := #[.slice none 0 0, .int .i64 0]
theorem reads (os : Os) {H : Type} (enc : TypeId × Value → H) : ∃ places, DataW.whole enc Tryz.prog ((laidWorld os).forCall (fun _ _ => 0) ⟨#[], wit, []⟩).memory Tryz.f6.params.toList Rows.clockCyclesSpec.vars false wit.toList 8 = some ([.nil, .lit (.int .i64 0)], [], places) :=
  ⟨[], by kernel_rfl⟩
set_option maxRecDepth 100000 in
theorem lifted (os : Os) (started : os.Started) (H : Type) (enc : TypeId × Value → H) (F : Stop.Interp) :
    ReturnsInHanded {} Tryz.checked os 6 .any ((OpenSpec.ofChange Rows.clockCyclesSpec).preRow enc Tryz.prog Tryz.f6 Rows.clockCyclesRow.domain false Rows.clockCyclesRow.laid) (((OpenSpec.ofChange Rows.clockCyclesSpec).at F).post enc Tryz.prog Tryz.f6 false true false false) := by
  obtain ⟨places, hx⟩ := reads os enc
  refine returnsInHanded_of_row (C := Tryz.checked) (s := OpenSpec.ofChange Rows.clockCyclesSpec) own started (by kernel_rfl) Tryz.func6
    (witness_row_at (enc := enc) (C := Tryz.checked) false (laidWorld os) wit rfl (by kernel_rfl) (by kernel_rfl) (by kernel_rfl)
      (OpenSpec.preRow_of_cond 8 hx (by kernel_rfl) (fun k hk => by cases hk) (by kernel_rfl) (laid_met os _))) ?_
  intro W base args ds gs before hval hW _ _ hsz hL _ _
  exact contract H enc W base args ds gs before hval hW hsz
theorem said : Rows.ClockCyclesSaid :=
  OpenClaim.holds_of_cond 6 Tryz.f6 rfl rfl rfl rfl rfl rfl rfl ⟨rfl, rfl, rfl, rfl, rfl⟩ rfl rfl rfl rfl rfl (by kernel_rfl) Tryz.func6 (by kernel_rfl)
    (of_decide_eq_true (by kernel_rfl)) (by unfold Func.isWrapper; first | (rw [if_pos (by decide +kernel)]; kernel_rfl) | (rw [if_neg (by decide +kernel)]; exact ⟨rfl, rfl⟩))
    (fun os started H enc _ F => by rw [OpenClaim.pre_eq_preRow]; exact lifted os started H enc F)
/-- No parameter wants a stand-in; the program's own looks are off. -/
theorem plain (f : FuncId) (fn : Func) (hf : Tryz.pinned.checked.prog.funcNamed "viator/viatorlaw26.ClockCycles" = some f) (hfn : Tryz.pinned.checked.prog.funcs[f]? = some fn) :
    false = Tryz.pinned.checked.prog.looks [] ∧ ∀ (j : Nat) t, fn.params[j]? = some t → Tryz.pinned.checked.prog.wantsStandIn t = false := by
  obtain rfl : f = 6 := Option.some.inj ((show Tryz.prog.funcNamed "viator/viatorlaw26.ClockCycles" = some 6 by kernel_rfl).symm.trans hf) |>.symm
  obtain rfl : fn = Tryz.f6 := (Option.some.inj (Tryz.func6.symm.trans hfn)).symm
  refine ⟨by kernel_rfl, fun j t ht => ?_⟩
  rw [Tryz.params6] at ht
  have hm : t ∈ ([22, 3] : List Nat) := by simpa using Array.mem_of_getElem? ht
  have hw : ∀ t ∈ ([22, 3] : List Nat), Tryz.prog.wantsStandIn t = false := by
    intro t ht
    simp only [List.mem_cons, List.mem_nil_iff, or_false] at ht
    rcases ht with rfl | rfl
    · exact (show Tryz.prog.wantsStandIn 22 = false by kernel_rfl)
    · exact (show Tryz.prog.wantsStandIn 3 = false by kernel_rfl)
  exact hw t hm
/-- ████ THE CARD ████ -/
theorem card : Rows.ClockCyclesCardSaid :=
  Claim7.holds_tied_plain_at .later [] _ _ _ _ said (fun _ h => by cases h) (by kernel_rfl) (fun _ h => by cases h) clockCycles_row_tie rfl ⟨rfl, rfl⟩ (by kernel_rfl) rfl plain (by kernel_rfl)
end Go.Proofs.YtncogghlhlnmaaaGreatDoor.clockCycles
namespace Go.Proofs.YtncogghlhlnmaaaGreatDoor
/-- the card -/
theorem clockCycles_holds : Rows.ClockCyclesCardSaid := clockCycles.card
end Go.Proofs.YtncogghlhlnmaaaGreatDoor
