/-
  The law SyntaxNames holds: for any string the call returns true and leaves its input as it was. No further conditions.
-/
import Derived.Test.YtfijbadahkmhbaaGreatDoorA04
import Derived.Test.YtfijbadahkmhbaaGreatDoorA08
import Derived.Test.YtfijbadahkmhbaaGreatDoorA11
import Derived.Test.YtfijbadahkmhbaaGreatDoorA12
set_option linter.unusedVariables false
set_option linter.unusedSimpArgs false
namespace Go.Proofs.YtfijbadahkmhbaaGreatDoor
open Go Go.RowKit Go.Via
def headK (p : Ps) : Nat × List Bs8 × Ps :=
  if p.is tValue = true then (1, [], p.adv)
  else if p.is tObjects = true then (2, [p.adv.tx], p.adv.name.want tWhere)
  else if p.is tPairs = true then (3, [p.adv.tx, (p.adv.name.want tComma).tx], (p.adv.name.want tComma).name.want tWhere)
  else (0, [], p.stop 15)
noncomputable def pqV (kind : Nat) (l : List Bs8) (r : XT × Ps) (b : Option Nat) (z : XR r.1) : Value :=
  .tuple #[if r.2.endE (chkQ kind l r.1) = 0 then QV kind b [] l l.length z else QV 0 none [] [] 0 XR.empty, .int .i64 ((if r.2.endE (chkQ kind l r.1) = 0 then 0 else r.2.endA : Nat) : Int), .int .i64 (r.2.endE (chkQ kind l r.1) : Nat)]
theorem pqV_no (kind : Nat) (l : List Bs8) {r : XT × Ps} (b : Option Nat) (z : XR r.1) (h : r.2.endE (chkQ kind l r.1) ≠ 0) : pqV kind l r b z = .tuple #[QV 0 none [] [] 0 XR.empty, .int .i64 (r.2.endA : Nat), .int .i64 (r.2.endE (chkQ kind l r.1) : Nat)] := by
  unfold pqV
  simp only [if_neg h]
theorem pqV_yes (kind : Nat) (l : List Bs8) {r : XT × Ps} (b : Option Nat) (z : XR r.1) (h : r.2.endE (chkQ kind l r.1) = 0) : pqV kind l r b z = .tuple #[QV kind b [] l l.length z, .int .i64 0, .int .i64 0] := by
  unfold pqV
  simp only [h, if_true]
  rfl
end Go.Proofs.YtfijbadahkmhbaaGreatDoor
set_option maxHeartbeats 20000000
namespace Go.Proofs.YtfijbadahkmhbaaGreatDoor
open Go Go.RowKit Go.Via
set_option maxRecDepth 20000 in
theorem c_Parse_ok (s : Bs8) (hs : s.length ≤ 4096) (kind : Nat) (l : List Bs8) (q : Ps) (hh : headK (p0 s).adv = (kind, l, q)) (f : Nat) (r : XT × Ps) (hr : lev f 1 q = some r) (hf : r.1.fit = true) (hM : r.1.size ≤ 1000000) : ECall Tryz.prog 42 [] [.string (strU s)] (Option Nat × XR r.1) (fun z => pqV kind l r z.1 z.2) (fun z => [⟨z.1, 9, SB l, l.length, true⟩, gB z.2.T true]) := by
 refine ⟨by kernel_rfl, fun B w hD hL0 => ?_⟩;have hP := Ps.adv_good (p := p0 s) ⟨hs, Nat.zero_le _⟩;have hA := Ps.adv_good hP.1;have hC := Ps.want_good (x := tComma) (Ps.name_good hA);refine cB1 62 Tryz.func42 hL0 ?_;refine A2 ?_;refine r_alloc [_, _, _, _, _, _, _, _, _] 9 (fun g => [⟨some g, 39, _, 9, true⟩]) rfl rfl z39 rfl rfl (fun _ => rfl) (fun g0 => ?_);refine A5 ?_;refine at_regionM ?_;refine A1 ?_;refine Gm 0 [] [] (fun g => [_, PB g (p0 s).adv true]) (c_start_ok s hs) (fun g => ?_);refine A14 ?_;refine at_cond rfl (fun hb0 => ?_) (fun hb0 => ?_)
 · exact absurd hb0 (by decide)
 ·
  refine A5 ?_;refine at_regionM ?_;refine A1 ?_;refine Gm 1 [1] [] (fun _ => [_, PB g ((p0 s).adv.tk tValue) true]) (c_p_take (p0 s).adv hP.1 tValue g) (fun _ => ?_);refine A3 ?_;refine at_cond rfl (fun hb1 => ?_) (fun hb1 => ?_)
  ·
   have hisv : (p0 s).adv.is tValue = true := hb1
   have htkv : (p0 s).adv.tk tValue = (p0 s).adv.adv := by unfold Ps.tk; rw [hisv]; rfl
   rw [htkv];unfold headK at hh;rw [if_pos hisv] at hh;cases hh;refine A2 ?_;refine So 0 0 [⟨some g0, 39, _, 9, true⟩, _] [_, _, _, _, _, _, _, _, _] ?_;refine A4 ?_;refine at_regionM ?_;refine A1 ?_;refine Gm 1 [1] [] (fun z => [_, PB g r.2 true, gB z.T true]) (c_p_level f g 1 ((p0 s).adv.adv) r hA (by decide) (by decide) hr) (fun z => ?_);refine A1 ?_;refine So 0 2 [⟨some g0, 39, _, 9, true⟩, _, _] [_, _, _, _, _, _, _, _, _] ?_;refine A3 ?_;refine at_weakL (L' := [_, _, _, ⟨none, 9, [], 0, true⟩]) (Weak.nilB _ (by decide)) ?_;refine at_regionM ?_;refine A2 ?_;refine r_gcallM (A := [PB g r.2 true]) (C := [QBr g0 1 none [] 0 z, VBk none 9 [] [] 0, gB z.T false]) [.pointer (some ⟨g, 0, none⟩), .func (.func 79) #[] #[.pointer (some ⟨g0, 0, none⟩)]] [1] [0, 3, 2] (fun _ => [_, PB g r.2.endP true, _, _]) rfl rfl rfl rfl (c_p_end_q r.2 g 1 (by decide) none 9 [] 0 0 (by simp) (fun v hv => by simp at hv) z hf hM g0) (by decide) rfl rfl ⟨⟨_, rfl, le_share⟩, ⟨_, rfl, le_share⟩, ⟨_, rfl, le_share⟩, trivial⟩ rfl rfl (fun _ => rfl) (fun _ => allOwn rfl) (fun _ => rfl) (fun _ => ?_);refine A14 ?_;refine at_cond rfl (fun hb2 => ?_) (fun hb2 => ?_)
   ·
    have hE : r.2.endE (chkQ 1 [] r.1) ≠ 0 := by simpa using hb2
    refine A2 ?_;refine r_build [] rfl rfl rfl (bd39_0) ?_;refine A2 ?_;refine So 0 0 [⟨some g0, 39, _, 9, true⟩, _, _, _] [_, _, _, _, _, _, _, _, _] ?_;refine A6 ?_;refine at_end3 rfl (res_cell 0 rfl rfl ti39 (vs := [_, _, _, _, _, _, _, _, _]) rfl rfl (Nat.le_of_ble_eq_true rfl) rfl) (res_tmp rfl) (res_tmp rfl) (fun w hL => ⟨(none, z), by exact congrArg Ending.returned (pqV_no 1 [] none z hE).symm, hL.pk [some 3, some 2]⟩)
   ·
    have hE : r.2.endE (chkQ 1 [] r.1) = 0 := by simpa using hb2
    refine A4 ?_;refine r_load 0 0 [_, _, _, _, _, _, _, _, _] rfl rfl rfl rfl ti39 rfl rfl rfl rfl ?_;refine So 0 0 [⟨some g0, 39, _, 9, true⟩, _, _, _] [_, _, _, _, _, _, _, _, _] ?_;refine A5 ?_;refine at_end3 rfl (res_cell 0 rfl rfl ti39 (vs := [_, _, _, _, _, _, _, _, _]) rfl rfl (Nat.le_of_ble_eq_true rfl) rfl) (res_tmp rfl) (res_tmp rfl) (fun w hL => ⟨(none, z), by exact congrArg Ending.returned (pqV_yes 1 [] none z hE).symm, hL.pk [some 3, some 2]⟩)
  ·
   have hisv : (p0 s).adv.is tValue = false := hb1
   have htkv : (p0 s).adv.tk tValue = (p0 s).adv := by unfold Ps.tk; rw [hisv]; rfl
   rw [htkv];refine A1 ?_;refine at_regionM ?_;refine A1 ?_;refine Gm 1 [1] [] (fun _ => [_, PB g ((p0 s).adv.tk tObjects) true]) (c_p_take (p0 s).adv hP.1 tObjects g) (fun _ => ?_);refine A3 ?_;refine at_cond rfl (fun hb2 => ?_) (fun hb2 => ?_)
   ·
    have hiso : (p0 s).adv.is tObjects = true := hb2
    have htko : (p0 s).adv.tk tObjects = (p0 s).adv.adv := by unfold Ps.tk; rw [hiso]; rfl
    rw [htko];unfold headK at hh;rw [if_neg (by rw [hisv]; simp), if_pos hiso] at hh;cases hh;refine A3 ?_;refine So 0 0 [⟨some g0, 39, _, 9, true⟩, _] [_, _, _, _, _, _, _, _, _] ?_;refine A3 ?_;refine at_regionM ?_;refine A1 ?_;refine Gm 1 [1] [] (fun _ => [_, PB g ((p0 s).adv.adv.name) true]) (c_p_name ((p0 s).adv.adv) hA.1 g) (fun _ => ?_);refine r_buildSlice [(0, _)] (fun g => [_, _, ⟨some g, 9, _, 1, true⟩]) rfl rfl rfl (bs36_1) rfl (fun _ => rfl) (fun g1 => ?_);refine A1 ?_;refine So 0 1 [⟨some g0, 39, _, 9, true⟩, _, _] [_, _, _, _, _, _, _, _, _] ?_;refine A2 ?_;refine at_regionM ?_;refine A1 ?_;refine Gm 1 [1] [] (fun _ => [_, PB g (((p0 s).adv.adv.name).want tWhere) true, _]) (c_p_want ((p0 s).adv.adv.name) (Ps.name_good hA).1 tWhere g) (fun _ => ?_);refine A4 ?_;refine at_regionM ?_;refine A1 ?_;refine Gm 1 [1] [] (fun z => [_, PB g r.2 true, _, gB z.T true]) (c_p_level f g 1 ((p0 s).adv.adv.name.want tWhere) r (Ps.want_good (Ps.name_good hA)) (by decide) (by decide) hr) (fun z => ?_);refine A1 ?_;refine So 0 2 [⟨some g0, 39, _, 9, true⟩, _, _, _] [_, _, _, _, _, _, _, _, _] ?_;refine A3 ?_;refine at_regionM ?_;refine A2 ?_;refine r_gcallM (A := [PB g r.2 true]) (C := [QBr g0 2 (some g1) [(p0 s).adv.adv.tx] 1 z, VBk (some g1) 9 [] [(p0 s).adv.adv.tx] 1, gB z.T false]) [.pointer (some ⟨g, 0, none⟩), .func (.func 79) #[] #[.pointer (some ⟨g0, 0, none⟩)]] [1] [0, 2, 3] (fun _ => [_, PB g r.2.endP true, _, _]) rfl rfl rfl rfl (c_p_end_q r.2 g 2 (by decide) (some g1) 9 [(p0 s).adv.adv.tx] 1 1 (by simp) (fun v hv => by have := hA.2.2; rw [List.mem_singleton.1 hv]; omega) z hf hM g0) (by decide) rfl rfl ⟨⟨_, rfl, le_share⟩, ⟨_, rfl, le_share⟩, ⟨_, rfl, le_share⟩, trivial⟩ rfl rfl (fun _ => rfl) (fun _ => allOwn rfl) (fun _ => rfl) (fun _ => ?_);refine A14 ?_;refine at_cond rfl (fun hb3 => ?_) (fun hb3 => ?_)
    ·
     have hE : r.2.endE (chkQ 2 [(p0 s).adv.adv.tx] r.1) ≠ 0 := by simpa using hb3
     refine A2 ?_;refine r_build [] rfl rfl rfl (bd39_0) ?_;refine A2 ?_;refine So 0 0 [⟨some g0, 39, _, 9, true⟩, _, _, _] [_, _, _, _, _, _, _, _, _] ?_;refine A6 ?_;refine at_end3 rfl (res_cell 0 rfl rfl ti39 (vs := [_, _, _, _, _, _, _, _, _]) rfl rfl (Nat.le_of_ble_eq_true rfl) rfl) (res_tmp rfl) (res_tmp rfl) (fun w hL => ⟨((some g1), z), by exact congrArg Ending.returned (pqV_no 2 [(p0 s).adv.adv.tx] (some g1) z hE).symm, hL.pk [some 2, some 3]⟩)
    ·
     have hE : r.2.endE (chkQ 2 [(p0 s).adv.adv.tx] r.1) = 0 := by simpa using hb3
     refine A4 ?_;refine r_load 0 0 [_, _, _, _, _, _, _, _, _] rfl rfl rfl rfl ti39 rfl rfl rfl rfl ?_;refine So 0 0 [⟨some g0, 39, _, 9, true⟩, _, _, _] [_, _, _, _, _, _, _, _, _] ?_;refine A5 ?_;refine at_end3 rfl (res_cell 0 rfl rfl ti39 (vs := [_, _, _, _, _, _, _, _, _]) rfl rfl (Nat.le_of_ble_eq_true rfl) rfl) (res_tmp rfl) (res_tmp rfl) (fun w hL => ⟨((some g1), z), by exact congrArg Ending.returned (pqV_yes 2 [(p0 s).adv.adv.tx] (some g1) z hE).symm, hL.pk [some 2, some 3]⟩)
   ·
    have hiso : (p0 s).adv.is tObjects = false := hb2
    have htko : (p0 s).adv.tk tObjects = (p0 s).adv := by unfold Ps.tk; rw [hiso]; rfl
    rw [htko];refine A1 ?_;refine at_regionM ?_;refine A1 ?_;refine Gm 1 [1] [] (fun _ => [_, PB g ((p0 s).adv.tk tPairs) true]) (c_p_take (p0 s).adv hP.1 tPairs g) (fun _ => ?_);refine A3 ?_;refine at_cond rfl (fun hb3 => ?_) (fun hb3 => ?_)
    ·
     have hisp : (p0 s).adv.is tPairs = true := hb3
     have htkp : (p0 s).adv.tk tPairs = (p0 s).adv.adv := by unfold Ps.tk; rw [hisp]; rfl
     rw [htkp];unfold headK at hh;rw [if_neg (by rw [hisv]; simp), if_neg (by rw [hiso]; simp), if_pos hisp] at hh;cases hh;refine A3 ?_;refine So 0 0 [⟨some g0, 39, _, 9, true⟩, _] [_, _, _, _, _, _, _, _, _] ?_;refine A3 ?_;refine at_regionM ?_;refine A1 ?_;refine Gm 1 [1] [] (fun _ => [_, PB g ((p0 s).adv.adv.name) true]) (c_p_name ((p0 s).adv.adv) hA.1 g) (fun _ => ?_);refine A4 ?_;refine at_regionM ?_;refine A1 ?_;refine Gm 1 [1] [] (fun _ => [_, PB g (((p0 s).adv.adv.name).want tComma) true]) (c_p_want ((p0 s).adv.adv.name) (Ps.name_good hA).1 tComma g) (fun _ => ?_);refine A3 ?_;refine at_regionM ?_;refine A2 ?_;refine Gm 1 [1] [] (fun _ => [_, PB g (((p0 s).adv.adv.name.want tComma).name) true]) (c_p_name (((p0 s).adv.adv.name.want tComma)) hC.1 g) (fun _ => ?_);refine r_buildSlice [(0, _), (1, _)] (fun g => [_, _, ⟨some g, 9, _, 2, true⟩]) rfl rfl rfl (bs36_2) rfl (fun _ => rfl) (fun g1 => ?_);refine A1 ?_;refine So 0 1 [⟨some g0, 39, _, 9, true⟩, _, _] [_, _, _, _, _, _, _, _, _] ?_;refine A2 ?_;refine at_regionM ?_;refine A1 ?_;refine Gm 1 [1] [] (fun _ => [_, PB g ((((p0 s).adv.adv.name.want tComma).name).want tWhere) true, _]) (c_p_want (((p0 s).adv.adv.name.want tComma).name) (Ps.name_good hC).1 tWhere g) (fun _ => ?_);refine A4 ?_;refine at_regionM ?_;refine A1 ?_;refine Gm 1 [1] [] (fun z => [_, PB g r.2 true, _, gB z.T true]) (c_p_level f g 1 (((p0 s).adv.adv.name.want tComma).name.want tWhere) r (Ps.want_good (Ps.name_good hC)) (by decide) (by decide) hr) (fun z => ?_);refine A1 ?_;refine So 0 2 [⟨some g0, 39, _, 9, true⟩, _, _, _] [_, _, _, _, _, _, _, _, _] ?_;refine A3 ?_;refine at_regionM ?_;refine A2 ?_;refine r_gcallM (A := [PB g r.2 true]) (C := [QBr g0 3 (some g1) [(p0 s).adv.adv.tx, ((p0 s).adv.adv.name.want tComma).tx] 2 z, VBk (some g1) 9 [] [(p0 s).adv.adv.tx, ((p0 s).adv.adv.name.want tComma).tx] 2, gB z.T false]) [.pointer (some ⟨g, 0, none⟩), .func (.func 79) #[] #[.pointer (some ⟨g0, 0, none⟩)]] [1] [0, 2, 3] (fun _ => [_, PB g r.2.endP true, _, _]) rfl rfl rfl rfl (c_p_end_q r.2 g 3 (by decide) (some g1) 9 [(p0 s).adv.adv.tx, ((p0 s).adv.adv.name.want tComma).tx] 2 2 (by simp) (fun v hv => by have h1 := hA.2.2; have h2 := hC.2.2; simp only [List.mem_cons, List.not_mem_nil, or_false] at hv; rcases hv with rfl | rfl <;> omega) z hf hM g0) (by decide) rfl rfl ⟨⟨_, rfl, le_share⟩, ⟨_, rfl, le_share⟩, ⟨_, rfl, le_share⟩, trivial⟩ rfl rfl (fun _ => rfl) (fun _ => allOwn rfl) (fun _ => rfl) (fun _ => ?_);refine A14 ?_;refine at_cond rfl (fun hb4 => ?_) (fun hb4 => ?_)
     ·
      have hE : r.2.endE (chkQ 3 [(p0 s).adv.adv.tx, ((p0 s).adv.adv.name.want tComma).tx] r.1) ≠ 0 := by simpa using hb4
      refine A2 ?_;refine r_build [] rfl rfl rfl (bd39_0) ?_;refine A2 ?_;refine So 0 0 [⟨some g0, 39, _, 9, true⟩, _, _, _] [_, _, _, _, _, _, _, _, _] ?_;refine A6 ?_;refine at_end3 rfl (res_cell 0 rfl rfl ti39 (vs := [_, _, _, _, _, _, _, _, _]) rfl rfl (Nat.le_of_ble_eq_true rfl) rfl) (res_tmp rfl) (res_tmp rfl) (fun w hL => ⟨((some g1), z), by exact congrArg Ending.returned (pqV_no 3 [(p0 s).adv.adv.tx, ((p0 s).adv.adv.name.want tComma).tx] (some g1) z hE).symm, hL.pk [some 2, some 3]⟩)
     ·
      have hE : r.2.endE (chkQ 3 [(p0 s).adv.adv.tx, ((p0 s).adv.adv.name.want tComma).tx] r.1) = 0 := by simpa using hb4
      refine A4 ?_;refine r_load 0 0 [_, _, _, _, _, _, _, _, _] rfl rfl rfl rfl ti39 rfl rfl rfl rfl ?_;refine So 0 0 [⟨some g0, 39, _, 9, true⟩, _, _, _] [_, _, _, _, _, _, _, _, _] ?_;refine A5 ?_;refine at_end3 rfl (res_cell 0 rfl rfl ti39 (vs := [_, _, _, _, _, _, _, _, _]) rfl rfl (Nat.le_of_ble_eq_true rfl) rfl) (res_tmp rfl) (res_tmp rfl) (fun w hL => ⟨((some g1), z), by exact congrArg Ending.returned (pqV_yes 3 [(p0 s).adv.adv.tx, ((p0 s).adv.adv.name.want tComma).tx] (some g1) z hE).symm, hL.pk [some 2, some 3]⟩)
    ·
     have hisp : (p0 s).adv.is tPairs = false := hb3
     have htkp : (p0 s).adv.tk tPairs = (p0 s).adv := by unfold Ps.tk; rw [hisp]; rfl
     rw [htkp];unfold headK at hh;rw [if_neg (by rw [hisv]; simp), if_neg (by rw [hiso]; simp), if_neg (by rw [hisp]; simp)] at hh;cases hh;refine at_regionM ?_;refine A1 ?_;refine Gm 1 [1] [] (fun _ => [_, PB g ((p0 s).adv.stop 15) true]) (c_p_stop (p0 s).adv 15 g) (fun _ => ?_);refine A4 ?_;refine at_regionM ?_;refine A1 ?_;refine Gm 1 [1] [] (fun z => [_, PB g r.2 true, gB z.T true]) (c_p_level f g 1 ((p0 s).adv.stop 15) r (Ps.stop_good hP) (by decide) (by decide) hr) (fun z => ?_);refine A1 ?_;refine So 0 2 [⟨some g0, 39, _, 9, true⟩, _, _] [_, _, _, _, _, _, _, _, _] ?_;refine A3 ?_;refine at_weakL (L' := [_, _, _, ⟨none, 9, [], 0, true⟩]) (Weak.nilB _ (by decide)) ?_;refine at_regionM ?_;refine A2 ?_;refine r_gcallM (A := [PB g r.2 true]) (C := [QBr g0 0 none [] 0 z, VBk none 9 [] [] 0, gB z.T false]) [.pointer (some ⟨g, 0, none⟩), .func (.func 79) #[] #[.pointer (some ⟨g0, 0, none⟩)]] [1] [0, 3, 2] (fun _ => [_, PB g r.2.endP true, _, _]) rfl rfl rfl rfl (c_p_end_q r.2 g 0 (by decide) none 9 [] 0 0 (by simp) (fun v hv => by simp at hv) z hf hM g0) (by decide) rfl rfl ⟨⟨_, rfl, le_share⟩, ⟨_, rfl, le_share⟩, ⟨_, rfl, le_share⟩, trivial⟩ rfl rfl (fun _ => rfl) (fun _ => allOwn rfl) (fun _ => rfl) (fun _ => ?_);refine A14 ?_;refine at_cond rfl (fun hb4 => ?_) (fun hb4 => ?_)
     ·
      have hE : r.2.endE (chkQ 0 [] r.1) ≠ 0 := by simpa using hb4
      refine A2 ?_;refine r_build [] rfl rfl rfl (bd39_0) ?_;refine A2 ?_;refine So 0 0 [⟨some g0, 39, _, 9, true⟩, _, _, _] [_, _, _, _, _, _, _, _, _] ?_;refine A6 ?_;refine at_end3 rfl (res_cell 0 rfl rfl ti39 (vs := [_, _, _, _, _, _, _, _, _]) rfl rfl (Nat.le_of_ble_eq_true rfl) rfl) (res_tmp rfl) (res_tmp rfl) (fun w hL => ⟨(none, z), by exact congrArg Ending.returned (pqV_no 0 [] none z hE).symm, hL.pk [some 3, some 2]⟩)
     ·
      have hE : r.2.endE (chkQ 0 [] r.1) = 0 := by simpa using hb4
      refine A4 ?_;refine r_load 0 0 [_, _, _, _, _, _, _, _, _] rfl rfl rfl rfl ti39 rfl rfl rfl rfl ?_;refine So 0 0 [⟨some g0, 39, _, 9, true⟩, _, _, _] [_, _, _, _, _, _, _, _, _] ?_;refine A5 ?_;refine at_end3 rfl (res_cell 0 rfl rfl ti39 (vs := [_, _, _, _, _, _, _, _, _]) rfl rfl (Nat.le_of_ble_eq_true rfl) rfl) (res_tmp rfl) (res_tmp rfl) (fun w hL => ⟨(none, z), by exact congrArg Ending.returned (pqV_yes 0 [] none z hE).symm, hL.pk [some 3, some 2]⟩)
end Go.Proofs.YtfijbadahkmhbaaGreatDoor
namespace Go.Proofs.YtfijbadahkmhbaaGreatDoor
open Go Go.RowKit Go.Via
theorem join_C : ∀ l : List Bs8, Lib.join l [44, 32] = joinC l
  | [] => rfl
  | [t] => by simp [Lib.join, joinC]
  | t :: u :: r => by
    have ih := join_C (u :: r)
    rw [joinC, ← ih]
    simp [Lib.join]
theorem c_Join (g : Nat) (e : Nat) (pre : List Value) (l : List Bs8) (n cap : Nat) (hl0 : l ≠ []) (hll : l.length ≤ 1000000) (hcap : l.length ≤ cap) (hj : (joinC l).length ≤ 140737488355328) :
    SCall Tryz.prog 58 [VBk (some g) e pre l n] [.slice (some ⟨g, pre.length, none⟩) l.length cap, .string (strU [44, 32])] Unit (fun _ => .string (strU (joinC l))) (fun _ => []) := by
  refine ⟨by kernel_rfl, fun w hL => ?_⟩
  obtain ⟨s0, hs0⟩ : ∃ s, l[0]? = some s := ⟨l[0]'(List.length_pos_iff.2 hl0), List.getElem?_eq_getElem _⟩
  have e1 : (l.map strU).map (·.data.toList) = l := by rw [List.map_map]; simp [Function.comp_def, strU]
  have h0 := hL.strs (k := 0) rfl hs0
  have h1 := Tryz.strings_Join g pre.length cap (l.map strU) (strU [44, 32]) w (fun j x hx => by
    rw [List.getElem?_map] at hx
    obtain ⟨s, hs, rfl⟩ := Option.map_eq_some_iff.1 hx
    exact hL.strs (k := 0) rfl hs) (by
      rcases Nat.lt_or_ge g w.heap.size with h | h
      · exact h
      · simp [World.cell?, Array.getElem?_eq_none h] at h0) (by simp; omega) (by simpa using hcap) (by
    rw [e1]; show (Lib.join l [44, 32]).length ≤ _; rw [join_C]; exact hj)
  rw [List.length_map] at h1
  refine Calls.mono h1 ?_
  rintro e w' ⟨rfl, hb⟩
  refine ⟨(), ?_, (LRel.nil w).same hb⟩
  rw [e1]
  show Ending.returned (Value.string ⟨(Lib.join l [44, 32]).toArray⟩) = _
  rw [join_C]
  rfl
theorem c_JoinB (b : Option Nat) (e : Nat) (pre : List Value) (l : List Bs8) (n cap : Nat) (hl0 : l ≠ []) (hll : l.length ≤ 1000000) (hcap : l.length ≤ cap) (hj : (joinC l).length ≤ 140737488355328) :
    SCall Tryz.prog 58 [VBk b e pre l n] [.slice (b.map fun g => ⟨g, pre.length, none⟩) l.length cap, .string (strU [44, 32])] Unit (fun _ => .string (strU (joinC l))) (fun _ => []) := by
  cases b with
  | some g => exact c_Join g e pre l n cap hl0 hll hcap hj
  | none =>
    refine ⟨by kernel_rfl, fun w hL => ?_⟩
    have h2 := ((hL.blk 0 _ rfl).2 rfl).1
    have h3 := congrArg List.length h2
    rw [List.length_append, SB_length] at h3
    exact absurd (List.eq_nil_of_length_eq_zero (by simp at h3; simp [h3.2])) hl0
def headS (k : Int) : Bs8 := if k = 1 then [118, 97, 108, 117, 101, 32] else if k = 2 then [111, 98, 106, 101, 99, 116, 115, 32] else [112, 97, 105, 114, 115, 32]
def sWhere : Bs8 := [32, 119, 104, 101, 114, 101, 32]
def headT (k : Int) (l : List Bs8) : Bs8 := if l = [] then headS k else headS k ++ (joinC l ++ sWhere)
theorem heads_get {k : Int} (h1 : 1 ≤ k) (h3 : k ≤ 3) : (([.string ⟨#[]⟩, .string ⟨#[118, 97, 108, 117, 101, 32]⟩, .string ⟨#[111, 98, 106, 101, 99, 116, 115, 32]⟩, .string ⟨#[112, 97, 105, 114, 115, 32]⟩] : List Value).drop (k.toNat * 1)).take 1 = [.string (strU (headS k))] := by
  have h : k = 1 ∨ k = 2 ∨ k = 3 := by omega
  rcases h with rfl | rfl | rfl <;> rfl
theorem chkQ_kind {kind : Int} {l : List Bs8} {x : XT} (h : chkQ kind l x = 0) : (1 ≤ kind ∧ kind ≤ 3) ∧ chkE x = 0 := by
  unfold chkQ at h
  split at h
  · cases h
  rename_i h1
  split at h
  · cases h
  split at h
  · cases h
  split at h
  · cases h
  split at h
  · rename_i h2; exact absurd h h2
  rename_i h2
  exact ⟨by omega, by simpa using h2⟩
noncomputable def prQT (kind : Int) (l : List Bs8) (x : XT) : Bs8 := if chkQ kind l x = 0 then prT (headT kind l ++ txt x 1) else []
noncomputable def prQC (kind : Int) (l : List Bs8) (x : XT) : Int := if chkQ kind l x = 0 then prC (headT kind l ++ txt x 1) else (chkQ kind l x : Nat)
end Go.Proofs.YtfijbadahkmhbaaGreatDoor
set_option maxHeartbeats 20000000
namespace Go.Proofs.YtfijbadahkmhbaaGreatDoor
open Go Go.RowKit Go.Via
set_option maxRecDepth 20000 in
theorem c_Print (kind : Int) (hk : -9223372036854775808 ≤ kind ∧ kind ≤ 9223372036854775807) (b : Option Nat) (e : Nat) (pre : List Value) (l : List Bs8) (n cap : Nat) (hll : l.length ≤ 1000000) (hvl : ∀ v ∈ l, v.length ≤ 1000000) (hcap : l.length ≤ cap) {x : XT} (z : XR x) (m : Int) (hf : x.fit = true) (hM : x.size ≤ 1000000) (hb : chkQ kind l x = 0 → (headT kind l).length + (txt x 1).length ≤ 17179869184) : ECall Tryz.prog 28 [VBk b e pre l n, gB z.T false, GM m] [QV kind b pre l cap z] Unit (fun _ => .tuple #[.string (strU (prQT kind l x)), .int .i64 (prQC kind l x)]) (fun _ => []) := by
 refine ⟨by kernel_rfl, fun B w hD hL0 => ?_⟩;refine cB1 33 Tryz.func28 hL0 ?_;refine A2 ?_;refine Bo [_, _, _, _, _, _, _, _, _] 9 (fun g => [_, _, _, ⟨some g, 39, _, 9, true⟩]) (fun g0 => ?_);refine A6 ?_;refine at_regionM ?_;refine r_load 3 0 [_, _, _, _, _, _, _, _, _] rfl rfl rfl rfl ti39 rfl rfl rfl rfl ?_;refine r_know 7 (QV kind b pre l cap z) rfl rfl ?_;refine Gm 0 [] [0, 1] (fun _ => [_, _, _, _]) (c_Check kind hk b e pre l n cap hll hvl z hf hM) (fun _ => ?_);refine A9 ?_;refine at_cond rfl (fun hb0 => ?_) (fun hb0 => ?_)
 ·
  have kc : chkQ kind l x ≠ 0 := by simpa using hb0
  refine A9 ?_;refine at_end2 rfl (res_tmp rfl) (res_tmp rfl) (fun w hL => ⟨(), by unfold prQT prQC; rw [if_neg kc, if_neg kc]; rfl, hL.pk []⟩)
 ·
  have kc : chkQ kind l x = 0 := by simpa using hb0
  have hkk := chkQ_kind kc;obtain ⟨⟨hk1, hk3⟩, _⟩ := id hkk;refine A4 ?_;refine r_build [(1, _), (2, _), (3, _)] rfl rfl rfl (bd79_1_2_3x) ?_;refine r_alloc [_, _, _, _] 4 (fun g => [_, _, _, _, ⟨some g, 79, _, 4, true⟩]) rfl rfl z79 rfl rfl (fun _ => rfl) (fun g1 => ?_);refine So 4 0 [_, _, _, _, ⟨some g1, 79, _, 4, true⟩] [_, _, _, _] ?_;refine A6 ?_;refine r_indexAddrA (kind.toNat * 1) u79 ti9 rfl rfl rfl rfl (by omega) (by omega) (by show 0 + Int.toNat _ * 1 = _; omega) ?_;refine r_load (v := .string (strU (headS kind))) 4 (kind.toNat * 1) _ rfl rfl rfl rfl ti9 (heads_get hk1 hk3) rfl (by decide) rfl ?_;refine A12 ?_;refine at_cond rfl (fun hb1 => ?_) (fun hb1 => ?_)
  ·
   have hl0 : l ≠ [] := fun e => by have := of_decide_eq_true hb1; rw [e] at this; simp at this
   have hT : headT kind l = headS kind ++ (joinC l ++ sWhere) := if_neg hl0;have hjb0 := hb kc;rw [hT] at hjb0;simp only [List.length_append] at hjb0
   have hjb : (joinC l).length ≤ 140737488355328 := by omega
   refine at_regionM ?_;refine A3 ?_;refine r_scall0 [slv b pre.length l.length cap, .string (strU [44, 32])] [0] rfl rfl rfl (c_JoinB b e pre l n cap hl0 hll hcap hjb) ⟨⟨_, rfl, Blk.le_refl _⟩, trivial⟩ rfl ?_;refine r_addS (p := joinC l) (q := sWhere) rfl rfl rfl rfl rfl rfl rfl (by omega) ?_;refine r_addS (p := headS kind) (q := joinC l ++ sWhere) rfl rfl rfl rfl rfl rfl rfl (by rw [List.length_append]; omega) ?_;refine A4 ?_;refine at_regionM ?_;refine A2 ?_;refine r_load 3 2 [_, _, _, _, _, _, _] rfl rfl rfl rfl ti30 rfl rfl rfl rfl ?_;refine r_know 29 (z.v) rfl rfl ?_;refine Gm 0 [] [1, 2] (fun _ => [_, _, _, _, _]) (c_printed z m (chk_ok x 1 0 hkk.2) hf (by omega) (headS kind ++ (joinC l ++ sWhere)) (by rw [← hT]; exact hb kc)) (fun _ => ?_);refine A7 ?_;refine at_end2 rfl (res_tmp rfl) (res_tmp rfl) (fun w hL => ⟨(), by unfold prQT prQC; rw [if_pos kc, if_pos kc, hT], hL.pk []⟩)
  ·
   have hl0 : l = [] := List.eq_nil_of_length_eq_zero (by have := of_decide_eq_false hb1; omega);have hT : headT kind l = headS kind := if_pos hl0;refine A3 ?_;refine at_regionM ?_;refine A2 ?_;refine r_load 3 2 [_, _, _, _, _, _, _] rfl rfl rfl rfl ti30 rfl rfl rfl rfl ?_;refine r_know 29 (z.v) rfl rfl ?_;refine Gm 0 [] [1, 2] (fun _ => [_, _, _, _, _]) (c_printed z m (chk_ok x 1 0 hkk.2) hf (by omega) (headS kind) (by rw [← hT]; exact hb kc)) (fun _ => ?_);refine A7 ?_;refine at_end2 rfl (res_tmp rfl) (res_tmp rfl) (fun w hL => ⟨(), by unfold prQT prQC; rw [if_pos kc, if_pos kc, hT], hL.pk []⟩)
end Go.Proofs.YtfijbadahkmhbaaGreatDoor
set_option maxHeartbeats 20000000
namespace Go.Proofs.YtfijbadahkmhbaaGreatDoor
open Go Go.RowKit Go.Via
set_option maxRecDepth 20000 in
theorem c_Size {x : XT} (z : XR x) (hM : x.size ≤ 1000000000) : ECall Tryz.prog 20 [gB z.T false] [z.v] Unit (fun _ => .int .i64 (foldN (fun _ lv n => n + 1) x 1 0 : Nat)) (fun _ => []) := by
 refine ⟨by kernel_rfl, fun B w hD hL0 => ?_⟩;refine cB1 8 Tryz.func20 hL0 ?_;refine A2 ?_;refine Bo [_, _, _, _, _, _, _] 7 (fun g => [_, ⟨some g, 30, _, 7, true⟩]) (fun g0 => ?_);refine A5 ?_;refine r_alloc [_] 1 (fun g => [_, _, ⟨some g, 3, _, 1, true⟩]) rfl rfl z3 rfl rfl (fun _ => rfl) (fun g1 => ?_);refine So 2 0 [_, _, ⟨some g1, 3, _, 1, true⟩] [_] ?_;refine A3 ?_;refine at_regionM ?_;refine r_load 1 0 [_, _, _, _, _, _, _] rfl rfl rfl rfl ti30 rfl rfl rfl rfl ?_;refine r_know 4 (z.v) rfl rfl ?_;refine A1 ?_;refine r_gcallM (A := [VN g1 0]) (C := [gB z.T false]) [z.v, .int .i64 (1 : Nat), .func (.func 52) #[] #[.pointer (some ⟨g1, 0, none⟩)]] [2] [0] (fun _ => [_, _, VN g1 (foldN (fun _ lv n => n + 1) x 1 0)]) rfl rfl rfl rfl (c_each 52 (fun _ lv n => n + 1) (fun _ lv n => by omega) g1 (fun u lv n h h2 => c_Size_1 u lv n g1 h h2) x z 1 0 (by omega)) (by decide) rfl rfl ⟨⟨_, rfl, Blk.le_refl _⟩, trivial⟩ rfl rfl (fun _ => rfl) (fun _ => allOwn rfl) (fun _ => rfl) (fun _ => ?_);refine A9 ?_;refine at_end1 rfl (res_tmp rfl) (fun w hL => ⟨(), rfl, hL.pk []⟩)
set_option maxRecDepth 20000 in
theorem c_Depth {x : XT} (z : XR x) (hM : x.size ≤ 1000000000) : ECall Tryz.prog 22 [gB z.T false] [z.v] Unit (fun _ => .int .i64 (foldN (fun _ lv n => max n lv) x 1 0 : Nat)) (fun _ => []) := by
 refine ⟨by kernel_rfl, fun B w hD hL0 => ?_⟩;refine cB1 8 Tryz.func22 hL0 ?_;refine A2 ?_;refine Bo [_, _, _, _, _, _, _] 7 (fun g => [_, ⟨some g, 30, _, 7, true⟩]) (fun g0 => ?_);refine A5 ?_;refine r_alloc [_] 1 (fun g => [_, _, ⟨some g, 3, _, 1, true⟩]) rfl rfl z3 rfl rfl (fun _ => rfl) (fun g1 => ?_);refine So 2 0 [_, _, ⟨some g1, 3, _, 1, true⟩] [_] ?_;refine A3 ?_;refine at_regionM ?_;refine r_load 1 0 [_, _, _, _, _, _, _] rfl rfl rfl rfl ti30 rfl rfl rfl rfl ?_;refine r_know 4 (z.v) rfl rfl ?_;refine A1 ?_;refine r_gcallM (A := [VN g1 0]) (C := [gB z.T false]) [z.v, .int .i64 (1 : Nat), .func (.func 53) #[] #[.pointer (some ⟨g1, 0, none⟩)]] [2] [0] (fun _ => [_, _, VN g1 (foldN (fun _ lv n => max n lv) x 1 0)]) rfl rfl rfl rfl (c_each 53 (fun _ lv n => max n lv) (fun _ lv n => by omega) g1 (fun u lv n h h2 => c_Depth_1 u lv n g1 h h2) x z 1 0 (by omega)) (by decide) rfl rfl ⟨⟨_, rfl, Blk.le_refl _⟩, trivial⟩ rfl rfl (fun _ => rfl) (fun _ => allOwn rfl) (fun _ => rfl) (fun _ => ?_);refine A9 ?_;refine at_end1 rfl (res_tmp rfl) (fun w hL => ⟨(), rfl, hL.pk []⟩)
end Go.Proofs.YtfijbadahkmhbaaGreatDoor
set_option maxRecDepth 20000
namespace Go.Proofs.YtfijbadahkmhbaaGreatDoor
open Go Go.RowKit Go.Via
def kS : Bs8 := [111, 98, 106, 101, 99, 116, 115, 32, 99, 32, 119, 104, 101, 114, 101, 32, 115, 111, 109, 101, 116, 105, 109, 101, 40, 105, 110, 115, 105, 100, 101, 40, 99, 44, 32, 122, 111, 110, 101, 40, 34, 110, 111, 114, 116, 104, 34, 41, 41, 32, 97, 110, 100, 32, 119, 105, 116, 104, 105, 110, 40, 99, 44, 32, 111, 98, 106, 101, 99, 116, 40, 51, 41, 44, 32, 53, 48, 41, 41]
def kq : Ps := (p0 kS).adv.adv.name.want tWhere
def kT : XT := .node 26 [.node 23 [.node 16 [.named 4 [99], .named 5 [110, 111, 114, 116, 104]], .node 15 [.named 4 [99], .numd 3 3, .numd 1 50]]]
def kP : Ps := ⟨kS, 79, 0, 79, [], 0, 0, false⟩
theorem k_head : headK (p0 kS).adv = (2, [[99]], kq) := by kernel_rfl
theorem k_lev : lev 60 1 kq = some (kT, kP) := by kernel_rfl
theorem k_fit : kT.fit = true := by decide +kernel
theorem k_size : kT.size = 9 := by kernel_rfl
theorem k_end (e : Nat) : kP.endE e = e := rfl
theorem k_txt : txt kT 1 = kS.drop 16 := by kernel_rfl
theorem k_sz : foldN (fun _ lv n => n + 1) kT 1 0 = 9 := by kernel_rfl
theorem k_dp : foldN (fun _ lv n => max n lv) kT 1 0 = 4 := by kernel_rfl
end Go.Proofs.YtfijbadahkmhbaaGreatDoor
set_option maxRecDepth 20000
namespace Go.Proofs.YtfijbadahkmhbaaGreatDoor
open Go Go.RowKit Go.Via
theorem k_chkE : chkE kT = 0 := by kernel_rfl
theorem k_varsL : varsL kT = [[99], [99]] := by kernel_rfl
theorem k_vars : varsU kT = [[99]] := by
  unfold varsU
  rw [k_varsL]
  unfold sortL
  simp [List.mergeSort, Lib.compact]
  try rfl
end Go.Proofs.YtfijbadahkmhbaaGreatDoor
set_option maxRecDepth 20000
namespace Go.Proofs.YtfijbadahkmhbaaGreatDoor
open Go Go.RowKit Go.Via
theorem k_chkQ : chkQ 2 [[99]] kT = 0 := by
  unfold chkQ
  rw [if_neg (by decide), if_neg (by decide), if_neg (by decide +kernel), if_neg (by decide), if_neg (by rw [k_chkE]; simp), if_neg (by rw [k_vars]; decide)]
theorem k_E : kP.endE (chkQ 2 [[99]] kT) = 0 := by rw [k_end, k_chkQ]
theorem k_prT : prQT 2 [[99]] kT = kS := by
  unfold prQT
  rw [if_pos k_chkQ, k_txt]
  kernel_rfl
theorem k_prC : prQC 2 [[99]] kT = 0 := by
  unfold prQC
  rw [if_pos k_chkQ, k_txt]
  kernel_rfl
theorem c_Parse_k : ECall Tryz.prog 42 [] [.string (strU kS)] (Option Nat × XR kT) (fun z => .tuple #[QV 2 z.1 [] [[99]] 1 z.2, .int .i64 0, .int .i64 0]) (fun z => [⟨z.1, 9, SB [[99]], 1, true⟩, gB z.2.T true]) := by
  have h := c_Parse_ok kS (by decide) 2 [[99]] kq k_head 60 (kT, kP) k_lev k_fit (by rw [show (kT, kP).1 = kT from rfl, k_size]; decide)
  have e : (fun z : Option Nat × XR kT => pqV 2 [[99]] (kT, kP) z.1 z.2) = (fun z => .tuple #[QV 2 z.1 [] [[99]] 1 z.2, .int .i64 0, .int .i64 0]) := funext fun z => pqV_yes 2 [[99]] (r := (kT, kP)) z.1 z.2 k_E
  exact e ▸ h
theorem c_Print_k (b : Option Nat) (z : XR kT) (m : Int) : ECall Tryz.prog 28 [VBk b 9 [] [[99]] 1, gB z.T false, GM m] [QV 2 b [] [[99]] 1 z] Unit (fun _ => .tuple #[.string (strU kS), .int .i64 0]) (fun _ => []) := by
  have h := c_Print 2 (by decide) b 9 [] [[99]] 1 1 (by simp) (fun v hv => by rw [List.mem_singleton.1 hv]; simp) (by simp) z m k_fit (by rw [k_size]; decide) (fun _ => by rw [k_txt]; decide +kernel)
  rw [k_prT, k_prC] at h
  exact h
theorem c_Variables_k (z : XR kT) : ECall Tryz.prog 25 [gB z.T false] [z.v] (SRw [[99]]) (fun s => slv s.b 0 1 s.cap) (fun s => [VR s]) := by
  have h := c_Variables z (by rw [k_size]; decide)
  rw [k_vars] at h
  exact h
theorem c_Size_k (z : XR kT) : ECall Tryz.prog 20 [gB z.T false] [z.v] Unit (fun _ => .int .i64 9) (fun _ => []) := by
  have h := c_Size z (by rw [k_size]; decide)
  rw [k_sz] at h
  exact h
theorem c_Depth_k (z : XR kT) : ECall Tryz.prog 22 [gB z.T false] [z.v] Unit (fun _ => .int .i64 4) (fun _ => []) := by
  have h := c_Depth z (by rw [k_size]; decide)
  rw [k_dp] at h
  exact h
end Go.Proofs.YtfijbadahkmhbaaGreatDoor
set_option maxHeartbeats 20000000
namespace Go.Proofs.YtfijbadahkmhbaaGreatDoor
open Go Go.RowKit Go.Via
set_option maxRecDepth 20000 in
theorem c_known (m : Int) : ECall Tryz.prog 12 [GM m] [] Unit (fun _ => .bool true) (fun _ => []) := by
 refine ⟨by kernel_rfl, fun B w hD hL0 => ?_⟩;refine cB0 65 Tryz.func12 hL0 ?_;refine A11 ?_;refine at_regionM ?_;refine A1 ?_;refine Gm 0 [] [] (fun (z : Option Nat × XR kT) => [_, ⟨z.1, 9, SB [[99]], 1, true⟩, gB z.2.T true]) c_Parse_k (fun ⟨b, z⟩ => ?_);refine A4 ?_;refine r_alloc [_, _, _, _, _, _, _, _, _] 9 (fun g => [_, _, _, ⟨some g, 39, _, 9, true⟩]) rfl rfl z39 rfl rfl (fun _ => rfl) (fun g0 => ?_);refine So 3 0 [_, _, _, ⟨some g0, 39, _, 9, true⟩] [_, _, _, _, _, _, _, _, _] ?_;refine A5 ?_;refine at_regionM ?_;refine r_load 3 0 [_, _, _, _, _, _, _, _, _] rfl rfl rfl rfl ti39 rfl rfl rfl rfl ?_;refine r_know 15 (QV 2 b [] [[99]] 1 z) rfl rfl ?_;refine r_gcallM (A := []) (C := [VBk b 9 [] [[99]] 1, gB z.T false, GM m]) [QV 2 b [] [[99]] 1 z] [] [1, 2, 0] (fun _ => [_, _, _, _]) rfl rfl rfl rfl (c_Print_k b z m) (by decide) rfl rfl ⟨⟨_, rfl, le_share⟩, ⟨_, rfl, le_share⟩, ⟨_, rfl, Blk.le_refl _⟩, trivial⟩ rfl rfl (fun _ => rfl) (fun _ => allOwn rfl) (fun _ => rfl) (fun _ => ?_);refine A8 ?_;refine at_regionM ?_;refine A1 ?_;refine r_load 3 2 [_, _, _, _, _, _, _] rfl rfl rfl rfl ti30 rfl rfl rfl rfl ?_;refine r_know 20 (z.v) rfl rfl ?_;refine r_gcallM (A := []) (C := [gB z.T false]) [z.v] [] [2] (fun s => [_, _, _, _, VR s]) rfl rfl rfl rfl (c_Variables_k z) (by decide) rfl rfl ⟨⟨_, rfl, le_share⟩, trivial⟩ rfl rfl (fun _ => rfl) (fun _ => allOwn rfl) (fun _ => rfl) (fun s => ?_);refine A4 ?_;refine at_regionM ?_;refine A3 ?_;refine r_split 24 rfl (fun hb0 => ?_) (fun hb0 => ?_)
 ·
  refine A4 ?_;refine r_split 28 rfl (fun hb1 => ?_) (fun hb1 => ?_)
  ·
   refine A5 ?_;refine r_split 33 rfl (fun hb2 => ?_) (fun hb2 => ?_)
   ·
    refine A4 ?_;refine r_split 37 rfl (fun hb3 => ?_) (fun hb3 => ?_)
    ·
     refine A5 ?_;refine r_split 42 rfl (fun hb4 => ?_) (fun hb4 => ?_)
     ·
      refine A5 ?_;refine r_split 47 rfl (fun hb5 => ?_) (fun hb5 => ?_)
      ·
       refine A1 ?_;refine r_indexAddr 4 (0 * 1) u36 ti9 rfl rfl rfl rfl rfl (by decide) (by decide) (SB_ne (by decide)) (by show 0 + Int.toNat _ * 1 = _; rfl) ?_;refine r_load (v := .string (strU [99])) 4 (0 * 1) _ rfl rfl rfl rfl ti9 (SB_get rfl) rfl (by decide) rfl ?_;refine A3 ?_;refine r_split 53 rfl (fun hb6 => ?_) (fun hb6 => ?_)
       ·
        refine A1 ?_;refine r_load 3 2 [_, _, _, _, _, _, _] rfl rfl rfl rfl ti30 rfl rfl rfl rfl ?_;refine r_know 55 (z.v) rfl rfl ?_;refine r_gcallM (A := []) (C := [gB z.T false]) [z.v] [] [2] (fun _ => [_, _, _, _, _]) rfl rfl rfl rfl (c_Size_k z) (by decide) rfl rfl ⟨⟨_, rfl, le_share⟩, trivial⟩ rfl rfl (fun _ => rfl) (fun _ => allOwn rfl) (fun _ => rfl) (fun _ => ?_);refine A3 ?_;refine r_split 59 rfl (fun hb7 => ?_) (fun hb7 => ?_)
        ·
         refine A1 ?_;refine r_load 3 2 [_, _, _, _, _, _, _] rfl rfl rfl rfl ti30 rfl rfl rfl rfl ?_;refine r_know 61 (z.v) rfl rfl ?_;refine r_gcallM (A := []) (C := [gB z.T false]) [z.v] [] [2] (fun _ => [_, _, _, _, _]) rfl rfl rfl rfl (c_Depth_k z) (by decide) rfl rfl ⟨⟨_, rfl, le_share⟩, trivial⟩ rfl rfl (fun _ => rfl) (fun _ => allOwn rfl) (fun _ => rfl) (fun _ => ?_);refine A6 ?_;refine at_end1 rfl (res_tmp rfl) (fun w hL => ⟨(), rfl, hL.pk []⟩)
        · exact absurd hb7 (by first | decide | simp)
       · exact absurd hb6 (by first | decide | simp)
      · exact absurd hb5 (by first | decide | simp)
     · exact absurd hb4 (by first | decide | simp)
    · exact absurd hb3 (by first | decide | simp)
   · exact absurd hb2 (by first | decide | simp)
  · exact absurd hb1 (by first | decide | simp)
 · exact absurd hb0 (by first | decide | simp)
end Go.Proofs.YtfijbadahkmhbaaGreatDoor
set_option maxHeartbeats 20000000
namespace Go.Proofs.YtfijbadahkmhbaaGreatDoor
open Go Go.RowKit Go.Via
set_option maxRecDepth 20000 in
theorem c_law_word (l : Bs8) (hn : l.length ≤ 1000000) : PCall Tryz.prog 45 #[.string (strU l)] (.bool (wordL l)) := by
 refine ⟨by kernel_rfl, fun w => ?_⟩;refine cB1 34 Tryz.func45 (LRel.nil w) ?_;refine A12 ?_;refine El (ι := {i : Nat // i ≤ l.length ∧ wordL l = wordAt l i}) (fun ⟨i, hi, hI⟩ => ([(0, .string (strU l)), (3, .int .i64 (i : Nat))], [], l.length - i)) ⟨0, Nat.zero_le _, rfl⟩ ?_;rintro ⟨i, hi, hI⟩;(try dsimp only);refine A6 ?_;refine r_know 6 (.int .i64 (l.length : Nat)) rfl (by rw [strU_size]) ?_;refine A3 ?_;refine at_cond rfl (fun hb1 => ?_) (fun hb1 => ?_)
 ·
  have hlt : i < l.length := (by have := of_decide_eq_true hb1; omega)
  obtain ⟨c, hx⟩ : ∃ c, l[i]? = some c := ⟨l[i], List.getElem?_eq_getElem hlt⟩
  refine A8 ?_;refine r_idxS (b := c) (r := (c.toNat : Int)) u9 rfl rfl rfl rfl (by omega) hx rfl ?_;refine Pc (c_law_letter _) ?_;refine A2 ?_;refine r_split 15 rfl (fun hb2 => ?_) (fun hb2 => ?_)
  ·
   have hlet : isLet c = false := by simpa using hb2
   refine A3 ?_;refine r_split 18 rfl (fun hb3 => ?_) (fun hb3 => ?_)
   ·
    have hi0 : i = 0 := by have := eq_of_beq hb3; omega
    refine A27 ?_;refine at_end1 rfl (res_tmp rfl) (fun w hL => ⟨?_, hL.below⟩);exact congrArg (fun b => Ending.returned (.bool b)) (by rw [hI, wordAt_no hx hlet (.inl hi0)])
   ·
    have hi0 : i ≠ 0 := by have := ne_of_beq_false hb3; omega
    refine A2 ?_;refine r_idxS (b := c) (r := (c.toNat : Int)) u9 rfl rfl rfl rfl (by omega) hx rfl ?_;refine Pc (c_law_digit _) ?_;refine A2 ?_;refine r_split 24 rfl (fun hb4 => ?_) (fun hb4 => ?_)
    ·
     have hdig : isDig c = false := by simpa using hb4
     refine A2 ?_;refine r_idxS (b := c) (r := (c.toNat : Int)) u9 rfl rfl rfl rfl (by omega) hx rfl ?_;refine A6 ?_;refine at_cond rfl (fun hb5 => ?_) (fun hb5 => ?_)
     ·
      have h95 : c ≠ 95 := by have hh := hb5; simp only [bne_iff_ne, ne_eq, Bool.not_eq_true, bne_eq_false_iff_eq] at hh; intro e; subst e; exact hh rfl
      refine A11 ?_;refine at_end1 rfl (res_tmp rfl) (fun w hL => ⟨?_, hL.below⟩);exact congrArg (fun b => Ending.returned (.bool b)) (by rw [hI, wordAt_no hx hlet (.inr ⟨hdig, h95⟩)])
     ·
      have h95 : c = 95 := by have hh := hb5; simp only [bne_iff_ne, ne_eq, Bool.not_eq_true, bne_eq_false_iff_eq] at hh; exact UInt8.toNat_inj.1 (by simpa using Int.ofNat_inj.1 hh)
      refine A5 ?_;refine Ar (((i + 1 : Nat) : Int)) ?_;refine A3 ?_;exact Nl ⟨i + 1, hlt, hI.trans (wordAt_go hx (.inr ⟨hi0, .inr h95⟩))⟩
    ·
     have hdig : isDig c = true := by simpa using hb4
     refine A15 ?_;refine Ar (((i + 1 : Nat) : Int)) ?_;refine A3 ?_;exact Nl ⟨i + 1, hlt, hI.trans (wordAt_go hx (.inr ⟨hi0, .inl hdig⟩))⟩
  ·
   have hlet : isLet c = true := by simpa using hb2
   refine A24 ?_;refine Ar (((i + 1 : Nat) : Int)) ?_;refine A3 ?_;exact Nl ⟨i + 1, hlt, hI.trans (wordAt_go hx (.inl hlet))⟩
 ·
  have hge : i = l.length := (by have := of_decide_eq_false hb1; omega)
  subst hge;refine A13 ?_;refine at_end1 rfl (res_tmp rfl) (fun w hL => ⟨?_, hL.below⟩);exact congrArg (fun b => Ending.returned (.bool b)) (by rw [hI, wordAt_end])
set_option maxRecDepth 20000 in
theorem c_law_isZone (l : Bs8) (hn : l.length ≤ 1000000) : PCall Tryz.prog 16 #[.string (strU l)] (.bool (zoneL l)) := by
 refine ⟨by kernel_rfl, fun w => ?_⟩;refine cB1 28 Tryz.func16 (LRel.nil w) ?_;refine A12 ?_;refine El (ι := {i : Nat // i ≤ l.length ∧ l.all zch = (l.drop i).all zch}) (fun ⟨i, hi, hI⟩ => ([(0, .string (strU l)), (3, .int .i64 (i : Nat))], [], l.length - i)) ⟨0, Nat.zero_le _, rfl⟩ ?_;rintro ⟨i, hi, hI⟩;(try dsimp only);refine A6 ?_;refine r_know 6 (.int .i64 (l.length : Nat)) rfl (by rw [strU_size]) ?_;refine A3 ?_;refine at_cond rfl (fun hb1 => ?_) (fun hb1 => ?_)
 ·
  have hlt : i < l.length := (by have := of_decide_eq_true hb1; omega)
  obtain ⟨c, hx⟩ : ∃ c, l[i]? = some c := ⟨l[i], List.getElem?_eq_getElem hlt⟩
  refine A8 ?_;refine r_idxS (b := c) (r := (c.toNat : Int)) u9 rfl rfl rfl rfl (by omega) hx rfl ?_;refine A2 ?_;refine r_split 14 rfl (fun hb2 => ?_) (fun hb2 => ?_)
  ·
   have h32 : c.toNat < 32 := (by have := of_decide_eq_true hb2; omega)
   have hz : zch c = false := by unfold zch; simp; omega
   refine A19 ?_;refine at_end1 rfl (res_tmp rfl) (fun w hL => ⟨?_, hL.below⟩);exact congrArg (fun b => Ending.returned (.bool b)) (by unfold zoneL; rw [hI, all_go hx, hz]; rfl)
  ·
   have h32 : ¬ c.toNat < 32 := (by have := of_decide_eq_false hb2; omega)
   refine A2 ?_;refine r_idxS (b := c) (r := (c.toNat : Int)) u9 rfl rfl rfl rfl (by omega) hx rfl ?_;refine A4 ?_;refine at_cond rfl (fun hb3 => ?_) (fun hb3 => ?_)
   ·
    have h126 : 126 < c.toNat := (by have := of_decide_eq_true hb3; omega)
    have hz : zch c = false := by unfold zch; simp; omega
    refine A11 ?_;refine at_end1 rfl (res_tmp rfl) (fun w hL => ⟨?_, hL.below⟩);exact congrArg (fun b => Ending.returned (.bool b)) (by unfold zoneL; rw [hI, all_go hx, hz]; rfl)
   ·
    have h126 : ¬ 126 < c.toNat := (by have := of_decide_eq_false hb3; omega)
    have hz : zch c = true := by unfold zch; simp; omega
    refine A5 ?_;refine Ar (((i + 1 : Nat) : Int)) ?_;refine A3 ?_;exact Nl ⟨i + 1, hlt, by rw [hI, all_go hx, hz, Bool.true_and]⟩
 ·
  have hge : i = l.length := (by have := of_decide_eq_false hb1; omega)
  subst hge;refine A9 ?_;refine r_know 21 (.int .i64 (l.length : Nat)) rfl (by rw [strU_size]) ?_;refine A2 ?_;refine r_split 23 rfl (fun hb2 => ?_) (fun hb2 => ?_)
  ·
   have h1 : 1 ≤ l.length := (by have := of_decide_eq_true hb2; omega)
   refine A2 ?_;refine r_know 25 (.int .i64 (l.length : Nat)) rfl (by rw [strU_size]) ?_;refine A6 ?_;refine at_end1 rfl (res_tmp rfl) (fun w hL => ⟨?_, hL.below⟩);exact congrArg (fun b => Ending.returned (.bool b)) (by unfold zoneL; rw [hI, List.drop_length, decide_eq_true h1]; simp; omega)
  ·
   have h1 : ¬ 1 ≤ l.length := (by have := of_decide_eq_false hb2; omega)
   refine A8 ?_;refine at_end1 rfl (res_tmp rfl) (fun w hL => ⟨?_, hL.below⟩);exact congrArg (fun b => Ending.returned (.bool b)) (by unfold zoneL; rw [decide_eq_false h1]; simp)
end Go.Proofs.YtfijbadahkmhbaaGreatDoor
set_option maxRecDepth 20000
namespace Go.Via
open Go Go.RowKit
def frm4 (o : Nat × Nat × Nat × Bs8) : List Value := [.int .i64 (o.1 : Nat), .int .i64 (o.2.1 : Nat), .int .i64 (o.2.2.1 : Nat), .string (strU o.2.2.2)]
def frmC (l : List (Nat × Nat × Nat × Bs8)) : List Value := l.flatMap frm4
theorem frmC_cons (o : Nat × Nat × Nat × Bs8) (l : List (Nat × Nat × Nat × Bs8)) : frmC (o :: l) = frm4 o ++ frmC l := List.flatMap_cons
theorem frmC_get : ∀ {l : List (Nat × Nat × Nat × Bs8)} {i : Nat} {o : Nat × Nat × Nat × Bs8}, l[i]? = some o → ((frmC l).drop (i * 4)).take 4 = frm4 o
  | [], i, o, h => by simp at h
  | p :: l, 0, o, h => by simp at h; subst h; rw [frmC_cons]; rfl
  | p :: l, i + 1, o, h => by
    rw [frmC_cons, List.drop_append, show (i + 1) * 4 - (frm4 p).length = i * 4 by show (i + 1) * 4 - 4 = _; omega, List.drop_eq_nil_of_le (by show 4 ≤ _; omega)]
    exact frmC_get (l := l) (by simpa using h)
theorem frmC_word {l : List (Nat × Nat × Nat × Bs8)} {i : Nat} {o : Nat × Nat × Nat × Bs8} (h : l[i]? = some o) : ((frmC l).drop (i * 4 + 3)).take 1 = [.string (strU o.2.2.2)] := by
  have h1 := frmC_get h
  have h2 : (((frmC l).drop (i * 4)).take 4).drop 3 = [.string (strU o.2.2.2)] := by rw [h1]; rfl
  rw [List.drop_take, List.drop_drop] at h2
  exact h2
theorem frmC_ne {l : List (Nat × Nat × Nat × Bs8)} (h : l ≠ []) : frmC l ≠ [] := by
  cases l with
  | nil => exact absurd rfl h
  | cons o l => rw [frmC_cons]; simp [frm4]
theorem mres_yes {l : Bs8} {i : Nat} {o : Nat × Nat × Nat × Bs8} (ho : frmT[i]? = some o) (h : o.2.2.2 = l) : mresL.contains l = true := by
  rw [List.contains_iff_mem]
  unfold mresL
  exact List.mem_append.2 (.inr (List.mem_map.2 ⟨o, List.mem_of_getElem? ho, h⟩))
theorem mres_four {l : Bs8} (h : l = [118, 97, 108, 117, 101] ∨ l = [111, 98, 106, 101, 99, 116, 115] ∨ l = [112, 97, 105, 114, 115] ∨ l = [119, 104, 101, 114, 101]) : mresL.contains l = true := by
  rcases h with rfl | rfl | rfl | rfl <;> decide +kernel
theorem mres_no {l : Bs8} (h1 : l ≠ [118, 97, 108, 117, 101]) (h2 : l ≠ [111, 98, 106, 101, 99, 116, 115]) (h3 : l ≠ [112, 97, 105, 114, 115]) (h4 : l ≠ [119, 104, 101, 114, 101]) (h : (frmT.all fun o => o.2.2.2 != l) = true) : mresL.contains l = false := by
  rw [← Bool.not_eq_true, List.contains_iff_mem]
  unfold mresL
  intro hm
  rcases List.mem_append.1 hm with hm | hm
  · simp at hm
    rcases hm with e | e | e | e
    · exact h1 e
    · exact h2 e
    · exact h3 e
    · exact h4 e
  · obtain ⟨o, ho, e⟩ := List.mem_map.1 hm
    have := List.all_eq_true.1 h o ho
    rw [e] at this
    simp at this
end Go.Via
set_option maxHeartbeats 20000000
namespace Go.Proofs.YtfijbadahkmhbaaGreatDoor
open Go Go.RowKit Go.Via
set_option maxRecDepth 20000 in
theorem c_law_forms  : SCall Tryz.prog 86 [] [] Nat (fun g => slv (some g) 0 30 30) (fun g => [⟨some g, 94, frmC frmT, 120, true⟩]) := by
 refine ⟨by kernel_rfl, fun w hL0 => ?_⟩;refine cB0 32 Tryz.func86 hL0 ?_;refine A7 ?_;refine r_build [(0, _), (1, _), (2, _), (3, _)] rfl rfl rfl (bd94_4) ?_;refine r_build [(0, _), (1, _), (2, _), (3, _)] rfl rfl rfl (bd94_4) ?_;refine r_build [(0, _), (1, _), (2, _), (3, _)] rfl rfl rfl (bd94_4) ?_;refine r_build [(0, _), (1, _), (2, _), (3, _)] rfl rfl rfl (bd94_4) ?_;refine r_build [(0, _), (1, _), (2, _), (3, _)] rfl rfl rfl (bd94_4) ?_;refine r_build [(0, _), (1, _), (2, _), (3, _)] rfl rfl rfl (bd94_4) ?_;refine r_build [(0, _), (1, _), (2, _), (3, _)] rfl rfl rfl (bd94_4) ?_;refine r_build [(0, _), (1, _), (2, _), (3, _)] rfl rfl rfl (bd94_4) ?_;refine r_build [(0, _), (1, _), (2, _), (3, _)] rfl rfl rfl (bd94_4) ?_;refine r_build [(0, _), (1, _), (2, _), (3, _)] rfl rfl rfl (bd94_4) ?_;refine r_build [(0, _), (1, _), (2, _), (3, _)] rfl rfl rfl (bd94_4) ?_;refine r_build [(0, _), (1, _), (2, _), (3, _)] rfl rfl rfl (bd94_4) ?_;refine r_build [(0, _), (1, _), (2, _), (3, _)] rfl rfl rfl (bd94_4) ?_;refine r_build [(0, _), (1, _), (2, _), (3, _)] rfl rfl rfl (bd94_4) ?_;refine r_build [(0, _), (1, _), (2, _), (3, _)] rfl rfl rfl (bd94_4) ?_;refine r_build [(0, _), (1, _), (2, _), (3, _)] rfl rfl rfl (bd94_4) ?_;refine r_build [(0, _), (1, _), (2, _), (3, _)] rfl rfl rfl (bd94_4) ?_;refine r_build [(0, _), (1, _), (2, _), (3, _)] rfl rfl rfl (bd94_4) ?_;refine r_build [(0, _), (1, _), (2, _), (3, _)] rfl rfl rfl (bd94_4) ?_;refine r_build [(0, _), (1, _), (2, _), (3, _)] rfl rfl rfl (bd94_4) ?_;refine r_build [(0, _), (1, _), (2, _), (3, _)] rfl rfl rfl (bd94_4) ?_;refine r_build [(0, _), (1, _), (2, _), (3, _)] rfl rfl rfl (bd94_4) ?_;refine r_build [(0, _), (1, _), (2, _), (3, _)] rfl rfl rfl (bd94_4) ?_;refine r_build [(0, _), (1, _), (2, _), (3, _)] rfl rfl rfl (bd94_4) ?_;refine r_build [(0, _), (1, _), (2, _), (3, _)] rfl rfl rfl (bd94_4) ?_;refine r_build [(0, _), (1, _), (2, _), (3, _)] rfl rfl rfl (bd94_4) ?_;refine r_build [(0, _), (1, _), (2, _), (3, _)] rfl rfl rfl (bd94_4) ?_;refine r_build [(0, _), (1, _), (2, _), (3, _)] rfl rfl rfl (bd94_4) ?_;refine r_build [(0, _), (1, _), (2, _), (3, _)] rfl rfl rfl (bd94_4) ?_;refine r_build [(0, _), (1, _), (2, _), (3, _)] rfl rfl rfl (bd94_4) ?_;refine r_buildSlice [(0, _), (1, _), (2, _), (3, _), (4, _), (5, _), (6, _), (7, _), (8, _), (9, _), (10, _), (11, _), (12, _), (13, _), (14, _), (15, _), (16, _), (17, _), (18, _), (19, _), (20, _), (21, _), (22, _), (23, _), (24, _), (25, _), (26, _), (27, _), (28, _), (29, _)] (fun g => [⟨some g, 94, _, 120, true⟩]) rfl rfl rfl (bs115_30) rfl (fun _ => rfl) (fun g0 => ?_);refine A4 ?_;refine at_end1 rfl (res_tmp rfl) (fun w hL => ⟨g0, rfl, hL⟩)
set_option maxRecDepth 20000 in
theorem c_law_reserved (l : Bs8) : PCall Tryz.prog 46 #[.string (strU l)] (.bool (mresL.contains l)) := by
 refine ⟨by kernel_rfl, fun w => ?_⟩;refine cB1 33 Tryz.func46 (LRel.nil w) ?_;refine A11 ?_;refine r_split 7 rfl (fun hb0 => ?_) (fun hb0 => ?_)
 ·
  have k1 : l = [118, 97, 108, 117, 101] := by have hh := hb0; rw [show (l = [118, 97, 108, 117, 101]) = (((l == [118, 97, 108, 117, 101]) = true)) from by simp, ← strU_beq]; exact hh
  refine A21 ?_;refine at_end1 rfl (res_tmp rfl) (fun w hL => ⟨?_, hL.below⟩);exact congrArg (fun b => Ending.returned (.bool b)) (mres_four (.inl k1)).symm
 ·
  have k1 : l ≠ [118, 97, 108, 117, 101] := by have hh := hb0; rw [show (l ≠ [118, 97, 108, 117, 101]) = (((l == [118, 97, 108, 117, 101]) = false)) from by simp, ← strU_beq]; exact hh
  refine A4 ?_;refine r_split 11 rfl (fun hb1 => ?_) (fun hb1 => ?_)
  ·
   have k2 : l = [111, 98, 106, 101, 99, 116, 115] := by have hh := hb1; rw [show (l = [111, 98, 106, 101, 99, 116, 115]) = (((l == [111, 98, 106, 101, 99, 116, 115]) = true)) from by simp, ← strU_beq]; exact hh
   refine A17 ?_;refine at_end1 rfl (res_tmp rfl) (fun w hL => ⟨?_, hL.below⟩);exact congrArg (fun b => Ending.returned (.bool b)) (mres_four (.inr (.inl k2))).symm
  ·
   have k2 : l ≠ [111, 98, 106, 101, 99, 116, 115] := by have hh := hb1; rw [show (l ≠ [111, 98, 106, 101, 99, 116, 115]) = (((l == [111, 98, 106, 101, 99, 116, 115]) = false)) from by simp, ← strU_beq]; exact hh
   refine A4 ?_;refine r_split 15 rfl (fun hb2 => ?_) (fun hb2 => ?_)
   ·
    have k3 : l = [112, 97, 105, 114, 115] := by have hh := hb2; rw [show (l = [112, 97, 105, 114, 115]) = (((l == [112, 97, 105, 114, 115]) = true)) from by simp, ← strU_beq]; exact hh
    refine A13 ?_;refine at_end1 rfl (res_tmp rfl) (fun w hL => ⟨?_, hL.below⟩);exact congrArg (fun b => Ending.returned (.bool b)) (mres_four (.inr (.inr (.inl k3)))).symm
   ·
    have k3 : l ≠ [112, 97, 105, 114, 115] := by have hh := hb2; rw [show (l ≠ [112, 97, 105, 114, 115]) = (((l == [112, 97, 105, 114, 115]) = false)) from by simp, ← strU_beq]; exact hh
    refine A5 ?_;refine at_cond rfl (fun hb3 => ?_) (fun hb3 => ?_)
    ·
     have k4 : l = [119, 104, 101, 114, 101] := by have hh := hb3; rw [show (l = [119, 104, 101, 114, 101]) = (((l == [119, 104, 101, 114, 101]) = true)) from by simp, ← strU_beq]; exact hh
     refine A7 ?_;refine at_end1 rfl (res_tmp rfl) (fun w hL => ⟨?_, hL.below⟩);exact congrArg (fun b => Ending.returned (.bool b)) (mres_four (.inr (.inr (.inr k4)))).symm
    ·
     have k4 : l ≠ [119, 104, 101, 114, 101] := by have hh := hb3; rw [show (l ≠ [119, 104, 101, 114, 101]) = (((l == [119, 104, 101, 114, 101]) = false)) from by simp, ← strU_beq]; exact hh
     refine A4 ?_;refine r_scall [] [] rfl rfl rfl c_law_forms trivial rfl (.inr fun _ b hb => by rw [List.mem_singleton.1 hb]) (fun gf => ?_);refine A10 ?_;refine El (ι := {i : Nat // i ≤ 30 ∧ ((frmT.take i).all fun o => o.2.2.2 != l) = true}) (fun ⟨i, hi, hI⟩ => ([(0, .string (strU l)), (3, slv (some gf) 0 30 30), (4, .int .i64 (i : Nat))], [⟨some gf, 94, frmC frmT, 120, true⟩], 30 - i)) ⟨0, Nat.zero_le _, rfl⟩ ?_;rintro ⟨i, hi, hI⟩;(try dsimp only);refine A9 ?_;refine at_cond rfl (fun hb5 => ?_) (fun hb5 => ?_)
     ·
      have hlt : i < 30 := (by have := of_decide_eq_true hb5; omega)
      obtain ⟨o, ho⟩ : ∃ o, frmT[i]? = some o := ⟨frmT[i]'(by show i < 30; exact hlt), List.getElem?_eq_getElem _⟩
      refine A8 ?_;refine Ix 0 (i * 4) ?_;refine r_fieldAddr 0 (i * 4) 3 rfl rfl rfl rfl rfl ti94 rfl rfl ?_;refine r_load (v := .string (strU o.2.2.2)) 0 (i * 4 + 3) _ rfl rfl rfl rfl ti9 (frmC_word ho) rfl (by decide) rfl ?_;refine A4 ?_;refine at_cond rfl (fun hb6 => ?_) (fun hb6 => ?_)
      ·
       have hw : o.2.2.2 = l := by have hh := hb6; rw [strU_beq] at hh; simpa using hh
       refine A11 ?_;refine at_end1 rfl (res_tmp rfl) (fun w hL => ⟨?_, hL.below⟩);exact congrArg (fun b => Ending.returned (.bool b)) (mres_yes ho hw).symm
      ·
       have hw : o.2.2.2 ≠ l := by have hh := hb6; rw [strU_beq] at hh; simpa using hh
       refine A5 ?_;refine Ar (((i + 1 : Nat) : Int)) ?_;refine A3 ?_;exact Nl ⟨i + 1, hlt, by rw [List.take_add_one, ho, List.all_append, hI]; simpa using hw⟩ (hL := Weak.auto)
     ·
      have hge : i = 30 := (by have := of_decide_eq_false hb5; omega)
      subst hge;refine A11 ?_;refine at_end1 rfl (res_tmp rfl) (fun w hL => ⟨?_, hL.below⟩);exact congrArg (fun b => Ending.returned (.bool b)) (mres_no k1 k2 k3 k4 hI).symm
end Go.Proofs.YtfijbadahkmhbaaGreatDoor
set_option maxHeartbeats 20000000
namespace Go.Proofs.YtfijbadahkmhbaaGreatDoor
open Go Go.RowKit Go.Via
set_option maxRecDepth 20000 in
theorem c_law_isName (l : Bs8) (hl : l.length ≤ 1000000) : PCall Tryz.prog 14 #[.string (strU l)] (.bool (mnameL l)) := by
 refine ⟨by kernel_rfl, fun w => ?_⟩;refine cB1 15 Tryz.func14 (LRel.nil w) ?_;refine A8 ?_;refine Pc (c_law_word l hl) ?_;refine A1 ?_;refine r_split 5 rfl (fun hb0 => ?_) (fun hb0 => ?_)
 ·
  have hw : wordL l = true := hb0;refine A2 ?_;refine r_know 7 (.int .i64 (l.length : Nat)) rfl (by rw [strU_size]) ?_;refine A3 ?_;refine r_split 10 rfl (fun hb1 => ?_) (fun hb1 => ?_)
  ·
   have hl4 : decide (l.length ≤ 40) = true := by have hh := hb1; simp only [decide_eq_true_eq, decide_eq_false_iff_not] at hh ⊢; omega
   refine A1 ?_;refine Pc (c_law_reserved l) ?_;refine A6 ?_;refine at_end1 rfl (res_tmp rfl) (fun w hL => ⟨?_, hL.below⟩);exact congrArg (fun b => Ending.returned (.bool b)) (by unfold mnameL; rw [hw, hl4]; rfl)
  ·
   have hl4 : decide (l.length ≤ 40) = false := by have hh := hb1; simp only [decide_eq_true_eq, decide_eq_false_iff_not] at hh ⊢; omega
   refine A8 ?_;refine at_end1 rfl (res_tmp rfl) (fun w hL => ⟨?_, hL.below⟩);exact congrArg (fun b => Ending.returned (.bool b)) (by unfold mnameL; rw [hw, hl4]; rfl)
 ·
  have hw : wordL l = false := hb0;refine A13 ?_;refine at_end1 rfl (res_tmp rfl) (fun w hL => ⟨?_, hL.below⟩);exact congrArg (fun b => Ending.returned (.bool b)) (by unfold mnameL; rw [hw]; rfl)
set_option maxRecDepth 20000 in
theorem c_SyntaxNames (m : Int) (l : Bs8) : ECall Tryz.prog 3 [GM m] [.string (strU l)] Unit (fun _ => .bool true) (fun _ => []) := by
 refine ⟨by kernel_rfl, fun B w hD hL0 => ?_⟩;refine cB1 23 Tryz.func3 hL0 ?_;refine A7 ?_;refine at_regionM ?_;refine Gm 0 [] [0] (fun _ => [_]) (c_known m) (fun _ => ?_);refine A2 ?_;refine r_split 5 rfl (fun hb0 => ?_) (fun hb0 => ?_)
 · exact absurd hb0 (by decide)
 ·
  refine A2 ?_;refine r_know 7 (.int .i64 (l.length : Nat)) rfl (by rw [strU_size]) ?_;refine A4 ?_;refine at_cond rfl (fun hb1 => ?_) (fun hb1 => ?_)
  ·
   have h60 : (60 : Int) < (l.length : Nat) := of_decide_eq_true hb1;refine A1 ?_;refine at_regionM ?_;refine Gm 0 [] [0] (fun _ => [_]) (c_known m) (fun _ => ?_);refine A5 ?_;refine at_end1 rfl (res_tmp rfl) (fun w hL => ⟨(), rfl, hL.pk []⟩)
  ·
   have h60 : ¬ (60 : Int) < (l.length : Nat) := of_decide_eq_false hb1
   have hl : l.length ≤ 1000000 := by omega
   refine A5 ?_;refine Pc (c_syntax_IsName l hl) ?_;refine A1 ?_;refine Pc (c_law_isName l hl) ?_;refine r_know 14 (.bool (nameL l)) rfl (by rw [name_same]) ?_;refine r_eqlBool rfl u4 rfl rfl rfl ?_;refine r_know 15 (.bool true) rfl (congrArg Value.bool (beq_self_eq_true _)) ?_;refine A1 ?_;refine r_split 16 rfl (fun hb2 => ?_) (fun hb2 => ?_)
   ·
    refine A1 ?_;refine Pc (c_syntax_IsZone l hl) ?_;refine A1 ?_;refine Pc (c_law_isZone l hl) ?_;refine r_eqlBool rfl u4 rfl rfl rfl ?_;refine r_know 21 (.bool true) rfl (congrArg Value.bool (beq_self_eq_true _)) ?_;refine A5 ?_;refine at_end1 rfl (res_tmp rfl) (fun w hL => ⟨(), rfl, hL.pk []⟩)
   · exact absurd hb2 (by decide)
end Go.Proofs.YtfijbadahkmhbaaGreatDoor
namespace Go.Proofs.YtfijbadahkmhbaaGreatDoor.syntaxNames
open Go Go.ChangeShapes Go.WideShapes Go.ChangeAt Go.RowKit Go.Via
theorem laid : laidOutB Tryz.prog = true := by kernel_rfl
set_option maxRecDepth 20000 in
theorem contract (H : Type) (enc : TypeId × Value → H) (W : World) (base : Nat) (args : Array Value) (ds gs : List (DataW H)) (before : List MemPlace)
    (hval : ∀ (j : Nat) t v, Tryz.f3.params[j]? = some t → args[j]? = some v → Value.okWide Tryz.prog W .any base t v)
    (hW : DataW.Whole enc Tryz.prog Tryz.f3.params.toList Rows.syntaxNamesSpec.vars false W args.toList ds gs before)
    (hsz : (DataW.weightsEach Tryz.prog (Tryz.f3.params.toList ++ (OpenSpec.ofChange Rows.syntaxNamesSpec).bare.plain.varTypes Tryz.prog) (ds ++ gs)).all (· ≤ reachBytes) = true) (hsh : W.ShapedOpen Tryz.prog) :
    Calls Tryz.prog 3 args W fun e W' => ∃ v, e = .returned v ∧ Rows.syntaxNamesSpec.post enc Tryz.prog Tryz.f3 false true false false W args v W' := by
  have hW' := hW
  obtain ⟨p, q, hA0, hV, rfl, hfz, hnd⟩ := hW
  have hA : DataW.TrodAll enc Tryz.prog W 0 (fun _ => true) true Tryz.f3.params.toList args.toList ds p := hA0
  rw [Tryz.params3] at hA hval
  obtain ⟨v0, vs0, d0, ds0, p0, q0, hargs, rfl, rfl, h0, r0⟩ := trodAll_cons hA
  obtain ⟨rfl, rfl, rfl⟩ := trodAll_nil r0
  obtain rfl : args = #[v0] := by cases args; simp_all
  obtain ⟨rfl, rfl⟩ := trodVars_none hV
  have h0k := h0
  obtain ⟨s0, rfl, _⟩ := Go.ChangeMaps.open_string Tryz.underlying9 (hval 0 9 v0 rfl rfl) h0
  clear hA0
  simp only [List.append_nil] at hW'
  obtain ⟨m, hm⟩ := maxCell hsh
  have walk := (c_SyntaxNames m s0.data.toList).2 (Bs.of W) W rfl (relGM hm)
  rw [← str_strU s0] at walk
  refine walk.mono fun e W' ⟨_, he, hg⟩ => ?_
  subst he
  have hlt : ∀ x ∈ p0 ++ [], x.block < W.heap.size := fun x hx => hW'.lt x (by simpa using hx)
  have k0 : DataW.Trod enc Tryz.prog W' 0 (fun b => decide (b < W.heap.size)) true 9 (.string s0) d0 p0 := Below.trod laid (by kernel_rfl) (of_decide_eq_true (by kernel_rfl)) h0k hg.below (fun x hx => hlt x (by simp [hx]))
  exact ⟨_, rfl, [d0], [], p0 ++ [], [], p0 ++ [], [], by simpa using hW', trodAll_cons_mk (shut_bool Tryz.underlying4 _) trodAll_mk0, trodAll_cons_mk k0 (trodAll_mk0), rfl, below_kept hg.below _, fun h => by cases h⟩
abbrev wit : Array Value := #[.string ⟨#[]⟩]
theorem reads (os : Os) {H : Type} (enc : TypeId × Value → H) : ∃ places, DataW.whole enc Tryz.prog ((laidWorld os).forCall (fun _ _ => 0) ⟨#[], wit, []⟩).memory Tryz.f3.params.toList Rows.syntaxNamesSpec.vars false wit.toList 8 = some ([.lit (.string [])], [], places) :=
  ⟨[], by kernel_rfl⟩
set_option maxRecDepth 100000 in
theorem lifted (os : Os) (started : os.Started) (H : Type) (enc : TypeId × Value → H) (F : Stop.Interp) :
    ReturnsInHanded {} Tryz.checked os 3 .any ((OpenSpec.ofChange Rows.syntaxNamesSpec).preRow enc Tryz.prog Tryz.f3 Rows.syntaxNamesRow.domain false Rows.syntaxNamesRow.laid) (((OpenSpec.ofChange Rows.syntaxNamesSpec).at F).post enc Tryz.prog Tryz.f3 false true false false) := by
  obtain ⟨places, hx⟩ := reads os enc
  refine returnsInHanded_of_row (C := Tryz.checked) (s := OpenSpec.ofChange Rows.syntaxNamesSpec) own started (by kernel_rfl) Tryz.func3
    (witness_row_at (enc := enc) (C := Tryz.checked) false (laidWorld os) wit rfl (by kernel_rfl) (by kernel_rfl) (by kernel_rfl)
      (OpenSpec.preRow_of_cond 8 hx (by kernel_rfl) (fun k hk => by cases hk) (by kernel_rfl) (laid_met os _))) ?_
  intro W base args ds gs before hval hW _ _ hsz hL hsh _
  exact contract H enc W base args ds gs before hval hW hsz hsh
theorem said : Rows.SyntaxNamesSaid :=
  OpenClaim.holds_of_cond 3 Tryz.f3 rfl rfl rfl rfl rfl rfl rfl ⟨rfl, rfl, rfl, rfl, rfl⟩ rfl rfl rfl rfl rfl (by kernel_rfl) Tryz.func3 (by kernel_rfl)
    (of_decide_eq_true (by kernel_rfl)) (by unfold Func.isWrapper; first | (rw [if_pos (by decide +kernel)]; kernel_rfl) | (rw [if_neg (by decide +kernel)]; exact ⟨rfl, rfl⟩))
    (fun os started H enc _ F => by rw [OpenClaim.pre_eq_preRow]; exact lifted os started H enc F)
theorem plain (f : FuncId) (fn : Func) (hf : Tryz.pinned.checked.prog.funcNamed "viator/viatorlaw43.SyntaxNames" = some f) (hfn : Tryz.pinned.checked.prog.funcs[f]? = some fn) :
    false = Tryz.pinned.checked.prog.looks [] ∧ ∀ (j : Nat) t, fn.params[j]? = some t → Tryz.pinned.checked.prog.wantsStandIn t = false := by
  obtain rfl : f = 3 := Option.some.inj ((show Tryz.prog.funcNamed "viator/viatorlaw43.SyntaxNames" = some 3 by kernel_rfl).symm.trans hf) |>.symm
  obtain rfl : fn = Tryz.f3 := (Option.some.inj (Tryz.func3.symm.trans hfn)).symm
  refine ⟨by kernel_rfl, fun j t ht => ?_⟩
  rw [Tryz.params3] at ht
  have hm : t ∈ ([9] : List Nat) := by simpa using Array.mem_of_getElem? ht
  have hw : ∀ t ∈ ([9] : List Nat), Tryz.prog.wantsStandIn t = false := by
    intro t ht
    simp only [List.mem_cons, List.mem_nil_iff, or_false] at ht
    subst ht
    · exact (show Tryz.prog.wantsStandIn 9 = false by kernel_rfl)
  exact hw t hm
theorem card : Rows.SyntaxNamesCardSaid :=
  Claim7.holds_tied_plain_at .later [] _ _ _ _ said (fun _ h => by cases h) (by kernel_rfl) (fun _ h => by cases h) syntaxNames_row_tie rfl ⟨rfl, rfl⟩ (by kernel_rfl) rfl plain (by kernel_rfl)
end Go.Proofs.YtfijbadahkmhbaaGreatDoor.syntaxNames
namespace Go.Proofs.YtfijbadahkmhbaaGreatDoor
theorem syntaxNames_holds : Rows.SyntaxNamesCardSaid := syntaxNames.card
#print axioms syntaxNames_holds
end Go.Proofs.YtfijbadahkmhbaaGreatDoor
