/-
  For any two segments with small canonical points, no two of 7 points of each of them are nearer to one another than Segments2 says, and it is zero exactly if they have a common point. No further conditions.
-/
import Derived.Test.YthnlafhnpphdhaaGreatDoorA09
import Derived.Test.YthnlafhnpphdhaaGreatDoorA10
set_option linter.unusedVariables false
set_option linter.unusedVariables false
namespace Go.Proofs.YthnlafhnpphdhaaGreatDoor
open Go Go.RowKit Go.Via
set_option maxRecDepth 20000 in
theorem c_plane_least (q : Rat) (l : List Rat) (hq : szQ q ≤ 300000) (hl : ∀ x ∈ l, szQ x ≤ 300000) (hn : l.length ≤ 1000) (b : Option Nat) (N cap : Nat) (hc : l.length ≤ cap) : SCall Tryz.prog 81 [⟨b, 25, QLc l, N, false⟩] [Q q, slv b 0 l.length cap] Unit (fun _ => Q (minL q l)) (fun _ => []) := by
  refine ⟨by kernel_rfl, fun w hL0 => ?_⟩
  refine calls_at (args := [Q q, slv b 0 l.length cap]) Tryz.func81 rfl (Nat.le_of_ble_eq_true rfl) hL0 ?_
  show At w ⟨18, [(0, Q q), (1, slv b 0 l.length cap)], [⟨b, 25, QLc l, N, false⟩]⟩ _
  refine at_seq ?_
  refine at_region ?_
  refine r_box [_, _, _, _] 4 (fun g => [_, ⟨some g, 25, _, 4, true⟩]) rfl rfl rfl rfl rfl (fun _ => rfl) (fun g0 => ?_)
  refine r_alloc [_, _, _, _] 4 (fun g => [_, _, ⟨some g, 25, _, 4, true⟩]) rfl rfl z25 rfl rfl (fun _ => rfl) (fun g1 => ?_)
  refine run_nil ?_
  refine at_tn ?_
  refine at_seq ?_
  refine at_seq ?_
  refine at_region ?_
  refine r_move rfl rfl rfl ?_
  refine r_lenS u83 rfl rfl rfl ?_
  refine r_move rfl rfl rfl ?_
  refine run_nil ?_
  refine at_tn ?_
  refine at_block ?_
  refine enterL (nt := 18) (ι := {i : Nat // i ≤ l.length}) (fun ⟨i, hi⟩ => [(2, .pointer (some ⟨g0, 0, none⟩)), (4, .pointer (some ⟨g1, 0, none⟩)), (7, slv b 0 l.length cap), (8, .int .i64 (l.length : Nat)), (9, .int .i64 (i : Nat))]) (fun ⟨i, hi⟩ => [⟨b, 25, QLc l, N, false⟩, ⟨some g0, 25, qC (minL q (l.take i)), 4, true⟩, ⟨some g1, 25, [.bool false, .string ⟨#[]⟩, .bool false, .string ⟨#[]⟩], 4, true⟩]) (fun ⟨i, hi⟩ => l.length - i) ⟨0, Nat.zero_le _⟩ ⟨rfl, rfl, rfl, rfl, rfl, trivial⟩ (Weak.refl _) ?_
  rintro ⟨i, hi⟩
  show At _ ⟨18, [(2, .pointer (some ⟨g0, 0, none⟩)), (4, .pointer (some ⟨g1, 0, none⟩)), (7, slv b 0 l.length cap), (8, .int .i64 (l.length : Nat)), (9, .int .i64 (i : Nat))], [⟨b, 25, QLc l, N, false⟩, ⟨some g0, 25, qC (minL q (l.take i)), 4, true⟩, ⟨some g1, 25, [.bool false, .string ⟨#[]⟩, .bool false, .string ⟨#[]⟩], 4, true⟩]⟩ _
  refine at_seq ?_
  refine at_region ?_
  refine r_cmpInt rfl rfl rfl rfl rfl ?_
  refine run_nil ?_
  refine at_tn ?_
  refine at_seq ?_
  refine at_cond rfl (fun hb1 => ?_) (fun hb1 => ?_)
  ·
    have hlt : i < l.length := (by have := of_decide_eq_true hb1; omega)
    obtain ⟨x, hx⟩ : ∃ x, l[i]? = some x := ⟨l[i], List.getElem?_eq_getElem hlt⟩
    refine at_skip ?_
    refine at_tn ?_
    refine at_seq ?_
    refine at_block ?_
    refine at_seq ?_
    refine at_region ?_
    refine r_indexAddr 0 (i * 4) u83 ti25 rfl rfl rfl rfl rfl (by omega) (by omega) (QLc_ne (by omega)) (by show 0 + Int.toNat _ * 4 = _; omega) ?_
    refine r_load (v := Q x) 0 (i * 4) _ rfl rfl rfl rfl ti25 (QLc_get hx) rfl (by decide) rfl ?_
    refine r_alloc [_, _, _, _] 4 (fun g => [_, _, _, ⟨some g, 25, _, 4, true⟩]) rfl rfl z25 rfl rfl (fun _ => rfl) (fun g2 => ?_)
    refine r_store rfl 3 0 [_, _, _, ⟨some g2, 25, _, 4, true⟩] [_, _, _, _] rfl rfl rfl rfl ti25 rfl rfl rfl rfl rfl ?_
    refine run_nil ?_
    refine at_tn ?_
    refine at_region ?_
    refine r_load 1 0 [_, _, _, _] rfl rfl rfl rfl ti25 rfl rfl rfl rfl ?_
    refine r_load 3 0 [_, _, _, _] rfl rfl rfl rfl ti25 rfl rfl rfl rfl ?_
    refine r_pcall [_, _] rfl rfl rfl (c_rational_Min (minL q (l.take i)) x (Nat.le_trans (minL_sz hq (fun y hy => hl y (List.mem_of_mem_take hy))) (Nat.le_of_ble_eq_true rfl)) (Nat.le_trans (hl x (List.mem_of_getElem? hx)) (Nat.le_of_ble_eq_true rfl))) ?_
    refine r_know 15 (Q (minL q (l.take (i + 1)))) rfl (congrArg Q (minL_take hx)) ?_
    refine r_store rfl 1 0 [_, ⟨some g0, 25, _, 4, true⟩, _, _] [_, _, _, _] rfl rfl rfl rfl ti25 rfl rfl rfl rfl rfl ?_
    refine run_nil ?_
    refine at_bn ?_
    refine at_tn ?_
    refine at_region ?_
    refine r_arith (r := ((i + 1 : Nat) : Int)) rfl rfl rfl rfl (congrArg some (wi (by omega) (by omega) (by omega))) ?_
    refine r_move rfl rfl rfl ?_
    refine run_nil ?_
    refine at_tn ?_
    exact nextL ⟨i + 1, hlt⟩ (by simp only []; omega) ⟨rfl, rfl, rfl, rfl, rfl, trivial⟩ (weak_picks [some 0, some 1, some 2] ⟨⟨_, rfl, Blk.le_refl _⟩, ⟨_, rfl, Blk.le_refl _⟩, ⟨_, rfl, Blk.le_refl _⟩, trivial⟩ rfl rfl)
  ·
    have hge : i = l.length := (by have := of_decide_eq_false hb1; omega)
    subst hge
    refine at_exit ?_
    refine at_te ?_
    refine at_te ?_
    refine at_be ?_
    refine at_tn ?_
    refine at_seq ?_
    refine at_region ?_
    refine r_load 1 0 [_, _, _, _] rfl rfl rfl rfl ti25 rfl rfl rfl rfl ?_
    refine r_store rfl 2 0 [_, _, ⟨some g1, 25, _, 4, true⟩] [_, _, _, _] rfl rfl rfl rfl ti25 rfl rfl rfl rfl rfl ?_
    refine run_nil ?_
    refine at_tn ?_
    refine at_ret ?_
    refine at_end1 rfl (res_cell 2 rfl rfl ti25 (vs := [_, _, _, _]) rfl rfl (Nat.le_of_ble_eq_true rfl) rfl) (fun w hL => ⟨(), ?_, hL.picks [] trivial rfl rfl⟩)
    exact congrArg (fun x => Ending.returned (Q x)) (minL_all l q)
end Go.Proofs.YthnlafhnpphdhaaGreatDoor
set_option linter.unusedVariables false
namespace Go.Proofs.YthnlafhnpphdhaaGreatDoor
open Go Go.RowKit Go.Via
set_option maxRecDepth 20000 in
theorem c_plane_Segments2 (s t : S2) (hs : szS s ≤ 1000) (ht : szS t ≤ 1000) : PCall Tryz.prog 45 #[Sg s, Sg t] (Q (segs2 s t)) := by
  refine ⟨by kernel_rfl, fun w => ?_⟩
  refine calls_at (args := [Sg s, Sg t]) Tryz.func45 rfl (Nat.le_of_ble_eq_true rfl) (LRel.nil w) ?_
  show At w ⟨29, [(0, Sg s), (1, Sg t)], []⟩ _
  refine at_seq ?_
  refine at_region ?_
  refine r_box [_, _, _, _, _, _, _, _, _, _, _, _, _, _, _, _] 16 (fun g => [⟨some g, 36, _, 16, true⟩]) rfl rfl rfl rfl rfl (fun _ => rfl) (fun g0 => ?_)
  refine r_box [_, _, _, _, _, _, _, _, _, _, _, _, _, _, _, _] 16 (fun g => [_, ⟨some g, 36, _, 16, true⟩]) rfl rfl rfl rfl rfl (fun _ => rfl) (fun g1 => ?_)
  refine r_alloc [_, _, _, _] 4 (fun g => [_, _, ⟨some g, 25, _, 4, true⟩]) rfl rfl z25 rfl rfl (fun _ => rfl) (fun g2 => ?_)
  refine run_nil ?_
  refine at_tn ?_
  refine at_seq ?_
  refine at_seq ?_
  refine at_region ?_
  refine r_load 0 0 [_, _, _, _, _, _, _, _, _, _, _, _, _, _, _, _] rfl rfl rfl rfl ti36 rfl rfl rfl rfl ?_
  refine r_load 1 0 [_, _, _, _, _, _, _, _, _, _, _, _, _, _, _, _] rfl rfl rfl rfl ti36 rfl rfl rfl rfl ?_
  refine r_pcall [_, _] rfl rfl rfl (c_plane_Meet s t hs ht) ?_
  refine r_field (v := Mt (meetP s t)) (u := .int .i64 (meetP s t).1) rfl rfl rfl (fun _ => by kernel_rfl) ?_
  refine r_cmpInt rfl rfl rfl rfl rfl ?_
  refine run_nil ?_
  refine at_tn ?_
  refine at_cond rfl (fun hb0 => ?_) (fun hb0 => ?_)
  ·
    refine at_seq ?_
    refine at_region ?_
    refine r_build [] rfl rfl rfl (bd25_0) ?_
    refine r_store rfl 2 0 [_, _, ⟨some g2, 25, _, 4, true⟩] [_, _, _, _] rfl rfl rfl rfl ti25 rfl rfl rfl rfl rfl ?_
    refine run_nil ?_
    refine at_tn ?_
    refine at_ret ?_
    refine at_tr ?_
    refine at_end1 rfl (res_cell 2 rfl rfl ti25 (vs := [_, _, _, _]) rfl rfl (Nat.le_of_ble_eq_true rfl) rfl) (fun w hL => ⟨?_, hL.below⟩)
    rw [segs_T hb0]; exact congrArg Ending.returned Q_zero.symm
  ·
    refine at_skip ?_
    refine at_tn ?_
    refine at_seq ?_
    refine at_drawn (l' := [⟨_,_,_,_,_,_⟩, ⟨_,_,_,_,_,_⟩, ⟨_,_,_,_,_,_⟩, ⟨_,_,_,_,_,_⟩, ⟨_,_,_,_,_,_⟩, ⟨_,_,_,_,_,_⟩, ⟨_,_,_,_,_,_⟩, ⟨_,_,_,_,_,_⟩, ⟨_,_,_,_,_,_⟩, ⟨_,_,_,_,_,_⟩, ⟨_,_,_,_,_,_⟩, ⟨_,_,_,_,_,_⟩, ⟨_,_,_,_,_,_⟩, ⟨_,_,_,_,_,_⟩, ⟨_,_,_,_,_,_⟩, ⟨_,_,_,_,_,_⟩, ⟨_,_,_,_,_,_⟩, ⟨_,_,_,_,_,_⟩, ⟨_,_,_,_,_,_⟩]) [] [0, 1, 2, 4, 5, 6, 8, 9, 10, 12, 13, 14, 3, 7, 11, 15, 16, 17, 18] mixed (by kernel_rfl) rfl (by kernel_rfl) ?_
    refine r_fieldAddr 0 0 0 rfl rfl rfl rfl rfl ti36 rfl rfl ?_
    refine r_load 0 0 [_, _, _, _, _, _, _, _] rfl rfl rfl rfl ti27 rfl rfl rfl rfl ?_
    refine r_load 1 0 [_, _, _, _, _, _, _, _, _, _, _, _, _, _, _, _] rfl rfl rfl rfl ti36 rfl rfl rfl rfl ?_
    refine r_fieldAddr 0 0 8 rfl rfl rfl rfl rfl ti36 rfl rfl ?_
    refine r_load 0 8 [_, _, _, _, _, _, _, _] rfl rfl rfl rfl ti27 rfl rfl rfl rfl ?_
    refine r_load 1 0 [_, _, _, _, _, _, _, _, _, _, _, _, _, _, _, _] rfl rfl rfl rfl ti36 rfl rfl rfl rfl ?_
    refine r_fieldAddr 1 0 0 rfl rfl rfl rfl rfl ti36 rfl rfl ?_
    refine r_load 1 0 [_, _, _, _, _, _, _, _] rfl rfl rfl rfl ti27 rfl rfl rfl rfl ?_
    refine r_load 0 0 [_, _, _, _, _, _, _, _, _, _, _, _, _, _, _, _] rfl rfl rfl rfl ti36 rfl rfl rfl rfl ?_
    refine r_fieldAddr 1 0 8 rfl rfl rfl rfl rfl ti36 rfl rfl ?_
    refine r_load 1 8 [_, _, _, _, _, _, _, _] rfl rfl rfl rfl ti27 rfl rfl rfl rfl ?_
    refine r_load 0 0 [_, _, _, _, _, _, _, _, _, _, _, _, _, _, _, _] rfl rfl rfl rfl ti36 rfl rfl rfl rfl ?_
    refine r_pcall [_, _] rfl rfl rfl (c_plane_PointSegment2 s.1 t (szS1 hs) ht) ?_
    refine r_pcall [_, _] rfl rfl rfl (c_plane_PointSegment2 s.2 t (szS2 hs) ht) ?_
    refine r_pcall [_, _] rfl rfl rfl (c_plane_PointSegment2 t.1 s (szS1 ht) hs) ?_
    refine r_pcall [_, _] rfl rfl rfl (c_plane_PointSegment2 t.2 s (szS2 ht) hs) ?_
    refine r_buildSlice [(0, _), (1, _), (2, _)] (fun g => [_, _, _, ⟨some g, 25, _, 12, true⟩]) rfl rfl rfl (bs83_3) rfl (fun _ => rfl) (fun g3 => ?_)
    refine r_scall0 [_, _] [3] rfl rfl rfl (c_plane_least (ps2 s.1 t) [ps2 s.2 t, ps2 t.1 s, ps2 t.2 s] (Nat.le_trans (szPs2 (szS1 hs) ht) (Nat.le_of_ble_eq_true rfl)) (by simp only [List.forall_mem_cons]; exact ⟨Nat.le_trans (szPs2 (szS2 hs) ht) (Nat.le_of_ble_eq_true rfl), Nat.le_trans (szPs2 (szS1 ht) hs) (Nat.le_of_ble_eq_true rfl), Nat.le_trans (szPs2 (szS2 ht) hs) (Nat.le_of_ble_eq_true rfl), fun _ h => by cases h⟩) (Nat.le_of_ble_eq_true rfl) (some g3) _ _ (Nat.le_refl _)) ⟨⟨_, rfl, le_share⟩, trivial⟩ rfl ?_
    refine r_store rfl 2 0 [_, _, ⟨some g2, 25, _, 4, true⟩, _] [_, _, _, _] rfl rfl rfl rfl ti25 rfl rfl rfl rfl rfl ?_
    refine run_nil ?_
    refine at_tn ?_
    refine at_ret ?_
    refine at_end1 rfl (res_cell 2 rfl rfl ti25 (vs := [_, _, _, _]) rfl rfl (Nat.le_of_ble_eq_true rfl) rfl) (fun w hL => ⟨?_, hL.below⟩)
    rw [segs_F hb0]; rfl
end Go.Proofs.YthnlafhnpphdhaaGreatDoor
set_option linter.unusedVariables false
namespace Go.Via
open Go Go.RowKit
theorem sgn_z {q : Rat} : sgn q = 0 ↔ q = 0 := by unfold sgn; rw [Int.sign_eq_zero_iff_zero, Rat.num_eq_zero]
theorem sgn_nn {q : Rat} : 0 ≤ sgn q ↔ 0 ≤ q := by
  unfold sgn
  rw [← Rat.num_nonneg]
  rcases Int.lt_trichotomy q.num 0 with c | c | c
  · rw [Int.sign_eq_neg_one_of_neg c]; omega
  · rw [c]; decide
  · rw [Int.sign_eq_one_of_pos c]; omega
theorem sgn_p {q : Rat} : sgn q = 1 ↔ 0 < q := by
  have h1 := sgn_bound q; have h2 := @sgn_nn q; have h3 := @sgn_z q
  constructor
  · intro h
    have a : 0 ≤ q := h2.1 (by omega)
    have b : q ≠ 0 := fun e => by have := h3.2 e; omega
    grind
  · intro h
    have a := h2.2 (by grind)
    have b : sgn q ≠ 0 := fun e => by have := h3.1 e; grind
    omega
theorem sgn_n {q : Rat} : sgn q = -1 ↔ q < 0 := by
  have h1 := sgn_bound q; have h2 := @sgn_nn q
  constructor
  · intro h
    have : ¬ 0 ≤ q := fun e => by have := h2.2 e; omega
    grind
  · intro h
    have : ¬ 0 ≤ sgn q := fun e => by have := h2.1 e; grind
    omega
end Go.Via
set_option linter.unusedVariables false
set_option linter.unusedSimpArgs false
namespace Go.Via
open Go Go.RowKit
/-! ### what two segments have in common -/
def inI (a b x : Rat) : Prop := (a ≤ x ∧ x ≤ b) ∨ (b ≤ x ∧ x ≤ a)
theorem frac_of {x u : Rat} (hu : u ≠ 0) (h : inI 0 u x) : ∃ r : Rat, 0 ≤ r ∧ r ≤ 1 ∧ x = u * r := by
  have e : x = u * (x / u) := by rw [Rat.mul_comm, Rat.div_mul_cancel hu]
  refine ⟨x / u, ?_, ?_, e⟩
  · generalize x / u = r at e
    subst e
    refine Rat.not_lt.1 fun c => ?_
    rcases h with ⟨h1, h2⟩ | ⟨h1, h2⟩
    · have hu' : 0 < u := by grind
      have := Rat.mul_pos hu' (show 0 < -r by grind)
      grind
    · have hu' : 0 < -u := by grind
      have := Rat.mul_pos hu' (show 0 < -r by grind)
      grind
  · generalize x / u = r at e
    subst e
    refine Rat.not_lt.1 fun c => ?_
    rcases h with ⟨h1, h2⟩ | ⟨h1, h2⟩
    · have hu' : 0 < u := by grind
      have := Rat.mul_pos hu' (show 0 < r - 1 by grind)
      grind
    · have hu' : 0 < -u := by grind
      have := Rat.mul_pos hu' (show 0 < r - 1 by grind)
      grind
theorem of_frac {u r : Rat} (h0 : 0 ≤ r) (h1 : r ≤ 1) : inI 0 u (u * r) := by
  rcases Rat.le_total (a := 0) (b := u) with h | h
  · have p1 := Rat.mul_nonneg h h0
    have p2 := Rat.mul_nonneg h (show 0 ≤ 1 - r by grind)
    left; constructor <;> grind
  · have h' : 0 ≤ -u := by grind
    have p1 := Rat.mul_nonneg h' h0
    have p2 := Rat.mul_nonneg h' (show 0 ≤ 1 - r by grind)
    right; constructor <;> grind
theorem seg_par {u v x y : Rat} : (u * y = v * x ∧ inI 0 u x ∧ inI 0 v y) ↔ ∃ r : Rat, 0 ≤ r ∧ r ≤ 1 ∧ x = u * r ∧ y = v * r := by
  constructor
  · rintro ⟨h, hx, hy⟩
    by_cases hu : u = 0
    · subst hu
      have x0 : x = 0 := by unfold inI at hx; grind
      subst x0
      by_cases hv : v = 0
      · subst hv
        have y0 : y = 0 := by unfold inI at hy; grind
        exact ⟨0, by grind, by grind, by grind, by grind⟩
      · obtain ⟨r, h0, h1, e⟩ := frac_of hv hy
        exact ⟨r, h0, h1, by grind, e⟩
    · obtain ⟨r, h0, h1, e⟩ := frac_of hu hx
      refine ⟨r, h0, h1, e, ?_⟩
      subst e
      have : u * (y - v * r) = 0 := by grind
      rcases Rat.mul_eq_zero.1 this with c | c
      · exact absurd c hu
      · grind
  · rintro ⟨r, h0, h1, rfl, rfl⟩
    exact ⟨by grind, of_frac h0 h1, of_frac h0 h1⟩
theorem on_par {p : P2} {s : S2} : onS p s ↔ ∃ r : Rat, 0 ≤ r ∧ r ≤ 1 ∧ p = divP s r := by
  rw [on_same]
  obtain ⟨p1, p2⟩ := p
  obtain ⟨⟨a1, a2⟩, ⟨b1, b2⟩⟩ := s
  have k := seg_par (u := b1 - a1) (v := b2 - a2) (x := p1 - a1) (y := p2 - a2)
  have ho : ori (a1, a2) (b1, b2) (p1, p2) = 0 ↔ (b1 - a1) * (p2 - a2) = (b2 - a2) * (p1 - a1) := by
    show sgn ((b1 - a1) * (p2 - a2) - (b2 - a2) * (p1 - a1)) = 0 ↔ _
    rw [sgn_z]; constructor <;> intro h <;> grind
  unfold onR btw divP pAdd pScale pSub
  unfold inI at k
  dsimp only
  rw [ho]
  constructor
  · rintro ⟨h1, h2, h3⟩
    obtain ⟨r, h0, h1, e1, e2⟩ := k.1 ⟨h1, by grind, by grind⟩
    exact ⟨r, h0, h1, Prod.ext (show p1 = a1 + (b1 - a1) * r by grind) (show p2 = a2 + (b2 - a2) * r by grind)⟩
  · rintro ⟨r, h0, h1, e⟩
    have e1 : p1 = a1 + (b1 - a1) * r := congrArg Prod.fst e
    have e2 : p2 = a2 + (b2 - a2) * r := congrArg Prod.snd e
    obtain ⟨c1, c2, c3⟩ := k.2 ⟨r, h0, h1, by grind, by grind⟩
    exact ⟨c1, by grind, by grind⟩
theorem on_end1 (s : S2) : onS s.1 s := on_par.2 ⟨0, by grind, by grind, Prod.ext (show s.1.1 = s.1.1 + (s.2.1 - s.1.1) * 0 by grind) (show s.1.2 = s.1.2 + (s.2.2 - s.1.2) * 0 by grind)⟩
theorem on_end2 (s : S2) : onS s.2 s := on_par.2 ⟨1, by grind, by grind, Prod.ext (show s.2.1 = s.1.1 + (s.2.1 - s.1.1) * 1 by grind) (show s.2.2 = s.1.2 + (s.2.2 - s.1.2) * 1 by grind)⟩
theorem on_div {s : S2} {r : Rat} (h0 : 0 ≤ r) (h1 : r ≤ 1) : onS (divP s r) s := on_par.2 ⟨r, h0, h1, rfl⟩
def Kp (s t : S2) (p : P2) : Prop := onS p s ∧ onS p t
def Ep (s t : S2) (p : P2) : Prop := p = s.1 ∨ p = s.2 ∨ p = t.1 ∨ p = t.2
def leP (a b : P2) : Prop := ¬ ltP b a
def uv (s t : S2) : Rat := crs (pSub s.2 s.1) (pSub t.2 t.1)
def wv (s t : S2) : Rat := crs (pSub t.1 s.1) (pSub t.2 t.1)
def wUq (s t : S2) : Rat := crs (pSub t.1 s.1) (pSub s.2 s.1)
/-- the fractions of a common point -/
theorem K_fr {s t : S2} {p : P2} (h : Kp s t p) : ∃ r q : Rat, 0 ≤ r ∧ r ≤ 1 ∧ 0 ≤ q ∧ q ≤ 1 ∧ p = divP s r ∧ p = divP t q ∧ r * uv s t = wv s t ∧ q * uv s t = wUq s t := by
  obtain ⟨r, h0, h1, e⟩ := on_par.1 h.1
  obtain ⟨q, g0, g1, f⟩ := on_par.1 h.2
  refine ⟨r, q, h0, h1, g0, g1, e, f, ?_, ?_⟩ <;>
  · obtain ⟨p1, p2⟩ := p
    obtain ⟨⟨a1, a2⟩, ⟨b1, b2⟩⟩ := s
    obtain ⟨⟨c1, c2⟩, ⟨d1, d2⟩⟩ := t
    have e1 : p1 = a1 + (b1 - a1) * r := congrArg Prod.fst e
    have e2 : p2 = a2 + (b2 - a2) * r := congrArg Prod.snd e
    have f1 : p1 = c1 + (d1 - c1) * q := congrArg Prod.fst f
    have f2 : p2 = c2 + (d2 - c2) * q := congrArg Prod.snd f
    simp only [uv, wv, wUq, crs, pSub]
    have w1 : c1 - a1 = (b1 - a1) * r - (d1 - c1) * q := by grind
    have w2 : c2 - a2 = (b2 - a2) * r - (d2 - c2) * q := by grind
    rw [w1, w2]; grind
theorem K_uniq {s t : S2} (hD : uv s t ≠ 0) {p q : P2} (hp : Kp s t p) (hq : Kp s t q) : p = q := by
  obtain ⟨r, _, _, _, _, _, e, _, h, _⟩ := K_fr hp
  obtain ⟨r', _, _, _, _, _, e', _, h', _⟩ := K_fr hq
  have : (r - r') * uv s t = 0 := by grind
  rcases Rat.mul_eq_zero.1 this with c | c
  · rw [e, e', show r = r' by grind]
  · exact absurd c hD
/-! parallel segments with a common point -/
def posV (g : P2) : Prop := 0 < g.1 ∨ (g.1 = 0 ∧ 0 < g.2)
theorem mult {u v : P2} (hu : u ≠ (0, 0)) (h : crs u v = 0) : ∃ m : Rat, v = pScale u m := by
  obtain ⟨u1, u2⟩ := u
  obtain ⟨v1, v2⟩ := v
  have h' : u1 * v2 - u2 * v1 = 0 := h
  by_cases h1 : u1 = 0
  · have h2 : u2 ≠ 0 := fun e => hu (by rw [h1, e])
    refine ⟨v2 / u2, Prod.ext (show v1 = u1 * (v2 / u2) from ?_) (show v2 = u2 * (v2 / u2) from ?_)⟩
    · have : u2 * v1 = 0 := by grind
      rcases Rat.mul_eq_zero.1 this with c | c
      · exact absurd c h2
      · rw [c, h1, Rat.zero_mul]
    · rw [Rat.mul_comm, Rat.div_mul_cancel h2]
  · have e : v1 = u1 * (v1 / u1) := by rw [Rat.mul_comm, Rat.div_mul_cancel h1]
    refine ⟨v1 / u1, Prod.ext e (show v2 = u2 * (v1 / u1) from ?_)⟩
    generalize v1 / u1 = m at e
    subst e
    have : u1 * (v2 - u2 * m) = 0 := by grind
    rcases Rat.mul_eq_zero.1 this with c | c
    · exact absurd c h1
    · grind
theorem pos_or {u : P2} (hu : u ≠ (0, 0)) : posV u ∨ posV (-u.1, -u.2) := by
  obtain ⟨u1, u2⟩ := u
  unfold posV
  dsimp only
  by_cases h1 : u1 = 0
  · have h2 : u2 ≠ 0 := fun e => hu (by rw [h1, e])
    grind
  · grind
theorem par_of_ne {u v : P2} (hu : u ≠ (0, 0)) (h : crs u v = 0) : ∃ (g : P2) (k m : Rat), posV g ∧ u = pScale g k ∧ v = pScale g m := by
  obtain ⟨m, hm⟩ := mult hu h
  have e1 : v.1 = u.1 * m := congrArg Prod.fst hm
  have e2 : v.2 = u.2 * m := congrArg Prod.snd hm
  rcases pos_or hu with c | c
  · exact ⟨u, 1, m, c, Prod.ext (show u.1 = u.1 * 1 by grind) (show u.2 = u.2 * 1 by grind), hm⟩
  · exact ⟨(-u.1, -u.2), -1, -m, c, Prod.ext (show u.1 = -u.1 * -1 by grind) (show u.2 = -u.2 * -1 by grind), Prod.ext (show v.1 = -u.1 * -m by grind) (show v.2 = -u.2 * -m by grind)⟩
theorem par_line {u v : P2} (h : crs u v = 0) : ∃ (g : P2) (k m : Rat), posV g ∧ u = pScale g k ∧ v = pScale g m := by
  by_cases hu : u = (0, 0)
  · by_cases hv : v = (0, 0)
    · refine ⟨(1, 0), 0, 0, .inl (show (0 : Rat) < 1 by grind), ?_, ?_⟩
      · rw [hu]; exact Prod.ext (show (0 : Rat) = 1 * 0 by grind) (show (0 : Rat) = 0 * 0 by grind)
      · rw [hv]; exact Prod.ext (show (0 : Rat) = 1 * 0 by grind) (show (0 : Rat) = 0 * 0 by grind)
    · obtain ⟨g, k, m, h1, h2, h3⟩ := par_of_ne (u := v) (v := u) hv (by unfold crs at h ⊢; grind)
      exact ⟨g, m, k, h1, h3, h2⟩
  · exact par_of_ne hu h
def lnP (o g : P2) (x : Rat) : P2 := (o.1 + g.1 * x, o.2 + g.2 * x)
theorem ln_lt {o g : P2} (hg : posV g) {x y : Rat} : ltP (lnP o g x) (lnP o g y) ↔ x < y := by
  unfold ltP lnP
  dsimp only
  rcases hg with h | ⟨h0, h⟩
  · constructor
    · intro c
      refine Rat.not_le.1 fun d => ?_
      have := Rat.mul_nonneg (Rat.le_of_lt h) (show 0 ≤ x - y by grind)
      rcases c with c | ⟨c, e⟩
      · grind
      · have : g.1 * (x - y) = 0 := by grind
        rcases Rat.mul_eq_zero.1 this with f | f
        · grind
        · have : x = y := by grind
          subst this; grind
    · intro c
      have := Rat.mul_pos h (show 0 < y - x by grind)
      left; grind
  · rw [h0]
    constructor
    · intro c
      refine Rat.not_le.1 fun d => ?_
      have := Rat.mul_nonneg (Rat.le_of_lt h) (show 0 ≤ x - y by grind)
      rcases c with c | ⟨c, e⟩ <;> grind
    · intro c
      have := Rat.mul_pos h (show 0 < y - x by grind)
      right; constructor <;> grind
theorem ltP_irrefl (a : P2) : ¬ ltP a a := by unfold ltP; grind
theorem ltP_tri {a b : P2} (h1 : ¬ ltP a b) (h2 : ¬ ltP b a) : a = b := by
  unfold ltP at h1 h2
  have : a.1 = b.1 := by grind
  exact Prod.ext this (by grind)
theorem ln_inj {o g : P2} (hg : posV g) {x y : Rat} (h : lnP o g x = lnP o g y) : x = y := by
  have h1 : ¬ x < y := fun c => by have := (ln_lt (o := o) hg).2 c; rw [h] at this; exact ltP_irrefl _ this
  have h2 : ¬ y < x := fun c => by have := (ln_lt (o := o) hg).2 c; rw [h] at this; exact ltP_irrefl _ this
  grind
theorem ln_on {o g : P2} {a b : Rat} {p : P2} : onS p (lnP o g a, lnP o g b) ↔ ∃ x, p = lnP o g x ∧ inI a b x := by
  rw [on_par]
  constructor
  · rintro ⟨r, h0, h1, rfl⟩
    refine ⟨a + (b - a) * r, ?_, ?_⟩
    · unfold divP pAdd pScale pSub lnP
      refine Prod.ext ?_ ?_
      · show o.1 + g.1 * a + (o.1 + g.1 * b - (o.1 + g.1 * a)) * r = o.1 + g.1 * (a + (b - a) * r); grind
      · show o.2 + g.2 * a + (o.2 + g.2 * b - (o.2 + g.2 * a)) * r = o.2 + g.2 * (a + (b - a) * r); grind
    · have := of_frac (u := b - a) h0 h1
      unfold inI at this ⊢; grind
  · rintro ⟨x, rfl, hx⟩
    obtain ⟨r, h0, h1, e⟩ : ∃ r : Rat, 0 ≤ r ∧ r ≤ 1 ∧ x - a = (b - a) * r := by
      by_cases hab : b - a = 0
      · exact ⟨0, by grind, by grind, by unfold inI at hx; grind⟩
      · exact frac_of hab (by unfold inI at hx ⊢; grind)
    have e' : x = a + (b - a) * r := by grind
    refine ⟨r, h0, h1, ?_⟩
    unfold divP pAdd pScale pSub lnP
    subst e'
    refine Prod.ext ?_ ?_
    · show o.1 + g.1 * (a + (b - a) * r) = o.1 + g.1 * a + (o.1 + g.1 * b - (o.1 + g.1 * a)) * r; grind
    · show o.2 + g.2 * (a + (b - a) * r) = o.2 + g.2 * a + (o.2 + g.2 * b - (o.2 + g.2 * a)) * r; grind
theorem lin_low {a b c d : Rat} (h1 : inI a b 0) (h2 : inI c d 0) : ∃ l : Rat, (l = a ∨ l = b ∨ l = c ∨ l = d) ∧ inI a b l ∧ inI c d l ∧ ∀ x, inI a b x → inI c d x → l ≤ x := by
  have key : ∀ {a b c d : Rat}, a ≤ 0 → 0 ≤ b → c ≤ 0 → 0 ≤ d → ∃ l : Rat, (l = a ∨ l = c) ∧ inI a b l ∧ inI c d l ∧ ∀ x, inI a b x → inI c d x → l ≤ x := by
    intro a b c d ha hb hc hd
    by_cases h : a ≤ c
    · exact ⟨c, .inr rfl, .inl ⟨h, by grind⟩, .inl ⟨Rat.le_refl, by grind⟩, fun x k1 k2 => by unfold inI at k1 k2; grind⟩
    · exact ⟨a, .inl rfl, .inl ⟨Rat.le_refl, by grind⟩, .inl ⟨by grind, by grind⟩, fun x k1 k2 => by unfold inI at k1 k2; grind⟩
  have sy : ∀ {a b x : Rat}, inI a b x ↔ inI b a x := by intro a b x; unfold inI; exact Or.comm
  rcases h1 with ⟨a1, a2⟩ | ⟨a1, a2⟩ <;> rcases h2 with ⟨c1, c2⟩ | ⟨c1, c2⟩
  · obtain ⟨l, k, k1, k2, k3⟩ := key a1 a2 c1 c2
    exact ⟨l, by rcases k with k | k <;> simp [k], k1, k2, k3⟩
  · obtain ⟨l, k, k1, k2, k3⟩ := key a1 a2 c1 c2
    exact ⟨l, by rcases k with k | k <;> simp [k], k1, sy.1 k2, fun x e f => k3 x e (sy.1 f)⟩
  · obtain ⟨l, k, k1, k2, k3⟩ := key a1 a2 c1 c2
    exact ⟨l, by rcases k with k | k <;> simp [k], sy.1 k1, k2, fun x e f => k3 x (sy.1 e) f⟩
  · obtain ⟨l, k, k1, k2, k3⟩ := key a1 a2 c1 c2
    exact ⟨l, by rcases k with k | k <;> simp [k], sy.1 k1, sy.1 k2, fun x e f => k3 x (sy.1 e) (sy.1 f)⟩
theorem inI_neg {a b x : Rat} : inI (-a) (-b) (-x) ↔ inI a b x := by unfold inI; constructor <;> intro h <;> grind
theorem lin_high {a b c d : Rat} (h1 : inI a b 0) (h2 : inI c d 0) : ∃ l : Rat, (l = a ∨ l = b ∨ l = c ∨ l = d) ∧ inI a b l ∧ inI c d l ∧ ∀ x, inI a b x → inI c d x → x ≤ l := by
  obtain ⟨l, k, k1, k2, k3⟩ := lin_low (a := -a) (b := -b) (c := -c) (d := -d) (by have := inI_neg.2 h1; rwa [Rat.neg_zero] at this) (by have := inI_neg.2 h2; rwa [Rat.neg_zero] at this)
  refine ⟨-l, by grind, inI_neg.1 (by rwa [Rat.neg_neg]), inI_neg.1 (by rwa [Rat.neg_neg]), fun x e f => ?_⟩
  have := k3 (-x) (inI_neg.2 e) (inI_neg.2 f)
  grind
theorem lin_end1 {a b l h : Rat} (z : inI a b 0) (l1 : inI a b l) (h1 : inI a b h) (A : l ≤ a) (B : a ≤ h) : a = l ∨ a = h := by
  unfold inI at z l1 h1
  grind
theorem inI_sy {a b x : Rat} : inI a b x ↔ inI b a x := by unfold inI; exact Or.comm
theorem lin_end {a b c d l h x : Rat} (z : inI a b 0) (z' : inI c d 0) (l1 : inI a b l) (l2 : inI c d l) (h1 : inI a b h) (h2 : inI c d h) (hx : x = a ∨ x = b ∨ x = c ∨ x = d) (A : l ≤ x) (B : x ≤ h) : x = l ∨ x = h := by
  rcases hx with rfl | rfl | rfl | rfl
  · exact lin_end1 z l1 h1 A B
  · exact lin_end1 (inI_sy.1 z) (inI_sy.1 l1) (inI_sy.1 h1) A B
  · exact lin_end1 z' l2 h2 A B
  · exact lin_end1 (inI_sy.1 z') (inI_sy.1 l2) (inI_sy.1 h2) A B
/-- parallel segments with a common point: the least and the greatest one are ends -/
theorem K_line {s t : S2} (hD : uv s t = 0) {p : P2} (hp : Kp s t p) : ∃ lo hi, Kp s t lo ∧ Kp s t hi ∧ Ep s t lo ∧ Ep s t hi ∧ (∀ q, Kp s t q → leP lo q ∧ leP q hi) ∧ (∀ e, Ep s t e → Kp s t e → e = lo ∨ e = hi) := by
  obtain ⟨g, k, m, hg, hu, hv⟩ := par_line hD
  obtain ⟨r, q, h0, h1, g0, g1, e, f, _, _⟩ := K_fr hp
  have u1 : s.2.1 - s.1.1 = g.1 * k := congrArg Prod.fst hu
  have u2 : s.2.2 - s.1.2 = g.2 * k := congrArg Prod.snd hu
  have v1 : t.2.1 - t.1.1 = g.1 * m := congrArg Prod.fst hv
  have v2 : t.2.2 - t.1.2 = g.2 * m := congrArg Prod.snd hv
  have e1 : p.1 = s.1.1 + (s.2.1 - s.1.1) * r := congrArg Prod.fst e
  have e2 : p.2 = s.1.2 + (s.2.2 - s.1.2) * r := congrArg Prod.snd e
  have f1 : p.1 = t.1.1 + (t.2.1 - t.1.1) * q := congrArg Prod.fst f
  have f2 : p.2 = t.1.2 + (t.2.2 - t.1.2) * q := congrArg Prod.snd f
  have hs1 : s.1 = lnP p g (-(k * r)) := Prod.ext (show s.1.1 = p.1 + g.1 * (-(k * r)) by rw [e1, u1]; grind) (show s.1.2 = p.2 + g.2 * (-(k * r)) by rw [e2, u2]; grind)
  have hs2 : s.2 = lnP p g (k * (1 - r)) := Prod.ext (show s.2.1 = p.1 + g.1 * (k * (1 - r)) by rw [e1, u1]; grind) (show s.2.2 = p.2 + g.2 * (k * (1 - r)) by rw [e2, u2]; grind)
  have ht1 : t.1 = lnP p g (-(m * q)) := Prod.ext (show t.1.1 = p.1 + g.1 * (-(m * q)) by rw [f1, v1]; grind) (show t.1.2 = p.2 + g.2 * (-(m * q)) by rw [f2, v2]; grind)
  have ht2 : t.2 = lnP p g (m * (1 - q)) := Prod.ext (show t.2.1 = p.1 + g.1 * (m * (1 - q)) by rw [f1, v1]; grind) (show t.2.2 = p.2 + g.2 * (m * (1 - q)) by rw [f2, v2]; grind)
  have zs : inI (-(k * r)) (k * (1 - r)) 0 := by
    have := of_frac (u := k) h0 h1
    unfold inI at this ⊢; grind
  have zt : inI (-(m * q)) (m * (1 - q)) 0 := by
    have := of_frac (u := m) g0 g1
    unfold inI at this ⊢; grind
  generalize -(k * r) = α at *
  generalize k * (1 - r) = β at *
  generalize -(m * q) = γ at *
  generalize m * (1 - q) = δ at *
  have hK : ∀ z, Kp s t z ↔ ∃ x, z = lnP p g x ∧ inI α β x ∧ inI γ δ x := by
    intro z
    unfold Kp
    rw [show s = (lnP p g α, lnP p g β) from Prod.ext hs1 hs2, show t = (lnP p g γ, lnP p g δ) from Prod.ext ht1 ht2, ln_on, ln_on]
    constructor
    · rintro ⟨⟨x, rfl, hx⟩, y, hy, hy'⟩
      have := ln_inj hg hy
      subst this
      exact ⟨x, rfl, hx, hy'⟩
    · rintro ⟨x, rfl, a, b⟩
      exact ⟨⟨x, rfl, a⟩, x, rfl, b⟩
  have hE : ∀ z, Ep s t z ↔ ∃ x, z = lnP p g x ∧ (x = α ∨ x = β ∨ x = γ ∨ x = δ) := by
    intro z
    unfold Ep
    rw [hs1, hs2, ht1, ht2]
    constructor
    · rintro (c | c | c | c) <;> exact ⟨_, c, by simp⟩
    · rintro ⟨x, rfl, c | c | c | c⟩ <;> simp [c]
  obtain ⟨l, lE, l1, l2, l3⟩ := lin_low zs zt
  obtain ⟨h, hE', h1', h2', h3'⟩ := lin_high zs zt
  refine ⟨lnP p g l, lnP p g h, (hK _).2 ⟨l, rfl, l1, l2⟩, (hK _).2 ⟨h, rfl, h1', h2'⟩, (hE _).2 ⟨l, rfl, lE⟩, (hE _).2 ⟨h, rfl, hE'⟩, ?_, ?_⟩
  · intro z hz
    obtain ⟨x, rfl, a, b⟩ := (hK _).1 hz
    unfold leP
    rw [ln_lt hg, ln_lt hg, Rat.not_lt, Rat.not_lt]
    exact ⟨l3 x a b, h3' x a b⟩
  · intro z hz hz'
    obtain ⟨x, rfl, hx⟩ := (hE _).1 hz
    obtain ⟨y, hy, a, b⟩ := (hK _).1 hz'
    have := ln_inj hg hy
    subst this
    have A := l3 x a b
    have B := h3' x a b
    have : x = l ∨ x = h := lin_end zs zt l1 l2 h1' h2' hx A B
    rcases this with c | c
    · left; rw [c]
    · right; rw [c]
end Go.Via
set_option linter.unusedVariables false
set_option linter.unusedSimpArgs false
namespace Go.Via
open Go Go.RowKit
/-- what the answer of a meeting has to be -/
def MeetIs (s t : S2) (m : Int × S2) : Prop :=
  (m = (0, ((0, 0), (0, 0))) ∧ ∀ p, ¬ Kp s t p) ∨ (∃ c, m = (1, (c, c)) ∧ Kp s t c ∧ Ep s t c ∧ ∀ p, Kp s t p → p = c) ∨
  (∃ c, m = (2, (c, c)) ∧ Kp s t c ∧ ¬ Ep s t c ∧ ∀ p, Kp s t p → p = c) ∨
  (∃ a b, m = (3, (a, b)) ∧ Kp s t a ∧ Kp s t b ∧ ltP a b ∧ ∀ p, Kp s t p → leP a p ∧ leP p b)
theorem addE_iff {l : List P2} {p q : P2} {on : S2} : q ∈ addE l p on ↔ q ∈ l ∨ (q = p ∧ onS p on) := by
  unfold addE
  by_cases h : onS p on
  · by_cases g : p ∈ l
    · rw [if_neg (fun c => c.2 g)]
      exact ⟨.inl, fun c => c.elim id (fun c => c.1 ▸ g)⟩
    · rw [if_pos ⟨h, g⟩, List.mem_append, List.mem_singleton]
      exact ⟨fun c => c.imp id (fun c => ⟨c, h⟩), fun c => c.imp id (fun c => c.1)⟩
  · rw [if_neg (fun c => h c.1)]
    exact ⟨.inl, fun c => c.elim id (fun c => absurd c.2 h)⟩
theorem addE_nodup {l : List P2} {p : P2} {on : S2} (h : l.Nodup) : (addE l p on).Nodup := by
  unfold addE
  split
  · rename_i c
    rw [List.nodup_append]
    exact ⟨h, by simp, fun a ha b hb e => c.2 (by rw [List.mem_singleton] at hb; rw [← hb, ← e]; exact ha)⟩
  · exact h
theorem ends_nodup (s t : S2) : (endsP s t).Nodup := by unfold endsP; exact addE_nodup (addE_nodup (addE_nodup (addE_nodup List.nodup_nil)))
theorem mem_ends {s t : S2} {p : P2} : p ∈ endsP s t ↔ Ep s t p ∧ Kp s t p := by
  unfold endsP
  rw [addE_iff, addE_iff, addE_iff, addE_iff]
  unfold Ep Kp
  constructor
  · rintro ((((c | ⟨rfl, c⟩) | ⟨rfl, c⟩) | ⟨rfl, c⟩) | ⟨rfl, c⟩)
    · cases c
    · exact ⟨.inl rfl, on_end1 s, c⟩
    · exact ⟨.inr (.inl rfl), on_end2 s, c⟩
    · exact ⟨.inr (.inr (.inl rfl)), c, on_end1 t⟩
    · exact ⟨.inr (.inr (.inr rfl)), c, on_end2 t⟩
  · rintro ⟨rfl | rfl | rfl | rfl, c, d⟩
    · exact .inl (.inl (.inl (.inr ⟨rfl, d⟩)))
    · exact .inl (.inl (.inr ⟨rfl, d⟩))
    · exact .inl (.inr ⟨rfl, c⟩)
    · exact .inr ⟨rfl, c⟩
theorem sgn_opp {x y : Rat} : sgn x * sgn y < 0 ↔ (x < 0 ∧ 0 < y) ∨ (0 < x ∧ y < 0) := by
  have hx := @sgn_n x; have hx' := @sgn_p x; have hx0 := @sgn_z x
  have hy := @sgn_n y; have hy' := @sgn_p y; have hy0 := @sgn_z y
  have bx := sgn_bound x; have by' := sgn_bound y
  rcases (show sgn x = -1 ∨ sgn x = 0 ∨ sgn x = 1 by omega) with a | a | a <;> rcases (show sgn y = -1 ∨ sgn y = 0 ∨ sgn y = 1 by omega) with b | b | b <;> rw [a, b]
  · have := hx.1 a; have := hy.1 b; constructor
    · intro h; exact absurd h (by decide)
    · intro h; grind
  · have := hx.1 a; have := hy0.1 b; constructor
    · intro h; exact absurd h (by decide)
    · intro h; grind
  · have := hx.1 a; have := hy'.1 b; exact ⟨fun _ => by grind, fun _ => by decide⟩
  · have := hx0.1 a; have := hy.1 b; constructor
    · intro h; exact absurd h (by decide)
    · intro h; grind
  · have := hx0.1 a; have := hy0.1 b; constructor
    · intro h; exact absurd h (by decide)
    · intro h; grind
  · have := hx0.1 a; have := hy'.1 b; constructor
    · intro h; exact absurd h (by decide)
    · intro h; grind
  · have := hx'.1 a; have := hy.1 b; exact ⟨fun _ => by grind, fun _ => by decide⟩
  · have := hx'.1 a; have := hy0.1 b; constructor
    · intro h; exact absurd h (by decide)
    · intro h; grind
  · have := hx'.1 a; have := hy'.1 b; constructor
    · intro h; exact absurd h (by decide)
    · intro h; grind
/-- the test of the crossing, by the products -/
def FFt (s t : S2) : Prop := ¬ 0 ≤ ori s.1 s.2 t.1 * ori s.1 s.2 t.2 ∧ ¬ 0 ≤ ori t.1 t.2 s.1 * ori t.1 t.2 s.2
theorem FF_iff (s t : S2) : FFt s t ↔ ((0 < wUq s t ∧ wUq s t < uv s t) ∨ (wUq s t < 0 ∧ uv s t < wUq s t)) ∧ ((0 < wv s t ∧ wv s t < uv s t) ∨ (wv s t < 0 ∧ uv s t < wv s t)) := by
  obtain ⟨⟨a1, a2⟩, ⟨b1, b2⟩⟩ := s
  obtain ⟨⟨c1, c2⟩, ⟨d1, d2⟩⟩ := t
  unfold FFt ori
  rw [Int.not_le, Int.not_le, sgn_opp, sgn_opp]
  unfold wUq wv uv crs pSub
  dsimp only
  have e1 : (b1 - a1) * (c2 - a2) - (b2 - a2) * (c1 - a1) = -((c1 - a1) * (b2 - a2) - (c2 - a2) * (b1 - a1)) := by grind
  have e2 : (b1 - a1) * (d2 - a2) - (b2 - a2) * (d1 - a1) = ((b1 - a1) * (d2 - c2) - (b2 - a2) * (d1 - c1)) - ((c1 - a1) * (b2 - a2) - (c2 - a2) * (b1 - a1)) := by grind
  have e3 : (d1 - c1) * (a2 - c2) - (d2 - c2) * (a1 - c1) = (c1 - a1) * (d2 - c2) - (c2 - a2) * (d1 - c1) := by grind
  have e4 : (d1 - c1) * (b2 - c2) - (d2 - c2) * (b1 - c1) = ((c1 - a1) * (d2 - c2) - (c2 - a2) * (d1 - c1)) - ((b1 - a1) * (d2 - c2) - (b2 - a2) * (d1 - c1)) := by grind
  rw [e1, e2, e3, e4]
  generalize (c1 - a1) * (b2 - a2) - (c2 - a2) * (b1 - a1) = X
  generalize (b1 - a1) * (d2 - c2) - (b2 - a2) * (d1 - c1) = D
  generalize (c1 - a1) * (d2 - c2) - (c2 - a2) * (d1 - c1) = Y
  constructor <;> intro h <;> grind
theorem div_unit {x d : Rat} (h : (0 ≤ x ∧ x ≤ d) ∨ (x ≤ 0 ∧ d ≤ x)) (hd : d ≠ 0) : 0 ≤ x / d ∧ x / d ≤ 1 := by
  obtain ⟨r, h0, h1, e⟩ := frac_of hd (x := x) (by unfold inI; grind)
  rw [e, Rat.mul_comm, Rat.mul_div_cancel hd]
  exact ⟨h0, h1⟩
theorem cross_t {s t : S2} (hD : uv s t ≠ 0) : divP s (wv s t / uv s t) = divP t (wUq s t / uv s t) := by
  have e1 : wv s t / uv s t * uv s t = wv s t := Rat.div_mul_cancel hD
  have e2 : wUq s t / uv s t * uv s t = wUq s t := Rat.div_mul_cancel hD
  generalize wv s t / uv s t = r at *
  generalize wUq s t / uv s t = q at *
  have key : ∀ x y : Rat, (x - y) * uv s t = 0 → x = y := fun x y h => by
    rcases Rat.mul_eq_zero.1 h with c | c
    · grind
    · exact absurd c hD
  obtain ⟨⟨a1, a2⟩, ⟨b1, b2⟩⟩ := s
  obtain ⟨⟨c1, c2⟩, ⟨d1, d2⟩⟩ := t
  unfold divP pAdd pScale pSub
  dsimp only
  refine Prod.ext (key _ _ ?_) (key _ _ ?_)
  · show (a1 + (b1 - a1) * r - (c1 + (d1 - c1) * q)) * _ = 0
    have : (a1 + (b1 - a1) * r - (c1 + (d1 - c1) * q)) * uv ((a1, a2), (b1, b2)) ((c1, c2), (d1, d2)) = (a1 - c1) * uv ((a1, a2), (b1, b2)) ((c1, c2), (d1, d2)) + (b1 - a1) * (r * uv ((a1, a2), (b1, b2)) ((c1, c2), (d1, d2))) - (d1 - c1) * (q * uv ((a1, a2), (b1, b2)) ((c1, c2), (d1, d2))) := by grind
    rw [this, e1, e2]
    unfold uv wv wUq crs pSub
    dsimp only
    grind
  · show (a2 + (b2 - a2) * r - (c2 + (d2 - c2) * q)) * _ = 0
    have : (a2 + (b2 - a2) * r - (c2 + (d2 - c2) * q)) * uv ((a1, a2), (b1, b2)) ((c1, c2), (d1, d2)) = (a2 - c2) * uv ((a1, a2), (b1, b2)) ((c1, c2), (d1, d2)) + (b2 - a2) * (r * uv ((a1, a2), (b1, b2)) ((c1, c2), (d1, d2))) - (d2 - c2) * (q * uv ((a1, a2), (b1, b2)) ((c1, c2), (d1, d2))) := by grind
    rw [this, e1, e2]
    unfold uv wv wUq crs pSub
    dsimp only
    grind
/-- where the test of the crossing holds, its point is common -/
theorem cross_K {s t : S2} (h : FFt s t) : uv s t ≠ 0 ∧ Kp s t (divP s (wv s t / uv s t)) := by
  have h' := (FF_iff s t).1 h
  have hD : uv s t ≠ 0 := by grind
  refine ⟨hD, ?_, ?_⟩
  · have := div_unit (x := wv s t) (d := uv s t) (by grind) hD
    exact on_div this.1 this.2
  · rw [cross_t hD]
    have := div_unit (x := wUq s t) (d := uv s t) (by grind) hD
    exact on_div this.1 this.2
/-- a common point that is no end: the test holds, and the point is that of the crossing -/
theorem cross_of {s t : S2} {c : P2} (hc : Kp s t c) (hN : ∀ e, Ep s t e → ¬ Kp s t e) : uv s t ≠ 0 ∧ FFt s t ∧ divP s (wv s t / uv s t) = c := by
  have hE : ¬ Ep s t c := fun h => hN c h hc
  obtain ⟨r, q, h0, h1, g0, g1, e, f, er, eq⟩ := K_fr hc
  have hr0 : r ≠ 0 := fun z => hE (.inl (by rw [e, z]; unfold divP pAdd pScale; exact Prod.ext (show _ + _ * (0 : Rat) = _ by grind) (show _ + _ * (0 : Rat) = _ by grind)))
  have hr1 : r ≠ 1 := fun z => hE (.inr (.inl (by rw [e, z]; unfold divP pAdd pScale pSub; exact Prod.ext (show s.1.1 + (s.2.1 - s.1.1) * (1 : Rat) = s.2.1 by grind) (show s.1.2 + (s.2.2 - s.1.2) * (1 : Rat) = s.2.2 by grind))))
  have hq0 : q ≠ 0 := fun z => hE (.inr (.inr (.inl (by rw [f, z]; unfold divP pAdd pScale; exact Prod.ext (show _ + _ * (0 : Rat) = _ by grind) (show _ + _ * (0 : Rat) = _ by grind)))))
  have hq1 : q ≠ 1 := fun z => hE (.inr (.inr (.inr (by rw [f, z]; unfold divP pAdd pScale pSub; exact Prod.ext (show t.1.1 + (t.2.1 - t.1.1) * (1 : Rat) = t.2.1 by grind) (show t.1.2 + (t.2.2 - t.1.2) * (1 : Rat) = t.2.2 by grind)))))
  have hD : uv s t ≠ 0 := fun z => by
    obtain ⟨lo, hi, k1, k2, e1, e2, k3, k4⟩ := K_line z hc
    exact hN lo e1 k1
  refine ⟨hD, (FF_iff s t).2 ?_, ?_⟩
  · rw [← er, ← eq]
    rcases (show 0 < uv s t ∨ 0 < -uv s t by grind) with d | d
    · have A := Rat.mul_pos (show 0 < r by grind) d
      have B := Rat.mul_pos (show 0 < 1 - r by grind) d
      have A' := Rat.mul_pos (show 0 < q by grind) d
      have B' := Rat.mul_pos (show 0 < 1 - q by grind) d
      grind
    · have A := Rat.mul_pos (show 0 < r by grind) d
      have B := Rat.mul_pos (show 0 < 1 - r by grind) d
      have A' := Rat.mul_pos (show 0 < q by grind) d
      have B' := Rat.mul_pos (show 0 < 1 - q by grind) d
      grind
  · rw [← er, Rat.mul_div_cancel hD]; exact e.symm
theorem K_ends {s t : S2} {e : P2} (he : Ep s t e) (hk : Kp s t e) : ∃ lo hi, Kp s t lo ∧ Kp s t hi ∧ Ep s t lo ∧ Ep s t hi ∧ (∀ q, Kp s t q → leP lo q ∧ leP q hi) ∧ (∀ e, Ep s t e → Kp s t e → e = lo ∨ e = hi) := by
  by_cases hD : uv s t = 0
  · exact K_line hD hk
  · exact ⟨e, e, hk, hk, he, he, fun q hq => by rw [K_uniq hD hq hk]; exact ⟨ltP_irrefl _, ltP_irrefl _⟩, fun z _ hz => .inl (K_uniq hD hz hk)⟩
theorem cross_1 {s t : S2} (h : FFt s t) : crossP s t = (2, (divP s (wv s t / uv s t), divP s (wv s t / uv s t))) := cross_FF h.1 h.2
theorem cross_0 {s t : S2} (h : ¬ FFt s t) : crossP s t = (0, ((0, 0), (0, 0))) := by
  by_cases h1 : 0 ≤ ori s.1 s.2 t.1 * ori s.1 s.2 t.2
  · exact cross_T1 h1
  · exact cross_T2 (Classical.byContradiction fun h2 => h ⟨h1, h2⟩)
/-- a list of distinct ends that are common: what it says about the common points -/
theorem ends_cases {s t : S2} {l : List P2} (hn : l.Nodup) (hm : ∀ p, p ∈ l ↔ Ep s t p ∧ Kp s t p) :
    (l = [] ∧ ∀ e, Ep s t e → ¬ Kp s t e) ∨ (∃ c, l = [c] ∧ Kp s t c ∧ Ep s t c ∧ ∀ p, Kp s t p → p = c) ∨ (∃ a b, (l = [a, b] ∨ l = [b, a]) ∧ Kp s t a ∧ Kp s t b ∧ ltP a b ∧ ∀ p, Kp s t p → leP a p ∧ leP p b) := by
  match l, hn, hm with
  | [], hn, hm => exact .inl ⟨rfl, fun e h1 h2 => by have := (hm e).2 ⟨h1, h2⟩; cases this⟩
  | [c], hn, hm =>
    obtain ⟨hE, hK⟩ := (hm c).1 (by simp)
    obtain ⟨lo, hi, k1, k2, e1, e2, k3, k4⟩ := K_ends hE hK
    have a1 : lo = c := by have := (hm lo).2 ⟨e1, k1⟩; simpa using this
    have a2 : hi = c := by have := (hm hi).2 ⟨e2, k2⟩; simpa using this
    subst a1; subst a2
    exact .inr (.inl ⟨hi, rfl, hK, hE, fun p hp => ltP_tri (k3 p hp).1 (k3 p hp).2⟩)
  | [a, b], hn, hm =>
    obtain ⟨hE, hK⟩ := (hm a).1 (by simp)
    obtain ⟨hE', hK'⟩ := (hm b).1 (by simp)
    have hab : a ≠ b := by simp at hn; exact hn
    obtain ⟨lo, hi, k1, k2, e1, e2, k3, k4⟩ := K_ends hE hK
    refine .inr (.inr ⟨lo, hi, ?_⟩)
    have h1 := k4 a hE hK
    have h2 := k4 b hE' hK'
    have hne : lo ≠ hi := fun e => hab (by rcases h1 with h1 | h1 <;> rcases h2 with h2 | h2 <;> rw [h1, h2] <;> first | rfl | exact e | exact e.symm)
    have hlt : ltP lo hi := Classical.byContradiction fun c => hne (ltP_tri c (k3 hi k2).1)
    refine ⟨?_, k1, k2, hlt, k3⟩
    rcases h1 with h1 | h1 <;> rcases h2 with h2 | h2
    · exact absurd (h1.trans h2.symm) hab
    · left; rw [h1, h2]
    · right; rw [h1, h2]
    · exact absurd (h1.trans h2.symm) hab
  | a :: b :: c :: l, hn, hm =>
    exfalso
    obtain ⟨hE, hK⟩ := (hm a).1 (by simp)
    obtain ⟨hE', hK'⟩ := (hm b).1 (by simp)
    obtain ⟨hE2, hK2⟩ := (hm c).1 (by simp)
    simp only [List.nodup_cons, List.mem_cons, not_or] at hn
    obtain ⟨lo, hi, k1, k2, e1, e2, k3, k4⟩ := K_ends hE hK
    obtain ⟨⟨n1, n2, _⟩, ⟨n3, _⟩, _⟩ := hn
    rcases k4 a hE hK with c1 | c1 <;> rcases k4 b hE' hK' with c2 | c2 <;> rcases k4 c hE2 hK2 with c3 | c3 <;> subst c1 <;> first | exact n1 c2.symm | exact n2 c3.symm | exact n3 (c2.trans c3.symm)
theorem meetP_is (s t : S2) : MeetIs s t (meetP s t) := by
  rcases ends_cases (ends_nodup s t) (fun p => mem_ends) with ⟨h, hN⟩ | ⟨c, h, h1, h2, h3⟩ | ⟨a, b, h | h, h1, h2, h3, h4⟩
  · rw [meet_0 h]
    by_cases hF : FFt s t
    · rw [cross_1 hF]
      obtain ⟨hD, hK⟩ := cross_K hF
      exact .inr (.inr (.inl ⟨_, rfl, hK, fun e => hN _ e hK, fun p hp => K_uniq hD hp hK⟩))
    · rw [cross_0 hF]
      exact .inl ⟨rfl, fun p hp => hF (cross_of hp hN).2.1⟩
  · rw [meet_1 h]; exact .inr (.inl ⟨c, rfl, h1, h2, h3⟩)
  · rw [meet_3 h (by have := cmpP_neg.2 h3; omega)]; exact .inr (.inr (.inr ⟨a, b, rfl, h1, h2, h3, h4⟩))
  · rw [meet_2 h (by have := cmpP_pos.2 h3; omega)]; exact .inr (.inr (.inr ⟨a, b, rfl, h1, h2, h3, h4⟩))
/-! what PlaneCommon says -/
end Go.Via
set_option linter.unusedVariables false
set_option linter.unusedSimpArgs false
namespace Go.Via
open Go Go.RowKit
/-! ### bounds, fractions, ends: for the law about common points -/
theorem of_unit {i n : Int} (h0 : 0 ≤ i) (h1 : i ≤ n) (hn : 0 < n) : 0 ≤ Rat.divInt i n ∧ Rat.divInt i n ≤ 1 := by
  rw [Rat.divInt_eq_div]
  refine div_unit (.inl ⟨?_, ?_⟩) ?_
  · exact_mod_cast h0
  · exact_mod_cast h1
  · intro e
    have : n = 0 := by exact_mod_cast e
    omega
theorem szOf {i n : Int} (hi : -9223372036854775808 ≤ i ∧ i ≤ 9223372036854775807) (hn : -9223372036854775808 ≤ n ∧ n ≤ 9223372036854775807) : szQ (Rat.divInt i n) ≤ 20 := by
  have h1 : nb i.natAbs ≤ 8 := nb_le (by omega)
  have h2 : nb n.natAbs ≤ 8 := nb_le (by omega)
  have := szQ_divInt (n := i) (d := n) (a := 8) (b := 8) h1 h2 (by omega)
  omega
end Go.Via
set_option linter.unusedVariables false
set_option linter.unusedSimpArgs false
namespace Go.Via
open Go Go.RowKit
/-! ### least distances -/
theorem clamp_min {A B C m k : Rat} (hA : 0 ≤ A) (hm : A * m = B) (k0 : 0 ≤ k) (k1 : k ≤ 1) :
    C - 2 * B * max 0 (min m 1) + A * (max 0 (min m 1) * max 0 (min m 1)) ≤ C - 2 * B * k + A * (k * k) := by
  have key : ∀ z : Rat, 0 ≤ (k - z) * (A * z - B) → C - 2 * B * z + A * (z * z) ≤ C - 2 * B * k + A * (k * k) := by
    intro z hz
    have := Rat.mul_nonneg hA (sq_nonneg8 (k - z))
    grind
  apply key
  subst hm
  by_cases h0 : m < 0
  · rw [near_a h0]
    have := Rat.mul_nonneg (Rat.mul_nonneg hA (show 0 ≤ -m by grind)) k0
    rw [show (k - 0) * (A * 0 - A * m) = A * -m * k by grind]; exact this
  · by_cases h1 : 1 < m
    · rw [near_b (Rat.not_lt.1 h0) h1]
      have := Rat.mul_nonneg (Rat.mul_nonneg hA (show 0 ≤ m - 1 by grind)) (show 0 ≤ 1 - k by grind)
      rw [show (k - 1) * (A * 1 - A * m) = A * (m - 1) * (1 - k) by grind]; exact this
    · rw [near_c (Rat.not_lt.1 h0) h1]
      have : A * m - A * m = 0 := by grind
      rw [this, Rat.mul_zero]; exact Rat.le_refl
theorem dist_div (p : P2) (t : S2) (k : Rat) : dist2 p (divP t k) = dot (pSub p t.1) (pSub p t.1) - 2 * dot (pSub p t.1) (pSub t.2 t.1) * k + dot (pSub t.2 t.1) (pSub t.2 t.1) * (k * k) := by
  obtain ⟨p1, p2⟩ := p
  obtain ⟨⟨c1, c2⟩, ⟨d1, d2⟩⟩ := t
  simp only [dist2, dot, divP, pAdd, pScale, pSub]
  grind
theorem dot_nn (u : P2) : 0 ≤ dot u u := by
  have h1 := sq_nonneg8 u.1; have h2 := sq_nonneg8 u.2
  unfold dot; grind
theorem dist_nn (p q : P2) : 0 ≤ dist2 p q := dot_nn _
theorem near_min (p : P2) (t : S2) {k : Rat} (k0 : 0 ≤ k) (k1 : k ≤ 1) : ps2 p t ≤ dist2 p (divP t k) := by
  unfold ps2
  by_cases h : dot (pSub t.2 t.1) (pSub t.2 t.1) = 0
  · rw [near_T h]
    have hw := dot_zero.1 h
    have w1 : t.2.1 - t.1.1 = 0 := congrArg Prod.fst hw
    have w2 : t.2.2 - t.1.2 = 0 := congrArg Prod.snd hw
    have : divP t k = t.1 := by
      unfold divP pAdd pScale pSub
      rw [w1, w2]
      exact Prod.ext (show t.1.1 + 0 * k = t.1.1 by grind) (show t.1.2 + 0 * k = t.1.2 by grind)
    rw [this]; exact Rat.le_refl
  · rw [near_F h]
    show dist2 p (divP t (nearQ p t)) ≤ _
    rw [dist_div, dist_div]
    unfold nearQ
    exact clamp_min (dot_nn _) (by rw [Rat.mul_comm, Rat.div_mul_cancel h]) k0 k1
theorem near_unit (p : P2) (t : S2) : 0 ≤ (nearP p t).2 ∧ (nearP p t).2 ≤ 1 := by
  by_cases h : dot (pSub t.2 t.1) (pSub t.2 t.1) = 0
  · rw [near_T h]; constructor <;> grind
  · rw [near_F h]
    unfold nearQ
    generalize dot (pSub p t.1) (pSub t.2 t.1) / dot (pSub t.2 t.1) (pSub t.2 t.1) = m
    show 0 ≤ max 0 (min m 1) ∧ max 0 (min m 1) ≤ 1
    by_cases h0 : m < 0
    · rw [near_a h0]; constructor <;> grind
    · by_cases h1 : 1 < m
      · rw [near_b (Rat.not_lt.1 h0) h1]; constructor <;> grind
      · rw [near_c (Rat.not_lt.1 h0) h1]; constructor <;> grind
theorem near_on (p : P2) (t : S2) : onS (nearP p t).1 t := by
  rw [← near_div]; exact on_div (near_unit p t).1 (near_unit p t).2
theorem out1 {x y : Rat} (h0 : 0 ≤ x) (h1 : x ≤ 1) (hy : ¬ (0 ≤ y ∧ y ≤ 1)) : ∃ τ : Rat, 0 ≤ τ ∧ τ ≤ 1 ∧ (x + τ * (y - x) = 0 ∨ x + τ * (y - x) = 1) := by
  by_cases h : 1 < y
  · obtain ⟨τ, a, b, e⟩ := frac_of (x := 1 - x) (u := y - x) (by grind) (by unfold inI; grind)
    exact ⟨τ, a, b, .inr (by grind)⟩
  · obtain ⟨τ, a, b, e⟩ := frac_of (x := x) (u := x - y) (by grind) (by unfold inI; grind)
    exact ⟨τ, a, b, .inl (by grind)⟩
theorem mix {x y τ : Rat} (h0 : 0 ≤ x) (h1 : x ≤ 1) (y0 : 0 ≤ y) (y1 : y ≤ 1) (t0 : 0 ≤ τ) (t1 : τ ≤ 1) : 0 ≤ x + τ * (y - x) ∧ x + τ * (y - x) ≤ 1 := by
  have a := Rat.mul_nonneg t0 y0
  have b := Rat.mul_nonneg (show 0 ≤ 1 - τ by grind) h0
  have c := Rat.mul_nonneg t0 (show 0 ≤ 1 - y by grind)
  have d := Rat.mul_nonneg (show 0 ≤ 1 - τ by grind) (show 0 ≤ 1 - x by grind)
  constructor <;> grind
theorem mul_unit {a b : Rat} (a0 : 0 ≤ a) (a1 : a ≤ 1) (b0 : 0 ≤ b) (b1 : b ≤ 1) : 0 ≤ a * b ∧ a * b ≤ 1 := by
  have x := Rat.mul_nonneg a0 b0
  have y := Rat.mul_nonneg (show 0 ≤ 1 - a by grind) b0
  constructor <;> grind
/-- from a point of the square towards a point outside of it: where the border is passed -/
theorem out2 {r k r0 k0 : Rat} (a0 : 0 ≤ r) (a1 : r ≤ 1) (b0 : 0 ≤ k) (b1 : k ≤ 1) (h : ¬ (0 ≤ r0 ∧ r0 ≤ 1 ∧ 0 ≤ k0 ∧ k0 ≤ 1)) :
    ∃ τ : Rat, 0 ≤ τ ∧ τ ≤ 1 ∧ ((0 ≤ k + τ * (k0 - k) ∧ k + τ * (k0 - k) ≤ 1 ∧ (r + τ * (r0 - r) = 0 ∨ r + τ * (r0 - r) = 1)) ∨ (0 ≤ r + τ * (r0 - r) ∧ r + τ * (r0 - r) ≤ 1 ∧ (k + τ * (k0 - k) = 0 ∨ k + τ * (k0 - k) = 1))) := by
  by_cases hr : 0 ≤ r0 ∧ r0 ≤ 1
  · obtain ⟨τ, t0, t1, e⟩ := out1 b0 b1 (y := k0) (fun c => h ⟨hr.1, hr.2, c.1, c.2⟩)
    have := mix a0 a1 hr.1 hr.2 t0 t1
    exact ⟨τ, t0, t1, .inr ⟨this.1, this.2, e⟩⟩
  · obtain ⟨τ, t0, t1, e⟩ := out1 a0 a1 (y := r0) hr
    by_cases hk : 0 ≤ k + τ * (k0 - k) ∧ k + τ * (k0 - k) ≤ 1
    · exact ⟨τ, t0, t1, .inl ⟨hk.1, hk.2, e⟩⟩
    · obtain ⟨σ, s0, s1, f⟩ := out1 b0 b1 (y := k + τ * (k0 - k)) hk
      have hm := mul_unit s0 s1 t0 t1
      have hr1 : 0 ≤ r + τ * (r0 - r) ∧ r + τ * (r0 - r) ≤ 1 := by rcases e with e | e <;> rw [e] <;> constructor <;> grind
      have := mix a0 a1 hr1.1 hr1.2 s0 s1
      refine ⟨σ * τ, hm.1, hm.2, .inr ⟨by grind, by grind, ?_⟩⟩
      rcases f with f | f
      · left; grind
      · right; grind
theorem div_0 (s : S2) : divP s 0 = s.1 := by
  unfold divP pAdd pScale; exact Prod.ext (show _ + _ * (0 : Rat) = _ by grind) (show _ + _ * (0 : Rat) = _ by grind)
theorem div_1 (s : S2) : divP s 1 = s.2 := by
  unfold divP pAdd pScale pSub; exact Prod.ext (show s.1.1 + (s.2.1 - s.1.1) * (1 : Rat) = s.2.1 by grind) (show s.1.2 + (s.2.2 - s.1.2) * (1 : Rat) = s.2.2 by grind)
theorem dist_mix {s t : S2} {r k r0 k0 l τ : Rat} (l0 : 0 ≤ l) (l1 : l ≤ 1) (h : pSub (divP s r0) (divP t k0) = pScale (pSub (divP s r) (divP t k)) l) (t0 : 0 ≤ τ) (t1 : τ ≤ 1) :
    dist2 (divP s (r + τ * (r0 - r))) (divP t (k + τ * (k0 - k))) ≤ dist2 (divP s r) (divP t k) := by
  have hf := mix (x := 1) (y := l) (by grind) (by grind) l0 l1 t0 t1
  have e : pSub (divP s (r + τ * (r0 - r))) (divP t (k + τ * (k0 - k))) = pScale (pSub (divP s r) (divP t k)) (1 + τ * (l - 1)) := by
    obtain ⟨⟨a1, a2⟩, ⟨b1, b2⟩⟩ := s
    obtain ⟨⟨c1, c2⟩, ⟨d1, d2⟩⟩ := t
    have h1 : (a1 + (b1 - a1) * r0) - (c1 + (d1 - c1) * k0) = ((a1 + (b1 - a1) * r) - (c1 + (d1 - c1) * k)) * l := congrArg Prod.fst h
    have h2 : (a2 + (b2 - a2) * r0) - (c2 + (d2 - c2) * k0) = ((a2 + (b2 - a2) * r) - (c2 + (d2 - c2) * k)) * l := congrArg Prod.snd h
    refine Prod.ext ?_ ?_
    · show (a1 + (b1 - a1) * (r + τ * (r0 - r))) - (c1 + (d1 - c1) * (k + τ * (k0 - k))) = ((a1 + (b1 - a1) * r) - (c1 + (d1 - c1) * k)) * (1 + τ * (l - 1))
      grind
    · show (a2 + (b2 - a2) * (r + τ * (r0 - r))) - (c2 + (d2 - c2) * (k + τ * (k0 - k))) = ((a2 + (b2 - a2) * r) - (c2 + (d2 - c2) * k)) * (1 + τ * (l - 1))
      grind
  unfold dist2
  rw [e]
  generalize pSub (divP s r) (divP t k) = z
  generalize 1 + τ * (l - 1) = f at hf
  have h1 := mul_unit hf.1 hf.2 hf.1 hf.2
  have h2 := Rat.mul_nonneg (dot_nn z) (show 0 ≤ 1 - f * f by grind)
  have : dot (pScale z f) (pScale z f) = dot z z * (f * f) := by unfold dot pScale; grind
  rw [this]; grind
/-- segments without a common point: towards which point the border is passed -/
theorem apart_dir {s t : S2} (hK : ∀ p, ¬ Kp s t p) {r k : Rat} (a0 : 0 ≤ r) (a1 : r ≤ 1) (b0 : 0 ≤ k) (b1 : k ≤ 1) :
    ∃ r0 k0 l : Rat, 0 ≤ l ∧ l ≤ 1 ∧ ¬ (0 ≤ r0 ∧ r0 ≤ 1 ∧ 0 ≤ k0 ∧ k0 ≤ 1) ∧ pSub (divP s r0) (divP t k0) = pScale (pSub (divP s r) (divP t k)) l := by
  by_cases hD : uv s t = 0
  · by_cases hv : pSub t.2 t.1 = (0, 0)
    · refine ⟨r, 2, 1, by grind, by grind, by grind, ?_⟩
      have v1 : t.2.1 - t.1.1 = 0 := congrArg Prod.fst hv
      have v2 : t.2.2 - t.1.2 = 0 := congrArg Prod.snd hv
      refine Prod.ext ?_ ?_
      · show (s.1.1 + (s.2.1 - s.1.1) * r) - (t.1.1 + (t.2.1 - t.1.1) * 2) = ((s.1.1 + (s.2.1 - s.1.1) * r) - (t.1.1 + (t.2.1 - t.1.1) * k)) * 1
        rw [v1]; grind
      · show (s.1.2 + (s.2.2 - s.1.2) * r) - (t.1.2 + (t.2.2 - t.1.2) * 2) = ((s.1.2 + (s.2.2 - s.1.2) * r) - (t.1.2 + (t.2.2 - t.1.2) * k)) * 1
        rw [v2]; grind
    · obtain ⟨x, hx⟩ := mult (u := pSub t.2 t.1) (v := pSub s.2 s.1) hv (by unfold uv crs at hD; unfold crs; grind)
      have u1 : s.2.1 - s.1.1 = (t.2.1 - t.1.1) * x := congrArg Prod.fst hx
      have u2 : s.2.2 - s.1.2 = (t.2.2 - t.1.2) * x := congrArg Prod.snd hx
      refine ⟨r + 2, k + 2 * x, 1, by grind, by grind, by grind, ?_⟩
      refine Prod.ext ?_ ?_
      · show (s.1.1 + (s.2.1 - s.1.1) * (r + 2)) - (t.1.1 + (t.2.1 - t.1.1) * (k + 2 * x)) = ((s.1.1 + (s.2.1 - s.1.1) * r) - (t.1.1 + (t.2.1 - t.1.1) * k)) * 1
        rw [u1]; grind
      · show (s.1.2 + (s.2.2 - s.1.2) * (r + 2)) - (t.1.2 + (t.2.2 - t.1.2) * (k + 2 * x)) = ((s.1.2 + (s.2.2 - s.1.2) * r) - (t.1.2 + (t.2.2 - t.1.2) * k)) * 1
        rw [u2]; grind
  · refine ⟨wv s t / uv s t, wUq s t / uv s t, 0, by grind, by grind, fun c => hK _ ⟨on_div c.1 c.2.1, by rw [cross_t hD]; exact on_div c.2.2.1 c.2.2.2⟩, ?_⟩
    rw [cross_t hD]
    refine Prod.ext ?_ ?_
    · show (divP t (wUq s t / uv s t)).1 - (divP t (wUq s t / uv s t)).1 = (pSub (divP s r) (divP t k)).1 * 0; grind
    · show (divP t (wUq s t / uv s t)).2 - (divP t (wUq s t / uv s t)).2 = (pSub (divP s r) (divP t k)).2 * 0; grind
theorem dist_sym (p q : P2) : dist2 p q = dist2 q p := by unfold dist2 dot pSub; grind
theorem min_or {a b : Rat} : (min a b = a ∧ a ≤ b) ∨ (min a b = b ∧ b < a) := by
  rw [Rat.min_def]
  by_cases h : a ≤ b
  · rw [if_pos h]; exact .inl ⟨rfl, h⟩
  · rw [if_neg h]; exact .inr ⟨rfl, by grind⟩
theorem min_le {a b : Rat} : min a b ≤ a ∧ min a b ≤ b := by
  rcases @min_or a b with ⟨h, g⟩ | ⟨h, g⟩ <;> rw [h] <;> constructor <;> grind
theorem minL_le {x : Rat} : ∀ {l : List Rat} {q : Rat}, (x = q ∨ x ∈ l) → minL q l ≤ x
  | [], q, h => by
    rcases h with h | h
    · rw [h]; exact Rat.le_refl
    · cases h
  | y :: l, q, h => by
    show minL (min q y) l ≤ x
    rcases h with h | h
    · subst h; exact Rat.le_trans (minL_le (l := l) (q := min x y) (.inl rfl)) min_le.1
    · rcases List.mem_cons.1 h with h | h
      · subst h; exact Rat.le_trans (minL_le (l := l) (q := min q x) (.inl rfl)) min_le.2
      · exact minL_le (.inr h)
theorem minL_mem : ∀ {l : List Rat} {q : Rat}, minL q l = q ∨ minL q l ∈ l
  | [], q => .inl rfl
  | y :: l, q => by
    show minL (min q y) l = q ∨ minL (min q y) l ∈ y :: l
    rcases minL_mem (l := l) (q := min q y) with h | h
    · rw [h]
      have : min q y = q ∨ min q y = y := by rcases @min_or q y with h | h <;> simp [h.1]
      rcases this with e | e
      · left; exact e
      · right; rw [e]; simp
    · right; exact List.mem_cons_of_mem _ h
theorem apart_K {s t : S2} (h : (meetP s t).1 = 0) : ∀ p, ¬ Kp s t p := by
  rcases meetP_is s t with ⟨e, k⟩ | ⟨c, e, _⟩ | ⟨c, e, _⟩ | ⟨a, b, e, _⟩
  · exact k
  · rw [e] at h; cases h
  · rw [e] at h; cases h
  · rw [e] at h; cases h
/-- no two points are nearer than the distance of the segments -/
theorem segs_bound {s t : S2} {r k : Rat} (a0 : 0 ≤ r) (a1 : r ≤ 1) (b0 : 0 ≤ k) (b1 : k ≤ 1) : segs2 s t ≤ dist2 (divP s r) (divP t k) := by
  unfold segs2
  split
  · exact dist_nn _ _
  · rename_i h
    have hK := apart_K (s := s) (t := t) (Classical.byContradiction h)
    obtain ⟨r0, k0, l, l0, l1, ho, he⟩ := apart_dir hK a0 a1 b0 b1
    obtain ⟨τ, t0, t1, hc⟩ := out2 a0 a1 b0 b1 ho
    refine Rat.le_trans ?_ (dist_mix l0 l1 he t0 t1)
    rcases hc with ⟨c0, c1, e | e⟩ | ⟨c0, c1, e | e⟩
    · rw [e, div_0]; exact Rat.le_trans (minL_le (.inl rfl)) (near_min _ t c0 c1)
    · rw [e, div_1]; exact Rat.le_trans (minL_le (.inr (by simp))) (near_min _ t c0 c1)
    · rw [e, div_0, dist_sym]; exact Rat.le_trans (minL_le (.inr (by simp))) (near_min _ s c0 c1)
    · rw [e, div_1, dist_sym]; exact Rat.le_trans (minL_le (.inr (by simp))) (near_min _ s c0 c1)
theorem segs_ps {s t : S2} {r : Rat} (a0 : 0 ≤ r) (a1 : r ≤ 1) : segs2 s t ≤ ps2 (divP s r) t := by
  unfold ps2
  rw [← near_div]
  exact segs_bound a0 a1 (near_unit _ t).1 (near_unit _ t).2
theorem ps_pos {s t : S2} {p : P2} (hK : ∀ p, ¬ Kp s t p) (hp : onS p s) : ps2 p t ≠ 0 := fun e => by
  have h : pSub p (nearP p t).1 = (0, 0) := dot_zero.1 e
  have h1 : p.1 - (nearP p t).1.1 = 0 := congrArg Prod.fst h
  have h2 : p.2 - (nearP p t).1.2 = 0 := congrArg Prod.snd h
  have : p = (nearP p t).1 := Prod.ext (by grind) (by grind)
  exact hK p ⟨hp, by rw [this]; exact near_on p t⟩
theorem segs_zero {s t : S2} : segs2 s t = 0 ↔ (meetP s t).1 ≠ 0 := by
  constructor
  · intro h e
    have hK := apart_K e
    have hK' : ∀ p, ¬ Kp t s p := fun p c => hK p ⟨c.2, c.1⟩
    unfold segs2 at h
    rw [if_neg (fun c => c e)] at h
    have := minL_mem (q := ps2 s.1 t) (l := [ps2 s.2 t, ps2 t.1 s, ps2 t.2 s])
    rw [h] at this
    simp only [List.mem_cons, List.mem_nil_iff, or_false] at this
    rcases this with c | c | c | c
    · exact ps_pos hK (on_end1 s) c.symm
    · exact ps_pos hK (on_end2 s) c.symm
    · exact ps_pos hK' (on_end1 t) c.symm
    · exact ps_pos hK' (on_end2 t) c.symm
  · intro h
    unfold segs2; exact if_pos h
theorem segs_sgn (s t : S2) : (sgn (segs2 s t) == 0) = ((meetP s t).1 != 0) := by
  have h1 := @segs_zero s t
  have h2 := @sgn_z (segs2 s t)
  by_cases h : (meetP s t).1 = 0
  · have : sgn (segs2 s t) ≠ 0 := fun e => h1.1 (h2.1 e) h
    rw [h]; simpa using this
  · have : sgn (segs2 s t) = 0 := h2.2 (h1.2 h)
    rw [this]; simpa using h
theorem cmp_no {a b : Rat} (h : b ≤ a) : decide (cmpQ a b < 0) = false := by
  rw [cmpQ_less]; exact decide_eq_false (Rat.not_lt.2 h)
theorem szNearQ8 {p : P2} {s : S2} (hp : szP p ≤ 8) (hs : szS s ≤ 8) : szP (nearP p s).1 ≤ 200 := by
  by_cases h : dot (pSub s.2 s.1) (pSub s.2 s.1) = 0
  · rw [near_T h]; exact Nat.le_trans (szS1 hs) (by omega)
  · rw [near_F h]
    have hq := szQ_nearQ hp hs
    have u1 := szQ_sub (szP1 (szS2 hs)) (szP1 (szS1 hs)); have u2 := szQ_sub (szP2 (szS2 hs)) (szP2 (szS1 hs))
    exact szPm (Nat.le_trans (szQ_add (szP1 (szS1 hs)) (szQ_mul u1 hq)) (by omega)) (Nat.le_trans (szQ_add (szP2 (szS1 hs)) (szQ_mul u2 hq)) (by omega))
theorem szPs8 {p : P2} {s : S2} (hp : szP p ≤ 8) (hs : szS s ≤ 8) : szQ (ps2 p s) ≤ 1000 := by
  have hn := szNearQ8 hp hs
  have u1 := szQ_sub (szP1 hp) (szP1 hn); have u2 := szQ_sub (szP2 hp) (szP2 hn)
  exact Nat.le_trans (szQ_add (szQ_mul u1 u1) (szQ_mul u2 u2)) (by omega)
theorem szSegs8 {s t : S2} (hs : szS s ≤ 8) (ht : szS t ≤ 8) : szQ (segs2 s t) ≤ 1000 := by
  unfold segs2; split
  · exact Nat.le_trans szQ_0 (by omega)
  · refine minL_sz (szPs8 (szS1 hs) ht) ?_
    simp only [List.forall_mem_cons]
    exact ⟨szPs8 (szS2 hs) ht, szPs8 (szS1 ht) hs, szPs8 (szS2 ht) hs, fun _ h => by cases h⟩
theorem isQ_Q (q : Rat) : isQ (decide (q.num < 0)) (mag q.num.natAbs) false (dm q) = true := isQ_iff.2 ⟨q, rfl, rfl, rfl, rfl⟩
theorem dm_size {q : Rat} {n : Nat} (h : szQ q ≤ n) : (dm q).size ≤ n := by
  unfold szQ at h
  unfold dm; split
  · exact Nat.zero_le _
  · rw [mag_size]; omega
theorem num_size {q : Rat} {n : Nat} (h : szQ q ≤ n) : (mag q.num.natAbs).size ≤ n := by
  unfold szQ at h
  rw [mag_size]; omega
end Go.Via
set_option linter.unusedVariables false
namespace Go.Proofs.YthnlafhnpphdhaaGreatDoor
open Go Go.RowKit Go.Via
set_option maxRecDepth 20000 in
theorem c_PlaneLeast (ab1 : Bool) (as1 : ByteArray) (ab2 : Bool) (as2 : ByteArray) (ab3 : Bool) (as3 : ByteArray) (ab4 : Bool) (as4 : ByteArray) (bb1 : Bool) (bs1 : ByteArray) (bb2 : Bool) (bs2 : ByteArray) (bb3 : Bool) (bs3 : ByteArray) (bb4 : Bool) (bs4 : ByteArray) (cb1 : Bool) (cs1 : ByteArray) (cb2 : Bool) (cs2 : ByteArray) (cb3 : Bool) (cs3 : ByteArray) (cb4 : Bool) (cs4 : ByteArray) (db1 : Bool) (ds1 : ByteArray) (db2 : Bool) (ds2 : ByteArray) (db3 : Bool) (ds3 : ByteArray) (db4 : Bool) (ds4 : ByteArray) (hza : szR ⟨ab1, as1, ab2, as2, ab3, as3, ab4, as4⟩) (hzb : szR ⟨bb1, bs1, bb2, bs2, bb3, bs3, bb4, bs4⟩) (hzc : szR ⟨cb1, cs1, cb2, cs2, cb3, cs3, cb4, cs4⟩) (hzd : szR ⟨db1, ds1, db2, ds2, db3, ds3, db4, ds4⟩) : PCall Tryz.prog 10 #[.agg #[.bool ab1, .string as1, .bool ab2, .string as2, .bool ab3, .string as3, .bool ab4, .string as4, .bool bb1, .string bs1, .bool bb2, .string bs2, .bool bb3, .string bs3, .bool bb4, .string bs4], .agg #[.bool cb1, .string cs1, .bool cb2, .string cs2, .bool cb3, .string cs3, .bool cb4, .string cs4, .bool db1, .string ds1, .bool db2, .string ds2, .bool db3, .string ds3, .bool db4, .string ds4]] (.bool true) := by
  refine ⟨by kernel_rfl, fun w => ?_⟩
  refine calls_at (args := [.agg #[.bool ab1, .string as1, .bool ab2, .string as2, .bool ab3, .string as3, .bool ab4, .string as4, .bool bb1, .string bs1, .bool bb2, .string bs2, .bool bb3, .string bs3, .bool bb4, .string bs4], .agg #[.bool cb1, .string cs1, .bool cb2, .string cs2, .bool cb3, .string cs3, .bool cb4, .string cs4, .bool db1, .string ds1, .bool db2, .string ds2, .bool db3, .string ds3, .bool db4, .string ds4]]) Tryz.func10 rfl (Nat.le_of_ble_eq_true rfl) (LRel.nil w) ?_
  show At w ⟨68, [(0, .agg #[.bool ab1, .string as1, .bool ab2, .string as2, .bool ab3, .string as3, .bool ab4, .string as4, .bool bb1, .string bs1, .bool bb2, .string bs2, .bool bb3, .string bs3, .bool bb4, .string bs4]), (1, .agg #[.bool cb1, .string cs1, .bool cb2, .string cs2, .bool cb3, .string cs3, .bool cb4, .string cs4, .bool db1, .string ds1, .bool db2, .string ds2, .bool db3, .string ds3, .bool db4, .string ds4])], []⟩ _
  refine at_seq ?_
  refine at_region ?_
  refine r_box [_, _, _, _, _, _, _, _, _, _, _, _, _, _, _, _] 16 (fun g => [⟨some g, 36, _, 16, true⟩]) rfl rfl rfl rfl rfl (fun _ => rfl) (fun g0 => ?_)
  refine r_box [_, _, _, _, _, _, _, _, _, _, _, _, _, _, _, _] 16 (fun g => [_, ⟨some g, 36, _, 16, true⟩]) rfl rfl rfl rfl rfl (fun _ => rfl) (fun g1 => ?_)
  refine r_assign rfl rfl rfl ?_
  refine run_nil ?_
  refine at_tn ?_
  refine at_seq ?_
  refine at_seq ?_
  refine at_region ?_
  refine r_pcall [] rfl rfl rfl (c_law_known) ?_
  refine r_not rfl rfl rfl ?_
  refine r_move rfl rfl rfl ?_
  refine r_fieldAddr 0 0 0 rfl rfl rfl rfl rfl ti36 rfl rfl ?_
  refine r_load 0 0 [_, _, _, _, _, _, _, _] rfl rfl rfl rfl ti27 rfl rfl rfl rfl ?_
  refine r_fieldAddr 0 0 8 rfl rfl rfl rfl rfl ti36 rfl rfl ?_
  refine r_load 0 8 [_, _, _, _, _, _, _, _] rfl rfl rfl rfl ti27 rfl rfl rfl rfl ?_
  refine r_fieldAddr 1 0 0 rfl rfl rfl rfl rfl ti36 rfl rfl ?_
  refine r_load 1 0 [_, _, _, _, _, _, _, _] rfl rfl rfl rfl ti27 rfl rfl rfl rfl ?_
  refine r_fieldAddr 1 0 8 rfl rfl rfl rfl rfl ti36 rfl rfl ?_
  refine r_load 1 8 [_, _, _, _, _, _, _, _] rfl rfl rfl rfl ti27 rfl rfl rfl rfl ?_
  refine r_buildSlice [(0, _), (1, _), (2, _), (3, _)] (fun g => [_, _, ⟨some g, 27, _, 32, true⟩]) rfl rfl rfl (bs61_4) rfl (fun _ => rfl) (fun g2 => ?_)
  refine r_scall0 [_] [2] rfl rfl rfl (c_law_points [⟨ab1, as1, ab2, as2, ab3, as3, ab4, as4⟩, ⟨bb1, bs1, bb2, bs2, bb3, bs3, bb4, bs4⟩, ⟨cb1, cs1, cb2, cs2, cb3, cs3, cb4, cs4⟩, ⟨db1, ds1, db2, ds2, db3, ds3, db4, ds4⟩] (by simp only [List.forall_mem_cons]; exact ⟨hza, hzb, hzc, hzd, fun _ h => by cases h⟩) (Nat.le_of_ble_eq_true rfl) (some g2) _ _ (Nat.le_refl _)) ⟨⟨_, rfl, le_share⟩, trivial⟩ rfl ?_
  refine r_not rfl rfl rfl ?_
  refine r_pickF rfl rfl rfl rfl ?_
  refine run_nil ?_
  refine at_tn ?_
  refine at_cond rfl (fun hb0 => ?_) (fun hb0 => ?_)
  ·
    refine at_seq ?_
    refine at_region ?_
    refine r_pcall [] rfl rfl rfl (c_law_known) ?_
    refine r_assign rfl rfl rfl ?_
    refine run_nil ?_
    refine at_tn ?_
    refine at_ret ?_
    refine at_tr ?_
    refine at_end1 rfl (res_tmp rfl) (fun w hL => ⟨?_, hL.below⟩)
    exact rfl
  ·
    have hall : [(⟨ab1, as1, ab2, as2, ab3, as3, ab4, as4⟩ : RawP), ⟨bb1, bs1, bb2, bs2, bb3, bs3, bb4, bs4⟩, ⟨cb1, cs1, cb2, cs2, cb3, cs3, cb4, cs4⟩, ⟨db1, ds1, db2, ds2, db3, ds3, db4, ds4⟩].all smallP = true := by simpa using hb0
    simp only [List.all_cons, List.all_nil, Bool.and_true, Bool.and_eq_true] at hall
    obtain ⟨hp_a, hp_b, hp_c, hp_d⟩ := hall
    obtain ⟨a, ⟨⟨hx1, hx2, hx3, hx4⟩, ⟨hy1, hy2, hy3, hy4⟩⟩, hwa⟩ := smallP_q hp_a
    dsimp only at hx1 hx2 hx3 hx4 hy1 hy2 hy3 hy4
    subst hx1; subst hx2; subst hx3; subst hx4; subst hy1; subst hy2; subst hy3; subst hy4
    obtain ⟨b, ⟨⟨hx1, hx2, hx3, hx4⟩, ⟨hy1, hy2, hy3, hy4⟩⟩, hwb⟩ := smallP_q hp_b
    dsimp only at hx1 hx2 hx3 hx4 hy1 hy2 hy3 hy4
    subst hx1; subst hx2; subst hx3; subst hx4; subst hy1; subst hy2; subst hy3; subst hy4
    obtain ⟨c, ⟨⟨hx1, hx2, hx3, hx4⟩, ⟨hy1, hy2, hy3, hy4⟩⟩, hwc⟩ := smallP_q hp_c
    dsimp only at hx1 hx2 hx3 hx4 hy1 hy2 hy3 hy4
    subst hx1; subst hx2; subst hx3; subst hx4; subst hy1; subst hy2; subst hy3; subst hy4
    obtain ⟨d, ⟨⟨hx1, hx2, hx3, hx4⟩, ⟨hy1, hy2, hy3, hy4⟩⟩, hwd⟩ := smallP_q hp_d
    dsimp only at hx1 hx2 hx3 hx4 hy1 hy2 hy3 hy4
    subst hx1; subst hx2; subst hx3; subst hx4; subst hy1; subst hy2; subst hy3; subst hy4
    have hsd := szSegs8 (s := (a, b)) (t := (c, d)) (szSm (szPm (Nat.le_trans (szP1 hwa) (Nat.le_of_ble_eq_true rfl)) (Nat.le_trans (szP2 hwa) (Nat.le_of_ble_eq_true rfl))) (szPm (Nat.le_trans (szP1 hwb) (Nat.le_of_ble_eq_true rfl)) (Nat.le_trans (szP2 hwb) (Nat.le_of_ble_eq_true rfl)))) (szSm (szPm (Nat.le_trans (szP1 hwc) (Nat.le_of_ble_eq_true rfl)) (Nat.le_trans (szP2 hwc) (Nat.le_of_ble_eq_true rfl))) (szPm (Nat.le_trans (szP1 hwd) (Nat.le_of_ble_eq_true rfl)) (Nat.le_trans (szP2 hwd) (Nat.le_of_ble_eq_true rfl))))
    refine at_skip ?_
    refine at_tn ?_
    refine at_seq ?_
    refine at_region ?_
    refine r_load 0 0 [_, _, _, _, _, _, _, _, _, _, _, _, _, _, _, _] rfl rfl rfl rfl ti36 rfl rfl rfl rfl ?_
    refine r_load 1 0 [_, _, _, _, _, _, _, _, _, _, _, _, _, _, _, _] rfl rfl rfl rfl ti36 rfl rfl rfl rfl ?_
    refine r_pcall [_, _] rfl rfl rfl (c_plane_Segments2 (a, b) (c, d) (szSm (szPm (Nat.le_trans (szP1 hwa) (Nat.le_of_ble_eq_true rfl)) (Nat.le_trans (szP2 hwa) (Nat.le_of_ble_eq_true rfl))) (szPm (Nat.le_trans (szP1 hwb) (Nat.le_of_ble_eq_true rfl)) (Nat.le_trans (szP2 hwb) (Nat.le_of_ble_eq_true rfl)))) (szSm (szPm (Nat.le_trans (szP1 hwc) (Nat.le_of_ble_eq_true rfl)) (Nat.le_trans (szP2 hwc) (Nat.le_of_ble_eq_true rfl))) (szPm (Nat.le_trans (szP1 hwd) (Nat.le_of_ble_eq_true rfl)) (Nat.le_trans (szP2 hwd) (Nat.le_of_ble_eq_true rfl))))) ?_
    refine r_alloc [_, _, _, _] 4 (fun g => [_, _, _, ⟨some g, 25, _, 4, true⟩]) rfl rfl z25 rfl rfl (fun _ => rfl) (fun g3 => ?_)
    refine r_store rfl 3 0 [_, _, _, ⟨some g3, 25, _, 4, true⟩] [_, _, _, _] rfl rfl rfl rfl ti25 rfl rfl rfl rfl rfl ?_
    refine run_nil ?_
    refine at_tn ?_
    refine at_seq ?_
    refine at_seq ?_
    refine at_region ?_
    refine r_assign rfl rfl rfl ?_
    refine run_nil ?_
    refine at_tn ?_
    refine at_block ?_
    refine enterL (nt := 68) (ι := {i : Nat // i ≤ 7}) (fun ⟨i, hi⟩ => [(2, .pointer (some ⟨g0, 0, none⟩)), (3, .pointer (some ⟨g1, 0, none⟩)), (5, .pointer (some ⟨g3, 0, none⟩)), (6, .int .i64 (i : Nat))]) (fun ⟨i, hi⟩ => [⟨some g0, 36, ptC a ++ ptC b, 16, true⟩, ⟨some g1, 36, ptC c ++ ptC d, 16, true⟩, ⟨some g2, 27, ptC a ++ ptC b ++ ptC c ++ ptC d, 32, true⟩, ⟨some g3, 25, qC (segs2 (a, b) (c, d)), 4, true⟩]) (fun ⟨i, hi⟩ => 7 - i) ⟨0, Nat.zero_le _⟩ ⟨rfl, rfl, rfl, rfl, trivial⟩ (weak_picks [some 0, some 1, some 2, some 3] ⟨⟨_, rfl, Blk.le_refl _⟩, ⟨_, rfl, Blk.le_refl _⟩, ⟨_, rfl, Blk.le_refl _⟩, ⟨_, rfl, Blk.le_refl _⟩, trivial⟩ rfl rfl) ?_
    rintro ⟨i, hi⟩
    show At _ ⟨68, [(2, .pointer (some ⟨g0, 0, none⟩)), (3, .pointer (some ⟨g1, 0, none⟩)), (5, .pointer (some ⟨g3, 0, none⟩)), (6, .int .i64 (i : Nat))], [⟨some g0, 36, ptC a ++ ptC b, 16, true⟩, ⟨some g1, 36, ptC c ++ ptC d, 16, true⟩, ⟨some g2, 27, ptC a ++ ptC b ++ ptC c ++ ptC d, 32, true⟩, ⟨some g3, 25, qC (segs2 (a, b) (c, d)), 4, true⟩]⟩ _
    refine at_seq ?_
    refine at_seq ?_
    refine at_region ?_
    refine r_move rfl rfl rfl ?_
    refine r_cmpInt rfl rfl rfl rfl rfl ?_
    refine run_nil ?_
    refine at_tn ?_
    refine at_cond rfl (fun hb2 => ?_) (fun hb2 => ?_)
    ·
      have hlti : i ≤ 6 := by have := of_decide_eq_true hb2; omega
      have hui := of_unit (i := (i : Nat)) (n := 6) (by omega) (by omega) (by omega)
      have hszi := szOf (i := (i : Nat)) (n := 6) (by omega) (by omega)
      have hb1 := segs_ps (s := (a, b)) (t := (c, d)) hui.1 hui.2
      refine at_skip ?_
      refine at_tn ?_
      refine at_seq ?_
      refine at_block ?_
      refine at_seq ?_
      refine at_drawnA (l' := [⟨_,_,_,_,_,_⟩, ⟨_,_,_,_,_,_⟩, ⟨_,_,_,_,_,_⟩, ⟨_,_,_,_,_,_⟩, ⟨_,_,_,_,_,_⟩, ⟨_,_,_,_,_,_⟩]) [3000000] [0, 1, 2, 3, 4, 5] mixed (by kernel_rfl) rfl ?_
      refine r_load 0 0 [_, _, _, _, _, _, _, _, _, _, _, _, _, _, _, _] rfl rfl rfl rfl ti36 rfl rfl rfl rfl ?_
      refine r_move rfl rfl rfl ?_
      refine r_pcall [_, _] rfl rfl rfl (c_ref02_Of (i : Nat) 6 (by omega) (by omega) (by omega) (by omega) (by omega)) ?_
      refine r_pcall [_, _] rfl rfl rfl (c_plane_Divide (a, b) (Rat.divInt (i : Nat) 6) (szSm (szPm (Nat.le_trans (szP1 hwa) (Nat.le_of_ble_eq_true rfl)) (Nat.le_trans (szP2 hwa) (Nat.le_of_ble_eq_true rfl))) (szPm (Nat.le_trans (szP1 hwb) (Nat.le_of_ble_eq_true rfl)) (Nat.le_trans (szP2 hwb) (Nat.le_of_ble_eq_true rfl)))) (Nat.le_trans hszi (Nat.le_of_ble_eq_true rfl))) ?_
      refine r_alloc [_, _, _, _, _, _, _, _] 8 (fun g => [_, _, _, _, ⟨some g, 27, _, 8, true⟩]) rfl rfl z27 rfl rfl (fun _ => rfl) (fun g4 => ?_)
      refine r_store rfl 4 0 [_, _, _, _, ⟨some g4, 27, _, 8, true⟩] [_, _, _, _, _, _, _, _] rfl rfl rfl rfl ti27 rfl rfl rfl rfl rfl ?_
      refine run_nil ?_
      refine at_tn ?_
      refine at_seq ?_
      refine at_seq ?_
      refine at_drawn (l' := [⟨_,_,_,_,_,_⟩, ⟨_,_,_,_,_,_⟩, ⟨_,_,_,_,_,_⟩, ⟨_,_,_,_,_,_⟩, ⟨_,_,_,_,_,_⟩, ⟨_,_,_,_,_,_⟩]) [] [0, 1, 3, 2, 4, 5] mixed (by kernel_rfl) rfl (by kernel_rfl) ?_
      refine r_load 4 0 [_, _, _, _, _, _, _, _] rfl rfl rfl rfl ti27 rfl rfl rfl rfl ?_
      refine r_load 1 0 [_, _, _, _, _, _, _, _, _, _, _, _, _, _, _, _] rfl rfl rfl rfl ti36 rfl rfl rfl rfl ?_
      refine r_load 3 0 [_, _, _, _] rfl rfl rfl rfl ti25 rfl rfl rfl rfl ?_
      refine r_pcall [_, _] rfl rfl rfl (c_plane_PointSegment2 (divP (a, b) (Rat.divInt (i : Nat) 6)) (c, d) (szPm (Nat.le_trans (szQ_add (szP1 hwa) (szQ_mul (szQ_sub (szP1 hwb) (szP1 hwa)) hszi)) (Nat.le_of_ble_eq_true rfl)) (Nat.le_trans (szQ_add (szP2 hwa) (szQ_mul (szQ_sub (szP2 hwb) (szP2 hwa)) hszi)) (Nat.le_of_ble_eq_true rfl))) (szSm (szPm (Nat.le_trans (szP1 hwc) (Nat.le_of_ble_eq_true rfl)) (Nat.le_trans (szP2 hwc) (Nat.le_of_ble_eq_true rfl))) (szPm (Nat.le_trans (szP1 hwd) (Nat.le_of_ble_eq_true rfl)) (Nat.le_trans (szP2 hwd) (Nat.le_of_ble_eq_true rfl))))) ?_
      refine r_pcall [_, _] rfl rfl rfl (c_ref02_Compare (ps2 (divP (a, b) (Rat.divInt (i : Nat) 6)) (c, d)) (segs2 (a, b) (c, d)) (Nat.le_trans (szPs2 (szPm (Nat.le_trans (szQ_add (szP1 hwa) (szQ_mul (szQ_sub (szP1 hwb) (szP1 hwa)) hszi)) (Nat.le_of_ble_eq_true rfl)) (Nat.le_trans (szQ_add (szP2 hwa) (szQ_mul (szQ_sub (szP2 hwb) (szP2 hwa)) hszi)) (Nat.le_of_ble_eq_true rfl))) (szSm (szPm (Nat.le_trans (szP1 hwc) (Nat.le_of_ble_eq_true rfl)) (Nat.le_trans (szP2 hwc) (Nat.le_of_ble_eq_true rfl))) (szPm (Nat.le_trans (szP1 hwd) (Nat.le_of_ble_eq_true rfl)) (Nat.le_trans (szP2 hwd) (Nat.le_of_ble_eq_true rfl))))) (Nat.le_of_ble_eq_true rfl)) (Nat.le_trans hsd (Nat.le_of_ble_eq_true rfl))) ?_
      refine r_cmpInt rfl rfl rfl rfl rfl ?_
      refine r_know 41 (.bool false) rfl (congrArg Value.bool (cmp_no hb1)) ?_
      refine run_nil ?_
      refine at_tn ?_
      refine at_condF rfl ?_
      refine at_skip ?_
      refine at_tn ?_
      refine at_seq ?_
      refine at_region ?_
      refine r_assign rfl rfl rfl ?_
      refine run_nil ?_
      refine at_tn ?_
      refine at_block ?_
      refine enterL (nt := 68) (ι := {k : Nat // k ≤ 7}) (fun ⟨k, hk⟩ => [(2, .pointer (some ⟨g0, 0, none⟩)), (3, .pointer (some ⟨g1, 0, none⟩)), (5, .pointer (some ⟨g3, 0, none⟩)), (6, .int .i64 (i : Nat)), (7, .pointer (some ⟨g4, 0, none⟩)), (8, .int .i64 (k : Nat))]) (fun ⟨k, hk⟩ => [⟨some g0, 36, ptC a ++ ptC b, 16, true⟩, ⟨some g1, 36, ptC c ++ ptC d, 16, true⟩, ⟨some g2, 27, ptC a ++ ptC b ++ ptC c ++ ptC d, 32, true⟩, ⟨some g3, 25, qC (segs2 (a, b) (c, d)), 4, true⟩, ⟨some g4, 27, ptC (divP (a, b) (Rat.divInt (i : Nat) 6)), 8, true⟩]) (fun ⟨k, hk⟩ => 7 - k) ⟨0, Nat.zero_le _⟩ ⟨rfl, rfl, rfl, rfl, rfl, rfl, trivial⟩ (weak_picks [some 0, some 1, some 2, some 3, some 4] ⟨⟨_, rfl, Blk.le_refl _⟩, ⟨_, rfl, Blk.le_refl _⟩, ⟨_, rfl, Blk.le_refl _⟩, ⟨_, rfl, Blk.le_refl _⟩, ⟨_, rfl, Blk.le_refl _⟩, trivial⟩ rfl rfl) ?_
      rintro ⟨k, hk⟩
      show At _ ⟨68, [(2, .pointer (some ⟨g0, 0, none⟩)), (3, .pointer (some ⟨g1, 0, none⟩)), (5, .pointer (some ⟨g3, 0, none⟩)), (6, .int .i64 (i : Nat)), (7, .pointer (some ⟨g4, 0, none⟩)), (8, .int .i64 (k : Nat))], [⟨some g0, 36, ptC a ++ ptC b, 16, true⟩, ⟨some g1, 36, ptC c ++ ptC d, 16, true⟩, ⟨some g2, 27, ptC a ++ ptC b ++ ptC c ++ ptC d, 32, true⟩, ⟨some g3, 25, qC (segs2 (a, b) (c, d)), 4, true⟩, ⟨some g4, 27, ptC (divP (a, b) (Rat.divInt (i : Nat) 6)), 8, true⟩]⟩ _
      refine at_seq ?_
      refine at_seq ?_
      refine at_region ?_
      refine r_move rfl rfl rfl ?_
      refine r_cmpInt rfl rfl rfl rfl rfl ?_
      refine run_nil ?_
      refine at_tn ?_
      refine at_cond rfl (fun hb4 => ?_) (fun hb4 => ?_)
      ·
        have hltk : k ≤ 6 := by have := of_decide_eq_true hb4; omega
        have huk := of_unit (i := (k : Nat)) (n := 6) (by omega) (by omega) (by omega)
        have hszk := szOf (i := (k : Nat)) (n := 6) (by omega) (by omega)
        have hb2 := segs_bound (s := (a, b)) (t := (c, d)) hui.1 hui.2 huk.1 huk.2
        refine at_skip ?_
        refine at_tn ?_
        refine at_seq ?_
        refine at_block ?_
        refine at_seq ?_
        refine at_drawn (l' := [⟨_,_,_,_,_,_⟩, ⟨_,_,_,_,_,_⟩, ⟨_,_,_,_,_,_⟩, ⟨_,_,_,_,_,_⟩, ⟨_,_,_,_,_,_⟩, ⟨_,_,_,_,_,_⟩, ⟨_,_,_,_,_,_⟩, ⟨_,_,_,_,_,_⟩, ⟨_,_,_,_,_,_⟩]) [] [0, 1, 2, 6, 3, 4, 5, 7, 8] mixed (by kernel_rfl) rfl (by kernel_rfl) ?_
        refine r_load 4 0 [_, _, _, _, _, _, _, _] rfl rfl rfl rfl ti27 rfl rfl rfl rfl ?_
        refine r_load 1 0 [_, _, _, _, _, _, _, _, _, _, _, _, _, _, _, _] rfl rfl rfl rfl ti36 rfl rfl rfl rfl ?_
        refine r_move rfl rfl rfl ?_
        refine r_load 3 0 [_, _, _, _] rfl rfl rfl rfl ti25 rfl rfl rfl rfl ?_
        refine r_pcall [_, _] rfl rfl rfl (c_ref02_Of (k : Nat) 6 (by omega) (by omega) (by omega) (by omega) (by omega)) ?_
        refine r_pcall [_, _] rfl rfl rfl (c_plane_Divide (c, d) (Rat.divInt (k : Nat) 6) (szSm (szPm (Nat.le_trans (szP1 hwc) (Nat.le_of_ble_eq_true rfl)) (Nat.le_trans (szP2 hwc) (Nat.le_of_ble_eq_true rfl))) (szPm (Nat.le_trans (szP1 hwd) (Nat.le_of_ble_eq_true rfl)) (Nat.le_trans (szP2 hwd) (Nat.le_of_ble_eq_true rfl)))) (Nat.le_trans hszk (Nat.le_of_ble_eq_true rfl))) ?_
        refine r_pcall [_, _] rfl rfl rfl (c_plane_Distance2 (divP (a, b) (Rat.divInt (i : Nat) 6)) (divP (c, d) (Rat.divInt (k : Nat) 6)) (szPm (Nat.le_trans (szQ_add (szP1 hwa) (szQ_mul (szQ_sub (szP1 hwb) (szP1 hwa)) hszi)) (Nat.le_of_ble_eq_true rfl)) (Nat.le_trans (szQ_add (szP2 hwa) (szQ_mul (szQ_sub (szP2 hwb) (szP2 hwa)) hszi)) (Nat.le_of_ble_eq_true rfl))) (szPm (Nat.le_trans (szQ_add (szP1 hwc) (szQ_mul (szQ_sub (szP1 hwd) (szP1 hwc)) hszk)) (Nat.le_of_ble_eq_true rfl)) (Nat.le_trans (szQ_add (szP2 hwc) (szQ_mul (szQ_sub (szP2 hwd) (szP2 hwc)) hszk)) (Nat.le_of_ble_eq_true rfl)))) ?_
        refine r_pcall [_, _] rfl rfl rfl (c_ref02_Compare (dist2 (divP (a, b) (Rat.divInt (i : Nat) 6)) (divP (c, d) (Rat.divInt (k : Nat) 6))) (segs2 (a, b) (c, d)) (Nat.le_trans (szQ_add (szQ_mul (szQ_sub (szQ_add (szP1 hwa) (szQ_mul (szQ_sub (szP1 hwb) (szP1 hwa)) hszi)) (szQ_add (szP1 hwc) (szQ_mul (szQ_sub (szP1 hwd) (szP1 hwc)) hszk))) (szQ_sub (szQ_add (szP1 hwa) (szQ_mul (szQ_sub (szP1 hwb) (szP1 hwa)) hszi)) (szQ_add (szP1 hwc) (szQ_mul (szQ_sub (szP1 hwd) (szP1 hwc)) hszk)))) (szQ_mul (szQ_sub (szQ_add (szP2 hwa) (szQ_mul (szQ_sub (szP2 hwb) (szP2 hwa)) hszi)) (szQ_add (szP2 hwc) (szQ_mul (szQ_sub (szP2 hwd) (szP2 hwc)) hszk))) (szQ_sub (szQ_add (szP2 hwa) (szQ_mul (szQ_sub (szP2 hwb) (szP2 hwa)) hszi)) (szQ_add (szP2 hwc) (szQ_mul (szQ_sub (szP2 hwd) (szP2 hwc)) hszk))))) (Nat.le_of_ble_eq_true rfl)) (Nat.le_trans hsd (Nat.le_of_ble_eq_true rfl))) ?_
        refine r_cmpInt rfl rfl rfl rfl rfl ?_
        refine r_know 54 (.bool false) rfl (congrArg Value.bool (cmp_no hb2)) ?_
        refine run_nil ?_
        refine at_tn ?_
        refine at_condF rfl ?_
        refine at_skip ?_
        refine at_bn ?_
        refine at_tn ?_
        refine at_region ?_
        refine r_move rfl rfl rfl ?_
        refine r_arith (r := ((k + 1 : Nat) : Int)) rfl rfl rfl rfl (congrArg some (wi (by omega) (by omega) (by omega))) ?_
        refine r_assign rfl rfl rfl ?_
        refine run_nil ?_
        refine at_tn ?_
        exact nextL ⟨k + 1, by omega⟩ (by simp only []; omega) ⟨rfl, rfl, rfl, rfl, rfl, rfl, trivial⟩ (weak_picks [some 0, some 1, some 2, some 3, some 4] ⟨⟨_, rfl, Blk.le_refl _⟩, ⟨_, rfl, Blk.le_refl _⟩, ⟨_, rfl, Blk.le_refl _⟩, ⟨_, rfl, Blk.le_refl _⟩, ⟨_, rfl, Blk.le_refl _⟩, trivial⟩ rfl rfl)
      ·
        refine at_exit ?_
        refine at_te ?_
        refine at_te ?_
        refine at_be ?_
        refine at_bn ?_
        refine at_tn ?_
        refine at_region ?_
        refine r_move rfl rfl rfl ?_
        refine r_arith (r := ((i + 1 : Nat) : Int)) rfl rfl rfl rfl (congrArg some (wi (by omega) (by omega) (by omega))) ?_
        refine r_assign rfl rfl rfl ?_
        refine run_nil ?_
        refine at_tn ?_
        exact nextL ⟨i + 1, by omega⟩ (by simp only []; omega) ⟨rfl, rfl, rfl, rfl, trivial⟩ (weak_picks [some 0, some 1, some 2, some 3] ⟨⟨_, rfl, Blk.le_refl _⟩, ⟨_, rfl, Blk.le_refl _⟩, ⟨_, rfl, Blk.le_refl _⟩, ⟨_, rfl, Blk.le_refl _⟩, trivial⟩ rfl rfl)
    ·
      refine at_exit ?_
      refine at_te ?_
      refine at_te ?_
      refine at_be ?_
      refine at_tn ?_
      refine at_seq ?_
      refine at_drawn (l' := [⟨_,_,_,_,_,_⟩, ⟨_,_,_,_,_,_⟩, ⟨_,_,_,_,_,_⟩, ⟨_,_,_,_,_,_⟩, ⟨_,_,_,_,_,_⟩, ⟨_,_,_,_,_,_⟩, ⟨_,_,_,_,_,_⟩, ⟨_,_,_,_,_,_⟩, ⟨_,_,_,_,_,_⟩, ⟨_,_,_,_,_,_⟩, ⟨_,_,_,_,_,_⟩, ⟨_,_,_,_,_,_⟩, ⟨_,_,_,_,_,_⟩, ⟨_,_,_,_,_,_⟩]) [] [0, 1, 2, 3, 6, 7, 4, 5, 8, 9, 10, 11, 12, 13] mixed (by kernel_rfl) rfl (by kernel_rfl) ?_
      refine r_load 3 0 [_, _, _, _] rfl rfl rfl rfl ti25 rfl rfl rfl rfl ?_
      refine r_pcall [_] rfl rfl rfl (c_ref02_Check (decide ((segs2 (a, b) (c, d)).num < 0)) (mag (segs2 (a, b) (c, d)).num.natAbs) false (dm (segs2 (a, b) (c, d))) (num_size hsd) (dm_size hsd)) ?_
      refine r_know 56 (.bool true) rfl (congrArg Value.bool (isQ_Q (segs2 (a, b) (c, d)))) ?_
      refine r_move rfl rfl rfl ?_
      refine r_load 3 0 [_, _, _, _] rfl rfl rfl rfl ti25 rfl rfl rfl rfl ?_
      refine r_load 0 0 [_, _, _, _, _, _, _, _, _, _, _, _, _, _, _, _] rfl rfl rfl rfl ti36 rfl rfl rfl rfl ?_
      refine r_load 1 0 [_, _, _, _, _, _, _, _, _, _, _, _, _, _, _, _] rfl rfl rfl rfl ti36 rfl rfl rfl rfl ?_
      refine r_pcall [_] rfl rfl rfl (c_ref02_Sign (segs2 (a, b) (c, d))) ?_
      refine r_cmpInt rfl rfl rfl rfl rfl ?_
      refine r_pcall [_, _] rfl rfl rfl (c_plane_Meet (a, b) (c, d) (szSm (szPm (Nat.le_trans (szP1 hwa) (Nat.le_of_ble_eq_true rfl)) (Nat.le_trans (szP2 hwa) (Nat.le_of_ble_eq_true rfl))) (szPm (Nat.le_trans (szP1 hwb) (Nat.le_of_ble_eq_true rfl)) (Nat.le_trans (szP2 hwb) (Nat.le_of_ble_eq_true rfl)))) (szSm (szPm (Nat.le_trans (szP1 hwc) (Nat.le_of_ble_eq_true rfl)) (Nat.le_trans (szP2 hwc) (Nat.le_of_ble_eq_true rfl))) (szPm (Nat.le_trans (szP1 hwd) (Nat.le_of_ble_eq_true rfl)) (Nat.le_trans (szP2 hwd) (Nat.le_of_ble_eq_true rfl))))) ?_
      refine r_field (v := Mt (meetP (a, b) (c, d))) (u := .int .i64 (meetP (a, b) (c, d)).1) rfl rfl rfl (fun _ => by kernel_rfl) ?_
      refine r_cmpInt rfl rfl rfl rfl rfl ?_
      refine r_eqlBool rfl u4 rfl rfl rfl ?_
      refine r_know 66 (.bool true) rfl (congrArg Value.bool (beq_iff_eq.2 (segs_sgn (a, b) (c, d)))) ?_
      refine r_pickT rfl rfl rfl rfl ?_
      refine r_assign rfl rfl rfl ?_
      refine run_nil ?_
      refine at_tn ?_
      refine at_ret ?_
      refine at_end1 rfl (res_tmp rfl) (fun w hL => ⟨?_, hL.below⟩)
      exact rfl
end Go.Proofs.YthnlafhnpphdhaaGreatDoor
set_option linter.unusedVariables false
namespace Go.Proofs.YthnlafhnpphdhaaGreatDoor.planeLeast
open Go Go.ChangeShapes Go.WideShapes Go.ChangeAt Go.RowKit Go.Via
theorem big {n : Nat} (h : n ≤ reachBytes) : n ≤ BIG := Nat.le_trans h (by decide)
set_option maxRecDepth 20000 in
theorem contract (H : Type) (enc : TypeId × Value → H) (W : World) (base : Nat) (args : Array Value) (ds gs : List (DataW H)) (before : List MemPlace)
    (hval : ∀ (j : Nat) t v, Tryz.f10.params[j]? = some t → args[j]? = some v → Value.okWide Tryz.prog W .any base t v)
    (hW : DataW.Whole enc Tryz.prog Tryz.f10.params.toList Rows.planeLeastSpec.vars false W args.toList ds gs before)
    (hsz : (DataW.weightsEach Tryz.prog (Tryz.f10.params.toList ++ (OpenSpec.ofChange Rows.planeLeastSpec).bare.plain.varTypes Tryz.prog) (ds ++ gs)).all (· ≤ reachBytes) = true) :
    Calls Tryz.prog 10 args W fun e W' => ∃ v, e = .returned v ∧ Rows.planeLeastSpec.post enc Tryz.prog Tryz.f10 false true false false W args v W' := by
  have hW' := hW
  obtain ⟨p, q, hA0, hV, rfl, hfz, hnd⟩ := hW
  have hA : DataW.TrodAll enc Tryz.prog W 0 (fun _ => true) true Tryz.f10.params.toList args.toList ds p := hA0
  rw [Tryz.params10] at hA hval
  obtain ⟨v0, vs0, d0, ds0, p0, q0, hargs, rfl, rfl, h0, r0⟩ := trodAll_cons hA
  obtain ⟨v1, vs1, d1, ds1, p1, q1, rfl, rfl, rfl, h1, r1⟩ := trodAll_cons r0
  obtain ⟨rfl, rfl, rfl⟩ := trodAll_nil r1
  obtain rfl : args = #[v0, v1] := by cases args; simp_all
  obtain ⟨rfl, rfl⟩ := trodVars_none hV
  obtain ⟨a0, c0, rfl, rfl, rfl, s0⟩ := openS (hval 0 36 v0 rfl rfl) h0
  obtain ⟨a1, c1, rfl, rfl, rfl, s1⟩ := openS (hval 1 36 v1 rfl rfl) h1
  clear hA0
  simp only [List.append_nil] at hW'
  have hz : ([a0.s1.size, a0.s2.size, a0.s3.size, a0.s4.size, c0.s1.size, c0.s2.size, c0.s3.size, c0.s4.size] ++ ([a1.s1.size, a1.s2.size, a1.s3.size, a1.s4.size, c1.s1.size, c1.s2.size, c1.s3.size, c1.s4.size] ++ [])).all (· ≤ reachBytes) = true := by
    have h : (DataW.weightsEach Tryz.prog [36, 36] [(dSg a0 c0 : DataW H), dSg a1 c1]).all (· ≤ reachBytes) = true := hsz
    rw [DataW.weightsEach, DataW.weightsEach, DataW.weightsEach, wSg, wSg] at h
    · exact h
    all_goals (intros; simp_all)
  simp only [List.all_append, List.all_cons, List.all_nil, Bool.and_true, Bool.and_eq_true, decide_eq_true_eq] at hz
  obtain ⟨⟨z01, z02, z03, z04, y01, y02, y03, y04⟩, z11, z12, z13, z14, y11, y12, y13, y14⟩ := hz
  have walk := (c_PlaneLeast a0.a1 a0.s1 a0.a2 a0.s2 a0.a3 a0.s3 a0.a4 a0.s4 c0.a1 c0.s1 c0.a2 c0.s2 c0.a3 c0.s3 c0.a4 c0.s4 a1.a1 a1.s1 a1.a2 a1.s2 a1.a3 a1.s3 a1.a4 a1.s4 c1.a1 c1.s1 c1.a2 c1.s2 c1.a3 c1.s3 c1.a4 c1.s4 ⟨big z01, big z02, big z03, big z04⟩ ⟨big y01, big y02, big y03, big y04⟩ ⟨big z11, big z12, big z13, big z14⟩ ⟨big y11, big y12, big y13, big y14⟩).2 W
  refine walk.mono fun e W' ⟨he, hg⟩ => ?_
  subst he
  exact ⟨_, rfl, post_plain rfl hW' (fun _ _ _ => trodAll_cons_mk (shut_bool Tryz.underlying4 _) trodAll_mk0)
    (fun _ => trodAll_cons_mk (s0 _ _ _ _) (trodAll_cons_mk (s1 _ _ _ _) (trodAll_mk0))) rfl hg (ok_one (by kernel_rfl) rfl (okWide_bool_mk Tryz.underlying4 _))⟩
abbrev wit : Array Value := #[.agg #[.bool false, .string ⟨#[]⟩, .bool false, .string ⟨#[]⟩, .bool false, .string ⟨#[]⟩, .bool false, .string ⟨#[]⟩, .bool false, .string ⟨#[]⟩, .bool false, .string ⟨#[]⟩, .bool false, .string ⟨#[]⟩, .bool false, .string ⟨#[]⟩], .agg #[.bool false, .string ⟨#[]⟩, .bool false, .string ⟨#[]⟩, .bool false, .string ⟨#[]⟩, .bool false, .string ⟨#[]⟩, .bool false, .string ⟨#[]⟩, .bool false, .string ⟨#[]⟩, .bool false, .string ⟨#[]⟩, .bool false, .string ⟨#[]⟩]]
abbrev wi {H : Type} : DataW H := .agg [.lit (.bool false), .lit (.string [])]
abbrev wq {H : Type} : DataW H := .agg [wi, wi]
theorem reads (os : Os) {H : Type} (enc : TypeId × Value → H) : ∃ places, DataW.whole enc Tryz.prog ((laidWorld os).forCall (fun _ _ => 0) ⟨#[], wit, []⟩).memory Tryz.f10.params.toList Rows.planeLeastSpec.vars false wit.toList 8 = some ([.agg [.agg [wq, wq], .agg [wq, wq]], .agg [.agg [wq, wq], .agg [wq, wq]]], [], places) :=
  ⟨[], by kernel_rfl⟩
set_option maxRecDepth 100000 in
theorem lifted (os : Os) (started : os.Started) (H : Type) (enc : TypeId × Value → H) (F : Stop.Interp) :
    ReturnsInHanded {} Tryz.checked os 10 .any ((OpenSpec.ofChange Rows.planeLeastSpec).preRow enc Tryz.prog Tryz.f10 Rows.planeLeastRow.domain false Rows.planeLeastRow.laid) (((OpenSpec.ofChange Rows.planeLeastSpec).at F).post enc Tryz.prog Tryz.f10 false true false false) := by
  obtain ⟨places, hx⟩ := reads os enc
  refine returnsInHanded_of_row (C := Tryz.checked) (s := OpenSpec.ofChange Rows.planeLeastSpec) own started (by kernel_rfl) Tryz.func10
    (witness_row_at (enc := enc) (C := Tryz.checked) false (laidWorld os) wit rfl (by kernel_rfl) (by kernel_rfl) (by kernel_rfl)
      (OpenSpec.preRow_of_cond 8 hx (by kernel_rfl) (fun k hk => by cases hk) (by kernel_rfl) (laid_met os _))) ?_
  intro W base args ds gs before hval hW _ _ hsz hL _ _
  exact contract H enc W base args ds gs before hval hW hsz
theorem said : Rows.PlaneLeastSaid :=
  OpenClaim.holds_of_cond 10 Tryz.f10 rfl rfl rfl rfl rfl rfl rfl ⟨rfl, rfl, rfl, rfl, rfl⟩ rfl rfl rfl rfl rfl (by kernel_rfl) Tryz.func10 (by kernel_rfl)
    (of_decide_eq_true (by kernel_rfl)) (by unfold Func.isWrapper; first | (rw [if_pos (by decide +kernel)]; kernel_rfl) | (rw [if_neg (by decide +kernel)]; exact ⟨rfl, rfl⟩))
    (fun os started H enc _ F => by rw [OpenClaim.pre_eq_preRow]; exact lifted os started H enc F)
/-- No parameter wants a stand-in; the program's own looks are off. -/
theorem plain (f : FuncId) (fn : Func) (hf : Tryz.pinned.checked.prog.funcNamed "viator/viatorlaw07.PlaneLeast" = some f) (hfn : Tryz.pinned.checked.prog.funcs[f]? = some fn) :
    false = Tryz.pinned.checked.prog.looks [] ∧ ∀ (j : Nat) t, fn.params[j]? = some t → Tryz.pinned.checked.prog.wantsStandIn t = false := by
  obtain rfl : f = 10 := Option.some.inj ((show Tryz.prog.funcNamed "viator/viatorlaw07.PlaneLeast" = some 10 by kernel_rfl).symm.trans hf) |>.symm
  obtain rfl : fn = Tryz.f10 := (Option.some.inj (Tryz.func10.symm.trans hfn)).symm
  refine ⟨by kernel_rfl, fun j t ht => ?_⟩
  rw [Tryz.params10] at ht
  have hm : t ∈ ([36, 36] : List Nat) := by simpa using Array.mem_of_getElem? ht
  have hw : ∀ t ∈ ([36, 36] : List Nat), Tryz.prog.wantsStandIn t = false := by
    intro t ht
    simp only [List.mem_cons, List.mem_nil_iff, or_false] at ht
    rcases ht with rfl | rfl
    · exact (show Tryz.prog.wantsStandIn 36 = false by kernel_rfl)
    · exact (show Tryz.prog.wantsStandIn 36 = false by kernel_rfl)
  exact hw t hm
/-- ████ THE CARD ████ -/
theorem card : Rows.PlaneLeastCardSaid :=
  Claim7.holds_tied_plain_at .later [] _ _ _ _ said (fun _ h => by cases h) (by kernel_rfl) (fun _ h => by cases h) planeLeast_row_tie rfl ⟨rfl, rfl⟩ (by kernel_rfl) rfl plain (by kernel_rfl)
end Go.Proofs.YthnlafhnpphdhaaGreatDoor.planeLeast
namespace Go.Proofs.YthnlafhnpphdhaaGreatDoor
/-- the card -/
theorem planeLeast_holds : Rows.PlaneLeastCardSaid := planeLeast.card
end Go.Proofs.YthnlafhnpphdhaaGreatDoor
