/-
  Part 8: lemmas, and walks through the functions that the laws of chapter 07 call. Each theorem states its own conditions.
-/
import Derived.Test.YthnlafhnpphdhaaGreatDoorA02
import Derived.Test.YthnlafhnpphdhaaGreatDoorA05
import Derived.Test.YthnlafhnpphdhaaGreatDoorA06
import Derived.Test.YthnlafhnpphdhaaGreatDoorA07
set_option linter.unusedVariables false
set_option linter.unusedVariables false
set_option linter.unusedSimpArgs false
namespace Go.Via
open Go Go.RowKit
/-! ### a region in which new variables may be made at any time (mark 3000000) -/
theorem LRel.perm {B w : World} {L L' : List Blk} (hp : List.Perm L L') (h : LRel B L w) : LRel B L' w := by
  have key : L.Pairwise (fun bi bj => (bi.own = true ∨ bj.own = true) → ∀ g, bi.base = some g → bj.base ≠ some g) := by
    rw [List.pairwise_iff_getElem]
    intro i j hi hj hij ho g hg hgj
    rcases ho with ho | ho
    · exact h.apart i j g _ _ (by omega) (List.getElem?_eq_getElem hi) (List.getElem?_eq_getElem hj) ho hg hgj
    · exact h.apart j i g _ _ (by omega) (List.getElem?_eq_getElem hj) (List.getElem?_eq_getElem hi) ho hgj hg
  have key' := (hp.pairwise_iff (fun {x y} hxy ho g hy hx => hxy ho.symm g hx hy)).1 key
  rw [List.pairwise_iff_getElem] at key'
  refine ⟨h.below, fun k b hk => ?_, fun i j g bi bj hij hi hj ho hg hgj => ?_⟩
  · have hm := hp.symm.subset (List.mem_of_getElem? hk)
    obtain ⟨m, hm⟩ := List.mem_iff_getElem?.1 hm
    exact h.blk m b hm
  · obtain ⟨hi1, rfl⟩ := List.getElem?_eq_some_iff.1 hi
    obtain ⟨hj1, rfl⟩ := List.getElem?_eq_some_iff.1 hj
    rcases Nat.lt_or_gt_of_ne hij with c | c
    · exact key' i j hi1 hj1 c (.inl ho) g hg hgj
    · exact key' j i hj1 hi1 c (.inr ho) g hgj hg
theorem put_L (s : St) (dst : Option Nat) (v : Value) : (s.put dst v).L = s.L := by cases dst <;> rfl
/-- the same state, the blocks in another order -/
structure EqvP (s s' : St) : Prop where
  nt : s.nt = s'.nt
  L : List.Perm s.L s'.L
  look : ∀ d, look s.t d = look s'.t d
theorem EqvP.rel {s s' : St} (h : EqvP s s') {B w : World} {a : Act} (r : Rel B s' a w) : Rel B s a w :=
  ⟨r.df, r.size.trans h.nt.symm, fun d v hd => r.tmp d v (by rw [← h.look d]; exact hd), r.mem.perm h.L.symm⟩
theorem EqvP.refl (s : St) : EqvP s s := ⟨rfl, List.Perm.refl _, fun _ => rfl⟩
theorem EqvP.symm {s s' : St} (h : EqvP s s') : EqvP s' s := ⟨h.nt.symm, h.L.symm, fun d => (h.look d).symm⟩
theorem EqvP.trans {s s' s'' : St} (h : EqvP s s') (k : EqvP s' s'') : EqvP s s'' := ⟨h.nt.trans k.nt, h.L.trans k.L, fun d => (h.look d).trans (k.look d)⟩
theorem EqvP.put {s s' : St} (h : EqvP s s') (dst : Option Nat) (sv : Value) (new : List Blk) : EqvP (({ s with L := s.L ++ new } : St).put dst sv) (({ s' with L := s'.L ++ new } : St).put dst sv) := by
  cases dst with
  | none => exact ⟨h.nt, h.L.append_right _, h.look⟩
  | some d =>
    refine ⟨h.nt, h.L.append_right _, fun k => ?_⟩
    by_cases e : d = k
    · subst e; simp [St.put, look_cons_eq]
    · simp [St.put, look_cons_ne e, h.look k]
theorem EqvP.put0 {s s' : St} (h : EqvP s s') (dst : Option Nat) (sv : Value) : EqvP (s.put dst sv) (s'.put dst sv) := by
  have := h.put dst sv []
  simpa using this
theorem EqvP.wanted {s s' : St} (h : EqvP s s') (ops : Array Oper) (o : Oper) : wantedS ops o s.t = wantedS ops o s'.t := by
  unfold wantedS
  split
  · rfl
  · split
    · rw [h.look]
    · rfl
def KCP (K : St → Prop) : Prop := ∀ s s', EqvP s s' → K s → K s'
theorem KCP.kc {K : St → Prop} (h : KCP K) : KC K := fun s s' he => h s s' ⟨he.nt, he.L ▸ List.Perm.refl _, he.look⟩
theorem blank_of_S : ∀ {bl : List Nat} {L : List Blk}, blS bl = false → blank bl L = L
  | [], L, _ => rfl
  | k :: bl, L, h => by
    unfold blS at h
    rw [List.any_cons, Bool.or_eq_false_iff] at h
    unfold blank
    rw [h.1]
    exact blank_of_S (bl := bl) h.2
theorem bk_of_S {bl : List Nat} {s : St} (h : blS bl = false) : s.bk bl = s := by show St.mk s.nt s.t (blank bl s.L) = s; rw [blank_of_S h]
theorem Step.congrP {P : Program} {bl : List Nat} {ops : Array Oper} {o : Oper} {s s' : St} {K : St → Prop} (hA : blA bl = true) (hS : blS bl = false) (hK : KCP K) (h : EqvP s s') (hs : Step P bl ops o s K) : Step P bl ops o s' K := by
  obtain ⟨h0, g, hg, hh⟩ := hs
  refine ⟨by rw [← h.nt]; exact h0, g, by rw [← h.wanted]; exact hg, ?_⟩
  rcases hh with ⟨h1, h2⟩ | ⟨h1, ⟨h2, sv, h3, h4⟩ | ⟨h2, X, res, new, h3, hF, h4⟩ | ⟨hm, hA', hm', X, nx, h3, h4⟩ | ⟨hm, hd, L', h3, h5, h4⟩ | ⟨hA', e, cs, h3, h4⟩ | ⟨hC, hbS, X, res, nL, h3, h5, h4⟩⟩
  · exact .inl ⟨h1, hK _ _ (h.put0 _ _) h2⟩
  · refine .inr ⟨h1, .inl ⟨h2, sv, ⟨fun B a w hr => ?_, fun h5 h6 => by rw [← pureV_congr h.look]; exact h3.2 h5 h6⟩, hK _ _ (h.put0 _ _) h4⟩⟩
    have h3 := h3.1
    rw [bk_of_S hS] at hr h3
    exact h3 B a w (h.rel hr)
  · obtain ⟨hF1, hX⟩ := hF hA
    refine .inr ⟨h1, .inr (.inl ⟨h2, X, res, new, fun B a w hr => ?_, fun hb => ⟨fun B a w hr => hF1 B a w (h.rel hr), hX⟩, fun x => hK _ _ (h.put _ _ _) (h4 x)⟩)⟩
    obtain ⟨f, args, r1, r2⟩ := hF1 B a w (h.rel hr)
    refine ⟨f, args, r1, r2.mono ?_⟩
    rintro e w' ⟨x, rfl, hx, hown⟩
    exact ⟨x, rfl, hr.mem.joinF hx hown⟩
  · exact .inr ⟨h1, .inr (.inr (.inl ⟨hm, hA', hm', X, nx, fun B a w hr => h3 B a w (h.rel hr), h4⟩))⟩
  · exact .inr ⟨h1, .inr (.inr (.inr (.inl ⟨hm, hd, L', fun B a w hr => h3 B a w (h.rel hr), (fun hb => by rw [hS] at hb; cases hb), hK { s with L := L' } { s' with L := L' } ⟨h.nt, List.Perm.refl _, h.look⟩ h4⟩)))⟩
  · exact .inr ⟨h1, .inr (.inr (.inr (.inr (.inl ⟨hA', e, cs, h3, fun g => hK _ _ (h.put _ _ _) (h4 g)⟩))))⟩
  · rw [hS] at hbS; cases hbS
theorem Run.kcP {P : Program} {bl : List Nat} {ops : Array Oper} {K : St → Prop} (hA : blA bl = true) (hS : blS bl = false) (hK : KCP K) : ∀ l : List Oper, KCP (fun s => Run P bl ops l s K)
  | [] => hK
  | o :: l => fun _ _ h hs => Step.congrP hA hS (Run.kcP hA hS hK l) h hs
theorem noSto {o : Oper} (h : isMov o = true ∨ isAl o = true) : isSto o = false := by
  unfold isSto
  split
  · rename_i heq
    rcases h with h | h
    · unfold isMov at h; rw [heq] at h; cases h
    · unfold isAl at h; rw [heq] at h; cases h
  · rfl
/-- what is new is behind: a step that does not look at it -/
theorem Step.laterA {P : Program} {bl : List Nat} {ops : Array Oper} {p : Oper} {s : St} {K : St → Prop} {dst : Option Nat} {u : Value} {E : List Blk} (hA : blA bl = true) (hS : blS bl = false) (hp : isMov p = true ∨ isAl p = true) (hM : isM bl = false)
    (hd : ∀ d, dst = some d → d < s.nt) (hl : ∀ d, dst = some d → d ∉ p.looksAt ops) (hne : ∀ d, p.dst = some d → dst ≠ some d)
    (h : Step P bl ops p s (fun s1 => ∀ s2, EqvP (({ s1 with L := s1.L ++ E } : St).put dst u) s2 → K s2)) : Step P bl ops p (({ s with L := s.L ++ E } : St).put dst u) K := by
  have hns : ∀ cs b, p.op ≠ .select cs b := fun cs b e => by
    rcases hp with hp | hp
    · unfold isMov at hp; rw [e] at hp; cases hp
    · unfold isAl at hp; rw [e] at hp; cases hp
  have hn : (({ s with L := s.L ++ E } : St).put dst u).nt = s.nt := by cases dst <;> rfl
  have hLL : (({ s with L := s.L ++ E } : St).put dst u).L = s.L ++ E := by cases dst <;> rfl
  have comm : ∀ (x : Value) (new : List Blk), EqvP (({ (({ s with L := s.L ++ new } : St).put p.dst x) with L := (({ s with L := s.L ++ new } : St).put p.dst x).L ++ E } : St).put dst u)
      (({ (({ s with L := s.L ++ E } : St).put dst u) with L := (({ s with L := s.L ++ E } : St).put dst u).L ++ new } : St).put p.dst x) := by
    intro x new
    have e1 : (({ s with L := s.L ++ new } : St).put p.dst x).L = s.L ++ new := by cases p.dst <;> rfl
    refine ⟨?_, ?_, ?_⟩
    · cases p.dst <;> cases dst <;> rfl
    · have a1 := (put_L ({ (({ s with L := s.L ++ new } : St).put p.dst x) with L := (({ s with L := s.L ++ new } : St).put p.dst x).L ++ E } : St) dst u).trans (congrArg (· ++ E) (put_L ({ s with L := s.L ++ new } : St) p.dst x))
      have a2 := (put_L ({ (({ s with L := s.L ++ E } : St).put dst u) with L := (({ s with L := s.L ++ E } : St).put dst u).L ++ new } : St) p.dst x).trans (congrArg (· ++ new) (put_L ({ s with L := s.L ++ E } : St) dst u))
      have a3 : List.Perm (s.L ++ new ++ E) (s.L ++ E ++ new) := by
        rw [List.append_assoc, List.append_assoc]
        exact List.Perm.append_left _ List.perm_append_comm
      exact (List.Perm.of_eq a1).trans (a3.trans (List.Perm.of_eq a2.symm))
    · intro d
      cases hp : p.dst with
      | none => cases dst <;> simp [St.put]
      | some dp =>
        cases dst with
        | none => simp [St.put]
        | some di =>
          have hne' : di ≠ dp := fun e => hne dp hp (by rw [e])
          simp only [St.put]
          by_cases e1 : di = d
          · subst e1; rw [look_cons_eq, look_cons_ne (Ne.symm hne'), look_cons_eq]
          · rw [look_cons_ne e1]
            by_cases e2 : dp = d
            · subst e2; rw [look_cons_eq, look_cons_eq]
            · rw [look_cons_ne e2, look_cons_ne e2, look_cons_ne e1]
  obtain ⟨h0, g, hg, hh⟩ := h
  refine ⟨by rw [hn]; exact h0, g, ?_, ?_⟩
  · have := wantedS_put (ops := ops) (o := p) (s := { s with L := s.L ++ E }) (dst := dst) (v := u) hl
    rw [this]; exact hg
  have c0 : ∀ (x : Value), (({ s with L := s.L ++ [] } : St).put p.dst x) = s.put p.dst x := fun x => by simp
  have c1 : ∀ (x : Value), ({ (({ s with L := s.L ++ E } : St).put dst u) with L := (({ s with L := s.L ++ E } : St).put dst u).L ++ [] } : St).put p.dst x = (({ s with L := s.L ++ E } : St).put dst u).put p.dst x := fun x => by simp
  have comm0 : ∀ (x : Value), EqvP (({ s.put p.dst x with L := (s.put p.dst x).L ++ E } : St).put dst u) ((({ s with L := s.L ++ E } : St).put dst u).put p.dst x) := fun x => by
    have := comm x []
    rw [c0, c1] at this
    exact this
  have back : ∀ (B : World) (a : Act) (w : World), Rel B (({ s with L := s.L ++ E } : St).put dst u) a w → ∃ v, Rel B s (a.put dst v) w ∧ execOp (a.put dst v).eval p = execOp a.eval p := fun B a w hr => by
    obtain ⟨v, hv⟩ := Rel.putBack (s := s) (new := E) hd hr
    exact ⟨v, hv, execOp_put p hns a dst v hl⟩
  rcases hh with ⟨h1, h2⟩ | ⟨h1, ⟨h2, sv, h3, h4⟩ | ⟨h2, X, res, new, h3, hF, h4⟩ | ⟨hm, hA', hm', X, nx, h3, h4⟩ | ⟨hm, hd', L', h3, h5, h4⟩ | ⟨hA', e, cs, h3, h4⟩ | ⟨hC, hbS, X, res, nL, h3, h5, h4⟩⟩
  · exact .inl ⟨h1, h2 _ (comm0 _)⟩
  · refine .inr ⟨h1, .inl ⟨h2, sv, ⟨fun B a w hr => ?_, fun h5 h6 => by rw [pureV_put (s := { s with L := s.L ++ E }) hl]; exact h3.2 h5 h6⟩, h4 _ (comm0 _)⟩⟩
    have h3 := h3.1
    rw [bk_of_S hS] at hr h3
    obtain ⟨v, hv, he⟩ := back B a w hr
    have := h3 B _ w hv
    rwa [he] at this
  · obtain ⟨hF1, hX⟩ := hF hA
    have hFl : CalledF P p (({ s with L := s.L ++ E } : St).put dst u) X res new := fun B a w hr => by
      obtain ⟨v, hv, he⟩ := back B a w hr
      have := hF1 B _ w hv
      rwa [he] at this
    refine .inr ⟨h1, .inr (.inl ⟨h2, X, res, new, fun B a w hr => ?_, fun _ => ⟨hFl, hX⟩, fun x => h4 x _ (comm _ _)⟩)⟩
    obtain ⟨f, args, r1, r2⟩ := hFl B a w hr
    refine ⟨f, args, r1, r2.mono ?_⟩
    rintro e w' ⟨x, rfl, hx, hown⟩
    exact ⟨x, rfl, hr.mem.joinF hx hown⟩
  · exfalso
    rcases hp with hp | hp
    · rw [hM, show mvS bl p = true by simp [mvS, hp]] at hm; cases hm
    · rw [hA, hp] at hA'; cases hA'
  · rw [noSto hp] at hm; cases hm
  · exact .inr ⟨h1, .inr (.inr (.inr (.inr (.inl ⟨hA', e, cs, h3, fun g => h4 g _ (comm _ _)⟩))))⟩
  · rw [hS] at hbS; cases hbS
/-- some state comes behind a step -/
theorem Step.some {P : Program} {bl : List Nat} {ops : Array Oper} {p : Oper} {s : St} {K : St → Prop} (hS : blS bl = false) (hA : blA bl = true) (hp : isMov p = true ∨ isAl p = true) (hM : isM bl = false) (h : Step P bl ops p s K) :
    ∃ x new, K (({ s with L := s.L ++ new } : St).put p.dst x) := by
  obtain ⟨h0, g, hg, hh⟩ := h
  rcases hh with ⟨h1, h2⟩ | ⟨h1, ⟨h2, sv, h3, h4⟩ | ⟨h2, X, res, new, h3, hF, h4⟩ | ⟨hm, hA', hm', X, nx, h3, h4⟩ | ⟨hm, hd', L', h3, h5, h4⟩ | ⟨hA', e, cs, h3, h4⟩ | ⟨hC, hbS, X, res, nL, h3, h5, h4⟩⟩
  · exact ⟨undef, [], by simpa using h2⟩
  · exact ⟨sv, [], by simpa using h4⟩
  · obtain ⟨_, ⟨x⟩⟩ := hF hA
    exact ⟨_, _, h4 x⟩
  · exfalso
    rcases hp with hp | hp
    · rw [hM, show mvS bl p = true by simp [mvS, hp]] at hm; cases hm
    · rw [hA, hp] at hA'; cases hA'
  · rw [noSto hp] at hm; cases hm
  · exact ⟨_, _, h4 0⟩
  · rw [hS] at hbS; cases hbS
theorem Step.form {P : Program} {bl : List Nat} {ops : Array Oper} {p : Oper} {s : St} {K : St → Prop} (hS : blS bl = false) (hA : blA bl = true) (hp : isMov p = true ∨ isAl p = true) (hM : isM bl = false) (h : Step P bl ops p s K) :
    Step P bl ops p s (fun s1 => K s1 ∧ ∃ x new, s1 = (({ s with L := s.L ++ new } : St).put p.dst x)) := by
  obtain ⟨h0, g, hg, hh⟩ := h
  refine ⟨h0, g, hg, ?_⟩
  rcases hh with ⟨h1, h2⟩ | ⟨h1, ⟨h2, sv, h3, h4⟩ | ⟨h2, X, res, new, h3, hF, h4⟩ | ⟨hm, hA', hm', X, nx, h3, h4⟩ | ⟨hm, hd', L', h3, h5, h4⟩ | ⟨hA', e, cs, h3, h4⟩ | ⟨hC, hbS, X, res, nL, h3, h5, h4⟩⟩
  · exact .inl ⟨h1, h2, undef, [], by simp⟩
  · exact .inr ⟨h1, .inl ⟨h2, sv, h3, h4, sv, [], by simp⟩⟩
  · exact .inr ⟨h1, .inr (.inl ⟨h2, X, res, new, h3, hF, fun x => ⟨h4 x, _, _, rfl⟩⟩)⟩
  · exfalso
    rcases hp with hp | hp
    · rw [hM, show mvS bl p = true by simp [mvS, hp]] at hm; cases hm
    · rw [hA, hp] at hA'; cases hA'
  · rw [noSto hp] at hm; cases hm
  · exact .inr ⟨h1, .inr (.inr (.inr (.inr (.inl ⟨hA', e, cs, h3, fun g => ⟨h4 g, _, _, rfl⟩⟩))))⟩
  · rw [hS] at hbS; cases hbS
/-- **A NEW VARIABLE IS MADE BEFORE**: whatever came ahead of it. -/
theorem Run.swapA {P : Program} {bl : List Nat} {ops : Array Oper} {p i : Oper} {rest : List Oper} {s : St} {K : St → Prop} (hA : blA bl = true) (hS : blS bl = false) (hM : isM bl = false) (hK : KCP K) (hp : isMov p = true ∨ isAl p = true) (hi : isAl i = true)
    (hap : p.apart ops i = true) (h : Run P bl ops (p :: i :: rest) s K) : Run P bl ops (i :: p :: rest) s K := by
  obtain ⟨ap1, ap2, ap3⟩ := Oper.apart_spec hap
  have h' : Step P bl ops p s (fun s' => Step P bl ops i s' (fun s2 => Run P bl ops rest s2 K)) := h
  have hne : ∀ d, p.dst = some d → i.dst ≠ some d := ap2
  have hw : ∀ (x : Value) (new : List Blk), wantedS ops i (({ s with L := s.L ++ new } : St).put p.dst x).t = wantedS ops i s.t := fun x new => wantedS_put (s := { s with L := s.L ++ new }) ap1
  have hci : isCall i = false := by
    unfold isAl at hi; unfold isCall
    split at hi
    · rename_i heq; rw [heq]
    · cases hi
  -- what the second one does, behind the first one
  have what : ∀ {s1 : St}, Step P bl ops i s1 (fun s2 => Run P bl ops rest s2 K) → (∃ x new, s1 = (({ s with L := s.L ++ new } : St).put p.dst x)) →
      (∀ d, i.dst = some d → d < s.nt) ∧ ((wantedS ops i s.t = some false ∧ Run P bl ops rest (s1.put i.dst undef) K) ∨
        (wantedS ops i s.t = some true ∧ ∃ e cs, alTy P i = some (e, cs) ∧ ∀ g, Run P bl ops rest (({ s1 with L := s1.L ++ [alB g e cs] } : St).put i.dst (.pointer (some ⟨g, 0, none⟩))) K)) := by
    rintro s1 ⟨k0, g, hk, hh⟩ ⟨x, new, rfl⟩
    rw [hw] at hk
    refine ⟨fun d hd => by have := k0 d hd; rwa [show (({ s with L := s.L ++ new } : St).put p.dst x).nt = s.nt by cases p.dst <;> rfl] at this, ?_⟩
    rcases hh with ⟨rfl, h2⟩ | ⟨rfl, ⟨h2, sv, h3, h4⟩ | ⟨h2, X, res, new, h3, hF, h4⟩ | ⟨hm, hA', hm', X, nx, h3, h4⟩ | ⟨hm, hd', L', h3, h5, h4⟩ | ⟨hA', e, cs, h3, h4⟩ | ⟨hC, hbS, X, res, nL, h3, h5, h4⟩⟩
    · exact .inl ⟨hk, h2⟩
    · rw [hA, hi] at h2; cases h2
    · rw [hci] at h2; cases h2
    · rw [hA, hi] at hA'; cases hA'
    · rw [noSto (.inr hi)] at hm; cases hm
    · exact .inr ⟨hk, e, cs, h3, h4⟩
    · rw [hci] at hC; cases hC
  have hf := h'.form hS hA hp hM
  obtain ⟨x0, new0, k0, kf⟩ := hf.some hS hA hp hM
  obtain ⟨hb, hcase⟩ := what k0 kf
  rcases hcase with ⟨hk, _⟩ | ⟨hk, e, cs, hal, _⟩
  · refine ⟨hb, false, hk, .inl ⟨rfl, ?_⟩⟩
    have e : s.put i.dst undef = ({ s with L := s.L ++ [] } : St).put i.dst undef := by simp
    rw [e]
    refine Step.laterA hA hS hp hM hb ap3 hne (hf.mono ?_)
    rintro s1 ⟨hs1, hform⟩ s2 he
    rcases (what hs1 hform).2 with ⟨_, h2⟩ | ⟨h2, _⟩
    · refine Run.kcP hA hS hK rest _ _ he ?_
      have e : s1.put i.dst undef = ({ s1 with L := s1.L ++ [] } : St).put i.dst undef := by simp
      rw [← e]; exact h2
    · rw [hk] at h2; cases h2
  · refine ⟨hb, true, hk, .inr ⟨rfl, .inr (.inr (.inr (.inr (.inl ⟨hi, e, cs, hal, fun gg => ?_⟩))))⟩⟩
    refine Step.laterA hA hS hp hM hb ap3 hne (hf.mono ?_)
    rintro s1 ⟨hs1, hform⟩ s2 he
    rcases (what hs1 hform).2 with ⟨h2, _⟩ | ⟨_, e', cs', hal', h2⟩
    · rw [hk] at h2; cases h2
    · rw [hal] at hal'
      cases hal'
      exact Run.kcP hA hS hK rest _ _ he (h2 gg)
theorem pure_kind {o : Oper} (hi : isPure o = true) : isMov o = true ∧ isCall o = false ∧ isAl o = false ∧ isSto o = false := by
  unfold isPure at hi
  split at hi
  · rename_i heq; exact ⟨by unfold isMov; rw [heq], by unfold isCall; rw [heq], by unfold isAl; rw [heq], by unfold isSto; rw [heq]⟩
  · rename_i heq; exact ⟨by unfold isMov; rw [heq], by unfold isCall; rw [heq], by unfold isAl; rw [heq], by unfold isSto; rw [heq]⟩
  · cases hi
/-- **WHAT LOOKS AT SLOTS ALONE COMES BEFORE** a store, or a new variable -/
theorem Run.swapQ {P : Program} {bl : List Nat} {ops : Array Oper} {p i : Oper} {rest : List Oper} {s : St} {K : St → Prop} (hA : blA bl = true) (hS : blS bl = false) (hM : isM bl = false) (hK : KCP K) (hp : isSto p = true ∨ isAl p = true) (hpg : p.guard = none) (hi : isPure i = true)
    (hap : p.apart ops i = true) (h : Run P bl ops (p :: i :: rest) s K) : Run P bl ops (i :: p :: rest) s K := by
  obtain ⟨ap1, ap2, ap3⟩ := Oper.apart_spec hap
  have h' : Step P bl ops p s (fun s' => Step P bl ops i s' (fun s2 => Run P bl ops rest s2 K)) := h
  obtain ⟨h0, g, hg, hh⟩ := h'
  have hg1 : g = true := by
    unfold wantedS at hg; rw [hpg] at hg; simpa using hg.symm
  subst hg1
  have hnp : (blA bl && (isAl p || isSto p)) = false → False := fun h1 => by rcases hp with hp | hp <;> rw [hA, hp] at h1 <;> simp at h1
  have hcp : isCall p = false := by
    rcases hp with hp | hp
    · unfold isSto at hp
      split at hp
      · rename_i heq; unfold isCall; rw [heq]
      · cases hp
    · unfold isAl at hp
      split at hp
      · rename_i heq; unfold isCall; rw [heq]
      · cases hp
  obtain ⟨m1, m2, m3, m4⟩ := pure_kind hi
  have hns : ∀ cs b, p.op ≠ .select cs b := fun cs b e => by
    rcases hp with hp | hp
    · unfold isSto at hp; rw [e] at hp; cases hp
    · unfold isAl at hp; rw [e] at hp; cases hp
  have hwp : ∀ s' : St, wantedS ops p s'.t = some true := fun s' => by unfold wantedS; rw [hpg]
  -- what the second one yields
  have what : ∀ {s1 : St}, Step P bl ops i s1 (fun s2 => Run P bl ops rest s2 K) → s1.nt = s.nt → (wantedS ops i s1.t = wantedS ops i s.t) → pureV s1.t i = pureV s.t i →
      (∀ d, i.dst = some d → d < s.nt) ∧ ((wantedS ops i s.t = some false ∧ Run P bl ops rest (s1.put i.dst undef) K) ∨ (wantedS ops i s.t = some true ∧ ∃ v, pureV s.t i = some v ∧ Run P bl ops rest (s1.put i.dst v) K)) := by
    rintro s1 ⟨k0, gi, hgi, kk⟩ e1 e2 e3
    rw [e2] at hgi
    refine ⟨fun d hd => by rw [← e1]; exact k0 d hd, ?_⟩
    rcases kk with ⟨h1, h2⟩ | ⟨h1, ⟨h2, sv, q3, q4⟩ | ⟨h2, X, res, new, q3, hF, q4⟩ | ⟨qm, hA', qm', X, nx, q3, q4⟩ | ⟨qm, qd, L'', q3, q5, q4⟩ | ⟨hA', e, cs, q3, q4⟩ | ⟨hC, hbS, X, res, nL, q3, q5, q4⟩⟩
    · exact .inl ⟨by rw [hgi, h1], h2⟩
    · exact .inr ⟨by rw [hgi, h1], sv, by rw [← e3]; exact q3.2 hA hi, q4⟩
    · rw [m2] at h2; cases h2
    · rw [hM, show mvS bl i = true by simp [mvS, m1]] at qm; cases qm
    · rw [m4] at qm; cases qm
    · rw [m3] at hA'; cases hA'
    · rw [m2] at hC; cases hC
  -- the second one, ahead
  have ahead : ∀ (v : Value), (wantedS ops i s.t = some false ∧ v = undef ∨ wantedS ops i s.t = some true ∧ pureV s.t i = some v) → (∀ d, i.dst = some d → d < s.nt) → Run P bl ops (p :: rest) (s.put i.dst v) K → Run P bl ops (i :: p :: rest) s K := by
    intro v hv hb hr
    rcases hv with ⟨h1, rfl⟩ | ⟨h1, h2⟩
    · exact ⟨hb, false, h1, .inl ⟨rfl, hr⟩⟩
    · exact ⟨hb, true, h1, .inr ⟨rfl, .inl ⟨by rw [m3, m4]; simp, v, ⟨by rw [bk_of_S hS]; exact pureV_quiet h2, fun _ _ => h2⟩, hr⟩⟩⟩
  rcases hh with ⟨h1, _⟩ | ⟨_, ⟨h2, sv, h3, h4⟩ | ⟨h2, X, res, new, h3, hF, h4⟩ | ⟨hm, hA', hm', X, nx, h3, h4⟩ | ⟨hm, hd, L', h3, h5, h4⟩ | ⟨hA', e, cs, h3, h4⟩ | ⟨hC, hbS, X, res, nL, h3, h5, h4⟩⟩
  · cases h1
  · exact (hnp h2).elim
  · rw [hcp] at h2; cases h2
  · exact (hnp hA').elim
  · -- a store
    obtain ⟨hb, hc⟩ := what h4 rfl rfl rfl
    have behind : ∀ (v : Value), Run P bl ops rest ((({ s with L := L' } : St)).put i.dst v) K → Run P bl ops (p :: rest) (s.put i.dst v) K := by
      intro v hr
      refine ⟨fun d hd' => (by rw [hd] at hd'; cases hd'), true, hwp _, .inr ⟨rfl, .inr (.inr (.inr (.inl ⟨hm, hd, L', fun B a w hrel => ?_, (fun hb => by rw [hS] at hb; cases hb), ?_⟩)))⟩⟩
      · have hrel' : Rel B (({ s with L := s.L ++ [] } : St).put i.dst v) a w := by simpa using hrel
        obtain ⟨u, hu⟩ := Rel.putBack (s := s) (new := []) hb hrel'
        have := h3 B _ w hu
        rwa [execOp_put p hns a i.dst u ap3] at this
      · have e : ({ s.put i.dst v with L := L' } : St) = (({ s with L := L' } : St)).put i.dst v := by cases i.dst <;> rfl
        rw [e]; exact hr
    rcases hc with ⟨c1, c2⟩ | ⟨c1, v, c2, c3⟩
    · exact ahead undef (.inl ⟨c1, rfl⟩) hb (behind _ c2)
    · exact ahead v (.inr ⟨c1, c2⟩) hb (behind _ c3)
  · -- a new variable
    have hs1 : ∀ gg, (({ s with L := s.L ++ [alB gg e cs] } : St).put p.dst (.pointer (some ⟨gg, 0, none⟩))).nt = s.nt := fun gg => by cases p.dst <;> rfl
    have hw1 : ∀ gg, wantedS ops i (({ s with L := s.L ++ [alB gg e cs] } : St).put p.dst (.pointer (some ⟨gg, 0, none⟩))).t = wantedS ops i s.t := fun gg => wantedS_put (s := { s with L := s.L ++ [alB gg e cs] }) ap1
    have hv1 : ∀ gg, pureV (({ s with L := s.L ++ [alB gg e cs] } : St).put p.dst (.pointer (some ⟨gg, 0, none⟩))).t i = pureV s.t i := fun gg => pureV_put (s := { s with L := s.L ++ [alB gg e cs] }) ap1
    have hp2 : isMov p = true ∨ isAl p = true := .inr hA'
    have hpi : ∀ d, p.dst = some d → i.dst ≠ some d := ap2
    have behind : ∀ (v : Value), (∀ d, i.dst = some d → d < s.nt) → (∀ gg, Run P bl ops rest ((({ s with L := s.L ++ [alB gg e cs] } : St).put p.dst (.pointer (some ⟨gg, 0, none⟩))).put i.dst v) K) → Run P bl ops (p :: rest) (s.put i.dst v) K := by
      intro v hb hr
      have e : s.put i.dst v = ({ s with L := s.L ++ [] } : St).put i.dst v := by simp
      rw [e]
      refine Step.laterA (K := fun s2 => Run P bl ops rest s2 K) hA hS hp2 hM hb ap3 hpi ⟨h0, true, hg, .inr ⟨rfl, .inr (.inr (.inr (.inr (.inl ⟨hA', _, cs, h3, fun gg s2 he => ?_⟩))))⟩⟩
      refine Run.kcP hA hS hK rest _ _ he ?_
      have := hr gg
      simpa using this
    obtain ⟨hb, hc⟩ := what (h4 0) (hs1 0) (hw1 0) (hv1 0)
    rcases hc with ⟨c1, _⟩ | ⟨c1, v, c2, _⟩
    · refine ahead undef (.inl ⟨c1, rfl⟩) hb (behind _ hb fun gg => ?_)
      rcases (what (h4 gg) (hs1 gg) (hw1 gg) (hv1 gg)).2 with ⟨_, d2⟩ | ⟨d1, _⟩
      · exact d2
      · rw [c1] at d1; cases d1
    · refine ahead v (.inr ⟨c1, c2⟩) hb (behind _ hb fun gg => ?_)
      rcases (what (h4 gg) (hs1 gg) (hw1 gg) (hv1 gg)).2 with ⟨d1, _⟩ | ⟨_, v', d2, d3⟩
      · rw [c1] at d1; cases d1
      · rw [c2] at d2; cases d2; exact d3
  · rw [hcp] at hC; cases hC
/-- may p be passed over by i? -/
def passOk (bl : List Nat) (ops : Array Oper) (op oi : Oper) : Bool :=
  op.apart ops oi && (((isMov op && isFr bl oi && !isCall op) || (isAl oi && (isMov op || isAl op))) || ((isSto op || isAl op) && isPure oi && op.guard.isNone))
theorem Run.frontA {P : Program} {bl : List Nat} {ops : Array Oper} {i : Oper} {post : List Oper} {K : St → Prop} (hA : blA bl = true) (hS : blS bl = false) (hM : isM bl = false) (hK : KCP K) : ∀ {pre : List Oper} {s : St},
    (∀ p ∈ pre, passOk bl ops p i = true) → Run P bl ops (pre ++ i :: post) s K → Run P bl ops (i :: (pre ++ post)) s K
  | [], s, _, h => h
  | p :: pre, s, hp, h => by
    have h1 : Step P bl ops p s (fun s' => Run P bl ops (pre ++ i :: post) s' K) := h
    have h2 : Run P bl ops (p :: i :: (pre ++ post)) s K := by
      refine Step.mono ?_ h1
      intro s' hr
      exact Run.frontA hA hS hM hK (fun q hq => hp q (by simp [hq])) hr
    have hpp := hp p (by simp)
    simp only [passOk, Bool.and_eq_true, Bool.or_eq_true, Bool.not_eq_true'] at hpp
    obtain ⟨ha, (⟨⟨hm, hf⟩, hc⟩ | ⟨hi, hm⟩) | ⟨⟨hs, hi⟩, hg⟩⟩ := hpp
    · exact Run.swap (hK.kc) hm hf hc ha h2
    · exact Run.swapA hA hS hM hK hm hi ha h2
    · exact Run.swapQ hA hS hM hK hs (by simpa using hg) hi ha h2
def pairOkA (bl : List Nat) (ops : Array Oper) (p i : Nat) : Bool :=
  waitsF ops ops.size i p ||
  match ops[p]?, ops[i]? with
  | some op, some oi => passOk bl ops op oi
  | _, _ => false
def drawnAOk (bl : List Nat) (ops : Array Oper) (perm : List Nat) : Bool :=
  decide (perm.length = ops.size) && perm.all (fun i => decide (i < ops.size)) && (List.range ops.size).all (fun i => perm.contains i) &&
  pairsB (pairOkA bl ops) perm && pairsB (noWait ops) perm && perm.all (fun i => noWait ops i i) && perm.all (fun i => edgesIn ops i) && pairsB (fun i j => i != j) perm && blA bl && !blS bl && !isM bl
theorem wpAny_of_runA {P : Program} {bl : List Nat} {ops : Array Oper} {Q : Exit → Act → World → Prop} {K : St → Prop} {B : World} (hA : blA bl = true) (hS : blS bl = false) (hM : isM bl = false) (hK : KCP K) (hpost : ∀ s' a' w', K s' → Rel B s' a' w' → Q .normal a' w') :
    ∀ (n : Nat) (l : List Nat) (listed : Array Bool) (s : St) (a : Act) (w : World), l.length = n → Ord1 ops l → l.Pairwise (fun p i => pairOkA bl ops p i = true) → listed.size = ops.size →
      (∀ j, j < ops.size → (listed.getD j true = false ↔ j ∈ l)) → Closed ops listed → Run P bl ops (l.map fun i => ops.getD i default) s K → Rel B s a w →
      wpAny P .any ops Q n listed a w := by
  intro n
  induction n with
  | zero =>
    intro l listed s a w hn ho hok hsz hl hc hr h
    have : l = [] := List.eq_nil_of_length_eq_zero hn
    subst this
    refine ⟨?_, hpost _ _ _ hr h⟩
    rcases hh : Region.ready .any ops listed with _ | ⟨i, r⟩
    · rfl
    · exfalso
      obtain ⟨h1, o, ho', _⟩ := mem_ready.1 (show i ∈ Region.ready .any ops listed by rw [hh]; simp)
      have := (hl i (Array.getElem?_eq_some_iff.1 ho').1).1 h1
      simp at this
  | succ n ih =>
    intro l listed s a w hn ho hok hsz hl hc hr h
    refine ⟨fun h0 => ?_, fun i hi => ?_⟩
    · exfalso
      cases l with
      | nil => simp at hn
      | cons i0 rest =>
        have hi0 := ho.lt i0 (by simp)
        have : i0 ∈ Region.ready .any ops listed := by
          refine mem_ready.2 ⟨(hl i0 hi0).2 (by simp), ops[i0], Array.getElem?_eq_getElem hi0, fun e he hb => ?_⟩
          rcases hx : listed.getD e.on false with _ | _
          · exfalso
            have hself := ho.self i0 (by simp)
            have hnw : ∀ j, j ∈ rest → noWait ops i0 j = true := fun j hj => (List.pairwise_cons.1 ho.nw).1 j hj
            have key : ∀ j, noWait ops i0 j = true → e.on ≠ j := fun j hj e' => by
              unfold noWait at hj
              rw [Array.getElem?_eq_getElem hi0] at hj
              have := (Array.all_eq_true'.1 hj) e he
              simp [hb, e'] at this
            rcases Nat.lt_or_ge e.on ops.size with hlt | hge
            · have hun : listed.getD e.on true = false := by
                have : e.on < listed.size := by rw [hsz]; exact hlt
                simp [this] at hx ⊢; exact hx
              have := (hl e.on hlt).1 hun
              rcases List.mem_cons.1 this with h1 | h1
              · exact key i0 hself h1
              · exact key e.on (hnw _ h1) rfl
            · have hj := ho.ed i0 (by simp)
              unfold edgesIn at hj
              rw [Array.getElem?_eq_getElem hi0] at hj
              have := (Array.all_eq_true'.1 hj) e he
              simp [hb] at this
              omega
          · rfl
        rw [h0] at this; cases this
    · obtain ⟨hun, oi, hoi, hall⟩ := mem_ready.1 hi
      have hilt := (Array.getElem?_eq_some_iff.1 hoi).1
      have hil : i ∈ l := (hl i hilt).1 hun
      obtain ⟨pre, post, rfl⟩ := List.append_of_mem hil
      have hoid : ops.getD i default = oi := by simp [hoi]
      have hpre : ∀ p ∈ pre, ∃ op, ops[p]? = some op ∧ passOk bl ops op oi = true := by
        intro p hp
        have hpo : pairOkA bl ops p i = true := (List.pairwise_append.1 hok).2.2 p hp i (by simp)
        unfold pairOkA at hpo
        rw [Bool.or_eq_true] at hpo
        rcases hpo with hpo | hpo
        · exfalso
          have h1 := waitsF_listed hc hpo (fun o ho' e he hb => by rw [hoi] at ho'; cases ho'; exact hall e he hb)
          have hplt := ho.lt p (by simp [hp])
          have h2 := (hl p hplt).2 (by simp [hp])
          rw [getD_tf h2] at h1; cases h1
        · rw [hoi] at hpo
          cases hop : ops[p]? with
          | none => rw [hop] at hpo; cases hpo
          | some op => rw [hop] at hpo; exact ⟨op, rfl, hpo⟩
      have hrun : Run P bl ops (oi :: ((pre ++ post).map fun i => ops.getD i default)) s K := by
        rw [List.map_append] at hr ⊢
        rw [List.map_cons, hoid] at hr
        refine Run.frontA hA hS hM hK ?_ hr
        intro q hq
        obtain ⟨p, hp, rfl⟩ := List.mem_map.1 hq
        obtain ⟨op, hop, h1⟩ := hpre p hp
        have : ops.getD p default = op := by simp [hop]
        rw [this]; exact h1
      have hsub : (pre ++ post).Sublist (pre ++ i :: post) := List.Sublist.append (List.Sublist.refl _) (List.sublist_cons_self _ _)
      have hnd := ho.nodup
      have hinot : i ∉ pre ++ post := by
        intro hm
        have := List.nodup_append.1 hnd
        rcases List.mem_append.1 hm with h1 | h1
        · exact this.2.2 i h1 i (by simp) rfl
        · exact (List.nodup_cons.1 this.2.1).1 h1
      unfold wpOp
      rw [hoi]
      dsimp only
      have hS' := Step.sound (K' := wpAny P .any ops Q n (listed.setIfInBounds i true)) (Q := Q) hrun h (fun s' a' w' hk hrel => by
        refine ih (pre ++ post) (listed.setIfInBounds i true) s' a' w' ?_ (ho.sub hsub) (hok.sublist hsub) (by simpa using hsz) ?_ ?_ hk hrel
        · simp at hn ⊢; omega
        · intro j hj
          by_cases hij : i = j
          · subst hij
            have : i < listed.size := by rw [hsz]; exact hilt
            simp [this]
            simpa using hinot
          · rw [getD_set_ne true hij, hl j hj]
            simp [Ne.symm hij]
        · intro j hj o hoj e he hb
          by_cases hij : i = j
          · subst hij
            rw [hoi] at hoj; cases hoj
            exact getD_set_true (hall e he hb)
          · rw [getD_set_ne false hij] at hj
            exact getD_set_true (hc j hj o hoj e he hb))
      split
      · rename_i hw; rw [if_pos hw] at hS'; exact .inl hS'
      · rename_i hw; rw [if_neg hw] at hS'; exact hS'
theorem At.kcp {B : World} {X : Act → World → Prop} : KCP (fun s => At B s X) := fun s s' he h a w hr => h a w (he.rel hr)
theorem at_drawnA {P : Program} {B : World} {Q : Exit → Act → World → Prop} {s : St} {id : Nat} {l l' : List Oper} (bl perm : List Nat) (hm : P.follows .mixedOrders = true) (hc : drawnAOk bl l.toArray perm = true) (hl : perm.map (fun i => l.toArray.getD i default) = l')
    (h : Run P bl l.toArray l' s (fun s' => At B s' (Q .normal))) : At B s ((Code.region id l.toArray true).wp P Q) := fun a w hr => by
  simp only [drawnAOk, Bool.and_eq_true, decide_eq_true_eq, Bool.not_eq_true'] at hc
  obtain ⟨⟨⟨⟨⟨⟨⟨⟨⟨⟨hlen, hlt⟩, hall⟩, hpo⟩, hnw⟩, hself⟩, hed⟩, hnd⟩, hA⟩, hS⟩, hM⟩ := hc
  have hOrd : Ord1 l.toArray perm := ⟨fun i hi => of_decide_eq_true (List.all_eq_true.1 hlt i hi), pairsB_spec hnw, fun i hi => List.all_eq_true.1 hself i hi, fun i hi => List.all_eq_true.1 hed i hi, (pairsB_spec hnd).imp (fun h => by simpa using h)⟩
  subst hl
  refine wp_region_any hm ?_
  refine wpAny_of_runA hA hS hM At.kcp (B := B) (fun s' a' w' h1 h2 => h1 a' w' h2) l.toArray.size perm _ s a _ hlen hOrd (pairsB_spec hpo) (by simp) ?_ ?_ h hr.drew
  · intro j hj
    have : j ∈ perm := by
      have := List.all_eq_true.1 hall j (List.mem_range.2 hj)
      simpa using this
    have hj' : j < l.length := by simpa using hj
    simp [hj', this]
  · intro j hj
    exfalso
    rcases Nat.lt_or_ge j l.length with h1 | h1
    · simp [h1] at hj
    · simp [h1] at hj
end Go.Via
set_option linter.unusedVariables false
namespace Go.Proofs.YthnlafhnpphdhaaGreatDoor
open Go Go.RowKit Go.Via
set_option maxRecDepth 20000 in
theorem c_ref02_Add (p q : Rat) (hp : szQ p ≤ 4194303) (hq : szQ q ≤ 4194303) : PCall Tryz.prog 60 #[Q p, Q q] (Q (p + q)) := by
 have e1 := nb_num hp
 have e2 := nb_den hp
 have e3 := nb_num hq
 have e4 := nb_den hq
 have m1 := nb_mul p.num.natAbs q.num.natAbs
 have m2 := nb_mul p.num.natAbs q.den
 have m3 := nb_mul q.num.natAbs p.den
 have m4 := nb_mul p.den q.den
 have m5 := nb_mul p.den q.num.natAbs
 have dp : 0 < p.den := Nat.pos_of_ne_zero p.den_nz
 have dq : 0 < q.den := Nat.pos_of_ne_zero q.den_nz
 have dpq : 0 < p.den * q.den := Nat.mul_pos dp dq
 have m6 := nb_add (p.num.natAbs * q.den) (q.num.natAbs * p.den)
 have m7 : nb (p.num.natAbs * q.den - q.num.natAbs * p.den) ≤ nb (p.num.natAbs * q.den) := nb_mono (Nat.sub_le _ _)
 have m8 : nb (q.num.natAbs * p.den - p.num.natAbs * q.den) ≤ nb (q.num.natAbs * p.den) := nb_mono (Nat.sub_le _ _)
 refine ⟨by kernel_rfl, fun w => ?_⟩
 refine calls_at (args := [Q p, Q q]) Tryz.func60 rfl (Nat.le_of_ble_eq_true rfl) (LRel.nil w) ?_
 show At w ⟨64, [(0, Q p), (1, Q q)], []⟩ _
 refine at_seq ?_
 refine at_region ?_
 refine r_box [_, _, _, _] 4 (fun g => [⟨some g, 25, _, 4, true⟩]) rfl rfl rfl rfl rfl (fun _ => rfl) (fun g0 => ?_)
 refine r_box [_, _, _, _] 4 (fun g => [_, ⟨some g, 25, _, 4, true⟩]) rfl rfl rfl rfl rfl (fun _ => rfl) (fun g1 => ?_)
 refine r_alloc [_, _, _, _] 4 (fun g => [_, _, ⟨some g, 25, _, 4, true⟩]) rfl rfl z25 rfl rfl (fun _ => rfl) (fun g2 => ?_)
 refine run_nil ?_
 refine at_tn ?_
 refine at_seq ?_
 refine at_drawnA (l' := [⟨_,_,_,_,_,_⟩, ⟨_,_,_,_,_,_⟩, ⟨_,_,_,_,_,_⟩, ⟨_,_,_,_,_,_⟩, ⟨_,_,_,_,_,_⟩, ⟨_,_,_,_,_,_⟩, ⟨_,_,_,_,_,_⟩, ⟨_,_,_,_,_,_⟩]) [3000000] [0, 2, 1, 3, 4, 5, 6, 7] mixed (by kernel_rfl) rfl ?_
 refine r_load 0 0 [_, _, _, _] rfl rfl rfl rfl ti25 rfl rfl rfl rfl ?_
 refine r_load 1 0 [_, _, _, _] rfl rfl rfl rfl ti25 rfl rfl rfl rfl ?_
 refine r_scall [_] [] rfl rfl rfl (c_ref02_of p (Nat.le_trans hp (Nat.le_of_ble_eq_true rfl))) trivial rfl (.inr own2) (fun x => ?_)
 refine r_scall [_] [] rfl rfl rfl (c_ref02_of q (Nat.le_trans hq (Nat.le_of_ble_eq_true rfl))) trivial rfl (.inr own2) (fun y => ?_)
 refine r_alloc [_, _, _] 3 (fun g => [_, _, _, _, _, _, _, ⟨some g, 97, _, 3, true⟩]) rfl rfl z97 rfl rfl (fun _ => rfl) (fun g3 => ?_)
 refine r_alloc [_, _, _] 3 (fun g => [_, _, _, _, _, _, _, _, ⟨some g, 97, _, 3, true⟩]) rfl rfl z97 rfl rfl (fun _ => rfl) (fun g4 => ?_)
 refine r_store rfl 7 0 [_, _, _, _, _, _, _, ⟨some g3, 97, _, 3, true⟩, _] [_, _, _] rfl rfl rfl rfl ti97 rfl rfl rfl rfl rfl ?_
 refine r_store rfl 8 0 [_, _, _, _, _, _, _, _, ⟨some g4, 97, _, 3, true⟩] [_, _, _] rfl rfl rfl rfl ti97 rfl rfl rfl rfl rfl ?_
 refine run_nil ?_
 refine at_tn ?_
 refine at_seq ?_
 refine at_drawn (l' := [⟨_,_,_,_,_,_⟩, ⟨_,_,_,_,_,_⟩, ⟨_,_,_,_,_,_⟩, ⟨_,_,_,_,_,_⟩, ⟨_,_,_,_,_,_⟩, ⟨_,_,_,_,_,_⟩, ⟨_,_,_,_,_,_⟩, ⟨_,_,_,_,_,_⟩, ⟨_,_,_,_,_,_⟩, ⟨_,_,_,_,_,_⟩, ⟨_,_,_,_,_,_⟩, ⟨_,_,_,_,_,_⟩]) [] [0, 1, 2, 3, 5, 6, 7, 8, 4, 9, 10, 11] mixed (by kernel_rfl) rfl (by kernel_rfl) ?_
 refine r_fieldAddr 7 0 1 rfl rfl rfl rfl rfl ti97 rfl rfl ?_
 refine r_load 7 1 [_] rfl rfl rfl rfl ti85 rfl rfl rfl rfl ?_
 refine r_fieldAddr 8 0 2 rfl rfl rfl rfl rfl ti97 rfl rfl ?_
 refine r_load 8 2 [_] rfl rfl rfl rfl ti85 rfl rfl rfl rfl ?_
 refine r_fieldAddr 8 0 1 rfl rfl rfl rfl rfl ti97 rfl rfl ?_
 refine r_load 8 1 [_] rfl rfl rfl rfl ti85 rfl rfl rfl rfl ?_
 refine r_fieldAddr 7 0 2 rfl rfl rfl rfl rfl ti97 rfl rfl ?_
 refine r_load 7 2 [_] rfl rfl rfl rfl ti85 rfl rfl rfl rfl ?_
 refine r_scall [_, _] [3, 6] rfl rfl rfl (c_ref02_times (p.num.natAbs) (q.den) (by omega) (by omega) x.1 y.2) ⟨⟨_, rfl, le_share⟩, ⟨_, rfl, le_share⟩, trivial⟩ rfl (.inr fun x b hb => by rw [List.mem_singleton.1 hb]) (fun zP => ?_)
 refine r_scall [_, _] [5, 4] rfl rfl rfl (c_ref02_times (q.num.natAbs) (p.den) (by omega) (by omega) y.1 x.2) ⟨⟨_, rfl, le_share⟩, ⟨_, rfl, le_share⟩, trivial⟩ rfl (.inr fun x b hb => by rw [List.mem_singleton.1 hb]) (fun zQ => ?_)
 refine r_assign rfl rfl rfl ?_
 refine r_assign rfl rfl rfl ?_
 refine run_nil ?_
 refine at_tn ?_
 refine at_seq ?_
 refine at_region ?_
 refine r_fieldAddr 7 0 2 rfl rfl rfl rfl rfl ti97 rfl rfl ?_
 refine r_load 7 2 [_] rfl rfl rfl rfl ti85 rfl rfl rfl rfl ?_
 refine r_fieldAddr 8 0 2 rfl rfl rfl rfl rfl ti97 rfl rfl ?_
 refine r_load 8 2 [_] rfl rfl rfl rfl ti85 rfl rfl rfl rfl ?_
 refine r_scall [_, _] [4, 6] rfl rfl rfl (c_ref02_times (p.den) (q.den) (by omega) (by omega) x.2 y.2) ⟨⟨_, rfl, le_share⟩, ⟨_, rfl, le_share⟩, trivial⟩ rfl (.inr fun x b hb => by rw [List.mem_singleton.1 hb]) (fun zD => ?_)
 refine r_assign rfl rfl rfl ?_
 refine run_nil ?_
 refine at_tn ?_
 refine at_seq ?_
 refine at_block ?_
 refine at_seq ?_
 refine at_region ?_
 refine r_fieldAddr 7 0 0 rfl rfl rfl rfl rfl ti97 rfl rfl ?_
 refine r_load 7 0 [_] rfl rfl rfl rfl ti4 rfl rfl rfl rfl ?_
 refine r_fieldAddr 8 0 0 rfl rfl rfl rfl rfl ti97 rfl rfl ?_
 refine r_load 8 0 [_] rfl rfl rfl rfl ti4 rfl rfl rfl rfl ?_
 refine r_eqlBool rfl u4 rfl rfl rfl ?_
 refine r_assign rfl rfl rfl ?_
 refine run_nil ?_
 refine at_tn ?_
 refine at_cond rfl (fun hb0 => ?_) (fun hb0 => ?_)
 ·
  have hs := hb0
  refine at_seq ?_
  refine at_drawn (l' := [⟨_,_,_,_,_,_⟩, ⟨_,_,_,_,_,_⟩, ⟨_,_,_,_,_,_⟩, ⟨_,_,_,_,_,_⟩, ⟨_,_,_,_,_,_⟩, ⟨_,_,_,_,_,_⟩, ⟨_,_,_,_,_,_⟩, ⟨_,_,_,_,_,_⟩, ⟨_,_,_,_,_,_⟩]) [] [0, 1, 2, 3, 5, 4, 6, 7, 8] mixed (by kernel_rfl) rfl (by kernel_rfl) ?_
  refine r_fieldAddr 7 0 0 rfl rfl rfl rfl rfl ti97 rfl rfl ?_
  refine r_load 7 0 [_] rfl rfl rfl rfl ti4 rfl rfl rfl rfl ?_
  refine r_move rfl rfl rfl ?_
  refine r_move rfl rfl rfl ?_
  refine r_move rfl rfl rfl ?_
  refine r_scall [_, _] [9, 10] rfl rfl rfl (c_ref02_plus (p.num.natAbs * q.den) (q.num.natAbs * p.den) (by omega) (by omega) zP zQ) ⟨⟨_, rfl, le_share⟩, ⟨_, rfl, le_share⟩, trivial⟩ rfl (.inr fun x b hb => by rw [List.mem_singleton.1 hb]) (fun zS => ?_)
  refine r_build [(0, _), (1, _), (2, _)] rfl rfl rfl (bd97_3) ?_
  refine r_scall0 [_] [12, 11] rfl rfl rfl (c_ref02_canonical (p.num.natAbs * q.den + q.num.natAbs * p.den) (p.den * q.den) (decide (p.num < 0)) dpq (by omega) (by omega) zS zD) ⟨⟨_, rfl, le_share⟩, ⟨_, rfl, le_share⟩, trivial⟩ rfl ?_
  refine r_know 42 (Q (p + q)) rfl (congrArg Q (sg_add1 p q hs)) ?_
  refine r_store rfl 2 0 [_, _, ⟨some g2, 25, _, 4, true⟩, _, _, _, _, _, _, _, _, _, _] [_, _, _, _] rfl rfl rfl rfl ti25 rfl rfl rfl rfl rfl ?_
  refine run_nil ?_
  refine at_tn ?_
  refine at_ret ?_
  refine at_br ?_
  refine at_tr ?_
  refine at_end1 rfl (res_cell 2 rfl rfl ti25 (vs := [_, _, _, _]) rfl rfl (Nat.le_of_ble_eq_true rfl) rfl) (fun w hL => ⟨?_, hL.below⟩)
  exact rfl
 ·
  have hs := hb0
  refine at_seq ?_
  refine at_region ?_
  refine r_move rfl rfl rfl ?_
  refine r_move rfl rfl rfl ?_
  refine r_scall0 [_, _] [9, 10] rfl rfl rfl (c_ref02_compare (p.num.natAbs * q.den) (q.num.natAbs * p.den) (by omega) zP zQ) ⟨⟨_, rfl, le_share⟩, ⟨_, rfl, le_share⟩, trivial⟩ rfl ?_
  refine r_cmpInt rfl rfl rfl rfl rfl ?_
  refine r_assign rfl rfl rfl ?_
  refine run_nil ?_
  refine at_tn ?_
  refine at_cond rfl (fun hb1 => ?_) (fun hb1 => ?_)
  ·
   have hle : q.num.natAbs * p.den ≤ p.num.natAbs * q.den := cmpN_nonneg.1 (of_decide_eq_true hb1)
   refine at_seq ?_
   refine at_drawn (l' := [⟨_,_,_,_,_,_⟩, ⟨_,_,_,_,_,_⟩, ⟨_,_,_,_,_,_⟩, ⟨_,_,_,_,_,_⟩, ⟨_,_,_,_,_,_⟩, ⟨_,_,_,_,_,_⟩, ⟨_,_,_,_,_,_⟩, ⟨_,_,_,_,_,_⟩, ⟨_,_,_,_,_,_⟩]) [] [0, 1, 2, 3, 5, 4, 6, 7, 8] mixed (by kernel_rfl) rfl (by kernel_rfl) ?_
   refine r_fieldAddr 7 0 0 rfl rfl rfl rfl rfl ti97 rfl rfl ?_
   refine r_load 7 0 [_] rfl rfl rfl rfl ti4 rfl rfl rfl rfl ?_
   refine r_move rfl rfl rfl ?_
   refine r_move rfl rfl rfl ?_
   refine r_move rfl rfl rfl ?_
   refine r_scall [_, _] [9, 10] rfl rfl rfl (c_ref02_minus (p.num.natAbs * q.den) (q.num.natAbs * p.den) (by omega) hle zP zQ) ⟨⟨_, rfl, le_share⟩, ⟨_, rfl, le_share⟩, trivial⟩ rfl (.inr fun x b hb => by rw [List.mem_singleton.1 hb]) (fun zS => ?_)
   refine r_build [(0, _), (1, _), (2, _)] rfl rfl rfl (bd97_3) ?_
   refine r_scall0 [_] [12, 11] rfl rfl rfl (c_ref02_canonical (p.num.natAbs * q.den - q.num.natAbs * p.den) (p.den * q.den) (decide (p.num < 0)) dpq (by omega) (by omega) zS zD) ⟨⟨_, rfl, le_share⟩, ⟨_, rfl, le_share⟩, trivial⟩ rfl ?_
   refine r_know 55 (Q (p + q)) rfl (congrArg Q (sg_add2 p q hs hle)) ?_
   refine r_store rfl 2 0 [_, _, ⟨some g2, 25, _, 4, true⟩, _, _, _, _, _, _, _, _, _, _] [_, _, _, _] rfl rfl rfl rfl ti25 rfl rfl rfl rfl rfl ?_
   refine run_nil ?_
   refine at_tn ?_
   refine at_ret ?_
   refine at_br ?_
   refine at_tr ?_
   refine at_end1 rfl (res_cell 2 rfl rfl ti25 (vs := [_, _, _, _]) rfl rfl (Nat.le_of_ble_eq_true rfl) rfl) (fun w hL => ⟨?_, hL.below⟩)
   exact rfl
  ·
   have hle : p.num.natAbs * q.den ≤ q.num.natAbs * p.den := by have := of_decide_eq_false hb1; rw [cmpN_nonneg] at this; omega
   refine at_skip ?_
   refine at_bn ?_
   refine at_tn ?_
   refine at_seq ?_
   refine at_drawn (l' := [⟨_,_,_,_,_,_⟩, ⟨_,_,_,_,_,_⟩, ⟨_,_,_,_,_,_⟩, ⟨_,_,_,_,_,_⟩, ⟨_,_,_,_,_,_⟩, ⟨_,_,_,_,_,_⟩, ⟨_,_,_,_,_,_⟩, ⟨_,_,_,_,_,_⟩, ⟨_,_,_,_,_,_⟩]) [] [0, 1, 2, 3, 5, 4, 6, 7, 8] mixed (by kernel_rfl) rfl (by kernel_rfl) ?_
   refine r_fieldAddr 8 0 0 rfl rfl rfl rfl rfl ti97 rfl rfl ?_
   refine r_load 8 0 [_] rfl rfl rfl rfl ti4 rfl rfl rfl rfl ?_
   refine r_move rfl rfl rfl ?_
   refine r_move rfl rfl rfl ?_
   refine r_move rfl rfl rfl ?_
   refine r_scall [_, _] [10, 9] rfl rfl rfl (c_ref02_minus (q.num.natAbs * p.den) (p.num.natAbs * q.den) (by omega) hle zQ zP) ⟨⟨_, rfl, le_share⟩, ⟨_, rfl, le_share⟩, trivial⟩ rfl (.inr fun x b hb => by rw [List.mem_singleton.1 hb]) (fun zS => ?_)
   refine r_build [(0, _), (1, _), (2, _)] rfl rfl rfl (bd97_3) ?_
   refine r_scall0 [_] [12, 11] rfl rfl rfl (c_ref02_canonical (q.num.natAbs * p.den - p.num.natAbs * q.den) (p.den * q.den) (decide (q.num < 0)) dpq (by omega) (by omega) zS zD) ⟨⟨_, rfl, le_share⟩, ⟨_, rfl, le_share⟩, trivial⟩ rfl ?_
   refine r_know 63 (Q (p + q)) rfl (congrArg Q (sg_add3 p q hs hle)) ?_
   refine r_store rfl 2 0 [_, _, ⟨some g2, 25, _, 4, true⟩, _, _, _, _, _, _, _, _, _, _] [_, _, _, _] rfl rfl rfl rfl ti25 rfl rfl rfl rfl rfl ?_
   refine run_nil ?_
   refine at_tn ?_
   refine at_ret ?_
   refine at_end1 rfl (res_cell 2 rfl rfl ti25 (vs := [_, _, _, _]) rfl rfl (Nat.le_of_ble_eq_true rfl) rfl) (fun w hL => ⟨?_, hL.below⟩)
   exact rfl
end Go.Proofs.YthnlafhnpphdhaaGreatDoor
set_option linter.unusedVariables false
set_option linter.unusedSimpArgs false
namespace Go.Via
open Go Go.RowKit
theorem ba_size0 {s : ByteArray} (h : (((s.size : Nat) : Int) == 0) = true) : s = ⟨#[]⟩ := by
  have h1 : s.size = 0 := by have := eq_of_beq h; omega
  apply ByteArray.ext
  exact Array.eq_empty_of_size_eq_zero h1
theorem ba_sizeN {s : ByteArray} (h : (((s.size : Nat) : Int) == 0) = false) : ∃ x l, s.data.toList = x :: l := by
  cases hl : s.data.toList with
  | nil =>
    exfalso
    have h1 : s.size = 0 := by
      show s.data.size = 0
      rw [← Array.length_toList, hl]; rfl
    rw [h1] at h; cases h
  | cons x l => exact ⟨x, l, rfl⟩
theorem badI_nil {b : Bool} {s : ByteArray} (h : s = ⟨#[]⟩) : (!b) = (!badI b s) := by
  subst h; unfold badI; cases b <;> simp [beq_ee]
theorem badI_cons {b : Bool} {s : ByteArray} {x : UInt8} {l : List UInt8} (h : s.data.toList = x :: l) : ((x.toNat : Int) != 0) = (!badI b s) := by
  have h0 : (s == ⟨#[]⟩) = false := by
    rw [beq_ba]
    refine decide_eq_false fun e => ?_
    rw [e] at h; cases h
  unfold badI
  rw [h0, h, Bool.false_and, Bool.false_or]
  have e : ((x.toNat : Int) != 0) = !(some x == some 0) := by
    have : (some x == some (0 : UInt8)) = (x == 0) := rfl
    show _ = !(some x == some (0 : UInt8))
    rw [this]
    by_cases hx : x = 0
    · subst hx; rfl
    · have h1 : x.toNat ≠ 0 := fun e => hx (UInt8.toNat_inj.1 e)
      have h2 : (x == 0) = false := by simpa using hx
      rw [h2]
      have h3 : (x.toNat : Int) ≠ 0 := by omega
      simpa using h3
  exact e
theorem I_nat (d : Nat) : Value.agg #[.bool false, .string (mag d)] = I (d : Int) := (made_F d)
theorem flo_q {q : Rat} (h : q.num < 0) : Value.agg #[.bool (decide (sg (decide (q.num < 0)) (q.num.natAbs / q.den) < 0)), .string (mag (sg (decide (q.num < 0)) (q.num.natAbs / q.den)).natAbs), .bool false, .string ⟨#[]⟩] = Q ((sg true (q.num.natAbs / q.den) : Int) : Rat) := by
  rw [Q_int, decide_eq_true h]
/-- canonical integers -/
theorem okI_z {b : Bool} {s : ByteArray} (h : badI b s = false) : ∃ z : Int, b = decide (z < 0) ∧ s = mag z.natAbs := by
  unfold badI at h
  rw [Bool.or_eq_false_iff] at h
  obtain ⟨h1, h2⟩ := h
  have hs : mag (natL s.data.toList) = s := mag_natB (s := s) (fun e => by rw [e] at h2; cases h2)
  by_cases h0 : natL s.data.toList = 0
  · refine ⟨0, ?_, ?_⟩
    · rw [h0, mag_zero] at hs
      rw [← hs, beq_ee] at h1
      simpa using h1
    · rw [h0] at hs; rw [← hs]; rfl
  · refine ⟨if b then -(natL s.data.toList : Int) else natL s.data.toList, ?_, ?_⟩
    · cases b
      · simp only [Bool.false_eq_true, if_false]; rw [decide_eq_false (by omega)]
      · simp only [if_true]; rw [decide_eq_true (by omega)]
    · cases b
      · simpa using hs.symm
      · simpa using hs.symm
theorem okI_d {s : ByteArray} (h : (s == ⟨#[]⟩) = false) (h2 : badI false s = false) : ∃ d : Nat, 0 < d ∧ s = mag d := by
  obtain ⟨z, hz, rfl⟩ := okI_z h2
  refine ⟨z.natAbs, Nat.pos_of_ne_zero fun e => ?_, rfl⟩
  rw [e, mag_zero, beq_ee] at h; cases h
/-- Is it a fraction? -/
noncomputable def isQ (b1 : Bool) (s1 : ByteArray) (b2 : Bool) (s2 : ByteArray) : Bool := @decide (∃ q : Rat, Value.agg #[.bool b1, .string s1, .bool b2, .string s2] = Q q) (Classical.propDecidable _)
theorem isQ_iff {b1 : Bool} {s1 : ByteArray} {b2 : Bool} {s2 : ByteArray} : isQ b1 s1 b2 s2 = true ↔ ∃ q : Rat, b1 = decide (q.num < 0) ∧ s1 = mag q.num.natAbs ∧ b2 = false ∧ s2 = dm q := by
  unfold isQ
  rw [@decide_eq_true_iff _ (Classical.propDecidable _)]
  constructor
  · rintro ⟨q, h⟩
    unfold Q at h
    simp only [Value.agg.injEq, Array.mk.injEq, List.cons.injEq, Value.bool.injEq, Value.string.injEq, and_true] at h
    exact ⟨q, h⟩
  · rintro ⟨q, rfl, rfl, rfl, rfl⟩
    exact ⟨q, rfl⟩
theorem isQ_neg {b1 : Bool} {s1 : ByteArray} {b2 : Bool} {s2 : ByteArray} (h : ¬ ∃ q : Rat, b1 = decide (q.num < 0) ∧ s1 = mag q.num.natAbs ∧ b2 = false ∧ s2 = dm q) : isQ b1 s1 b2 s2 = false := by
  rw [← isQ_iff] at h; simpa using h
theorem badI_I (z : Int) : badI (decide (z < 0)) (mag z.natAbs) = false := by
  unfold badI
  rw [Bool.or_eq_false_iff]
  refine ⟨?_, ?_⟩
  · rw [beq_empty]
    by_cases h : z.natAbs = 0
    · have : z = 0 := by omega
      subst this; rfl
    · simp [h]
  · have := canB_mag z.natAbs
    unfold CanB at this
    simpa using this
theorem dm_bad (q : Rat) : badI false (dm q) = false := by
  have h1 : (0 : Int) ≤ q.den := by omega
  unfold dm
  split
  · unfold badI; rfl
  · have := badI_I (q.den : Int)
    rwa [decide_eq_false (by omega), Int.natAbs_natCast] at this
theorem isQ_1 {b1 : Bool} {s1 : ByteArray} {b2 : Bool} {s2 : ByteArray} (h : badI b1 s1 = true) : isQ b1 s1 b2 s2 = false := isQ_neg fun ⟨q, h1, h2, _, _⟩ => by
  rw [h1, h2, badI_I] at h; cases h
theorem isQ_2 {b1 : Bool} {s1 : ByteArray} {b2 : Bool} {s2 : ByteArray} (h : badI b2 s2 = true) : isQ b1 s1 b2 s2 = false := isQ_neg fun ⟨q, h1, h2, h3, h4⟩ => by
  rw [h3, h4, dm_bad] at h; cases h
theorem isQ_3 {b1 : Bool} {s1 : ByteArray} {s2 : ByteArray} : isQ b1 s1 true s2 = false := isQ_neg fun ⟨q, h1, h2, h3, h4⟩ => by cases h3
theorem isQ_4 {b1 : Bool} {s1 : ByteArray} {s2 : ByteArray} (h : badI b1 s1 = false) (h2 : s2 = ⟨#[]⟩) : isQ b1 s1 false s2 = true := by
  obtain ⟨z, rfl, rfl⟩ := okI_z h
  exact isQ_iff.2 ⟨(z : Rat), by rw [Rat.num_intCast], by rw [Rat.num_intCast], rfl, by unfold dm; rw [Rat.den_intCast, if_pos rfl, h2]⟩
theorem mag_inj8 {m n : Nat} (h : mag m = mag n) : m = n := mag_inj.1 h
theorem gcd1_q {z : Int} {d : Nat} (hd : 0 < d) (h : Nat.gcd z.natAbs d = 1) : ∃ q : Rat, q.num = z ∧ q.den = d := ⟨⟨z, d, by omega, h⟩, rfl, rfl⟩
theorem isQ_yes {z : Int} {d : Nat} (hd : 0 < d) (h1 : d ≠ 1) (h : Nat.gcd z.natAbs d = 1) : isQ (decide (z < 0)) (mag z.natAbs) false (mag d) = true := by
  obtain ⟨q, rfl, rfl⟩ := gcd1_q hd h
  exact isQ_iff.2 ⟨q, rfl, rfl, rfl, by unfold dm; rw [if_neg h1]⟩
theorem isQ_no {z : Int} {d : Nat} (hd : 0 < d) (h : d = 1 ∨ Nat.gcd z.natAbs d ≠ 1) {b : Bool} : isQ b (mag z.natAbs) false (mag d) = false := isQ_neg fun ⟨q, h1, h2, h3, h4⟩ => by
  unfold dm at h4
  have h2 := mag_inj8 h2
  split at h4
  · rename_i h5
    have : mag d = mag 0 := by rw [h4, mag_zero]
    have := mag_inj8 this
    omega
  · rename_i h5
    have := mag_inj8 h4
    subst this
    rcases h with h | h
    · exact h5 h
    · exact h (by rw [h2]; exact q.reduced)
theorem isQ_5 {z : Int} {d : Nat} (hd0 : 0 < d) (hd1 : d ≠ 1) (hg : nb (Nat.gcd z.natAbs d) = 1) : (((Nat.gcd z.natAbs d / 256 ^ 0 % 256 : Nat) : Int) == 1) = isQ (decide (z < 0)) (mag z.natAbs) false (mag d) := by
  rw [dig_one hg]
  by_cases h : Nat.gcd z.natAbs d = 1
  · rw [isQ_yes hd0 hd1 h, h]; rfl
  · rw [isQ_no hd0 (.inr h)]
    have : ((Nat.gcd z.natAbs d : Nat) : Int) ≠ 1 := by omega
    simpa using this
theorem isQ_6 {z : Int} {d : Nat} (hd0 : 0 < d) (hg : Nat.gcd z.natAbs d ≠ 1) : false = isQ (decide (z < 0)) (mag z.natAbs) false (mag d) := (isQ_no hd0 (.inr hg)).symm
theorem isQ_7 {z : Int} {d : Nat} (hd1 : d = 1) : false = isQ (decide (z < 0)) (mag z.natAbs) false (mag d) := (isQ_no (by omega) (.inl hd1)).symm
theorem mag_one1 : mag 1 = ⟨#[1]⟩ := mag_one
theorem mag_ne1 {d : Nat} (h : (mag d != ⟨#[1]⟩) = true) : d ≠ 1 := fun e => by
  subst e; rw [mag_one1, bne, beq_ba] at h; simp at h
theorem mag_eq1 {d : Nat} (h : (mag d != ⟨#[1]⟩) = false) : d = 1 := by
  rw [← mag_one1, bne, beq_ba] at h
  have : mag d = mag 1 := by simpa using h
  exact mag_inj8 this
end Go.Via
set_option linter.unusedVariables false
namespace Go.Proofs.YthnlafhnpphdhaaGreatDoor
open Go Go.RowKit Go.Via
set_option maxRecDepth 20000 in
theorem c_integer_Negate (z : Int) : PCall Tryz.prog 116 #[I z] (I (-z)) := by
 refine ⟨by kernel_rfl, fun w => ?_⟩
 refine calls_at (args := [I z]) Tryz.func116 rfl (Nat.le_of_ble_eq_true rfl) (LRel.nil w) ?_
 show At w ⟨9, [(0, I z)], []⟩ _
 refine at_seq ?_
 refine at_region ?_
 refine r_box [_, _] 2 (fun g => [⟨some g, 23, _, 2, true⟩]) rfl rfl rfl rfl rfl (fun _ => rfl) (fun g0 => ?_)
 refine r_alloc [_, _] 2 (fun g => [_, ⟨some g, 23, _, 2, true⟩]) rfl rfl z23 rfl rfl (fun _ => rfl) (fun g1 => ?_)
 refine run_nil ?_
 refine at_tn ?_
 refine at_seq ?_
 refine at_region ?_
 refine r_fieldAddr 0 0 0 rfl rfl rfl rfl rfl ti23 rfl rfl ?_
 refine r_load 0 0 [_] rfl rfl rfl rfl ti4 rfl rfl rfl rfl ?_
 refine r_not rfl rfl rfl ?_
 refine r_fieldAddr 0 0 1 rfl rfl rfl rfl rfl ti23 rfl rfl ?_
 refine r_load 0 1 [_] rfl rfl rfl rfl ti9 rfl rfl rfl rfl ?_
 refine r_pcall [_, _] rfl rfl rfl (c_integer_made _ _) ?_
 refine r_store rfl 1 0 [_, ⟨some g1, 23, _, 2, true⟩] [_, _] rfl rfl rfl rfl ti23 rfl rfl rfl rfl rfl ?_
 refine run_nil ?_
 refine at_tn ?_
 refine at_ret ?_
 refine at_end1 rfl (res_cell 1 rfl rfl ti23 (vs := [_, _]) rfl rfl (Nat.le_of_ble_eq_true rfl) rfl) (fun w hL => ⟨?_, hL.below⟩)
 exact congrArg (fun z => Ending.returned (I z)) (negate_val z)
set_option maxRecDepth 20000 in
theorem c_integer_Add (a b : Int) (ha : szI a ≤ 67108864) (hb : szI b ≤ 67108864) : PCall Tryz.prog 94 #[I a, I b] (I (a + b)) := by
 refine ⟨by kernel_rfl, fun w => ?_⟩
 refine calls_at (args := [I a, I b]) Tryz.func94 rfl (Nat.le_of_ble_eq_true rfl) (LRel.nil w) ?_
 show At w ⟨42, [(0, I a), (1, I b)], []⟩ _
 refine at_seq ?_
 refine at_region ?_
 refine r_box [_, _] 2 (fun g => [⟨some g, 23, _, 2, true⟩]) rfl rfl rfl rfl rfl (fun _ => rfl) (fun g0 => ?_)
 refine r_box [_, _] 2 (fun g => [_, ⟨some g, 23, _, 2, true⟩]) rfl rfl rfl rfl rfl (fun _ => rfl) (fun g1 => ?_)
 refine r_alloc [_, _] 2 (fun g => [_, _, ⟨some g, 23, _, 2, true⟩]) rfl rfl z23 rfl rfl (fun _ => rfl) (fun g2 => ?_)
 refine run_nil ?_
 refine at_tn ?_
 refine at_seq ?_
 refine at_block ?_
 refine at_seq ?_
 refine at_region ?_
 refine r_fieldAddr 0 0 0 rfl rfl rfl rfl rfl ti23 rfl rfl ?_
 refine r_load 0 0 [_] rfl rfl rfl rfl ti4 rfl rfl rfl rfl ?_
 refine r_fieldAddr 1 0 0 rfl rfl rfl rfl rfl ti23 rfl rfl ?_
 refine r_load 1 0 [_] rfl rfl rfl rfl ti4 rfl rfl rfl rfl ?_
 refine r_eqlBool rfl u4 rfl rfl rfl ?_
 refine r_assign rfl rfl rfl ?_
 refine run_nil ?_
 refine at_tn ?_
 refine at_cond rfl (fun hb0 => ?_) (fun hb0 => ?_)
 ·
  refine at_seq ?_
  refine at_drawn (l' := [⟨_,_,_,_,_,_⟩, ⟨_,_,_,_,_,_⟩, ⟨_,_,_,_,_,_⟩, ⟨_,_,_,_,_,_⟩, ⟨_,_,_,_,_,_⟩, ⟨_,_,_,_,_,_⟩, ⟨_,_,_,_,_,_⟩, ⟨_,_,_,_,_,_⟩, ⟨_,_,_,_,_,_⟩]) [] [0, 1, 2, 3, 4, 5, 6, 7, 8] mixed (by kernel_rfl) rfl (by kernel_rfl) ?_
  refine r_fieldAddr 0 0 0 rfl rfl rfl rfl rfl ti23 rfl rfl ?_
  refine r_load 0 0 [_] rfl rfl rfl rfl ti4 rfl rfl rfl rfl ?_
  refine r_fieldAddr 0 0 1 rfl rfl rfl rfl rfl ti23 rfl rfl ?_
  refine r_load 0 1 [_] rfl rfl rfl rfl ti9 rfl rfl rfl rfl ?_
  refine r_fieldAddr 1 0 1 rfl rfl rfl rfl rfl ti23 rfl rfl ?_
  refine r_load 1 1 [_] rfl rfl rfl rfl ti9 rfl rfl rfl rfl ?_
  refine r_pcall [_, _] rfl rfl rfl (c_integer_add _ _ ha hb) ?_
  refine r_pcall [_, _] rfl rfl rfl (c_integer_made _ _) ?_
  refine r_store rfl 2 0 [_, _, ⟨some g2, 23, _, 2, true⟩] [_, _] rfl rfl rfl rfl ti23 rfl rfl rfl rfl rfl ?_
  refine run_nil ?_
  refine at_tn ?_
  refine at_ret ?_
  refine at_br ?_
  refine at_tr ?_
  refine at_end1 rfl (res_cell 2 rfl rfl ti23 (vs := [_, _]) rfl rfl (Nat.le_of_ble_eq_true rfl) rfl) (fun w hL => ⟨?_, hL.below⟩)
  exact congrArg (fun z => Ending.returned (I z)) (add_same a b hb0)
 ·
  refine at_seq ?_
  refine at_region ?_
  refine r_fieldAddr 0 0 1 rfl rfl rfl rfl rfl ti23 rfl rfl ?_
  refine r_load 0 1 [_] rfl rfl rfl rfl ti9 rfl rfl rfl rfl ?_
  refine r_fieldAddr 1 0 1 rfl rfl rfl rfl rfl ti23 rfl rfl ?_
  refine r_load 1 1 [_] rfl rfl rfl rfl ti9 rfl rfl rfl rfl ?_
  refine r_pcall [_, _] rfl rfl rfl (c_integer_compare _ _) ?_
  refine r_cmpInt rfl rfl rfl rfl rfl ?_
  refine r_assign rfl rfl rfl ?_
  refine run_nil ?_
  refine at_tn ?_
  refine at_cond rfl (fun hb1 => ?_) (fun hb1 => ?_)
  ·
   refine at_seq ?_
   refine at_drawn (l' := [⟨_,_,_,_,_,_⟩, ⟨_,_,_,_,_,_⟩, ⟨_,_,_,_,_,_⟩, ⟨_,_,_,_,_,_⟩, ⟨_,_,_,_,_,_⟩, ⟨_,_,_,_,_,_⟩, ⟨_,_,_,_,_,_⟩, ⟨_,_,_,_,_,_⟩, ⟨_,_,_,_,_,_⟩]) [] [0, 1, 2, 3, 4, 5, 6, 7, 8] mixed (by kernel_rfl) rfl (by kernel_rfl) ?_
   refine r_fieldAddr 0 0 0 rfl rfl rfl rfl rfl ti23 rfl rfl ?_
   refine r_load 0 0 [_] rfl rfl rfl rfl ti4 rfl rfl rfl rfl ?_
   refine r_fieldAddr 0 0 1 rfl rfl rfl rfl rfl ti23 rfl rfl ?_
   refine r_load 0 1 [_] rfl rfl rfl rfl ti9 rfl rfl rfl rfl ?_
   refine r_fieldAddr 1 0 1 rfl rfl rfl rfl rfl ti23 rfl rfl ?_
   refine r_load 1 1 [_] rfl rfl rfl rfl ti9 rfl rfl rfl rfl ?_
   refine r_pcall [_, _] rfl rfl rfl (c_integer_sub _ _ ha (cmpN_ge _ _ hb1)) ?_
   refine r_pcall [_, _] rfl rfl rfl (c_integer_made _ _) ?_
   refine r_store rfl 2 0 [_, _, ⟨some g2, 23, _, 2, true⟩] [_, _] rfl rfl rfl rfl ti23 rfl rfl rfl rfl rfl ?_
   refine run_nil ?_
   refine at_tn ?_
   refine at_ret ?_
   refine at_br ?_
   refine at_tr ?_
   refine at_end1 rfl (res_cell 2 rfl rfl ti23 (vs := [_, _]) rfl rfl (Nat.le_of_ble_eq_true rfl) rfl) (fun w hL => ⟨?_, hL.below⟩)
   exact congrArg (fun z => Ending.returned (I z)) (add_diff1 a b hb0 (cmpN_ge _ _ hb1))
  ·
   refine at_skip ?_
   refine at_bn ?_
   refine at_tn ?_
   refine at_seq ?_
   refine at_drawn (l' := [⟨_,_,_,_,_,_⟩, ⟨_,_,_,_,_,_⟩, ⟨_,_,_,_,_,_⟩, ⟨_,_,_,_,_,_⟩, ⟨_,_,_,_,_,_⟩, ⟨_,_,_,_,_,_⟩, ⟨_,_,_,_,_,_⟩, ⟨_,_,_,_,_,_⟩, ⟨_,_,_,_,_,_⟩]) [] [0, 1, 2, 3, 4, 5, 6, 7, 8] mixed (by kernel_rfl) rfl (by kernel_rfl) ?_
   refine r_fieldAddr 1 0 0 rfl rfl rfl rfl rfl ti23 rfl rfl ?_
   refine r_load 1 0 [_] rfl rfl rfl rfl ti4 rfl rfl rfl rfl ?_
   refine r_fieldAddr 1 0 1 rfl rfl rfl rfl rfl ti23 rfl rfl ?_
   refine r_load 1 1 [_] rfl rfl rfl rfl ti9 rfl rfl rfl rfl ?_
   refine r_fieldAddr 0 0 1 rfl rfl rfl rfl rfl ti23 rfl rfl ?_
   refine r_load 0 1 [_] rfl rfl rfl rfl ti9 rfl rfl rfl rfl ?_
   refine r_pcall [_, _] rfl rfl rfl (c_integer_sub _ _ hb (cmpN_lt _ _ hb1)) ?_
   refine r_pcall [_, _] rfl rfl rfl (c_integer_made _ _) ?_
   refine r_store rfl 2 0 [_, _, ⟨some g2, 23, _, 2, true⟩] [_, _] rfl rfl rfl rfl ti23 rfl rfl rfl rfl rfl ?_
   refine run_nil ?_
   refine at_tn ?_
   refine at_ret ?_
   refine at_end1 rfl (res_cell 2 rfl rfl ti23 (vs := [_, _]) rfl rfl (Nat.le_of_ble_eq_true rfl) rfl) (fun w hL => ⟨?_, hL.below⟩)
   exact congrArg (fun z => Ending.returned (I z)) (add_diff2 a b hb0 (cmpN_lt _ _ hb1))
set_option maxRecDepth 20000 in
theorem c_integer_Mul (a b : Int) (ha : szI a ≤ 67108864) (hb : szI b ≤ 67108864) : PCall Tryz.prog 102 #[I a, I b] (I (a * b)) := by
 refine ⟨by kernel_rfl, fun w => ?_⟩
 refine calls_at (args := [I a, I b]) Tryz.func102 rfl (Nat.le_of_ble_eq_true rfl) (LRel.nil w) ?_
 show At w ⟨16, [(0, I a), (1, I b)], []⟩ _
 refine at_seq ?_
 refine at_region ?_
 refine r_box [_, _] 2 (fun g => [⟨some g, 23, _, 2, true⟩]) rfl rfl rfl rfl rfl (fun _ => rfl) (fun g0 => ?_)
 refine r_box [_, _] 2 (fun g => [_, ⟨some g, 23, _, 2, true⟩]) rfl rfl rfl rfl rfl (fun _ => rfl) (fun g1 => ?_)
 refine r_alloc [_, _] 2 (fun g => [_, _, ⟨some g, 23, _, 2, true⟩]) rfl rfl z23 rfl rfl (fun _ => rfl) (fun g2 => ?_)
 refine run_nil ?_
 refine at_tn ?_
 refine at_seq ?_
 refine at_drawn (l' := [⟨_,_,_,_,_,_⟩, ⟨_,_,_,_,_,_⟩, ⟨_,_,_,_,_,_⟩, ⟨_,_,_,_,_,_⟩, ⟨_,_,_,_,_,_⟩, ⟨_,_,_,_,_,_⟩, ⟨_,_,_,_,_,_⟩, ⟨_,_,_,_,_,_⟩, ⟨_,_,_,_,_,_⟩, ⟨_,_,_,_,_,_⟩, ⟨_,_,_,_,_,_⟩, ⟨_,_,_,_,_,_⟩]) [] [0, 1, 2, 3, 4, 5, 6, 7, 8, 9, 10, 11] mixed (by kernel_rfl) rfl (by kernel_rfl) ?_
 refine r_fieldAddr 0 0 0 rfl rfl rfl rfl rfl ti23 rfl rfl ?_
 refine r_load 0 0 [_] rfl rfl rfl rfl ti4 rfl rfl rfl rfl ?_
 refine r_fieldAddr 1 0 0 rfl rfl rfl rfl rfl ti23 rfl rfl ?_
 refine r_load 1 0 [_] rfl rfl rfl rfl ti4 rfl rfl rfl rfl ?_
 refine r_neqBool rfl u4 rfl rfl rfl ?_
 refine r_fieldAddr 0 0 1 rfl rfl rfl rfl rfl ti23 rfl rfl ?_
 refine r_load 0 1 [_] rfl rfl rfl rfl ti9 rfl rfl rfl rfl ?_
 refine r_fieldAddr 1 0 1 rfl rfl rfl rfl rfl ti23 rfl rfl ?_
 refine r_load 1 1 [_] rfl rfl rfl rfl ti9 rfl rfl rfl rfl ?_
 refine r_pcall [_, _] rfl rfl rfl (c_integer_mul _ _ ha hb) ?_
 refine r_pcall [_, _] rfl rfl rfl (c_integer_made _ _) ?_
 refine r_store rfl 2 0 [_, _, ⟨some g2, 23, _, 2, true⟩] [_, _] rfl rfl rfl rfl ti23 rfl rfl rfl rfl rfl ?_
 refine run_nil ?_
 refine at_tn ?_
 refine at_ret ?_
 refine at_end1 rfl (res_cell 2 rfl rfl ti23 (vs := [_, _]) rfl rfl (Nat.le_of_ble_eq_true rfl) rfl) (fun w hL => ⟨?_, hL.below⟩)
 exact congrArg (fun z => Ending.returned (I z)) (mul_val a b)
set_option maxRecDepth 20000 in
theorem c_integer_DivMod (a b : Int) (ha : szI a ≤ 33554432) (hb : szI b ≤ 33554432) (h0 : b ≠ 0) : PCall Tryz.prog 128 #[I a, I b] (.tuple #[I (a / b), I (a % b), .int .i64 0]) := by
 have szle : nb a.natAbs ≤ 67108864 := Nat.le_trans ha (Nat.le_of_ble_eq_true rfl)
 have szle2 : nb b.natAbs ≤ 67108864 := Nat.le_trans hb (Nat.le_of_ble_eq_true rfl)
 refine ⟨by kernel_rfl, fun w => ?_⟩
 refine calls_at (args := [I a, I b]) Tryz.func128 rfl (Nat.le_of_ble_eq_true rfl) (LRel.nil w) ?_
 show At w ⟨43, [(0, I a), (1, I b)], []⟩ _
 refine at_seq ?_
 refine at_region ?_
 refine r_box [_, _] 2 (fun g => [⟨some g, 23, _, 2, true⟩]) rfl rfl rfl rfl rfl (fun _ => rfl) (fun g0 => ?_)
 refine r_box [_, _] 2 (fun g => [_, ⟨some g, 23, _, 2, true⟩]) rfl rfl rfl rfl rfl (fun _ => rfl) (fun g1 => ?_)
 refine r_alloc [_, _] 2 (fun g => [_, _, ⟨some g, 23, _, 2, true⟩]) rfl rfl z23 rfl rfl (fun _ => rfl) (fun g2 => ?_)
 refine r_alloc [_, _] 2 (fun g => [_, _, _, ⟨some g, 23, _, 2, true⟩]) rfl rfl z23 rfl rfl (fun _ => rfl) (fun g3 => ?_)
 refine r_assign rfl rfl rfl ?_
 refine run_nil ?_
 refine at_tn ?_
 refine at_seq ?_
 refine at_seq ?_
 refine at_region ?_
 refine r_fieldAddr 1 0 1 rfl rfl rfl rfl rfl ti23 rfl rfl ?_
 refine r_load 1 1 [_] rfl rfl rfl rfl ti9 rfl rfl rfl rfl ?_
 refine r_eqlStr rfl rfl rfl rfl ?_
 refine run_nil ?_
 refine at_tn ?_
 refine at_cond rfl (fun hb0 => ?_) (fun hb0 => ?_)
 · exact absurd hb0 (by rw [beq_empty]; simp; omega)
 ·
  refine at_skip ?_
  refine at_tn ?_
  refine at_seq ?_
  refine at_region ?_
  refine r_fieldAddr 0 0 1 rfl rfl rfl rfl rfl ti23 rfl rfl ?_
  refine r_load 0 1 [_] rfl rfl rfl rfl ti9 rfl rfl rfl rfl ?_
  refine r_fieldAddr 1 0 1 rfl rfl rfl rfl rfl ti23 rfl rfl ?_
  refine r_load 1 1 [_] rfl rfl rfl rfl ti9 rfl rfl rfl rfl ?_
  refine r_pcall [_, _] rfl rfl rfl (c_integer_div _ _ (by first | assumption | grind [lI_add, lI_sub, lI_mul, lI_neg, lI_gcd, lI_num, lI_den, lQ_add, lQ_sub, lQ_mul, lQ_div, lQ_neg, l_nb]) (by first | assumption | grind [lI_add, lI_sub, lI_mul, lI_neg, lI_gcd, lI_num, lI_den, lQ_add, lQ_sub, lQ_mul, lQ_div, lQ_neg, l_nb]) (by omega)) ?_
  refine r_move rfl rfl rfl ?_
  refine r_extract (vs := [_, _]) rfl rfl rfl rfl ?_
  refine r_extract (vs := [_, _]) rfl rfl rfl rfl ?_
  refine r_assign rfl rfl rfl ?_
  refine r_assign rfl rfl rfl ?_
  refine run_nil ?_
  refine at_tn ?_
  refine at_seq ?_
  refine at_seq ?_
  refine at_region ?_
  refine r_fieldAddr 0 0 0 rfl rfl rfl rfl rfl ti23 rfl rfl ?_
  refine r_load 0 0 [_] rfl rfl rfl rfl ti4 rfl rfl rfl rfl ?_
  refine r_move rfl rfl rfl ?_
  refine r_split 24 rfl (fun hb1 => ?_) (fun hb1 => ?_)
  ·
   refine r_move rfl rfl rfl ?_
   refine r_neqStr rfl rfl rfl rfl ?_
   refine r_pickT rfl rfl rfl rfl ?_
   refine run_nil ?_
   refine at_tn ?_
   refine at_cond rfl (fun hb2 => ?_) (fun hb2 => ?_)
   ·
    refine at_drawn (l' := [⟨_,_,_,_,_,_⟩, ⟨_,_,_,_,_,_⟩, ⟨_,_,_,_,_,_⟩, ⟨_,_,_,_,_,_⟩, ⟨_,_,_,_,_,_⟩, ⟨_,_,_,_,_,_⟩, ⟨_,_,_,_,_,_⟩, ⟨_,_,_,_,_,_⟩]) [] [0, 2, 3, 4, 1, 5, 6, 7] mixed (by kernel_rfl) rfl (by kernel_rfl) ?_
    refine r_move rfl rfl rfl ?_
    refine r_fieldAddr 1 0 1 rfl rfl rfl rfl rfl ti23 rfl rfl ?_
    refine r_load 1 1 [_] rfl rfl rfl rfl ti9 rfl rfl rfl rfl ?_
    refine r_move rfl rfl rfl ?_
    refine r_pcall [_, .string (mag 1)] rfl rfl (by rw [mag_one]; rfl) (c_integer_add _ _ (Nat.le_trans (nb_div _ _) (Nat.le_trans ha (Nat.le_of_ble_eq_true rfl))) (Nat.le_trans (nb_le (k := 1) (by omega)) (Nat.le_of_ble_eq_true rfl))) ?_
    refine r_pcall [_, _] rfl rfl rfl (c_integer_sub _ _ (by first | assumption | grind [lI_add, lI_sub, lI_mul, lI_neg, lI_gcd, lI_num, lI_den, lQ_add, lQ_sub, lQ_mul, lQ_div, lQ_neg, l_nb]) (Nat.le_of_lt (Nat.mod_lt _ (by omega)))) ?_
    refine r_assign rfl rfl rfl ?_
    refine r_assign rfl rfl rfl ?_
    refine run_nil ?_
    refine at_tn ?_
    refine at_seq ?_
    refine at_region ?_
    refine r_fieldAddr 0 0 0 rfl rfl rfl rfl rfl ti23 rfl rfl ?_
    refine r_load 0 0 [_] rfl rfl rfl rfl ti4 rfl rfl rfl rfl ?_
    refine r_fieldAddr 1 0 0 rfl rfl rfl rfl rfl ti23 rfl rfl ?_
    refine r_load 1 0 [_] rfl rfl rfl rfl ti4 rfl rfl rfl rfl ?_
    refine r_neqBool rfl u4 rfl rfl rfl ?_
    refine r_move rfl rfl rfl ?_
    refine r_pcall [_, _] rfl rfl rfl (c_integer_made _ _) ?_
    refine r_move rfl rfl rfl ?_
    refine r_pcall [_, _] rfl rfl rfl (c_integer_made _ _) ?_
    refine r_store rfl 2 0 [_, _, ⟨some g2, 23, _, 2, true⟩, _] [_, _] rfl rfl rfl rfl ti23 rfl rfl rfl rfl rfl ?_
    refine r_store rfl 3 0 [_, _, _, ⟨some g3, 23, _, 2, true⟩] [_, _] rfl rfl rfl rfl ti23 rfl rfl rfl rfl rfl ?_
    refine r_assign rfl rfl rfl ?_
    refine run_nil ?_
    refine at_tn ?_
    refine at_ret ?_
    refine at_end3 rfl (res_cell 2 rfl rfl ti23 (vs := [_, _]) rfl rfl (Nat.le_of_ble_eq_true rfl) rfl) (res_cell 3 rfl rfl ti23 (vs := [_, _]) rfl rfl (Nat.le_of_ble_eq_true rfl) rfl) (res_tmp rfl) (fun w hL => ⟨?_, hL.below⟩)
    have e := divmod_T (a := a) (b := b) h0 (by simpa using hb1) (by rw [bne_empty] at hb2; simpa using hb2)
    rw [← e.1, ← e.2]; rfl
   ·
    refine at_skip ?_
    refine at_tn ?_
    refine at_seq ?_
    refine at_region ?_
    refine r_fieldAddr 0 0 0 rfl rfl rfl rfl rfl ti23 rfl rfl ?_
    refine r_load 0 0 [_] rfl rfl rfl rfl ti4 rfl rfl rfl rfl ?_
    refine r_fieldAddr 1 0 0 rfl rfl rfl rfl rfl ti23 rfl rfl ?_
    refine r_load 1 0 [_] rfl rfl rfl rfl ti4 rfl rfl rfl rfl ?_
    refine r_neqBool rfl u4 rfl rfl rfl ?_
    refine r_move rfl rfl rfl ?_
    refine r_pcall [_, _] rfl rfl rfl (c_integer_made _ _) ?_
    refine r_move rfl rfl rfl ?_
    refine r_pcall [_, _] rfl rfl rfl (c_integer_made _ _) ?_
    refine r_store rfl 2 0 [_, _, ⟨some g2, 23, _, 2, true⟩, _] [_, _] rfl rfl rfl rfl ti23 rfl rfl rfl rfl rfl ?_
    refine r_store rfl 3 0 [_, _, _, ⟨some g3, 23, _, 2, true⟩] [_, _] rfl rfl rfl rfl ti23 rfl rfl rfl rfl rfl ?_
    refine r_assign rfl rfl rfl ?_
    refine run_nil ?_
    refine at_tn ?_
    refine at_ret ?_
    refine at_end3 rfl (res_cell 2 rfl rfl ti23 (vs := [_, _]) rfl rfl (Nat.le_of_ble_eq_true rfl) rfl) (res_cell 3 rfl rfl ti23 (vs := [_, _]) rfl rfl (Nat.le_of_ble_eq_true rfl) rfl) (res_tmp rfl) (fun w hL => ⟨?_, hL.below⟩)
    have e := divmod_F (a := a) (b := b) h0 (.inr (by rw [bne_empty] at hb2; simpa using hb2))
    rw [← e.1, ← e.2]; rfl
  ·
   refine r_no rfl rfl rfl ?_
   refine r_no rfl rfl rfl ?_
   refine r_pickF rfl rfl rfl rfl ?_
   refine run_nil ?_
   refine at_tn ?_
   refine at_condF rfl ?_
   refine at_skip ?_
   refine at_tn ?_
   refine at_seq ?_
   refine at_region ?_
   refine r_fieldAddr 0 0 0 rfl rfl rfl rfl rfl ti23 rfl rfl ?_
   refine r_load 0 0 [_] rfl rfl rfl rfl ti4 rfl rfl rfl rfl ?_
   refine r_fieldAddr 1 0 0 rfl rfl rfl rfl rfl ti23 rfl rfl ?_
   refine r_load 1 0 [_] rfl rfl rfl rfl ti4 rfl rfl rfl rfl ?_
   refine r_neqBool rfl u4 rfl rfl rfl ?_
   refine r_move rfl rfl rfl ?_
   refine r_pcall [_, _] rfl rfl rfl (c_integer_made _ _) ?_
   refine r_move rfl rfl rfl ?_
   refine r_pcall [_, _] rfl rfl rfl (c_integer_made _ _) ?_
   refine r_store rfl 2 0 [_, _, ⟨some g2, 23, _, 2, true⟩, _] [_, _] rfl rfl rfl rfl ti23 rfl rfl rfl rfl rfl ?_
   refine r_store rfl 3 0 [_, _, _, ⟨some g3, 23, _, 2, true⟩] [_, _] rfl rfl rfl rfl ti23 rfl rfl rfl rfl rfl ?_
   refine r_assign rfl rfl rfl ?_
   refine run_nil ?_
   refine at_tn ?_
   refine at_ret ?_
   refine at_end3 rfl (res_cell 2 rfl rfl ti23 (vs := [_, _]) rfl rfl (Nat.le_of_ble_eq_true rfl) rfl) (res_cell 3 rfl rfl ti23 (vs := [_, _]) rfl rfl (Nat.le_of_ble_eq_true rfl) rfl) (res_tmp rfl) (fun w hL => ⟨?_, hL.below⟩)
   have e := divmod_F (a := a) (b := b) h0 (.inl (by simpa using hb1))
   rw [← e.1, ← e.2]; rfl
set_option maxRecDepth 20000 in
theorem c_rational_one  : PCall Tryz.prog 112 #[] (I 1) := by
 refine ⟨by kernel_rfl, fun w => ?_⟩
 refine calls_at (args := []) Tryz.func112 rfl (Nat.le_of_ble_eq_true rfl) (LRel.nil w) ?_
 show At w ⟨2, [], []⟩ _
 refine at_seq ?_
 refine at_region ?_
 refine r_alloc [_, _] 2 (fun g => [⟨some g, 23, _, 2, true⟩]) rfl rfl z23 rfl rfl (fun _ => rfl) (fun g0 => ?_)
 refine run_nil ?_
 refine at_tn ?_
 refine at_seq ?_
 refine at_region ?_
 refine r_pcall [_] rfl rfl rfl (c_integer_FromInt 1 (by omega) (by omega)) ?_
 refine r_store rfl 0 0 [⟨some g0, 23, _, 2, true⟩] [_, _] rfl rfl rfl rfl ti23 rfl rfl rfl rfl rfl ?_
 refine run_nil ?_
 refine at_tn ?_
 refine at_ret ?_
 refine at_end1 rfl (res_cell 0 rfl rfl ti23 (vs := [_, _]) rfl rfl (Nat.le_of_ble_eq_true rfl) rfl) (fun w hL => ⟨?_, hL.below⟩)
 exact rfl
set_option maxRecDepth 20000 in
theorem c_rational_quotient (a b : Int) (ha : szI a ≤ 33554432) (hb : szI b ≤ 33554432) (h0 : b ≠ 0) : PCall Tryz.prog 115 #[I a, I b] (I (a / b)) := by
 refine ⟨by kernel_rfl, fun w => ?_⟩
 refine calls_at (args := [I a, I b]) Tryz.func115 rfl (Nat.le_of_ble_eq_true rfl) (LRel.nil w) ?_
 show At w ⟨16, [(0, I a), (1, I b)], []⟩ _
 refine at_seq ?_
 refine at_region ?_
 refine r_box [_, _] 2 (fun g => [⟨some g, 23, _, 2, true⟩]) rfl rfl rfl rfl rfl (fun _ => rfl) (fun g0 => ?_)
 refine r_box [_, _] 2 (fun g => [_, ⟨some g, 23, _, 2, true⟩]) rfl rfl rfl rfl rfl (fun _ => rfl) (fun g1 => ?_)
 refine r_alloc [_, _] 2 (fun g => [_, _, ⟨some g, 23, _, 2, true⟩]) rfl rfl z23 rfl rfl (fun _ => rfl) (fun g2 => ?_)
 refine run_nil ?_
 refine at_tn ?_
 refine at_seq ?_
 refine at_region ?_
 refine r_load 0 0 [_, _] rfl rfl rfl rfl ti23 rfl rfl rfl rfl ?_
 refine r_load 1 0 [_, _] rfl rfl rfl rfl ti23 rfl rfl rfl rfl ?_
 refine r_pcall [_, _] rfl rfl rfl (c_integer_DivMod a b ha hb h0) ?_
 refine r_move rfl rfl rfl ?_
 refine r_extract (vs := [_, _, _]) rfl rfl rfl rfl ?_
 refine r_extract (vs := [_, _, _]) rfl rfl rfl rfl ?_
 refine r_extract (vs := [_, _, _]) rfl rfl rfl rfl ?_
 refine r_alloc [_, _] 2 (fun g => [_, _, _, ⟨some g, 23, _, 2, true⟩]) rfl rfl z23 rfl rfl (fun _ => rfl) (fun g3 => ?_)
 refine r_alloc [_, _] 2 (fun g => [_, _, _, _, ⟨some g, 23, _, 2, true⟩]) rfl rfl z23 rfl rfl (fun _ => rfl) (fun g4 => ?_)
 refine r_store rfl 3 0 [_, _, _, ⟨some g3, 23, _, 2, true⟩, _] [_, _] rfl rfl rfl rfl ti23 rfl rfl rfl rfl rfl ?_
 refine r_store rfl 4 0 [_, _, _, _, ⟨some g4, 23, _, 2, true⟩] [_, _] rfl rfl rfl rfl ti23 rfl rfl rfl rfl rfl ?_
 refine r_assign rfl rfl rfl ?_
 refine run_nil ?_
 refine at_tn ?_
 refine at_seq ?_
 refine at_region ?_
 refine r_load 3 0 [_, _] rfl rfl rfl rfl ti23 rfl rfl rfl rfl ?_
 refine r_store rfl 2 0 [_, _, ⟨some g2, 23, _, 2, true⟩, _, _] [_, _] rfl rfl rfl rfl ti23 rfl rfl rfl rfl rfl ?_
 refine run_nil ?_
 refine at_tn ?_
 refine at_ret ?_
 refine at_end1 rfl (res_cell 2 rfl rfl ti23 (vs := [_, _]) rfl rfl (Nat.le_of_ble_eq_true rfl) rfl) (fun w hL => ⟨?_, hL.below⟩)
 exact rfl
set_option maxRecDepth 20000 in
theorem c_rational_canonical (n d : Int) (hn : szI n ≤ 8388608) (hd : szI d ≤ 8388608) (h0 : d ≠ 0) : PCall Tryz.prog 93 #[I n, I d] (Q (Rat.divInt n d)) := by
 refine ⟨by kernel_rfl, fun w => ?_⟩
 refine calls_at (args := [I n, I d]) Tryz.func93 rfl (Nat.le_of_ble_eq_true rfl) (LRel.nil w) ?_
 show At w ⟨29, [(0, I n), (1, I d)], []⟩ _
 refine at_seq ?_
 refine at_region ?_
 refine r_box [_, _] 2 (fun g => [⟨some g, 23, _, 2, true⟩]) rfl rfl rfl rfl rfl (fun _ => rfl) (fun g0 => ?_)
 refine r_box [_, _] 2 (fun g => [_, ⟨some g, 23, _, 2, true⟩]) rfl rfl rfl rfl rfl (fun _ => rfl) (fun g1 => ?_)
 refine r_alloc [_, _, _, _] 4 (fun g => [_, _, ⟨some g, 25, _, 4, true⟩]) rfl rfl z25 rfl rfl (fun _ => rfl) (fun g2 => ?_)
 refine run_nil ?_
 refine at_tn ?_
 refine at_seq ?_
 refine at_seq ?_
 refine at_region ?_
 refine r_load 1 0 [_, _] rfl rfl rfl rfl ti23 rfl rfl rfl rfl ?_
 refine r_pcall [_] rfl rfl rfl (c_integer_Sign _) ?_
 refine r_cmpInt rfl rfl rfl rfl rfl ?_
 refine run_nil ?_
 refine at_tn ?_
 refine at_cond rfl (fun hb0 => ?_) (fun hb0 => ?_)
 ·
  refine at_drawn (l' := [⟨_,_,_,_,_,_⟩, ⟨_,_,_,_,_,_⟩, ⟨_,_,_,_,_,_⟩, ⟨_,_,_,_,_,_⟩, ⟨_,_,_,_,_,_⟩, ⟨_,_,_,_,_,_⟩]) [] [0, 2, 1, 3, 4, 5] mixed (by kernel_rfl) rfl (by kernel_rfl) ?_
  refine r_load 0 0 [_, _] rfl rfl rfl rfl ti23 rfl rfl rfl rfl ?_
  refine r_load 1 0 [_, _] rfl rfl rfl rfl ti23 rfl rfl rfl rfl ?_
  refine r_pcall [_] rfl rfl rfl (c_integer_Negate _) ?_
  refine r_pcall [_] rfl rfl rfl (c_integer_Negate _) ?_
  refine r_store rfl 0 0 [⟨some g0, 23, _, 2, true⟩, _, _] [_, _] rfl rfl rfl rfl ti23 rfl rfl rfl rfl rfl ?_
  refine r_store rfl 1 0 [_, ⟨some g1, 23, _, 2, true⟩, _] [_, _] rfl rfl rfl rfl ti23 rfl rfl rfl rfl rfl ?_
  refine run_nil ?_
  refine at_tn ?_
  refine at_seq ?_
  refine at_region ?_
  refine r_load 0 0 [_, _] rfl rfl rfl rfl ti23 rfl rfl rfl rfl ?_
  refine r_load 1 0 [_, _] rfl rfl rfl rfl ti23 rfl rfl rfl rfl ?_
  refine r_pcall [_, _] rfl rfl rfl (c_integer_Gcd _ _ (by first | assumption | grind [lI_add, lI_sub, lI_mul, lI_neg, lI_gcd, lI_num, lI_den, lQ_add, lQ_sub, lQ_mul, lQ_div, lQ_neg, l_nb]) (by first | assumption | grind [lI_add, lI_sub, lI_mul, lI_neg, lI_gcd, lI_num, lI_den, lQ_add, lQ_sub, lQ_mul, lQ_div, lQ_neg, l_nb])) ?_
  refine r_alloc [_, _] 2 (fun g => [_, _, _, ⟨some g, 23, _, 2, true⟩]) rfl rfl z23 rfl rfl (fun _ => rfl) (fun g3 => ?_)
  refine r_store rfl 3 0 [_, _, _, ⟨some g3, 23, _, 2, true⟩] [_, _] rfl rfl rfl rfl ti23 rfl rfl rfl rfl rfl ?_
  refine run_nil ?_
  refine at_tn ?_
  refine at_seq ?_
  refine at_drawn (l' := [⟨_,_,_,_,_,_⟩, ⟨_,_,_,_,_,_⟩, ⟨_,_,_,_,_,_⟩, ⟨_,_,_,_,_,_⟩, ⟨_,_,_,_,_,_⟩, ⟨_,_,_,_,_,_⟩, ⟨_,_,_,_,_,_⟩, ⟨_,_,_,_,_,_⟩]) [] [0, 1, 3, 4, 2, 5, 6, 7] mixed (by kernel_rfl) rfl (by kernel_rfl) ?_
  refine r_load 0 0 [_, _] rfl rfl rfl rfl ti23 rfl rfl rfl rfl ?_
  refine r_load 3 0 [_, _] rfl rfl rfl rfl ti23 rfl rfl rfl rfl ?_
  refine r_load 1 0 [_, _] rfl rfl rfl rfl ti23 rfl rfl rfl rfl ?_
  refine r_load 3 0 [_, _] rfl rfl rfl rfl ti23 rfl rfl rfl rfl ?_
  refine r_pcall [_, _] rfl rfl rfl (c_rational_quotient _ _ (by first | assumption | grind [lI_add, lI_sub, lI_mul, lI_neg, lI_gcd, lI_num, lI_den, lQ_add, lQ_sub, lQ_mul, lQ_div, lQ_neg, l_nb]) (by first | assumption | grind [lI_add, lI_sub, lI_mul, lI_neg, lI_gcd, lI_num, lI_den, lQ_add, lQ_sub, lQ_mul, lQ_div, lQ_neg, l_nb]) (gcd_ne (by omega))) ?_
  refine r_pcall [_, _] rfl rfl rfl (c_rational_quotient _ _ (by first | assumption | grind [lI_add, lI_sub, lI_mul, lI_neg, lI_gcd, lI_num, lI_den, lQ_add, lQ_sub, lQ_mul, lQ_div, lQ_neg, l_nb]) (by first | assumption | grind [lI_add, lI_sub, lI_mul, lI_neg, lI_gcd, lI_num, lI_den, lQ_add, lQ_sub, lQ_mul, lQ_div, lQ_neg, l_nb]) (gcd_ne (by omega))) ?_
  refine r_store rfl 0 0 [⟨some g0, 23, _, 2, true⟩, _, _, _] [_, _] rfl rfl rfl rfl ti23 rfl rfl rfl rfl rfl ?_
  refine r_store rfl 1 0 [_, ⟨some g1, 23, _, 2, true⟩, _, _] [_, _] rfl rfl rfl rfl ti23 rfl rfl rfl rfl rfl ?_
  refine run_nil ?_
  refine at_tn ?_
  refine at_seq ?_
  refine at_seq ?_
  refine at_drawn (l' := [⟨_,_,_,_,_,_⟩, ⟨_,_,_,_,_,_⟩, ⟨_,_,_,_,_,_⟩]) [] [0, 1, 2] mixed (by kernel_rfl) rfl (by kernel_rfl) ?_
  refine r_load 1 0 [_, _] rfl rfl rfl rfl ti23 rfl rfl rfl rfl ?_
  refine r_pcall [] rfl rfl rfl (c_rational_one) ?_
  refine r_eqlAgg rfl rfl rfl rfl gd23 (eq23 _ _) ?_
  refine run_nil ?_
  refine at_tn ?_
  refine at_cond rfl (fun hb1 => ?_) (fun hb1 => ?_)
  ·
   refine at_region ?_
   refine r_build [] rfl rfl rfl (bd23_0) ?_
   refine r_store rfl 1 0 [_, ⟨some g1, 23, _, 2, true⟩, _, _] [_, _] rfl rfl rfl rfl ti23 rfl rfl rfl rfl rfl ?_
   refine run_nil ?_
   refine at_tn ?_
   refine at_seq ?_
   refine at_region ?_
   refine r_load 0 0 [_, _] rfl rfl rfl rfl ti23 rfl rfl rfl rfl ?_
   refine r_load 1 0 [_, _] rfl rfl rfl rfl ti23 rfl rfl rfl rfl ?_
   refine r_build [(0, _), (1, _)] rfl rfl rfl (bd25_2) ?_
   refine r_store rfl 2 0 [_, _, ⟨some g2, 25, _, 4, true⟩, _] [_, _, _, _] rfl rfl rfl rfl ti25 rfl rfl rfl rfl rfl ?_
   refine run_nil ?_
   refine at_tn ?_
   refine at_ret ?_
   refine at_end1 rfl (res_cell 2 rfl rfl ti25 (vs := [_, _, _, _]) rfl rfl (Nat.le_of_ble_eq_true rfl) rfl) (fun w hL => ⟨?_, hL.below⟩)
   exact congrArg Ending.returned ((canon_1 (n := -n) (d := -d) (by have := sign_lt hb0; omega) (by simpa using hb1)).trans (by rw [Rat.neg_divInt_neg]))
  ·
   refine at_skip ?_
   refine at_tn ?_
   refine at_seq ?_
   refine at_region ?_
   refine r_load 0 0 [_, _] rfl rfl rfl rfl ti23 rfl rfl rfl rfl ?_
   refine r_load 1 0 [_, _] rfl rfl rfl rfl ti23 rfl rfl rfl rfl ?_
   refine r_build [(0, _), (1, _)] rfl rfl rfl (bd25_2) ?_
   refine r_store rfl 2 0 [_, _, ⟨some g2, 25, _, 4, true⟩, _] [_, _, _, _] rfl rfl rfl rfl ti25 rfl rfl rfl rfl rfl ?_
   refine run_nil ?_
   refine at_tn ?_
   refine at_ret ?_
   refine at_end1 rfl (res_cell 2 rfl rfl ti25 (vs := [_, _, _, _]) rfl rfl (Nat.le_of_ble_eq_true rfl) rfl) (fun w hL => ⟨?_, hL.below⟩)
   exact congrArg Ending.returned ((canon_2 (n := -n) (d := -d) (by have := sign_lt hb0; omega) (by simpa using hb1)).trans (by rw [Rat.neg_divInt_neg]))
 ·
  refine at_skip ?_
  refine at_tn ?_
  refine at_seq ?_
  refine at_region ?_
  refine r_load 0 0 [_, _] rfl rfl rfl rfl ti23 rfl rfl rfl rfl ?_
  refine r_load 1 0 [_, _] rfl rfl rfl rfl ti23 rfl rfl rfl rfl ?_
  refine r_pcall [_, _] rfl rfl rfl (c_integer_Gcd _ _ (by first | assumption | grind [lI_add, lI_sub, lI_mul, lI_neg, lI_gcd, lI_num, lI_den, lQ_add, lQ_sub, lQ_mul, lQ_div, lQ_neg, l_nb]) (by first | assumption | grind [lI_add, lI_sub, lI_mul, lI_neg, lI_gcd, lI_num, lI_den, lQ_add, lQ_sub, lQ_mul, lQ_div, lQ_neg, l_nb])) ?_
  refine r_alloc [_, _] 2 (fun g => [_, _, _, ⟨some g, 23, _, 2, true⟩]) rfl rfl z23 rfl rfl (fun _ => rfl) (fun g3 => ?_)
  refine r_store rfl 3 0 [_, _, _, ⟨some g3, 23, _, 2, true⟩] [_, _] rfl rfl rfl rfl ti23 rfl rfl rfl rfl rfl ?_
  refine run_nil ?_
  refine at_tn ?_
  refine at_seq ?_
  refine at_drawn (l' := [⟨_,_,_,_,_,_⟩, ⟨_,_,_,_,_,_⟩, ⟨_,_,_,_,_,_⟩, ⟨_,_,_,_,_,_⟩, ⟨_,_,_,_,_,_⟩, ⟨_,_,_,_,_,_⟩, ⟨_,_,_,_,_,_⟩, ⟨_,_,_,_,_,_⟩]) [] [0, 1, 3, 4, 2, 5, 6, 7] mixed (by kernel_rfl) rfl (by kernel_rfl) ?_
  refine r_load 0 0 [_, _] rfl rfl rfl rfl ti23 rfl rfl rfl rfl ?_
  refine r_load 3 0 [_, _] rfl rfl rfl rfl ti23 rfl rfl rfl rfl ?_
  refine r_load 1 0 [_, _] rfl rfl rfl rfl ti23 rfl rfl rfl rfl ?_
  refine r_load 3 0 [_, _] rfl rfl rfl rfl ti23 rfl rfl rfl rfl ?_
  refine r_pcall [_, _] rfl rfl rfl (c_rational_quotient _ _ (by first | assumption | grind [lI_add, lI_sub, lI_mul, lI_neg, lI_gcd, lI_num, lI_den, lQ_add, lQ_sub, lQ_mul, lQ_div, lQ_neg, l_nb]) (by first | assumption | grind [lI_add, lI_sub, lI_mul, lI_neg, lI_gcd, lI_num, lI_den, lQ_add, lQ_sub, lQ_mul, lQ_div, lQ_neg, l_nb]) (gcd_ne (by omega))) ?_
  refine r_pcall [_, _] rfl rfl rfl (c_rational_quotient _ _ (by first | assumption | grind [lI_add, lI_sub, lI_mul, lI_neg, lI_gcd, lI_num, lI_den, lQ_add, lQ_sub, lQ_mul, lQ_div, lQ_neg, l_nb]) (by first | assumption | grind [lI_add, lI_sub, lI_mul, lI_neg, lI_gcd, lI_num, lI_den, lQ_add, lQ_sub, lQ_mul, lQ_div, lQ_neg, l_nb]) (gcd_ne (by omega))) ?_
  refine r_store rfl 0 0 [⟨some g0, 23, _, 2, true⟩, _, _, _] [_, _] rfl rfl rfl rfl ti23 rfl rfl rfl rfl rfl ?_
  refine r_store rfl 1 0 [_, ⟨some g1, 23, _, 2, true⟩, _, _] [_, _] rfl rfl rfl rfl ti23 rfl rfl rfl rfl rfl ?_
  refine run_nil ?_
  refine at_tn ?_
  refine at_seq ?_
  refine at_seq ?_
  refine at_drawn (l' := [⟨_,_,_,_,_,_⟩, ⟨_,_,_,_,_,_⟩, ⟨_,_,_,_,_,_⟩]) [] [0, 1, 2] mixed (by kernel_rfl) rfl (by kernel_rfl) ?_
  refine r_load 1 0 [_, _] rfl rfl rfl rfl ti23 rfl rfl rfl rfl ?_
  refine r_pcall [] rfl rfl rfl (c_rational_one) ?_
  refine r_eqlAgg rfl rfl rfl rfl gd23 (eq23 _ _) ?_
  refine run_nil ?_
  refine at_tn ?_
  refine at_cond rfl (fun hb1 => ?_) (fun hb1 => ?_)
  ·
   refine at_region ?_
   refine r_build [] rfl rfl rfl (bd23_0) ?_
   refine r_store rfl 1 0 [_, ⟨some g1, 23, _, 2, true⟩, _, _] [_, _] rfl rfl rfl rfl ti23 rfl rfl rfl rfl rfl ?_
   refine run_nil ?_
   refine at_tn ?_
   refine at_seq ?_
   refine at_region ?_
   refine r_load 0 0 [_, _] rfl rfl rfl rfl ti23 rfl rfl rfl rfl ?_
   refine r_load 1 0 [_, _] rfl rfl rfl rfl ti23 rfl rfl rfl rfl ?_
   refine r_build [(0, _), (1, _)] rfl rfl rfl (bd25_2) ?_
   refine r_store rfl 2 0 [_, _, ⟨some g2, 25, _, 4, true⟩, _] [_, _, _, _] rfl rfl rfl rfl ti25 rfl rfl rfl rfl rfl ?_
   refine run_nil ?_
   refine at_tn ?_
   refine at_ret ?_
   refine at_end1 rfl (res_cell 2 rfl rfl ti25 (vs := [_, _, _, _]) rfl rfl (Nat.le_of_ble_eq_true rfl) rfl) (fun w hL => ⟨?_, hL.below⟩)
   exact congrArg Ending.returned (canon_1 (sign_ge hb0 h0) (by simpa using hb1))
  ·
   refine at_skip ?_
   refine at_tn ?_
   refine at_seq ?_
   refine at_region ?_
   refine r_load 0 0 [_, _] rfl rfl rfl rfl ti23 rfl rfl rfl rfl ?_
   refine r_load 1 0 [_, _] rfl rfl rfl rfl ti23 rfl rfl rfl rfl ?_
   refine r_build [(0, _), (1, _)] rfl rfl rfl (bd25_2) ?_
   refine r_store rfl 2 0 [_, _, ⟨some g2, 25, _, 4, true⟩, _] [_, _, _, _] rfl rfl rfl rfl ti25 rfl rfl rfl rfl rfl ?_
   refine run_nil ?_
   refine at_tn ?_
   refine at_ret ?_
   refine at_end1 rfl (res_cell 2 rfl rfl ti25 (vs := [_, _, _, _]) rfl rfl (Nat.le_of_ble_eq_true rfl) rfl) (fun w hL => ⟨?_, hL.below⟩)
   exact congrArg Ending.returned (canon_2 (sign_ge hb0 h0) (by simpa using hb1))
set_option maxRecDepth 20000 in
theorem c_rational_Den (q : Rat) : PCall Tryz.prog 103 #[Q q] (I q.den) := by
 refine ⟨by kernel_rfl, fun w => ?_⟩
 refine calls_at (args := [Q q]) Tryz.func103 rfl (Nat.le_of_ble_eq_true rfl) (LRel.nil w) ?_
 show At w ⟨10, [(0, Q q)], []⟩ _
 refine at_seq ?_
 refine at_region ?_
 refine r_box [_, _, _, _] 4 (fun g => [⟨some g, 25, _, 4, true⟩]) rfl rfl rfl rfl rfl (fun _ => rfl) (fun g0 => ?_)
 refine r_alloc [_, _] 2 (fun g => [_, ⟨some g, 23, _, 2, true⟩]) rfl rfl z23 rfl rfl (fun _ => rfl) (fun g1 => ?_)
 refine run_nil ?_
 refine at_tn ?_
 refine at_seq ?_
 refine at_seq ?_
 refine at_region ?_
 refine r_fieldAddr 0 0 2 rfl rfl rfl rfl rfl ti25 rfl rfl ?_
 refine r_load 0 2 [_, _] rfl rfl rfl rfl ti23 rfl rfl rfl rfl ?_
 refine r_build [] rfl rfl rfl (bd23_0) ?_
 refine r_eqlAgg rfl rfl rfl rfl gd23 (eq23r _ _ _ _) ?_
 refine run_nil ?_
 refine at_tn ?_
 refine at_cond rfl (fun hb0 => ?_) (fun hb0 => ?_)
 ·
  refine at_seq ?_
  refine at_region ?_
  refine r_pcall [] rfl rfl rfl (c_rational_one) ?_
  refine r_store rfl 1 0 [_, ⟨some g1, 23, _, 2, true⟩] [_, _] rfl rfl rfl rfl ti23 rfl rfl rfl rfl rfl ?_
  refine run_nil ?_
  refine at_tn ?_
  refine at_ret ?_
  refine at_tr ?_
  refine at_end1 rfl (res_cell 1 rfl rfl ti23 (vs := [_, _]) rfl rfl (Nat.le_of_ble_eq_true rfl) rfl) (fun w hL => ⟨?_, hL.below⟩)
  exact congrArg Ending.returned (den_T hb0)
 ·
  refine at_skip ?_
  refine at_tn ?_
  refine at_seq ?_
  refine at_region ?_
  refine r_fieldAddr 0 0 2 rfl rfl rfl rfl rfl ti25 rfl rfl ?_
  refine r_load 0 2 [_, _] rfl rfl rfl rfl ti23 rfl rfl rfl rfl ?_
  refine r_store rfl 1 0 [_, ⟨some g1, 23, _, 2, true⟩] [_, _] rfl rfl rfl rfl ti23 rfl rfl rfl rfl rfl ?_
  refine run_nil ?_
  refine at_tn ?_
  refine at_ret ?_
  refine at_end1 rfl (res_cell 1 rfl rfl ti23 (vs := [_, _]) rfl rfl (Nat.le_of_ble_eq_true rfl) rfl) (fun w hL => ⟨?_, hL.below⟩)
  exact congrArg Ending.returned (den_F hb0)
set_option maxRecDepth 20000 in
theorem c_rational_cross (p q : Rat) (hp : szQ p ≤ 4194303) (hq : szQ q ≤ 4194303) : PCall Tryz.prog 92 #[Q p, Q q] (.tuple #[I (crossX p q), I (crossY p q), I (crossD p q)]) := by
 refine ⟨by kernel_rfl, fun w => ?_⟩
 refine calls_at (args := [Q p, Q q]) Tryz.func92 rfl (Nat.le_of_ble_eq_true rfl) (LRel.nil w) ?_
 show At w ⟨33, [(0, Q p), (1, Q q)], []⟩ _
 refine at_seq ?_
 refine at_region ?_
 refine r_box [_, _, _, _] 4 (fun g => [⟨some g, 25, _, 4, true⟩]) rfl rfl rfl rfl rfl (fun _ => rfl) (fun g0 => ?_)
 refine r_box [_, _, _, _] 4 (fun g => [_, ⟨some g, 25, _, 4, true⟩]) rfl rfl rfl rfl rfl (fun _ => rfl) (fun g1 => ?_)
 refine r_alloc [_, _] 2 (fun g => [_, _, ⟨some g, 23, _, 2, true⟩]) rfl rfl z23 rfl rfl (fun _ => rfl) (fun g2 => ?_)
 refine r_alloc [_, _] 2 (fun g => [_, _, _, ⟨some g, 23, _, 2, true⟩]) rfl rfl z23 rfl rfl (fun _ => rfl) (fun g3 => ?_)
 refine r_alloc [_, _] 2 (fun g => [_, _, _, _, ⟨some g, 23, _, 2, true⟩]) rfl rfl z23 rfl rfl (fun _ => rfl) (fun g4 => ?_)
 refine run_nil ?_
 refine at_tn ?_
 refine at_seq ?_
 refine at_seq ?_
 refine at_region ?_
 refine r_fieldAddr 0 0 2 rfl rfl rfl rfl rfl ti25 rfl rfl ?_
 refine r_load 0 2 [_, _] rfl rfl rfl rfl ti23 rfl rfl rfl rfl ?_
 refine r_fieldAddr 1 0 2 rfl rfl rfl rfl rfl ti25 rfl rfl ?_
 refine r_load 1 2 [_, _] rfl rfl rfl rfl ti23 rfl rfl rfl rfl ?_
 refine r_eqlAgg rfl rfl rfl rfl gd23 (eq23r _ _ _ _) ?_
 refine run_nil ?_
 refine at_tn ?_
 refine at_cond rfl (fun hb0 => ?_) (fun hb0 => ?_)
 ·
  refine at_seq ?_
  refine at_drawn (l' := [⟨_,_,_,_,_,_⟩, ⟨_,_,_,_,_,_⟩, ⟨_,_,_,_,_,_⟩, ⟨_,_,_,_,_,_⟩, ⟨_,_,_,_,_,_⟩, ⟨_,_,_,_,_,_⟩, ⟨_,_,_,_,_,_⟩, ⟨_,_,_,_,_,_⟩, ⟨_,_,_,_,_,_⟩]) [2, 3, 4] [0, 1, 2, 3, 4, 5, 6, 7, 8] mixed (by kernel_rfl) rfl (by kernel_rfl) ?_
  refine r_fieldAddr 0 0 0 rfl rfl rfl rfl rfl ti25 rfl rfl ?_
  refine r_load 0 0 [_, _] rfl rfl rfl rfl ti23 rfl rfl rfl rfl ?_
  refine r_fieldAddr 1 0 0 rfl rfl rfl rfl rfl ti25 rfl rfl ?_
  refine r_load 1 0 [_, _] rfl rfl rfl rfl ti23 rfl rfl rfl rfl ?_
  refine r_load 0 0 [_, _, _, _] rfl rfl rfl rfl ti25 rfl rfl rfl rfl ?_
  refine r_pcall [_] rfl rfl rfl (c_rational_Den _) ?_
  refine r_storeE 2 0 [_, _, ⟨some g2, 23, _, 2, true⟩, _, _] [_, _] rfl rfl rfl rfl ti23 rfl rfl rfl rfl rfl rfl ?_
  refine r_storeE 3 0 [_, _, _, ⟨some g3, 23, _, 2, true⟩, _] [_, _] rfl rfl rfl rfl ti23 rfl rfl rfl rfl rfl rfl ?_
  refine r_storeE 4 0 [_, _, _, _, ⟨some g4, 23, _, 2, true⟩] [_, _] rfl rfl rfl rfl ti23 rfl rfl rfl rfl rfl rfl ?_
  refine run_nil ?_
  refine at_tn ?_
  refine at_ret ?_
  refine at_tr ?_
  refine at_end3 rfl (res_cell 2 rfl rfl ti23 (vs := [_, _]) rfl rfl (Nat.le_of_ble_eq_true rfl) rfl) (res_cell 3 rfl rfl ti23 (vs := [_, _]) rfl rfl (Nat.le_of_ble_eq_true rfl) rfl) (res_cell 4 rfl rfl ti23 (vs := [_, _]) rfl rfl (Nat.le_of_ble_eq_true rfl) rfl) (fun w hL => ⟨?_, hL.below⟩)
  exact congrArg Ending.returned (cross_T hb0)
 ·
  refine at_skip ?_
  refine at_tn ?_
  refine at_seq ?_
  refine at_drawn (l' := [⟨_,_,_,_,_,_⟩, ⟨_,_,_,_,_,_⟩, ⟨_,_,_,_,_,_⟩, ⟨_,_,_,_,_,_⟩, ⟨_,_,_,_,_,_⟩, ⟨_,_,_,_,_,_⟩, ⟨_,_,_,_,_,_⟩, ⟨_,_,_,_,_,_⟩, ⟨_,_,_,_,_,_⟩, ⟨_,_,_,_,_,_⟩, ⟨_,_,_,_,_,_⟩, ⟨_,_,_,_,_,_⟩, ⟨_,_,_,_,_,_⟩, ⟨_,_,_,_,_,_⟩, ⟨_,_,_,_,_,_⟩, ⟨_,_,_,_,_,_⟩, ⟨_,_,_,_,_,_⟩, ⟨_,_,_,_,_,_⟩]) [] [0, 1, 2, 5, 6, 7, 10, 12, 3, 4, 8, 9, 11, 13, 14, 15, 16, 17] mixed (by kernel_rfl) rfl (by kernel_rfl) ?_
  refine r_fieldAddr 0 0 0 rfl rfl rfl rfl rfl ti25 rfl rfl ?_
  refine r_load 0 0 [_, _] rfl rfl rfl rfl ti23 rfl rfl rfl rfl ?_
  refine r_load 1 0 [_, _, _, _] rfl rfl rfl rfl ti25 rfl rfl rfl rfl ?_
  refine r_fieldAddr 1 0 0 rfl rfl rfl rfl rfl ti25 rfl rfl ?_
  refine r_load 1 0 [_, _] rfl rfl rfl rfl ti23 rfl rfl rfl rfl ?_
  refine r_load 0 0 [_, _, _, _] rfl rfl rfl rfl ti25 rfl rfl rfl rfl ?_
  refine r_load 0 0 [_, _, _, _] rfl rfl rfl rfl ti25 rfl rfl rfl rfl ?_
  refine r_load 1 0 [_, _, _, _] rfl rfl rfl rfl ti25 rfl rfl rfl rfl ?_
  refine r_pcall [_] rfl rfl rfl (c_rational_Den _) ?_
  refine r_pcall [_, _] rfl rfl rfl (c_integer_Mul _ _ (by first | assumption | grind [lI_add, lI_sub, lI_mul, lI_neg, lI_gcd, lI_num, lI_den, lQ_add, lQ_sub, lQ_mul, lQ_div, lQ_neg, l_nb]) (by first | assumption | grind [lI_add, lI_sub, lI_mul, lI_neg, lI_gcd, lI_num, lI_den, lQ_add, lQ_sub, lQ_mul, lQ_div, lQ_neg, l_nb])) ?_
  refine r_pcall [_] rfl rfl rfl (c_rational_Den _) ?_
  refine r_pcall [_, _] rfl rfl rfl (c_integer_Mul _ _ (by first | assumption | grind [lI_add, lI_sub, lI_mul, lI_neg, lI_gcd, lI_num, lI_den, lQ_add, lQ_sub, lQ_mul, lQ_div, lQ_neg, l_nb]) (by first | assumption | grind [lI_add, lI_sub, lI_mul, lI_neg, lI_gcd, lI_num, lI_den, lQ_add, lQ_sub, lQ_mul, lQ_div, lQ_neg, l_nb])) ?_
  refine r_pcall [_] rfl rfl rfl (c_rational_Den _) ?_
  refine r_pcall [_] rfl rfl rfl (c_rational_Den _) ?_
  refine r_pcall [_, _] rfl rfl rfl (c_integer_Mul _ _ (by first | assumption | grind [lI_add, lI_sub, lI_mul, lI_neg, lI_gcd, lI_num, lI_den, lQ_add, lQ_sub, lQ_mul, lQ_div, lQ_neg, l_nb]) (by first | assumption | grind [lI_add, lI_sub, lI_mul, lI_neg, lI_gcd, lI_num, lI_den, lQ_add, lQ_sub, lQ_mul, lQ_div, lQ_neg, l_nb])) ?_
  refine r_store rfl 2 0 [_, _, ⟨some g2, 23, _, 2, true⟩, _, _] [_, _] rfl rfl rfl rfl ti23 rfl rfl rfl rfl rfl ?_
  refine r_store rfl 3 0 [_, _, _, ⟨some g3, 23, _, 2, true⟩, _] [_, _] rfl rfl rfl rfl ti23 rfl rfl rfl rfl rfl ?_
  refine r_store rfl 4 0 [_, _, _, _, ⟨some g4, 23, _, 2, true⟩] [_, _] rfl rfl rfl rfl ti23 rfl rfl rfl rfl rfl ?_
  refine run_nil ?_
  refine at_tn ?_
  refine at_ret ?_
  refine at_end3 rfl (res_cell 2 rfl rfl ti23 (vs := [_, _]) rfl rfl (Nat.le_of_ble_eq_true rfl) rfl) (res_cell 3 rfl rfl ti23 (vs := [_, _]) rfl rfl (Nat.le_of_ble_eq_true rfl) rfl) (res_cell 4 rfl rfl ti23 (vs := [_, _]) rfl rfl (Nat.le_of_ble_eq_true rfl) rfl) (fun w hL => ⟨?_, hL.below⟩)
  exact congrArg Ending.returned (cross_F hb0)
set_option maxRecDepth 20000 in
theorem c_rational_Add (p q : Rat) (hp : szQ p ≤ 4194303) (hq : szQ q ≤ 4194303) : PCall Tryz.prog 59 #[Q p, Q q] (Q (p + q)) := by
 refine ⟨by kernel_rfl, fun w => ?_⟩
 refine calls_at (args := [Q p, Q q]) Tryz.func59 rfl (Nat.le_of_ble_eq_true rfl) (LRel.nil w) ?_
 show At w ⟨20, [(0, Q p), (1, Q q)], []⟩ _
 refine at_seq ?_
 refine at_region ?_
 refine r_box [_, _, _, _] 4 (fun g => [⟨some g, 25, _, 4, true⟩]) rfl rfl rfl rfl rfl (fun _ => rfl) (fun g0 => ?_)
 refine r_box [_, _, _, _] 4 (fun g => [_, ⟨some g, 25, _, 4, true⟩]) rfl rfl rfl rfl rfl (fun _ => rfl) (fun g1 => ?_)
 refine r_alloc [_, _, _, _] 4 (fun g => [_, _, ⟨some g, 25, _, 4, true⟩]) rfl rfl z25 rfl rfl (fun _ => rfl) (fun g2 => ?_)
 refine run_nil ?_
 refine at_tn ?_
 refine at_seq ?_
 refine at_region ?_
 refine r_load 0 0 [_, _, _, _] rfl rfl rfl rfl ti25 rfl rfl rfl rfl ?_
 refine r_load 1 0 [_, _, _, _] rfl rfl rfl rfl ti25 rfl rfl rfl rfl ?_
 refine r_pcall [_, _] rfl rfl rfl (c_rational_cross _ _ (by first | assumption | grind [lI_add, lI_sub, lI_mul, lI_neg, lI_gcd, lI_num, lI_den, lQ_add, lQ_sub, lQ_mul, lQ_div, lQ_neg, l_nb]) (by first | assumption | grind [lI_add, lI_sub, lI_mul, lI_neg, lI_gcd, lI_num, lI_den, lQ_add, lQ_sub, lQ_mul, lQ_div, lQ_neg, l_nb])) ?_
 refine r_move rfl rfl rfl ?_
 refine r_extract (vs := [_, _, _]) rfl rfl rfl rfl ?_
 refine r_extract (vs := [_, _, _]) rfl rfl rfl rfl ?_
 refine r_extract (vs := [_, _, _]) rfl rfl rfl rfl ?_
 refine r_alloc [_, _] 2 (fun g => [_, _, _, ⟨some g, 23, _, 2, true⟩]) rfl rfl z23 rfl rfl (fun _ => rfl) (fun g3 => ?_)
 refine r_alloc [_, _] 2 (fun g => [_, _, _, _, ⟨some g, 23, _, 2, true⟩]) rfl rfl z23 rfl rfl (fun _ => rfl) (fun g4 => ?_)
 refine r_alloc [_, _] 2 (fun g => [_, _, _, _, _, ⟨some g, 23, _, 2, true⟩]) rfl rfl z23 rfl rfl (fun _ => rfl) (fun g5 => ?_)
 refine r_store rfl 3 0 [_, _, _, ⟨some g3, 23, _, 2, true⟩, _, _] [_, _] rfl rfl rfl rfl ti23 rfl rfl rfl rfl rfl ?_
 refine r_store rfl 4 0 [_, _, _, _, ⟨some g4, 23, _, 2, true⟩, _] [_, _] rfl rfl rfl rfl ti23 rfl rfl rfl rfl rfl ?_
 refine r_store rfl 5 0 [_, _, _, _, _, ⟨some g5, 23, _, 2, true⟩] [_, _] rfl rfl rfl rfl ti23 rfl rfl rfl rfl rfl ?_
 refine run_nil ?_
 refine at_tn ?_
 refine at_seq ?_
 refine at_drawn (l' := [⟨_,_,_,_,_,_⟩, ⟨_,_,_,_,_,_⟩, ⟨_,_,_,_,_,_⟩, ⟨_,_,_,_,_,_⟩, ⟨_,_,_,_,_,_⟩, ⟨_,_,_,_,_,_⟩]) [] [0, 1, 3, 2, 4, 5] mixed (by kernel_rfl) rfl (by kernel_rfl) ?_
 refine r_load 3 0 [_, _] rfl rfl rfl rfl ti23 rfl rfl rfl rfl ?_
 refine r_load 4 0 [_, _] rfl rfl rfl rfl ti23 rfl rfl rfl rfl ?_
 refine r_load 5 0 [_, _] rfl rfl rfl rfl ti23 rfl rfl rfl rfl ?_
 refine r_pcall [_, _] rfl rfl rfl (c_integer_Add _ _ (Nat.le_trans (szX hp hq) (Nat.le_of_ble_eq_true rfl)) (Nat.le_trans (szY hp hq) (Nat.le_of_ble_eq_true rfl))) ?_
 refine r_pcall [_, _] rfl rfl rfl (c_rational_canonical _ _ (Nat.le_trans (szXY hp hq) (Nat.le_of_ble_eq_true rfl)) (Nat.le_trans (szD hp hq) (Nat.le_of_ble_eq_true rfl)) (crossD_ne p q)) ?_
 refine r_store rfl 2 0 [_, _, ⟨some g2, 25, _, 4, true⟩, _, _, _] [_, _, _, _] rfl rfl rfl rfl ti25 rfl rfl rfl rfl rfl ?_
 refine run_nil ?_
 refine at_tn ?_
 refine at_ret ?_
 refine at_end1 rfl (res_cell 2 rfl rfl ti25 (vs := [_, _, _, _]) rfl rfl (Nat.le_of_ble_eq_true rfl) rfl) (fun w hL => ⟨?_, hL.below⟩)
 exact congrArg (fun z => Ending.returned (Q z)) (cross_add p q)
set_option maxRecDepth 20000 in
theorem c_rational_Neg (q : Rat) : PCall Tryz.prog 101 #[Q q] (Q (-q)) := by
 refine ⟨by kernel_rfl, fun w => ?_⟩
 refine calls_at (args := [Q q]) Tryz.func101 rfl (Nat.le_of_ble_eq_true rfl) (LRel.nil w) ?_
 show At w ⟨9, [(0, Q q)], []⟩ _
 refine at_seq ?_
 refine at_region ?_
 refine r_box [_, _, _, _] 4 (fun g => [⟨some g, 25, _, 4, true⟩]) rfl rfl rfl rfl rfl (fun _ => rfl) (fun g0 => ?_)
 refine r_alloc [_, _, _, _] 4 (fun g => [_, ⟨some g, 25, _, 4, true⟩]) rfl rfl z25 rfl rfl (fun _ => rfl) (fun g1 => ?_)
 refine run_nil ?_
 refine at_tn ?_
 refine at_seq ?_
 refine at_drawn (l' := [⟨_,_,_,_,_,_⟩, ⟨_,_,_,_,_,_⟩, ⟨_,_,_,_,_,_⟩, ⟨_,_,_,_,_,_⟩, ⟨_,_,_,_,_,_⟩, ⟨_,_,_,_,_,_⟩, ⟨_,_,_,_,_,_⟩]) [] [0, 1, 3, 4, 2, 5, 6] mixed (by kernel_rfl) rfl (by kernel_rfl) ?_
 refine r_fieldAddr 0 0 0 rfl rfl rfl rfl rfl ti25 rfl rfl ?_
 refine r_load 0 0 [_, _] rfl rfl rfl rfl ti23 rfl rfl rfl rfl ?_
 refine r_fieldAddr 0 0 2 rfl rfl rfl rfl rfl ti25 rfl rfl ?_
 refine r_load 0 2 [_, _] rfl rfl rfl rfl ti23 rfl rfl rfl rfl ?_
 refine r_pcall [_] rfl rfl rfl (c_integer_Negate _) ?_
 refine r_build [(0, _), (1, _)] rfl rfl rfl (bd25_2) ?_
 refine r_store rfl 1 0 [_, ⟨some g1, 25, _, 4, true⟩] [_, _, _, _] rfl rfl rfl rfl ti25 rfl rfl rfl rfl rfl ?_
 refine run_nil ?_
 refine at_tn ?_
 refine at_ret ?_
 refine at_end1 rfl (res_cell 1 rfl rfl ti25 (vs := [_, _, _, _]) rfl rfl (Nat.le_of_ble_eq_true rfl) rfl) (fun w hL => ⟨?_, hL.below⟩)
 exact rfl
set_option maxRecDepth 20000 in
theorem c_rational_Sub (p q : Rat) (hp : szQ p ≤ 4194303) (hq : szQ q ≤ 4194303) : PCall Tryz.prog 61 #[Q p, Q q] (Q (p - q)) := by
 refine ⟨by kernel_rfl, fun w => ?_⟩
 refine calls_at (args := [Q p, Q q]) Tryz.func61 rfl (Nat.le_of_ble_eq_true rfl) (LRel.nil w) ?_
 show At w ⟨9, [(0, Q p), (1, Q q)], []⟩ _
 refine at_seq ?_
 refine at_region ?_
 refine r_box [_, _, _, _] 4 (fun g => [⟨some g, 25, _, 4, true⟩]) rfl rfl rfl rfl rfl (fun _ => rfl) (fun g0 => ?_)
 refine r_box [_, _, _, _] 4 (fun g => [_, ⟨some g, 25, _, 4, true⟩]) rfl rfl rfl rfl rfl (fun _ => rfl) (fun g1 => ?_)
 refine r_alloc [_, _, _, _] 4 (fun g => [_, _, ⟨some g, 25, _, 4, true⟩]) rfl rfl z25 rfl rfl (fun _ => rfl) (fun g2 => ?_)
 refine run_nil ?_
 refine at_tn ?_
 refine at_seq ?_
 refine at_drawn (l' := [⟨_,_,_,_,_,_⟩, ⟨_,_,_,_,_,_⟩, ⟨_,_,_,_,_,_⟩, ⟨_,_,_,_,_,_⟩, ⟨_,_,_,_,_,_⟩]) [] [0, 1, 2, 3, 4] mixed (by kernel_rfl) rfl (by kernel_rfl) ?_
 refine r_load 0 0 [_, _, _, _] rfl rfl rfl rfl ti25 rfl rfl rfl rfl ?_
 refine r_load 1 0 [_, _, _, _] rfl rfl rfl rfl ti25 rfl rfl rfl rfl ?_
 refine r_pcall [_] rfl rfl rfl (c_rational_Neg _) ?_
 refine r_pcall [_, _] rfl rfl rfl (c_rational_Add _ _ (by first | assumption | grind [lI_add, lI_sub, lI_mul, lI_neg, lI_gcd, lI_num, lI_den, lQ_add, lQ_sub, lQ_mul, lQ_div, lQ_neg, l_nb]) (by first | assumption | grind [lI_add, lI_sub, lI_mul, lI_neg, lI_gcd, lI_num, lI_den, lQ_add, lQ_sub, lQ_mul, lQ_div, lQ_neg, l_nb])) ?_
 refine r_store rfl 2 0 [_, _, ⟨some g2, 25, _, 4, true⟩] [_, _, _, _] rfl rfl rfl rfl ti25 rfl rfl rfl rfl rfl ?_
 refine run_nil ?_
 refine at_tn ?_
 refine at_ret ?_
 refine at_end1 rfl (res_cell 2 rfl rfl ti25 (vs := [_, _, _, _]) rfl rfl (Nat.le_of_ble_eq_true rfl) rfl) (fun w hL => ⟨?_, hL.below⟩)
 exact congrArg (fun z => Ending.returned (Q z)) (Rat.sub_eq_add_neg p q).symm
set_option maxRecDepth 20000 in
theorem c_rational_Mul (p q : Rat) (hp : szQ p ≤ 4194303) (hq : szQ q ≤ 4194303) : PCall Tryz.prog 62 #[Q p, Q q] (Q (p * q)) := by
 refine ⟨by kernel_rfl, fun w => ?_⟩
 refine calls_at (args := [Q p, Q q]) Tryz.func62 rfl (Nat.le_of_ble_eq_true rfl) (LRel.nil w) ?_
 show At w ⟨16, [(0, Q p), (1, Q q)], []⟩ _
 refine at_seq ?_
 refine at_region ?_
 refine r_box [_, _, _, _] 4 (fun g => [⟨some g, 25, _, 4, true⟩]) rfl rfl rfl rfl rfl (fun _ => rfl) (fun g0 => ?_)
 refine r_box [_, _, _, _] 4 (fun g => [_, ⟨some g, 25, _, 4, true⟩]) rfl rfl rfl rfl rfl (fun _ => rfl) (fun g1 => ?_)
 refine r_alloc [_, _, _, _] 4 (fun g => [_, _, ⟨some g, 25, _, 4, true⟩]) rfl rfl z25 rfl rfl (fun _ => rfl) (fun g2 => ?_)
 refine run_nil ?_
 refine at_tn ?_
 refine at_seq ?_
 refine at_drawn (l' := [⟨_,_,_,_,_,_⟩, ⟨_,_,_,_,_,_⟩, ⟨_,_,_,_,_,_⟩, ⟨_,_,_,_,_,_⟩, ⟨_,_,_,_,_,_⟩, ⟨_,_,_,_,_,_⟩, ⟨_,_,_,_,_,_⟩, ⟨_,_,_,_,_,_⟩, ⟨_,_,_,_,_,_⟩, ⟨_,_,_,_,_,_⟩, ⟨_,_,_,_,_,_⟩, ⟨_,_,_,_,_,_⟩]) [] [0, 1, 2, 3, 5, 7, 4, 6, 8, 9, 10, 11] mixed (by kernel_rfl) rfl (by kernel_rfl) ?_
 refine r_fieldAddr 0 0 0 rfl rfl rfl rfl rfl ti25 rfl rfl ?_
 refine r_load 0 0 [_, _] rfl rfl rfl rfl ti23 rfl rfl rfl rfl ?_
 refine r_fieldAddr 1 0 0 rfl rfl rfl rfl rfl ti25 rfl rfl ?_
 refine r_load 1 0 [_, _] rfl rfl rfl rfl ti23 rfl rfl rfl rfl ?_
 refine r_load 0 0 [_, _, _, _] rfl rfl rfl rfl ti25 rfl rfl rfl rfl ?_
 refine r_load 1 0 [_, _, _, _] rfl rfl rfl rfl ti25 rfl rfl rfl rfl ?_
 refine r_pcall [_, _] rfl rfl rfl (c_integer_Mul _ _ (by first | assumption | grind [lI_add, lI_sub, lI_mul, lI_neg, lI_gcd, lI_num, lI_den, lQ_add, lQ_sub, lQ_mul, lQ_div, lQ_neg, l_nb]) (by first | assumption | grind [lI_add, lI_sub, lI_mul, lI_neg, lI_gcd, lI_num, lI_den, lQ_add, lQ_sub, lQ_mul, lQ_div, lQ_neg, l_nb])) ?_
 refine r_pcall [_] rfl rfl rfl (c_rational_Den _) ?_
 refine r_pcall [_] rfl rfl rfl (c_rational_Den _) ?_
 refine r_pcall [_, _] rfl rfl rfl (c_integer_Mul _ _ (by first | assumption | grind [lI_add, lI_sub, lI_mul, lI_neg, lI_gcd, lI_num, lI_den, lQ_add, lQ_sub, lQ_mul, lQ_div, lQ_neg, l_nb]) (by first | assumption | grind [lI_add, lI_sub, lI_mul, lI_neg, lI_gcd, lI_num, lI_den, lQ_add, lQ_sub, lQ_mul, lQ_div, lQ_neg, l_nb])) ?_
 refine r_pcall [_, _] rfl rfl rfl (c_rational_canonical _ _ (by first | assumption | grind [lI_add, lI_sub, lI_mul, lI_neg, lI_gcd, lI_num, lI_den, lQ_add, lQ_sub, lQ_mul, lQ_div, lQ_neg, l_nb]) (by first | assumption | grind [lI_add, lI_sub, lI_mul, lI_neg, lI_gcd, lI_num, lI_den, lQ_add, lQ_sub, lQ_mul, lQ_div, lQ_neg, l_nb]) (den_mul_ne p q)) ?_
 refine r_store rfl 2 0 [_, _, ⟨some g2, 25, _, 4, true⟩] [_, _, _, _] rfl rfl rfl rfl ti25 rfl rfl rfl rfl rfl ?_
 refine run_nil ?_
 refine at_tn ?_
 refine at_ret ?_
 refine at_end1 rfl (res_cell 2 rfl rfl ti25 (vs := [_, _, _, _]) rfl rfl (Nat.le_of_ble_eq_true rfl) rfl) (fun w hL => ⟨?_, hL.below⟩)
 exact congrArg (fun z => Ending.returned (Q z)) (mul_divInt p q)
set_option maxRecDepth 20000 in
theorem c_rational_Sign (q : Rat) : PCall Tryz.prog 78 #[Q q] (.int .i64 q.num.sign) := by
 refine ⟨by kernel_rfl, fun w => ?_⟩
 refine calls_at (args := [Q q]) Tryz.func78 rfl (Nat.le_of_ble_eq_true rfl) (LRel.nil w) ?_
 show At w ⟨6, [(0, Q q)], []⟩ _
 refine at_seq ?_
 refine at_region ?_
 refine r_box [_, _, _, _] 4 (fun g => [⟨some g, 25, _, 4, true⟩]) rfl rfl rfl rfl rfl (fun _ => rfl) (fun g0 => ?_)
 refine r_assign rfl rfl rfl ?_
 refine run_nil ?_
 refine at_tn ?_
 refine at_seq ?_
 refine at_region ?_
 refine r_fieldAddr 0 0 0 rfl rfl rfl rfl rfl ti25 rfl rfl ?_
 refine r_load 0 0 [_, _] rfl rfl rfl rfl ti23 rfl rfl rfl rfl ?_
 refine r_pcall [_] rfl rfl rfl (c_integer_Sign _) ?_
 refine r_assign rfl rfl rfl ?_
 refine run_nil ?_
 refine at_tn ?_
 refine at_ret ?_
 refine at_end1 rfl (res_tmp rfl) (fun w hL => ⟨?_, hL.below⟩)
 exact rfl
set_option maxRecDepth 20000 in
theorem c_rational_Make (n d : Int) (hn : szI n ≤ 8388608) (hd : szI d ≤ 8388608) : PCall Tryz.prog 106 #[I n, I d] (.tuple #[Q (Rat.divInt n d), .int .i64 (if d = 0 then 6 else 0)]) := by
 refine ⟨by kernel_rfl, fun w => ?_⟩
 refine calls_at (args := [I n, I d]) Tryz.func106 rfl (Nat.le_of_ble_eq_true rfl) (LRel.nil w) ?_
 show At w ⟨13, [(0, I n), (1, I d)], []⟩ _
 refine at_seq ?_
 refine at_region ?_
 refine r_box [_, _] 2 (fun g => [⟨some g, 23, _, 2, true⟩]) rfl rfl rfl rfl rfl (fun _ => rfl) (fun g0 => ?_)
 refine r_box [_, _] 2 (fun g => [_, ⟨some g, 23, _, 2, true⟩]) rfl rfl rfl rfl rfl (fun _ => rfl) (fun g1 => ?_)
 refine r_alloc [_, _, _, _] 4 (fun g => [_, _, ⟨some g, 25, _, 4, true⟩]) rfl rfl z25 rfl rfl (fun _ => rfl) (fun g2 => ?_)
 refine r_assign rfl rfl rfl ?_
 refine run_nil ?_
 refine at_tn ?_
 refine at_seq ?_
 refine at_seq ?_
 refine at_region ?_
 refine r_load 1 0 [_, _] rfl rfl rfl rfl ti23 rfl rfl rfl rfl ?_
 refine r_pcall [_] rfl rfl rfl (c_integer_Sign _) ?_
 refine r_cmpInt rfl rfl rfl rfl rfl ?_
 refine run_nil ?_
 refine at_tn ?_
 refine at_cond rfl (fun hb0 => ?_) (fun hb0 => ?_)
 ·
  refine at_seq ?_
  refine at_region ?_
  refine r_build [] rfl rfl rfl (bd25_0) ?_
  refine r_store rfl 2 0 [_, _, ⟨some g2, 25, _, 4, true⟩] [_, _, _, _] rfl rfl rfl rfl ti25 rfl rfl rfl rfl rfl ?_
  refine r_assign rfl rfl rfl ?_
  refine run_nil ?_
  refine at_tn ?_
  refine at_ret ?_
  refine at_tr ?_
  refine at_end2 rfl (res_cell 2 rfl rfl ti25 (vs := [_, _, _, _]) rfl rfl (Nat.le_of_ble_eq_true rfl) rfl) (res_tmp rfl) (fun w hL => ⟨?_, hL.below⟩)
  have e : d = 0 := by simpa using hb0
  subst e; rw [Rat.divInt_zero, if_pos rfl, Q_zero]
 ·
  refine at_skip ?_
  refine at_tn ?_
  refine at_seq ?_
  refine at_region ?_
  refine r_load 0 0 [_, _] rfl rfl rfl rfl ti23 rfl rfl rfl rfl ?_
  refine r_load 1 0 [_, _] rfl rfl rfl rfl ti23 rfl rfl rfl rfl ?_
  refine r_pcall [_, _] rfl rfl rfl (c_rational_canonical _ _ hn hd (fun e => absurd (show (d.sign == 0) = true by rw [e]; rfl) (by rw [hb0]; decide))) ?_
  refine r_store rfl 2 0 [_, _, ⟨some g2, 25, _, 4, true⟩] [_, _, _, _] rfl rfl rfl rfl ti25 rfl rfl rfl rfl rfl ?_
  refine r_assign rfl rfl rfl ?_
  refine run_nil ?_
  refine at_tn ?_
  refine at_ret ?_
  refine at_end2 rfl (res_cell 2 rfl rfl ti25 (vs := [_, _, _, _]) rfl rfl (Nat.le_of_ble_eq_true rfl) rfl) (res_tmp rfl) (fun w hL => ⟨?_, hL.below⟩)
  rw [if_neg (fun e => absurd (show (d.sign == 0) = true by rw [e]; rfl) (by rw [hb0]; decide))]; rfl
set_option maxRecDepth 20000 in
theorem c_rational_Div (p q : Rat) (hp : szQ p ≤ 4194303) (hq : szQ q ≤ 4194303) : PCall Tryz.prog 72 #[Q p, Q q] (.tuple #[Q (p / q), .int .i64 (if q = 0 then 6 else 0)]) := by
 refine ⟨by kernel_rfl, fun w => ?_⟩
 refine calls_at (args := [Q p, Q q]) Tryz.func72 rfl (Nat.le_of_ble_eq_true rfl) (LRel.nil w) ?_
 show At w ⟨19, [(0, Q p), (1, Q q)], []⟩ _
 refine at_seq ?_
 refine at_region ?_
 refine r_box [_, _, _, _] 4 (fun g => [⟨some g, 25, _, 4, true⟩]) rfl rfl rfl rfl rfl (fun _ => rfl) (fun g0 => ?_)
 refine r_box [_, _, _, _] 4 (fun g => [_, ⟨some g, 25, _, 4, true⟩]) rfl rfl rfl rfl rfl (fun _ => rfl) (fun g1 => ?_)
 refine r_alloc [_, _, _, _] 4 (fun g => [_, _, ⟨some g, 25, _, 4, true⟩]) rfl rfl z25 rfl rfl (fun _ => rfl) (fun g2 => ?_)
 refine r_assign rfl rfl rfl ?_
 refine run_nil ?_
 refine at_tn ?_
 refine at_seq ?_
 refine at_drawn (l' := [⟨_,_,_,_,_,_⟩, ⟨_,_,_,_,_,_⟩, ⟨_,_,_,_,_,_⟩, ⟨_,_,_,_,_,_⟩, ⟨_,_,_,_,_,_⟩, ⟨_,_,_,_,_,_⟩, ⟨_,_,_,_,_,_⟩, ⟨_,_,_,_,_,_⟩, ⟨_,_,_,_,_,_⟩, ⟨_,_,_,_,_,_⟩, ⟨_,_,_,_,_,_⟩, ⟨_,_,_,_,_,_⟩, ⟨_,_,_,_,_,_⟩, ⟨_,_,_,_,_,_⟩, ⟨_,_,_,_,_,_⟩]) [] [0, 1, 2, 5, 7, 8, 3, 4, 6, 9, 10, 11, 12, 13, 14] mixed (by kernel_rfl) rfl (by kernel_rfl) ?_
 refine r_fieldAddr 0 0 0 rfl rfl rfl rfl rfl ti25 rfl rfl ?_
 refine r_load 0 0 [_, _] rfl rfl rfl rfl ti23 rfl rfl rfl rfl ?_
 refine r_load 1 0 [_, _, _, _] rfl rfl rfl rfl ti25 rfl rfl rfl rfl ?_
 refine r_load 0 0 [_, _, _, _] rfl rfl rfl rfl ti25 rfl rfl rfl rfl ?_
 refine r_fieldAddr 1 0 0 rfl rfl rfl rfl rfl ti25 rfl rfl ?_
 refine r_load 1 0 [_, _] rfl rfl rfl rfl ti23 rfl rfl rfl rfl ?_
 refine r_pcall [_] rfl rfl rfl (c_rational_Den _) ?_
 refine r_pcall [_, _] rfl rfl rfl (c_integer_Mul _ _ (by first | assumption | grind [lI_add, lI_sub, lI_mul, lI_neg, lI_gcd, lI_num, lI_den, lQ_add, lQ_sub, lQ_mul, lQ_div, lQ_neg, l_nb]) (by first | assumption | grind [lI_add, lI_sub, lI_mul, lI_neg, lI_gcd, lI_num, lI_den, lQ_add, lQ_sub, lQ_mul, lQ_div, lQ_neg, l_nb])) ?_
 refine r_pcall [_] rfl rfl rfl (c_rational_Den _) ?_
 refine r_pcall [_, _] rfl rfl rfl (c_integer_Mul _ _ (by first | assumption | grind [lI_add, lI_sub, lI_mul, lI_neg, lI_gcd, lI_num, lI_den, lQ_add, lQ_sub, lQ_mul, lQ_div, lQ_neg, l_nb]) (by first | assumption | grind [lI_add, lI_sub, lI_mul, lI_neg, lI_gcd, lI_num, lI_den, lQ_add, lQ_sub, lQ_mul, lQ_div, lQ_neg, l_nb])) ?_
 refine r_pcall [_, _] rfl rfl rfl (c_rational_Make _ _ (by first | assumption | grind [lI_add, lI_sub, lI_mul, lI_neg, lI_gcd, lI_num, lI_den, lQ_add, lQ_sub, lQ_mul, lQ_div, lQ_neg, l_nb]) (by first | assumption | grind [lI_add, lI_sub, lI_mul, lI_neg, lI_gcd, lI_num, lI_den, lQ_add, lQ_sub, lQ_mul, lQ_div, lQ_neg, l_nb])) ?_
 refine r_extract (vs := [_, _]) rfl rfl rfl rfl ?_
 refine r_extract (vs := [_, _]) rfl rfl rfl rfl ?_
 refine r_store rfl 2 0 [_, _, ⟨some g2, 25, _, 4, true⟩] [_, _, _, _] rfl rfl rfl rfl ti25 rfl rfl rfl rfl rfl ?_
 refine r_assign rfl rfl rfl ?_
 refine run_nil ?_
 refine at_tn ?_
 refine at_ret ?_
 refine at_end2 rfl (res_cell 2 rfl rfl ti25 (vs := [_, _, _, _]) rfl rfl (Nat.le_of_ble_eq_true rfl) rfl) (res_tmp rfl) (fun w hL => ⟨?_, hL.below⟩)
 rw [← div_divInt p q, div_err p q]; rfl
set_option maxRecDepth 20000 in
theorem c_rational_FromInt (z : Int) (h1 : -9223372036854775808 ≤ z) (h2 : z ≤ 9223372036854775807) : PCall Tryz.prog 75 #[.int .i64 z] (Q (z : Rat)) := by
 refine ⟨by kernel_rfl, fun w => ?_⟩
 refine calls_at (args := [.int .i64 z]) Tryz.func75 rfl (Nat.le_of_ble_eq_true rfl) (LRel.nil w) ?_
 show At w ⟨6, [(0, .int .i64 z)], []⟩ _
 refine at_seq ?_
 refine at_region ?_
 refine r_alloc [_, _, _, _] 4 (fun g => [⟨some g, 25, _, 4, true⟩]) rfl rfl z25 rfl rfl (fun _ => rfl) (fun g0 => ?_)
 refine run_nil ?_
 refine at_tn ?_
 refine at_seq ?_
 refine at_region ?_
 refine r_move rfl rfl rfl ?_
 refine r_pcall [_] rfl rfl rfl (c_integer_FromInt _ (by omega) (by omega)) ?_
 refine r_build [(0, _)] rfl rfl rfl (bd25_1) ?_
 refine r_store rfl 0 0 [⟨some g0, 25, _, 4, true⟩] [_, _, _, _] rfl rfl rfl rfl ti25 rfl rfl rfl rfl rfl ?_
 refine run_nil ?_
 refine at_tn ?_
 refine at_ret ?_
 refine at_end1 rfl (res_cell 0 rfl rfl ti25 (vs := [_, _, _, _]) rfl rfl (Nat.le_of_ble_eq_true rfl) rfl) (fun w hL => ⟨?_, hL.below⟩)
 exact rfl
set_option maxRecDepth 20000 in
theorem c_rational_Compare (p q : Rat) (hp : szQ p ≤ 4194303) (hq : szQ q ≤ 4194303) : PCall Tryz.prog 71 #[Q p, Q q] (.int .i64 (cmpQ p q)) := by
 refine ⟨by kernel_rfl, fun w => ?_⟩
 refine calls_at (args := [Q p, Q q]) Tryz.func71 rfl (Nat.le_of_ble_eq_true rfl) (LRel.nil w) ?_
 show At w ⟨21, [(0, Q p), (1, Q q)], []⟩ _
 refine at_seq ?_
 refine at_region ?_
 refine r_box [_, _, _, _] 4 (fun g => [⟨some g, 25, _, 4, true⟩]) rfl rfl rfl rfl rfl (fun _ => rfl) (fun g0 => ?_)
 refine r_box [_, _, _, _] 4 (fun g => [_, ⟨some g, 25, _, 4, true⟩]) rfl rfl rfl rfl rfl (fun _ => rfl) (fun g1 => ?_)
 refine r_assign rfl rfl rfl ?_
 refine run_nil ?_
 refine at_tn ?_
 refine at_seq ?_
 refine at_seq ?_
 refine at_region ?_
 refine r_load 0 0 [_, _, _, _] rfl rfl rfl rfl ti25 rfl rfl rfl rfl ?_
 refine r_load 1 0 [_, _, _, _] rfl rfl rfl rfl ti25 rfl rfl rfl rfl ?_
 refine r_eqlAgg rfl rfl rfl rfl gd25 (eq25 _ _) ?_
 refine run_nil ?_
 refine at_tn ?_
 refine at_cond rfl (fun hb0 => ?_) (fun hb0 => ?_)
 ·
  refine at_seq ?_
  refine at_region ?_
  refine r_assign rfl rfl rfl ?_
  refine run_nil ?_
  refine at_tn ?_
  refine at_ret ?_
  refine at_tr ?_
  refine at_end1 rfl (res_tmp rfl) (fun w hL => ⟨?_, hL.below⟩)
  have e : p = q := by simpa using hb0
  subst e; rw [cmpQ_self]
 ·
  refine at_skip ?_
  refine at_tn ?_
  refine at_seq ?_
  refine at_region ?_
  refine r_load 0 0 [_, _, _, _] rfl rfl rfl rfl ti25 rfl rfl rfl rfl ?_
  refine r_load 1 0 [_, _, _, _] rfl rfl rfl rfl ti25 rfl rfl rfl rfl ?_
  refine r_pcall [_, _] rfl rfl rfl (c_rational_cross _ _ (by first | assumption | grind [lI_add, lI_sub, lI_mul, lI_neg, lI_gcd, lI_num, lI_den, lQ_add, lQ_sub, lQ_mul, lQ_div, lQ_neg, l_nb]) (by first | assumption | grind [lI_add, lI_sub, lI_mul, lI_neg, lI_gcd, lI_num, lI_den, lQ_add, lQ_sub, lQ_mul, lQ_div, lQ_neg, l_nb])) ?_
  refine r_move rfl rfl rfl ?_
  refine r_extract (vs := [_, _, _]) rfl rfl rfl rfl ?_
  refine r_extract (vs := [_, _, _]) rfl rfl rfl rfl ?_
  refine r_extract (vs := [_, _, _]) rfl rfl rfl rfl ?_
  refine r_alloc [_, _] 2 (fun g => [_, _, ⟨some g, 23, _, 2, true⟩]) rfl rfl z23 rfl rfl (fun _ => rfl) (fun g2 => ?_)
  refine r_alloc [_, _] 2 (fun g => [_, _, _, ⟨some g, 23, _, 2, true⟩]) rfl rfl z23 rfl rfl (fun _ => rfl) (fun g3 => ?_)
  refine r_alloc [_, _] 2 (fun g => [_, _, _, _, ⟨some g, 23, _, 2, true⟩]) rfl rfl z23 rfl rfl (fun _ => rfl) (fun g4 => ?_)
  refine r_store rfl 2 0 [_, _, ⟨some g2, 23, _, 2, true⟩, _, _] [_, _] rfl rfl rfl rfl ti23 rfl rfl rfl rfl rfl ?_
  refine r_store rfl 3 0 [_, _, _, ⟨some g3, 23, _, 2, true⟩, _] [_, _] rfl rfl rfl rfl ti23 rfl rfl rfl rfl rfl ?_
  refine r_store rfl 4 0 [_, _, _, _, ⟨some g4, 23, _, 2, true⟩] [_, _] rfl rfl rfl rfl ti23 rfl rfl rfl rfl rfl ?_
  refine run_nil ?_
  refine at_tn ?_
  refine at_seq ?_
  refine at_region ?_
  refine r_load 2 0 [_, _] rfl rfl rfl rfl ti23 rfl rfl rfl rfl ?_
  refine r_load 3 0 [_, _] rfl rfl rfl rfl ti23 rfl rfl rfl rfl ?_
  refine r_pcall [_, _] rfl rfl rfl (c_integer_Compare _ _) ?_
  refine r_assign rfl rfl rfl ?_
  refine run_nil ?_
  refine at_tn ?_
  refine at_ret ?_
  refine at_end1 rfl (res_tmp rfl) (fun w hL => ⟨?_, hL.below⟩)
  exact congrArg (fun z => Ending.returned (.int .i64 z)) (cross_cmp p q)
set_option maxRecDepth 20000 in
theorem c_rational_Min (p q : Rat) (hp : szQ p ≤ 4194303) (hq : szQ q ≤ 4194303) : PCall Tryz.prog 74 #[Q p, Q q] (Q (min p q)) := by
 refine ⟨by kernel_rfl, fun w => ?_⟩
 refine calls_at (args := [Q p, Q q]) Tryz.func74 rfl (Nat.le_of_ble_eq_true rfl) (LRel.nil w) ?_
 show At w ⟨11, [(0, Q p), (1, Q q)], []⟩ _
 refine at_seq ?_
 refine at_region ?_
 refine r_box [_, _, _, _] 4 (fun g => [⟨some g, 25, _, 4, true⟩]) rfl rfl rfl rfl rfl (fun _ => rfl) (fun g0 => ?_)
 refine r_box [_, _, _, _] 4 (fun g => [_, ⟨some g, 25, _, 4, true⟩]) rfl rfl rfl rfl rfl (fun _ => rfl) (fun g1 => ?_)
 refine r_alloc [_, _, _, _] 4 (fun g => [_, _, ⟨some g, 25, _, 4, true⟩]) rfl rfl z25 rfl rfl (fun _ => rfl) (fun g2 => ?_)
 refine run_nil ?_
 refine at_tn ?_
 refine at_seq ?_
 refine at_seq ?_
 refine at_region ?_
 refine r_load 0 0 [_, _, _, _] rfl rfl rfl rfl ti25 rfl rfl rfl rfl ?_
 refine r_load 1 0 [_, _, _, _] rfl rfl rfl rfl ti25 rfl rfl rfl rfl ?_
 refine r_pcall [_, _] rfl rfl rfl (c_rational_Compare _ _ (by first | assumption | grind [lI_add, lI_sub, lI_mul, lI_neg, lI_gcd, lI_num, lI_den, lQ_add, lQ_sub, lQ_mul, lQ_div, lQ_neg, l_nb]) (by first | assumption | grind [lI_add, lI_sub, lI_mul, lI_neg, lI_gcd, lI_num, lI_den, lQ_add, lQ_sub, lQ_mul, lQ_div, lQ_neg, l_nb])) ?_
 refine r_cmpInt rfl rfl rfl rfl rfl ?_
 refine run_nil ?_
 refine at_tn ?_
 refine at_cond rfl (fun hb0 => ?_) (fun hb0 => ?_)
 ·
  refine at_seq ?_
  refine at_region ?_
  refine r_load 0 0 [_, _, _, _] rfl rfl rfl rfl ti25 rfl rfl rfl rfl ?_
  refine r_store rfl 2 0 [_, _, ⟨some g2, 25, _, 4, true⟩] [_, _, _, _] rfl rfl rfl rfl ti25 rfl rfl rfl rfl rfl ?_
  refine run_nil ?_
  refine at_tn ?_
  refine at_ret ?_
  refine at_tr ?_
  refine at_end1 rfl (res_cell 2 rfl rfl ti25 (vs := [_, _, _, _]) rfl rfl (Nat.le_of_ble_eq_true rfl) rfl) (fun w hL => ⟨?_, hL.below⟩)
  rw [min_T hb0]; rfl
 ·
  refine at_skip ?_
  refine at_tn ?_
  refine at_seq ?_
  refine at_region ?_
  refine r_load 1 0 [_, _, _, _] rfl rfl rfl rfl ti25 rfl rfl rfl rfl ?_
  refine r_store rfl 2 0 [_, _, ⟨some g2, 25, _, 4, true⟩] [_, _, _, _] rfl rfl rfl rfl ti25 rfl rfl rfl rfl rfl ?_
  refine run_nil ?_
  refine at_tn ?_
  refine at_ret ?_
  refine at_end1 rfl (res_cell 2 rfl rfl ti25 (vs := [_, _, _, _]) rfl rfl (Nat.le_of_ble_eq_true rfl) rfl) (fun w hL => ⟨?_, hL.below⟩)
  rw [min_F hb0]; rfl
set_option maxRecDepth 20000 in
theorem c_rational_Max (p q : Rat) (hp : szQ p ≤ 4194303) (hq : szQ q ≤ 4194303) : PCall Tryz.prog 73 #[Q p, Q q] (Q (max p q)) := by
 refine ⟨by kernel_rfl, fun w => ?_⟩
 refine calls_at (args := [Q p, Q q]) Tryz.func73 rfl (Nat.le_of_ble_eq_true rfl) (LRel.nil w) ?_
 show At w ⟨11, [(0, Q p), (1, Q q)], []⟩ _
 refine at_seq ?_
 refine at_region ?_
 refine r_box [_, _, _, _] 4 (fun g => [⟨some g, 25, _, 4, true⟩]) rfl rfl rfl rfl rfl (fun _ => rfl) (fun g0 => ?_)
 refine r_box [_, _, _, _] 4 (fun g => [_, ⟨some g, 25, _, 4, true⟩]) rfl rfl rfl rfl rfl (fun _ => rfl) (fun g1 => ?_)
 refine r_alloc [_, _, _, _] 4 (fun g => [_, _, ⟨some g, 25, _, 4, true⟩]) rfl rfl z25 rfl rfl (fun _ => rfl) (fun g2 => ?_)
 refine run_nil ?_
 refine at_tn ?_
 refine at_seq ?_
 refine at_seq ?_
 refine at_region ?_
 refine r_load 0 0 [_, _, _, _] rfl rfl rfl rfl ti25 rfl rfl rfl rfl ?_
 refine r_load 1 0 [_, _, _, _] rfl rfl rfl rfl ti25 rfl rfl rfl rfl ?_
 refine r_pcall [_, _] rfl rfl rfl (c_rational_Compare _ _ (by first | assumption | grind [lI_add, lI_sub, lI_mul, lI_neg, lI_gcd, lI_num, lI_den, lQ_add, lQ_sub, lQ_mul, lQ_div, lQ_neg, l_nb]) (by first | assumption | grind [lI_add, lI_sub, lI_mul, lI_neg, lI_gcd, lI_num, lI_den, lQ_add, lQ_sub, lQ_mul, lQ_div, lQ_neg, l_nb])) ?_
 refine r_cmpInt rfl rfl rfl rfl rfl ?_
 refine run_nil ?_
 refine at_tn ?_
 refine at_cond rfl (fun hb0 => ?_) (fun hb0 => ?_)
 ·
  refine at_seq ?_
  refine at_region ?_
  refine r_load 0 0 [_, _, _, _] rfl rfl rfl rfl ti25 rfl rfl rfl rfl ?_
  refine r_store rfl 2 0 [_, _, ⟨some g2, 25, _, 4, true⟩] [_, _, _, _] rfl rfl rfl rfl ti25 rfl rfl rfl rfl rfl ?_
  refine run_nil ?_
  refine at_tn ?_
  refine at_ret ?_
  refine at_tr ?_
  refine at_end1 rfl (res_cell 2 rfl rfl ti25 (vs := [_, _, _, _]) rfl rfl (Nat.le_of_ble_eq_true rfl) rfl) (fun w hL => ⟨?_, hL.below⟩)
  rw [max_T hb0]; rfl
 ·
  refine at_skip ?_
  refine at_tn ?_
  refine at_seq ?_
  refine at_region ?_
  refine r_load 1 0 [_, _, _, _] rfl rfl rfl rfl ti25 rfl rfl rfl rfl ?_
  refine r_store rfl 2 0 [_, _, ⟨some g2, 25, _, 4, true⟩] [_, _, _, _] rfl rfl rfl rfl ti25 rfl rfl rfl rfl rfl ?_
  refine run_nil ?_
  refine at_tn ?_
  refine at_ret ?_
  refine at_end1 rfl (res_cell 2 rfl rfl ti25 (vs := [_, _, _, _]) rfl rfl (Nat.le_of_ble_eq_true rfl) rfl) (fun w hL => ⟨?_, hL.below⟩)
  rw [max_F hb0]; rfl
set_option maxRecDepth 20000 in
theorem c_rational_Floor (q : Rat) (hq : szQ q ≤ 4194303) : PCall Tryz.prog 88 #[Q q] (I q.floor) := by
 refine ⟨by kernel_rfl, fun w => ?_⟩
 refine calls_at (args := [Q q]) Tryz.func88 rfl (Nat.le_of_ble_eq_true rfl) (LRel.nil w) ?_
 show At w ⟨8, [(0, Q q)], []⟩ _
 refine at_seq ?_
 refine at_region ?_
 refine r_box [_, _, _, _] 4 (fun g => [⟨some g, 25, _, 4, true⟩]) rfl rfl rfl rfl rfl (fun _ => rfl) (fun g0 => ?_)
 refine r_alloc [_, _] 2 (fun g => [_, ⟨some g, 23, _, 2, true⟩]) rfl rfl z23 rfl rfl (fun _ => rfl) (fun g1 => ?_)
 refine run_nil ?_
 refine at_tn ?_
 refine at_seq ?_
 refine at_drawn (l' := [⟨_,_,_,_,_,_⟩, ⟨_,_,_,_,_,_⟩, ⟨_,_,_,_,_,_⟩, ⟨_,_,_,_,_,_⟩, ⟨_,_,_,_,_,_⟩, ⟨_,_,_,_,_,_⟩]) [] [0, 1, 2, 3, 4, 5] mixed (by kernel_rfl) rfl (by kernel_rfl) ?_
 refine r_fieldAddr 0 0 0 rfl rfl rfl rfl rfl ti25 rfl rfl ?_
 refine r_load 0 0 [_, _] rfl rfl rfl rfl ti23 rfl rfl rfl rfl ?_
 refine r_load 0 0 [_, _, _, _] rfl rfl rfl rfl ti25 rfl rfl rfl rfl ?_
 refine r_pcall [_] rfl rfl rfl (c_rational_Den _) ?_
 refine r_pcall [_, _] rfl rfl rfl (c_rational_quotient _ _ (by first | assumption | grind [lI_add, lI_sub, lI_mul, lI_neg, lI_gcd, lI_num, lI_den, lQ_add, lQ_sub, lQ_mul, lQ_div, lQ_neg, l_nb]) (by first | assumption | grind [lI_add, lI_sub, lI_mul, lI_neg, lI_gcd, lI_num, lI_den, lQ_add, lQ_sub, lQ_mul, lQ_div, lQ_neg, l_nb]) (den_ne q)) ?_
 refine r_store rfl 1 0 [_, ⟨some g1, 23, _, 2, true⟩] [_, _] rfl rfl rfl rfl ti23 rfl rfl rfl rfl rfl ?_
 refine run_nil ?_
 refine at_tn ?_
 refine at_ret ?_
 refine at_end1 rfl (res_cell 1 rfl rfl ti23 (vs := [_, _]) rfl rfl (Nat.le_of_ble_eq_true rfl) rfl) (fun w hL => ⟨?_, hL.below⟩)
 rw [Rat.floor_def]; rfl
set_option maxRecDepth 20000 in
theorem c_rational_Ceil (q : Rat) (hq : szQ q ≤ 4194303) : PCall Tryz.prog 89 #[Q q] (I q.ceil) := by
 refine ⟨by kernel_rfl, fun w => ?_⟩
 refine calls_at (args := [Q q]) Tryz.func89 rfl (Nat.le_of_ble_eq_true rfl) (LRel.nil w) ?_
 show At w ⟨7, [(0, Q q)], []⟩ _
 refine at_seq ?_
 refine at_region ?_
 refine r_box [_, _, _, _] 4 (fun g => [⟨some g, 25, _, 4, true⟩]) rfl rfl rfl rfl rfl (fun _ => rfl) (fun g0 => ?_)
 refine r_alloc [_, _] 2 (fun g => [_, ⟨some g, 23, _, 2, true⟩]) rfl rfl z23 rfl rfl (fun _ => rfl) (fun g1 => ?_)
 refine run_nil ?_
 refine at_tn ?_
 refine at_seq ?_
 refine at_region ?_
 refine r_load 0 0 [_, _, _, _] rfl rfl rfl rfl ti25 rfl rfl rfl rfl ?_
 refine r_pcall [_] rfl rfl rfl (c_rational_Neg _) ?_
 refine r_pcall [_] rfl rfl rfl (c_rational_Floor _ (by first | assumption | grind [lI_add, lI_sub, lI_mul, lI_neg, lI_gcd, lI_num, lI_den, lQ_add, lQ_sub, lQ_mul, lQ_div, lQ_neg, l_nb])) ?_
 refine r_pcall [_] rfl rfl rfl (c_integer_Negate _) ?_
 refine r_store rfl 1 0 [_, ⟨some g1, 23, _, 2, true⟩] [_, _] rfl rfl rfl rfl ti23 rfl rfl rfl rfl rfl ?_
 refine run_nil ?_
 refine at_tn ?_
 refine at_ret ?_
 refine at_end1 rfl (res_cell 1 rfl rfl ti23 (vs := [_, _]) rfl rfl (Nat.le_of_ble_eq_true rfl) rfl) (fun w hL => ⟨?_, hL.below⟩)
 rw [Rat.ceil_eq_neg_floor_neg]; rfl
end Go.Proofs.YthnlafhnpphdhaaGreatDoor
