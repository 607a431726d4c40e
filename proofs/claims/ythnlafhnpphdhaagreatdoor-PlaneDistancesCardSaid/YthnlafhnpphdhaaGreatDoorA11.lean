/-
  Part 11: lemmas, and walks through the functions that the laws of chapter 07 call. Each theorem states its own conditions.
-/
import Derived.Test.YthnlafhnpphdhaaGreatDoorA08
import Derived.Test.YthnlafhnpphdhaaGreatDoorA09
import Derived.Test.YthnlafhnpphdhaaGreatDoorA10
set_option linter.unusedVariables false
set_option linter.unusedVariables false
set_option linter.unusedSimpArgs false
namespace Go.Via
open Go Go.RowKit
/-! ### what two segments have in common -/
def inI (a b x : Rat) : Prop := (a ≤ x ∧ x ≤ b) ∨ (b ≤ x ∧ x ≤ a)
theorem frac_of {x u : Rat} (hu : u ≠ 0) (h : inI 0 u x) : ∃ r : Rat, 0 ≤ r ∧ r ≤ 1 ∧ x = u * r := by
  have e : x = u * (x / u) := by rw [Rat.mul_comm, Rat.div_mul_cancel hu]
  refine ⟨x / u, ?_, ?_, e⟩
  · generalize x / u = r at e
    subst e
    refine Rat.not_lt.1 fun c => ?_
    rcases h with ⟨h1, h2⟩ | ⟨h1, h2⟩
    · have hu' : 0 < u := by grind
      have := Rat.mul_pos hu' (show 0 < -r by grind)
      grind
    · have hu' : 0 < -u := by grind
      have := Rat.mul_pos hu' (show 0 < -r by grind)
      grind
  · generalize x / u = r at e
    subst e
    refine Rat.not_lt.1 fun c => ?_
    rcases h with ⟨h1, h2⟩ | ⟨h1, h2⟩
    · have hu' : 0 < u := by grind
      have := Rat.mul_pos hu' (show 0 < r - 1 by grind)
      grind
    · have hu' : 0 < -u := by grind
      have := Rat.mul_pos hu' (show 0 < r - 1 by grind)
      grind
theorem of_frac {u r : Rat} (h0 : 0 ≤ r) (h1 : r ≤ 1) : inI 0 u (u * r) := by
  rcases Rat.le_total (a := 0) (b := u) with h | h
  · have p1 := Rat.mul_nonneg h h0
    have p2 := Rat.mul_nonneg h (show 0 ≤ 1 - r by grind)
    left; constructor <;> grind
  · have h' : 0 ≤ -u := by grind
    have p1 := Rat.mul_nonneg h' h0
    have p2 := Rat.mul_nonneg h' (show 0 ≤ 1 - r by grind)
    right; constructor <;> grind
theorem seg_par {u v x y : Rat} : (u * y = v * x ∧ inI 0 u x ∧ inI 0 v y) ↔ ∃ r : Rat, 0 ≤ r ∧ r ≤ 1 ∧ x = u * r ∧ y = v * r := by
  constructor
  · rintro ⟨h, hx, hy⟩
    by_cases hu : u = 0
    · subst hu
      have x0 : x = 0 := by unfold inI at hx; grind
      subst x0
      by_cases hv : v = 0
      · subst hv
        have y0 : y = 0 := by unfold inI at hy; grind
        exact ⟨0, by grind, by grind, by grind, by grind⟩
      · obtain ⟨r, h0, h1, e⟩ := frac_of hv hy
        exact ⟨r, h0, h1, by grind, e⟩
    · obtain ⟨r, h0, h1, e⟩ := frac_of hu hx
      refine ⟨r, h0, h1, e, ?_⟩
      subst e
      have : u * (y - v * r) = 0 := by grind
      rcases Rat.mul_eq_zero.1 this with c | c
      · exact absurd c hu
      · grind
  · rintro ⟨r, h0, h1, rfl, rfl⟩
    exact ⟨by grind, of_frac h0 h1, of_frac h0 h1⟩
theorem on_par {p : P2} {s : S2} : onS p s ↔ ∃ r : Rat, 0 ≤ r ∧ r ≤ 1 ∧ p = divP s r := by
  rw [on_same]
  obtain ⟨p1, p2⟩ := p
  obtain ⟨⟨a1, a2⟩, ⟨b1, b2⟩⟩ := s
  have k := seg_par (u := b1 - a1) (v := b2 - a2) (x := p1 - a1) (y := p2 - a2)
  have ho : ori (a1, a2) (b1, b2) (p1, p2) = 0 ↔ (b1 - a1) * (p2 - a2) = (b2 - a2) * (p1 - a1) := by
    show sgn ((b1 - a1) * (p2 - a2) - (b2 - a2) * (p1 - a1)) = 0 ↔ _
    rw [sgn_z]; constructor <;> intro h <;> grind
  unfold onR btw divP pAdd pScale pSub
  unfold inI at k
  dsimp only
  rw [ho]
  constructor
  · rintro ⟨h1, h2, h3⟩
    obtain ⟨r, h0, h1, e1, e2⟩ := k.1 ⟨h1, by grind, by grind⟩
    exact ⟨r, h0, h1, Prod.ext (show p1 = a1 + (b1 - a1) * r by grind) (show p2 = a2 + (b2 - a2) * r by grind)⟩
  · rintro ⟨r, h0, h1, e⟩
    have e1 : p1 = a1 + (b1 - a1) * r := congrArg Prod.fst e
    have e2 : p2 = a2 + (b2 - a2) * r := congrArg Prod.snd e
    obtain ⟨c1, c2, c3⟩ := k.2 ⟨r, h0, h1, by grind, by grind⟩
    exact ⟨c1, by grind, by grind⟩
theorem on_end1 (s : S2) : onS s.1 s := on_par.2 ⟨0, by grind, by grind, Prod.ext (show s.1.1 = s.1.1 + (s.2.1 - s.1.1) * 0 by grind) (show s.1.2 = s.1.2 + (s.2.2 - s.1.2) * 0 by grind)⟩
theorem on_end2 (s : S2) : onS s.2 s := on_par.2 ⟨1, by grind, by grind, Prod.ext (show s.2.1 = s.1.1 + (s.2.1 - s.1.1) * 1 by grind) (show s.2.2 = s.1.2 + (s.2.2 - s.1.2) * 1 by grind)⟩
theorem on_div {s : S2} {r : Rat} (h0 : 0 ≤ r) (h1 : r ≤ 1) : onS (divP s r) s := on_par.2 ⟨r, h0, h1, rfl⟩
def Kp (s t : S2) (p : P2) : Prop := onS p s ∧ onS p t
def Ep (s t : S2) (p : P2) : Prop := p = s.1 ∨ p = s.2 ∨ p = t.1 ∨ p = t.2
def leP (a b : P2) : Prop := ¬ ltP b a
def uv (s t : S2) : Rat := crs (pSub s.2 s.1) (pSub t.2 t.1)
def wv (s t : S2) : Rat := crs (pSub t.1 s.1) (pSub t.2 t.1)
def wUq (s t : S2) : Rat := crs (pSub t.1 s.1) (pSub s.2 s.1)
/-- the fractions of a common point -/
theorem K_fr {s t : S2} {p : P2} (h : Kp s t p) : ∃ r q : Rat, 0 ≤ r ∧ r ≤ 1 ∧ 0 ≤ q ∧ q ≤ 1 ∧ p = divP s r ∧ p = divP t q ∧ r * uv s t = wv s t ∧ q * uv s t = wUq s t := by
  obtain ⟨r, h0, h1, e⟩ := on_par.1 h.1
  obtain ⟨q, g0, g1, f⟩ := on_par.1 h.2
  refine ⟨r, q, h0, h1, g0, g1, e, f, ?_, ?_⟩ <;>
  · obtain ⟨p1, p2⟩ := p
    obtain ⟨⟨a1, a2⟩, ⟨b1, b2⟩⟩ := s
    obtain ⟨⟨c1, c2⟩, ⟨d1, d2⟩⟩ := t
    have e1 : p1 = a1 + (b1 - a1) * r := congrArg Prod.fst e
    have e2 : p2 = a2 + (b2 - a2) * r := congrArg Prod.snd e
    have f1 : p1 = c1 + (d1 - c1) * q := congrArg Prod.fst f
    have f2 : p2 = c2 + (d2 - c2) * q := congrArg Prod.snd f
    simp only [uv, wv, wUq, crs, pSub]
    have w1 : c1 - a1 = (b1 - a1) * r - (d1 - c1) * q := by grind
    have w2 : c2 - a2 = (b2 - a2) * r - (d2 - c2) * q := by grind
    rw [w1, w2]; grind
theorem K_uniq {s t : S2} (hD : uv s t ≠ 0) {p q : P2} (hp : Kp s t p) (hq : Kp s t q) : p = q := by
  obtain ⟨r, _, _, _, _, _, e, _, h, _⟩ := K_fr hp
  obtain ⟨r', _, _, _, _, _, e', _, h', _⟩ := K_fr hq
  have : (r - r') * uv s t = 0 := by grind
  rcases Rat.mul_eq_zero.1 this with c | c
  · rw [e, e', show r = r' by grind]
  · exact absurd c hD
/-! parallel segments with a common point -/
def posV (g : P2) : Prop := 0 < g.1 ∨ (g.1 = 0 ∧ 0 < g.2)
theorem mult {u v : P2} (hu : u ≠ (0, 0)) (h : crs u v = 0) : ∃ m : Rat, v = pScale u m := by
  obtain ⟨u1, u2⟩ := u
  obtain ⟨v1, v2⟩ := v
  have h' : u1 * v2 - u2 * v1 = 0 := h
  by_cases h1 : u1 = 0
  · have h2 : u2 ≠ 0 := fun e => hu (by rw [h1, e])
    refine ⟨v2 / u2, Prod.ext (show v1 = u1 * (v2 / u2) from ?_) (show v2 = u2 * (v2 / u2) from ?_)⟩
    · have : u2 * v1 = 0 := by grind
      rcases Rat.mul_eq_zero.1 this with c | c
      · exact absurd c h2
      · rw [c, h1, Rat.zero_mul]
    · rw [Rat.mul_comm, Rat.div_mul_cancel h2]
  · have e : v1 = u1 * (v1 / u1) := by rw [Rat.mul_comm, Rat.div_mul_cancel h1]
    refine ⟨v1 / u1, Prod.ext e (show v2 = u2 * (v1 / u1) from ?_)⟩
    generalize v1 / u1 = m at e
    subst e
    have : u1 * (v2 - u2 * m) = 0 := by grind
    rcases Rat.mul_eq_zero.1 this with c | c
    · exact absurd c h1
    · grind
theorem pos_or {u : P2} (hu : u ≠ (0, 0)) : posV u ∨ posV (-u.1, -u.2) := by
  obtain ⟨u1, u2⟩ := u
  unfold posV
  dsimp only
  by_cases h1 : u1 = 0
  · have h2 : u2 ≠ 0 := fun e => hu (by rw [h1, e])
    grind
  · grind
theorem par_of_ne {u v : P2} (hu : u ≠ (0, 0)) (h : crs u v = 0) : ∃ (g : P2) (k m : Rat), posV g ∧ u = pScale g k ∧ v = pScale g m := by
  obtain ⟨m, hm⟩ := mult hu h
  have e1 : v.1 = u.1 * m := congrArg Prod.fst hm
  have e2 : v.2 = u.2 * m := congrArg Prod.snd hm
  rcases pos_or hu with c | c
  · exact ⟨u, 1, m, c, Prod.ext (show u.1 = u.1 * 1 by grind) (show u.2 = u.2 * 1 by grind), hm⟩
  · exact ⟨(-u.1, -u.2), -1, -m, c, Prod.ext (show u.1 = -u.1 * -1 by grind) (show u.2 = -u.2 * -1 by grind), Prod.ext (show v.1 = -u.1 * -m by grind) (show v.2 = -u.2 * -m by grind)⟩
theorem par_line {u v : P2} (h : crs u v = 0) : ∃ (g : P2) (k m : Rat), posV g ∧ u = pScale g k ∧ v = pScale g m := by
  by_cases hu : u = (0, 0)
  · by_cases hv : v = (0, 0)
    · refine ⟨(1, 0), 0, 0, .inl (show (0 : Rat) < 1 by grind), ?_, ?_⟩
      · rw [hu]; exact Prod.ext (show (0 : Rat) = 1 * 0 by grind) (show (0 : Rat) = 0 * 0 by grind)
      · rw [hv]; exact Prod.ext (show (0 : Rat) = 1 * 0 by grind) (show (0 : Rat) = 0 * 0 by grind)
    · obtain ⟨g, k, m, h1, h2, h3⟩ := par_of_ne (u := v) (v := u) hv (by unfold crs at h ⊢; grind)
      exact ⟨g, m, k, h1, h3, h2⟩
  · exact par_of_ne hu h
def lnP (o g : P2) (x : Rat) : P2 := (o.1 + g.1 * x, o.2 + g.2 * x)
theorem ln_lt {o g : P2} (hg : posV g) {x y : Rat} : ltP (lnP o g x) (lnP o g y) ↔ x < y := by
  unfold ltP lnP
  dsimp only
  rcases hg with h | ⟨h0, h⟩
  · constructor
    · intro c
      refine Rat.not_le.1 fun d => ?_
      have := Rat.mul_nonneg (Rat.le_of_lt h) (show 0 ≤ x - y by grind)
      rcases c with c | ⟨c, e⟩
      · grind
      · have : g.1 * (x - y) = 0 := by grind
        rcases Rat.mul_eq_zero.1 this with f | f
        · grind
        · have : x = y := by grind
          subst this; grind
    · intro c
      have := Rat.mul_pos h (show 0 < y - x by grind)
      left; grind
  · rw [h0]
    constructor
    · intro c
      refine Rat.not_le.1 fun d => ?_
      have := Rat.mul_nonneg (Rat.le_of_lt h) (show 0 ≤ x - y by grind)
      rcases c with c | ⟨c, e⟩ <;> grind
    · intro c
      have := Rat.mul_pos h (show 0 < y - x by grind)
      right; constructor <;> grind
theorem ltP_irrefl (a : P2) : ¬ ltP a a := by unfold ltP; grind
theorem ltP_tri {a b : P2} (h1 : ¬ ltP a b) (h2 : ¬ ltP b a) : a = b := by
  unfold ltP at h1 h2
  have : a.1 = b.1 := by grind
  exact Prod.ext this (by grind)
theorem ltP_trans {a b c : P2} (h1 : ltP a b) (h2 : ltP b c) : ltP a c := by unfold ltP at *; grind
theorem ln_inj {o g : P2} (hg : posV g) {x y : Rat} (h : lnP o g x = lnP o g y) : x = y := by
  have h1 : ¬ x < y := fun c => by have := (ln_lt (o := o) hg).2 c; rw [h] at this; exact ltP_irrefl _ this
  have h2 : ¬ y < x := fun c => by have := (ln_lt (o := o) hg).2 c; rw [h] at this; exact ltP_irrefl _ this
  grind
theorem ln_on {o g : P2} {a b : Rat} {p : P2} : onS p (lnP o g a, lnP o g b) ↔ ∃ x, p = lnP o g x ∧ inI a b x := by
  rw [on_par]
  constructor
  · rintro ⟨r, h0, h1, rfl⟩
    refine ⟨a + (b - a) * r, ?_, ?_⟩
    · unfold divP pAdd pScale pSub lnP
      refine Prod.ext ?_ ?_
      · show o.1 + g.1 * a + (o.1 + g.1 * b - (o.1 + g.1 * a)) * r = o.1 + g.1 * (a + (b - a) * r); grind
      · show o.2 + g.2 * a + (o.2 + g.2 * b - (o.2 + g.2 * a)) * r = o.2 + g.2 * (a + (b - a) * r); grind
    · have := of_frac (u := b - a) h0 h1
      unfold inI at this ⊢; grind
  · rintro ⟨x, rfl, hx⟩
    obtain ⟨r, h0, h1, e⟩ : ∃ r : Rat, 0 ≤ r ∧ r ≤ 1 ∧ x - a = (b - a) * r := by
      by_cases hab : b - a = 0
      · exact ⟨0, by grind, by grind, by unfold inI at hx; grind⟩
      · exact frac_of hab (by unfold inI at hx ⊢; grind)
    have e' : x = a + (b - a) * r := by grind
    refine ⟨r, h0, h1, ?_⟩
    unfold divP pAdd pScale pSub lnP
    subst e'
    refine Prod.ext ?_ ?_
    · show o.1 + g.1 * (a + (b - a) * r) = o.1 + g.1 * a + (o.1 + g.1 * b - (o.1 + g.1 * a)) * r; grind
    · show o.2 + g.2 * (a + (b - a) * r) = o.2 + g.2 * a + (o.2 + g.2 * b - (o.2 + g.2 * a)) * r; grind
theorem lin_low {a b c d : Rat} (h1 : inI a b 0) (h2 : inI c d 0) : ∃ l : Rat, (l = a ∨ l = b ∨ l = c ∨ l = d) ∧ inI a b l ∧ inI c d l ∧ ∀ x, inI a b x → inI c d x → l ≤ x := by
  have key : ∀ {a b c d : Rat}, a ≤ 0 → 0 ≤ b → c ≤ 0 → 0 ≤ d → ∃ l : Rat, (l = a ∨ l = c) ∧ inI a b l ∧ inI c d l ∧ ∀ x, inI a b x → inI c d x → l ≤ x := by
    intro a b c d ha hb hc hd
    by_cases h : a ≤ c
    · exact ⟨c, .inr rfl, .inl ⟨h, by grind⟩, .inl ⟨Rat.le_refl, by grind⟩, fun x k1 k2 => by unfold inI at k1 k2; grind⟩
    · exact ⟨a, .inl rfl, .inl ⟨Rat.le_refl, by grind⟩, .inl ⟨by grind, by grind⟩, fun x k1 k2 => by unfold inI at k1 k2; grind⟩
  have sy : ∀ {a b x : Rat}, inI a b x ↔ inI b a x := by intro a b x; unfold inI; exact Or.comm
  rcases h1 with ⟨a1, a2⟩ | ⟨a1, a2⟩ <;> rcases h2 with ⟨c1, c2⟩ | ⟨c1, c2⟩
  · obtain ⟨l, k, k1, k2, k3⟩ := key a1 a2 c1 c2
    exact ⟨l, by rcases k with k | k <;> simp [k], k1, k2, k3⟩
  · obtain ⟨l, k, k1, k2, k3⟩ := key a1 a2 c1 c2
    exact ⟨l, by rcases k with k | k <;> simp [k], k1, sy.1 k2, fun x e f => k3 x e (sy.1 f)⟩
  · obtain ⟨l, k, k1, k2, k3⟩ := key a1 a2 c1 c2
    exact ⟨l, by rcases k with k | k <;> simp [k], sy.1 k1, k2, fun x e f => k3 x (sy.1 e) f⟩
  · obtain ⟨l, k, k1, k2, k3⟩ := key a1 a2 c1 c2
    exact ⟨l, by rcases k with k | k <;> simp [k], sy.1 k1, sy.1 k2, fun x e f => k3 x (sy.1 e) (sy.1 f)⟩
theorem inI_neg {a b x : Rat} : inI (-a) (-b) (-x) ↔ inI a b x := by unfold inI; constructor <;> intro h <;> grind
theorem lin_high {a b c d : Rat} (h1 : inI a b 0) (h2 : inI c d 0) : ∃ l : Rat, (l = a ∨ l = b ∨ l = c ∨ l = d) ∧ inI a b l ∧ inI c d l ∧ ∀ x, inI a b x → inI c d x → x ≤ l := by
  obtain ⟨l, k, k1, k2, k3⟩ := lin_low (a := -a) (b := -b) (c := -c) (d := -d) (by have := inI_neg.2 h1; rwa [Rat.neg_zero] at this) (by have := inI_neg.2 h2; rwa [Rat.neg_zero] at this)
  refine ⟨-l, by grind, inI_neg.1 (by rwa [Rat.neg_neg]), inI_neg.1 (by rwa [Rat.neg_neg]), fun x e f => ?_⟩
  have := k3 (-x) (inI_neg.2 e) (inI_neg.2 f)
  grind
theorem lin_end1 {a b l h : Rat} (z : inI a b 0) (l1 : inI a b l) (h1 : inI a b h) (A : l ≤ a) (B : a ≤ h) : a = l ∨ a = h := by
  unfold inI at z l1 h1
  grind
theorem inI_sy {a b x : Rat} : inI a b x ↔ inI b a x := by unfold inI; exact Or.comm
theorem lin_end {a b c d l h x : Rat} (z : inI a b 0) (z' : inI c d 0) (l1 : inI a b l) (l2 : inI c d l) (h1 : inI a b h) (h2 : inI c d h) (hx : x = a ∨ x = b ∨ x = c ∨ x = d) (A : l ≤ x) (B : x ≤ h) : x = l ∨ x = h := by
  rcases hx with rfl | rfl | rfl | rfl
  · exact lin_end1 z l1 h1 A B
  · exact lin_end1 (inI_sy.1 z) (inI_sy.1 l1) (inI_sy.1 h1) A B
  · exact lin_end1 z' l2 h2 A B
  · exact lin_end1 (inI_sy.1 z') (inI_sy.1 l2) (inI_sy.1 h2) A B
/-- parallel segments with a common point: the least and the greatest one are ends -/
theorem K_line {s t : S2} (hD : uv s t = 0) {p : P2} (hp : Kp s t p) : ∃ lo hi, Kp s t lo ∧ Kp s t hi ∧ Ep s t lo ∧ Ep s t hi ∧ (∀ q, Kp s t q → leP lo q ∧ leP q hi) ∧ (∀ e, Ep s t e → Kp s t e → e = lo ∨ e = hi) := by
  obtain ⟨g, k, m, hg, hu, hv⟩ := par_line hD
  obtain ⟨r, q, h0, h1, g0, g1, e, f, _, _⟩ := K_fr hp
  have u1 : s.2.1 - s.1.1 = g.1 * k := congrArg Prod.fst hu
  have u2 : s.2.2 - s.1.2 = g.2 * k := congrArg Prod.snd hu
  have v1 : t.2.1 - t.1.1 = g.1 * m := congrArg Prod.fst hv
  have v2 : t.2.2 - t.1.2 = g.2 * m := congrArg Prod.snd hv
  have e1 : p.1 = s.1.1 + (s.2.1 - s.1.1) * r := congrArg Prod.fst e
  have e2 : p.2 = s.1.2 + (s.2.2 - s.1.2) * r := congrArg Prod.snd e
  have f1 : p.1 = t.1.1 + (t.2.1 - t.1.1) * q := congrArg Prod.fst f
  have f2 : p.2 = t.1.2 + (t.2.2 - t.1.2) * q := congrArg Prod.snd f
  have hs1 : s.1 = lnP p g (-(k * r)) := Prod.ext (show s.1.1 = p.1 + g.1 * (-(k * r)) by rw [e1, u1]; grind) (show s.1.2 = p.2 + g.2 * (-(k * r)) by rw [e2, u2]; grind)
  have hs2 : s.2 = lnP p g (k * (1 - r)) := Prod.ext (show s.2.1 = p.1 + g.1 * (k * (1 - r)) by rw [e1, u1]; grind) (show s.2.2 = p.2 + g.2 * (k * (1 - r)) by rw [e2, u2]; grind)
  have ht1 : t.1 = lnP p g (-(m * q)) := Prod.ext (show t.1.1 = p.1 + g.1 * (-(m * q)) by rw [f1, v1]; grind) (show t.1.2 = p.2 + g.2 * (-(m * q)) by rw [f2, v2]; grind)
  have ht2 : t.2 = lnP p g (m * (1 - q)) := Prod.ext (show t.2.1 = p.1 + g.1 * (m * (1 - q)) by rw [f1, v1]; grind) (show t.2.2 = p.2 + g.2 * (m * (1 - q)) by rw [f2, v2]; grind)
  have zs : inI (-(k * r)) (k * (1 - r)) 0 := by
    have := of_frac (u := k) h0 h1
    unfold inI at this ⊢; grind
  have zt : inI (-(m * q)) (m * (1 - q)) 0 := by
    have := of_frac (u := m) g0 g1
    unfold inI at this ⊢; grind
  generalize -(k * r) = α at *
  generalize k * (1 - r) = β at *
  generalize -(m * q) = γ at *
  generalize m * (1 - q) = δ at *
  have hK : ∀ z, Kp s t z ↔ ∃ x, z = lnP p g x ∧ inI α β x ∧ inI γ δ x := by
    intro z
    unfold Kp
    rw [show s = (lnP p g α, lnP p g β) from Prod.ext hs1 hs2, show t = (lnP p g γ, lnP p g δ) from Prod.ext ht1 ht2, ln_on, ln_on]
    constructor
    · rintro ⟨⟨x, rfl, hx⟩, y, hy, hy'⟩
      have := ln_inj hg hy
      subst this
      exact ⟨x, rfl, hx, hy'⟩
    · rintro ⟨x, rfl, a, b⟩
      exact ⟨⟨x, rfl, a⟩, x, rfl, b⟩
  have hE : ∀ z, Ep s t z ↔ ∃ x, z = lnP p g x ∧ (x = α ∨ x = β ∨ x = γ ∨ x = δ) := by
    intro z
    unfold Ep
    rw [hs1, hs2, ht1, ht2]
    constructor
    · rintro (c | c | c | c) <;> exact ⟨_, c, by simp⟩
    · rintro ⟨x, rfl, c | c | c | c⟩ <;> simp [c]
  obtain ⟨l, lE, l1, l2, l3⟩ := lin_low zs zt
  obtain ⟨h, hE', h1', h2', h3'⟩ := lin_high zs zt
  refine ⟨lnP p g l, lnP p g h, (hK _).2 ⟨l, rfl, l1, l2⟩, (hK _).2 ⟨h, rfl, h1', h2'⟩, (hE _).2 ⟨l, rfl, lE⟩, (hE _).2 ⟨h, rfl, hE'⟩, ?_, ?_⟩
  · intro z hz
    obtain ⟨x, rfl, a, b⟩ := (hK _).1 hz
    unfold leP
    rw [ln_lt hg, ln_lt hg, Rat.not_lt, Rat.not_lt]
    exact ⟨l3 x a b, h3' x a b⟩
  · intro z hz hz'
    obtain ⟨x, rfl, hx⟩ := (hE _).1 hz
    obtain ⟨y, hy, a, b⟩ := (hK _).1 hz'
    have := ln_inj hg hy
    subst this
    have A := l3 x a b
    have B := h3' x a b
    have : x = l ∨ x = h := lin_end zs zt l1 l2 h1' h2' hx A B
    rcases this with c | c
    · left; rw [c]
    · right; rw [c]
end Go.Via
set_option linter.unusedVariables false
set_option linter.unusedSimpArgs false
namespace Go.Via
open Go Go.RowKit
/-- what the answer of a meeting has to be -/
def MeetIs (s t : S2) (m : Int × S2) : Prop :=
  (m = (0, ((0, 0), (0, 0))) ∧ ∀ p, ¬ Kp s t p) ∨ (∃ c, m = (1, (c, c)) ∧ Kp s t c ∧ Ep s t c ∧ ∀ p, Kp s t p → p = c) ∨
  (∃ c, m = (2, (c, c)) ∧ Kp s t c ∧ ¬ Ep s t c ∧ ∀ p, Kp s t p → p = c) ∨
  (∃ a b, m = (3, (a, b)) ∧ Kp s t a ∧ Kp s t b ∧ ltP a b ∧ ∀ p, Kp s t p → leP a p ∧ leP p b)
theorem MeetIs.uniq {s t s' t' : S2} {m m' : Int × S2} (h : MeetIs s t m) (h' : MeetIs s' t' m') (hK : ∀ p, Kp s t p ↔ Kp s' t' p) (hE : ∀ p, Ep s t p ↔ Ep s' t' p) : m = m' := by
  rcases h with ⟨rfl, h⟩ | ⟨c, rfl, h1, h2, h3⟩ | ⟨c, rfl, h1, h2, h3⟩ | ⟨a, b, rfl, h1, h2, h3, h4⟩
  · rcases h' with ⟨rfl, g⟩ | ⟨d, rfl, g1, g2, g3⟩ | ⟨d, rfl, g1, g2, g3⟩ | ⟨a', b', rfl, g1, g2, g3, g4⟩
    · rfl
    · exact absurd ((hK _).2 g1) (h _)
    · exact absurd ((hK _).2 g1) (h _)
    · exact absurd ((hK _).2 g1) (h _)
  · rcases h' with ⟨rfl, g⟩ | ⟨d, rfl, g1, g2, g3⟩ | ⟨d, rfl, g1, g2, g3⟩ | ⟨a', b', rfl, g1, g2, g3, g4⟩
    · exact absurd ((hK _).1 h1) (g _)
    · rw [h3 d ((hK _).2 g1)]
    · have := h3 d ((hK _).2 g1); subst this; exact absurd ((hE _).1 h2) g2
    · have e1 := h3 _ ((hK _).2 g1); have e2 := h3 _ ((hK _).2 g2); rw [e1, e2] at g3; exact absurd g3 (ltP_irrefl _)
  · rcases h' with ⟨rfl, g⟩ | ⟨d, rfl, g1, g2, g3⟩ | ⟨d, rfl, g1, g2, g3⟩ | ⟨a', b', rfl, g1, g2, g3, g4⟩
    · exact absurd ((hK _).1 h1) (g _)
    · have := h3 d ((hK _).2 g1); subst this; exact absurd ((hE _).2 g2) h2
    · rw [h3 d ((hK _).2 g1)]
    · have e1 := h3 _ ((hK _).2 g1); have e2 := h3 _ ((hK _).2 g2); rw [e1, e2] at g3; exact absurd g3 (ltP_irrefl _)
  · rcases h' with ⟨rfl, g⟩ | ⟨d, rfl, g1, g2, g3⟩ | ⟨d, rfl, g1, g2, g3⟩ | ⟨a', b', rfl, g1, g2, g3, g4⟩
    · exact absurd ((hK _).1 h1) (g _)
    · have e1 := g3 _ ((hK _).1 h1); have e2 := g3 _ ((hK _).1 h2); rw [e1, e2] at h3; exact absurd h3 (ltP_irrefl _)
    · have e1 := g3 _ ((hK _).1 h1); have e2 := g3 _ ((hK _).1 h2); rw [e1, e2] at h3; exact absurd h3 (ltP_irrefl _)
    · have A := h4 _ ((hK _).2 g1); have B := h4 _ ((hK _).2 g2); have A' := g4 _ ((hK _).1 h1); have B' := g4 _ ((hK _).1 h2)
      rw [ltP_tri A'.1 A.1, ltP_tri B.2 B'.2]
theorem addE_iff {l : List P2} {p q : P2} {on : S2} : q ∈ addE l p on ↔ q ∈ l ∨ (q = p ∧ onS p on) := by
  unfold addE
  by_cases h : onS p on
  · by_cases g : p ∈ l
    · rw [if_neg (fun c => c.2 g)]
      exact ⟨.inl, fun c => c.elim id (fun c => c.1 ▸ g)⟩
    · rw [if_pos ⟨h, g⟩, List.mem_append, List.mem_singleton]
      exact ⟨fun c => c.imp id (fun c => ⟨c, h⟩), fun c => c.imp id (fun c => c.1)⟩
  · rw [if_neg (fun c => h c.1)]
    exact ⟨.inl, fun c => c.elim id (fun c => absurd c.2 h)⟩
theorem addE_nodup {l : List P2} {p : P2} {on : S2} (h : l.Nodup) : (addE l p on).Nodup := by
  unfold addE
  split
  · rename_i c
    rw [List.nodup_append]
    exact ⟨h, by simp, fun a ha b hb e => c.2 (by rw [List.mem_singleton] at hb; rw [← hb, ← e]; exact ha)⟩
  · exact h
theorem ends_nodup (s t : S2) : (endsP s t).Nodup := by unfold endsP; exact addE_nodup (addE_nodup (addE_nodup (addE_nodup List.nodup_nil)))
theorem mem_ends {s t : S2} {p : P2} : p ∈ endsP s t ↔ Ep s t p ∧ Kp s t p := by
  unfold endsP
  rw [addE_iff, addE_iff, addE_iff, addE_iff]
  unfold Ep Kp
  constructor
  · rintro ((((c | ⟨rfl, c⟩) | ⟨rfl, c⟩) | ⟨rfl, c⟩) | ⟨rfl, c⟩)
    · cases c
    · exact ⟨.inl rfl, on_end1 s, c⟩
    · exact ⟨.inr (.inl rfl), on_end2 s, c⟩
    · exact ⟨.inr (.inr (.inl rfl)), c, on_end1 t⟩
    · exact ⟨.inr (.inr (.inr rfl)), c, on_end2 t⟩
  · rintro ⟨rfl | rfl | rfl | rfl, c, d⟩
    · exact .inl (.inl (.inl (.inr ⟨rfl, d⟩)))
    · exact .inl (.inl (.inr ⟨rfl, d⟩))
    · exact .inl (.inr ⟨rfl, c⟩)
    · exact .inr ⟨rfl, c⟩
theorem sgn_opp {x y : Rat} : sgn x * sgn y < 0 ↔ (x < 0 ∧ 0 < y) ∨ (0 < x ∧ y < 0) := by
  have hx := @sgn_n x; have hx' := @sgn_p x; have hx0 := @sgn_z x
  have hy := @sgn_n y; have hy' := @sgn_p y; have hy0 := @sgn_z y
  have bx := sgn_bound x; have by' := sgn_bound y
  rcases (show sgn x = -1 ∨ sgn x = 0 ∨ sgn x = 1 by omega) with a | a | a <;> rcases (show sgn y = -1 ∨ sgn y = 0 ∨ sgn y = 1 by omega) with b | b | b <;> rw [a, b]
  · have := hx.1 a; have := hy.1 b; constructor
    · intro h; exact absurd h (by decide)
    · intro h; grind
  · have := hx.1 a; have := hy0.1 b; constructor
    · intro h; exact absurd h (by decide)
    · intro h; grind
  · have := hx.1 a; have := hy'.1 b; exact ⟨fun _ => by grind, fun _ => by decide⟩
  · have := hx0.1 a; have := hy.1 b; constructor
    · intro h; exact absurd h (by decide)
    · intro h; grind
  · have := hx0.1 a; have := hy0.1 b; constructor
    · intro h; exact absurd h (by decide)
    · intro h; grind
  · have := hx0.1 a; have := hy'.1 b; constructor
    · intro h; exact absurd h (by decide)
    · intro h; grind
  · have := hx'.1 a; have := hy.1 b; exact ⟨fun _ => by grind, fun _ => by decide⟩
  · have := hx'.1 a; have := hy0.1 b; constructor
    · intro h; exact absurd h (by decide)
    · intro h; grind
  · have := hx'.1 a; have := hy'.1 b; constructor
    · intro h; exact absurd h (by decide)
    · intro h; grind
/-- the test of the crossing, by the products -/
def FFt (s t : S2) : Prop := ¬ 0 ≤ ori s.1 s.2 t.1 * ori s.1 s.2 t.2 ∧ ¬ 0 ≤ ori t.1 t.2 s.1 * ori t.1 t.2 s.2
theorem FF_iff (s t : S2) : FFt s t ↔ ((0 < wUq s t ∧ wUq s t < uv s t) ∨ (wUq s t < 0 ∧ uv s t < wUq s t)) ∧ ((0 < wv s t ∧ wv s t < uv s t) ∨ (wv s t < 0 ∧ uv s t < wv s t)) := by
  obtain ⟨⟨a1, a2⟩, ⟨b1, b2⟩⟩ := s
  obtain ⟨⟨c1, c2⟩, ⟨d1, d2⟩⟩ := t
  unfold FFt ori
  rw [Int.not_le, Int.not_le, sgn_opp, sgn_opp]
  unfold wUq wv uv crs pSub
  dsimp only
  have e1 : (b1 - a1) * (c2 - a2) - (b2 - a2) * (c1 - a1) = -((c1 - a1) * (b2 - a2) - (c2 - a2) * (b1 - a1)) := by grind
  have e2 : (b1 - a1) * (d2 - a2) - (b2 - a2) * (d1 - a1) = ((b1 - a1) * (d2 - c2) - (b2 - a2) * (d1 - c1)) - ((c1 - a1) * (b2 - a2) - (c2 - a2) * (b1 - a1)) := by grind
  have e3 : (d1 - c1) * (a2 - c2) - (d2 - c2) * (a1 - c1) = (c1 - a1) * (d2 - c2) - (c2 - a2) * (d1 - c1) := by grind
  have e4 : (d1 - c1) * (b2 - c2) - (d2 - c2) * (b1 - c1) = ((c1 - a1) * (d2 - c2) - (c2 - a2) * (d1 - c1)) - ((b1 - a1) * (d2 - c2) - (b2 - a2) * (d1 - c1)) := by grind
  rw [e1, e2, e3, e4]
  generalize (c1 - a1) * (b2 - a2) - (c2 - a2) * (b1 - a1) = X
  generalize (b1 - a1) * (d2 - c2) - (b2 - a2) * (d1 - c1) = D
  generalize (c1 - a1) * (d2 - c2) - (c2 - a2) * (d1 - c1) = Y
  constructor <;> intro h <;> grind
theorem div_unit {x d : Rat} (h : (0 ≤ x ∧ x ≤ d) ∨ (x ≤ 0 ∧ d ≤ x)) (hd : d ≠ 0) : 0 ≤ x / d ∧ x / d ≤ 1 := by
  obtain ⟨r, h0, h1, e⟩ := frac_of hd (x := x) (by unfold inI; grind)
  rw [e, Rat.mul_comm, Rat.mul_div_cancel hd]
  exact ⟨h0, h1⟩
theorem cross_t {s t : S2} (hD : uv s t ≠ 0) : divP s (wv s t / uv s t) = divP t (wUq s t / uv s t) := by
  have e1 : wv s t / uv s t * uv s t = wv s t := Rat.div_mul_cancel hD
  have e2 : wUq s t / uv s t * uv s t = wUq s t := Rat.div_mul_cancel hD
  generalize wv s t / uv s t = r at *
  generalize wUq s t / uv s t = q at *
  have key : ∀ x y : Rat, (x - y) * uv s t = 0 → x = y := fun x y h => by
    rcases Rat.mul_eq_zero.1 h with c | c
    · grind
    · exact absurd c hD
  obtain ⟨⟨a1, a2⟩, ⟨b1, b2⟩⟩ := s
  obtain ⟨⟨c1, c2⟩, ⟨d1, d2⟩⟩ := t
  unfold divP pAdd pScale pSub
  dsimp only
  refine Prod.ext (key _ _ ?_) (key _ _ ?_)
  · show (a1 + (b1 - a1) * r - (c1 + (d1 - c1) * q)) * _ = 0
    have : (a1 + (b1 - a1) * r - (c1 + (d1 - c1) * q)) * uv ((a1, a2), (b1, b2)) ((c1, c2), (d1, d2)) = (a1 - c1) * uv ((a1, a2), (b1, b2)) ((c1, c2), (d1, d2)) + (b1 - a1) * (r * uv ((a1, a2), (b1, b2)) ((c1, c2), (d1, d2))) - (d1 - c1) * (q * uv ((a1, a2), (b1, b2)) ((c1, c2), (d1, d2))) := by grind
    rw [this, e1, e2]
    unfold uv wv wUq crs pSub
    dsimp only
    grind
  · show (a2 + (b2 - a2) * r - (c2 + (d2 - c2) * q)) * _ = 0
    have : (a2 + (b2 - a2) * r - (c2 + (d2 - c2) * q)) * uv ((a1, a2), (b1, b2)) ((c1, c2), (d1, d2)) = (a2 - c2) * uv ((a1, a2), (b1, b2)) ((c1, c2), (d1, d2)) + (b2 - a2) * (r * uv ((a1, a2), (b1, b2)) ((c1, c2), (d1, d2))) - (d2 - c2) * (q * uv ((a1, a2), (b1, b2)) ((c1, c2), (d1, d2))) := by grind
    rw [this, e1, e2]
    unfold uv wv wUq crs pSub
    dsimp only
    grind
/-- where the test of the crossing holds, its point is common -/
theorem cross_K {s t : S2} (h : FFt s t) : uv s t ≠ 0 ∧ Kp s t (divP s (wv s t / uv s t)) := by
  have h' := (FF_iff s t).1 h
  have hD : uv s t ≠ 0 := by grind
  refine ⟨hD, ?_, ?_⟩
  · have := div_unit (x := wv s t) (d := uv s t) (by grind) hD
    exact on_div this.1 this.2
  · rw [cross_t hD]
    have := div_unit (x := wUq s t) (d := uv s t) (by grind) hD
    exact on_div this.1 this.2
/-- a common point that is no end: the test holds, and the point is that of the crossing -/
theorem cross_of {s t : S2} {c : P2} (hc : Kp s t c) (hN : ∀ e, Ep s t e → ¬ Kp s t e) : uv s t ≠ 0 ∧ FFt s t ∧ divP s (wv s t / uv s t) = c := by
  have hE : ¬ Ep s t c := fun h => hN c h hc
  obtain ⟨r, q, h0, h1, g0, g1, e, f, er, eq⟩ := K_fr hc
  have hr0 : r ≠ 0 := fun z => hE (.inl (by rw [e, z]; unfold divP pAdd pScale; exact Prod.ext (show _ + _ * (0 : Rat) = _ by grind) (show _ + _ * (0 : Rat) = _ by grind)))
  have hr1 : r ≠ 1 := fun z => hE (.inr (.inl (by rw [e, z]; unfold divP pAdd pScale pSub; exact Prod.ext (show s.1.1 + (s.2.1 - s.1.1) * (1 : Rat) = s.2.1 by grind) (show s.1.2 + (s.2.2 - s.1.2) * (1 : Rat) = s.2.2 by grind))))
  have hq0 : q ≠ 0 := fun z => hE (.inr (.inr (.inl (by rw [f, z]; unfold divP pAdd pScale; exact Prod.ext (show _ + _ * (0 : Rat) = _ by grind) (show _ + _ * (0 : Rat) = _ by grind)))))
  have hq1 : q ≠ 1 := fun z => hE (.inr (.inr (.inr (by rw [f, z]; unfold divP pAdd pScale pSub; exact Prod.ext (show t.1.1 + (t.2.1 - t.1.1) * (1 : Rat) = t.2.1 by grind) (show t.1.2 + (t.2.2 - t.1.2) * (1 : Rat) = t.2.2 by grind)))))
  have hD : uv s t ≠ 0 := fun z => by
    obtain ⟨lo, hi, k1, k2, e1, e2, k3, k4⟩ := K_line z hc
    exact hN lo e1 k1
  refine ⟨hD, (FF_iff s t).2 ?_, ?_⟩
  · rw [← er, ← eq]
    rcases (show 0 < uv s t ∨ 0 < -uv s t by grind) with d | d
    · have A := Rat.mul_pos (show 0 < r by grind) d
      have B := Rat.mul_pos (show 0 < 1 - r by grind) d
      have A' := Rat.mul_pos (show 0 < q by grind) d
      have B' := Rat.mul_pos (show 0 < 1 - q by grind) d
      grind
    · have A := Rat.mul_pos (show 0 < r by grind) d
      have B := Rat.mul_pos (show 0 < 1 - r by grind) d
      have A' := Rat.mul_pos (show 0 < q by grind) d
      have B' := Rat.mul_pos (show 0 < 1 - q by grind) d
      grind
  · rw [← er, Rat.mul_div_cancel hD]; exact e.symm
theorem K_ends {s t : S2} {e : P2} (he : Ep s t e) (hk : Kp s t e) : ∃ lo hi, Kp s t lo ∧ Kp s t hi ∧ Ep s t lo ∧ Ep s t hi ∧ (∀ q, Kp s t q → leP lo q ∧ leP q hi) ∧ (∀ e, Ep s t e → Kp s t e → e = lo ∨ e = hi) := by
  by_cases hD : uv s t = 0
  · exact K_line hD hk
  · exact ⟨e, e, hk, hk, he, he, fun q hq => by rw [K_uniq hD hq hk]; exact ⟨ltP_irrefl _, ltP_irrefl _⟩, fun z _ hz => .inl (K_uniq hD hz hk)⟩
theorem cross_1 {s t : S2} (h : FFt s t) : crossP s t = (2, (divP s (wv s t / uv s t), divP s (wv s t / uv s t))) := cross_FF h.1 h.2
theorem cross_0 {s t : S2} (h : ¬ FFt s t) : crossP s t = (0, ((0, 0), (0, 0))) := by
  by_cases h1 : 0 ≤ ori s.1 s.2 t.1 * ori s.1 s.2 t.2
  · exact cross_T1 h1
  · exact cross_T2 (Classical.byContradiction fun h2 => h ⟨h1, h2⟩)
/-- a list of distinct ends that are common: what it says about the common points -/
theorem ends_cases {s t : S2} {l : List P2} (hn : l.Nodup) (hm : ∀ p, p ∈ l ↔ Ep s t p ∧ Kp s t p) :
    (l = [] ∧ ∀ e, Ep s t e → ¬ Kp s t e) ∨ (∃ c, l = [c] ∧ Kp s t c ∧ Ep s t c ∧ ∀ p, Kp s t p → p = c) ∨ (∃ a b, (l = [a, b] ∨ l = [b, a]) ∧ Kp s t a ∧ Kp s t b ∧ ltP a b ∧ ∀ p, Kp s t p → leP a p ∧ leP p b) := by
  match l, hn, hm with
  | [], hn, hm => exact .inl ⟨rfl, fun e h1 h2 => by have := (hm e).2 ⟨h1, h2⟩; cases this⟩
  | [c], hn, hm =>
    obtain ⟨hE, hK⟩ := (hm c).1 (by simp)
    obtain ⟨lo, hi, k1, k2, e1, e2, k3, k4⟩ := K_ends hE hK
    have a1 : lo = c := by have := (hm lo).2 ⟨e1, k1⟩; simpa using this
    have a2 : hi = c := by have := (hm hi).2 ⟨e2, k2⟩; simpa using this
    subst a1; subst a2
    exact .inr (.inl ⟨hi, rfl, hK, hE, fun p hp => ltP_tri (k3 p hp).1 (k3 p hp).2⟩)
  | [a, b], hn, hm =>
    obtain ⟨hE, hK⟩ := (hm a).1 (by simp)
    obtain ⟨hE', hK'⟩ := (hm b).1 (by simp)
    have hab : a ≠ b := by simp at hn; exact hn
    obtain ⟨lo, hi, k1, k2, e1, e2, k3, k4⟩ := K_ends hE hK
    refine .inr (.inr ⟨lo, hi, ?_⟩)
    have h1 := k4 a hE hK
    have h2 := k4 b hE' hK'
    have hne : lo ≠ hi := fun e => hab (by rcases h1 with h1 | h1 <;> rcases h2 with h2 | h2 <;> rw [h1, h2] <;> first | rfl | exact e | exact e.symm)
    have hlt : ltP lo hi := Classical.byContradiction fun c => hne (ltP_tri c (k3 hi k2).1)
    refine ⟨?_, k1, k2, hlt, k3⟩
    rcases h1 with h1 | h1 <;> rcases h2 with h2 | h2
    · exact absurd (h1.trans h2.symm) hab
    · left; rw [h1, h2]
    · right; rw [h1, h2]
    · exact absurd (h1.trans h2.symm) hab
  | a :: b :: c :: l, hn, hm =>
    exfalso
    obtain ⟨hE, hK⟩ := (hm a).1 (by simp)
    obtain ⟨hE', hK'⟩ := (hm b).1 (by simp)
    obtain ⟨hE2, hK2⟩ := (hm c).1 (by simp)
    simp only [List.nodup_cons, List.mem_cons, not_or] at hn
    obtain ⟨lo, hi, k1, k2, e1, e2, k3, k4⟩ := K_ends hE hK
    obtain ⟨⟨n1, n2, _⟩, ⟨n3, _⟩, _⟩ := hn
    rcases k4 a hE hK with c1 | c1 <;> rcases k4 b hE' hK' with c2 | c2 <;> rcases k4 c hE2 hK2 with c3 | c3 <;> subst c1 <;> first | exact n1 c2.symm | exact n2 c3.symm | exact n3 (c2.trans c3.symm)
theorem meetP_is (s t : S2) : MeetIs s t (meetP s t) := by
  rcases ends_cases (ends_nodup s t) (fun p => mem_ends) with ⟨h, hN⟩ | ⟨c, h, h1, h2, h3⟩ | ⟨a, b, h | h, h1, h2, h3, h4⟩
  · rw [meet_0 h]
    by_cases hF : FFt s t
    · rw [cross_1 hF]
      obtain ⟨hD, hK⟩ := cross_K hF
      exact .inr (.inr (.inl ⟨_, rfl, hK, fun e => hN _ e hK, fun p hp => K_uniq hD hp hK⟩))
    · rw [cross_0 hF]
      exact .inl ⟨rfl, fun p hp => hF (cross_of hp hN).2.1⟩
  · rw [meet_1 h]; exact .inr (.inl ⟨c, rfl, h1, h2, h3⟩)
  · rw [meet_3 h (by have := cmpP_neg.2 h3; omega)]; exact .inr (.inr (.inr ⟨a, b, rfl, h1, h2, h3, h4⟩))
  · rw [meet_2 h (by have := cmpP_pos.2 h3; omega)]; exact .inr (.inr (.inr ⟨a, b, rfl, h1, h2, h3, h4⟩))
/-! what PlaneCommon says -/
end Go.Via
set_option linter.unusedVariables false
set_option linter.unusedSimpArgs false
namespace Go.Via
open Go Go.RowKit
/-! ### bounds, fractions, ends: for the law about common points -/
end Go.Via
set_option linter.unusedVariables false
set_option linter.unusedSimpArgs false
namespace Go.Via
open Go Go.RowKit
/-! ### the reference's answer -/
def insP (p : P2) : List P2 → List P2
  | [] => [p]
  | x :: l => if cmpP x p < 0 then x :: insP p l else if x = p then x :: l else p :: x :: l
theorem insP_at {p : P2} : ∀ {l : List P2} {k : Nat}, k ≤ l.length → (∀ j x, j < k → l[j]? = some x → cmpP x p < 0) → (∀ x, l[k]? = some x → ¬ cmpP x p < 0 ∧ x ≠ p) → insP p l = l.take k ++ p :: l.drop k
  | [], k, h1, h2, h3 => by
    have : k = 0 := Nat.le_zero.1 h1
    subst this; rfl
  | x :: l, 0, h1, h2, h3 => by
    obtain ⟨a, b⟩ := h3 x rfl
    unfold insP; rw [if_neg a, if_neg b]; rfl
  | x :: l, k + 1, h1, h2, h3 => by
    have a := h2 0 x (by omega) rfl
    have ih := insP_at (p := p) (l := l) (k := k) (by simp at h1; omega) (fun j y hj hy => h2 (j + 1) y (by omega) (by simpa using hy)) (fun y hy => h3 y (by simpa using hy))
    unfold insP; rw [if_pos a, ih]; rfl
theorem insP_eq {p : P2} : ∀ {l : List P2} {k : Nat}, (∀ j x, j < k → l[j]? = some x → cmpP x p < 0) → l[k]? = some p → insP p l = l
  | [], k, h2, h3 => by simp at h3
  | x :: l, 0, h2, h3 => by
    have : x = p := by simpa using h3
    subst this
    have a : ¬ cmpP x x < 0 := fun c => by
      have := cmpP_cases x x
      exact ltP_irrefl _ (cmpP_neg.1 (show cmpP x x = -1 by omega))
    unfold insP; rw [if_neg a, if_pos rfl]
  | x :: l, k + 1, h2, h3 => by
    have a := h2 0 x (by omega) rfl
    have ih := insP_eq (p := p) (l := l) (k := k) (fun j y hj hy => h2 (j + 1) y (by omega) (by simpa using hy)) (by simpa using h3)
    unfold insP; rw [if_pos a, ih]
theorem cmp_ltP {x p : P2} : cmpP x p < 0 ↔ ltP x p := by
  have := cmpP_cases x p
  constructor
  · intro h; exact cmpP_neg.1 (by omega)
  · intro h; have := cmpP_neg.2 h; omega
theorem mem_insP {p q : P2} : ∀ {l : List P2}, q ∈ insP p l ↔ q = p ∨ q ∈ l
  | [] => by simp [insP]
  | x :: l => by
    have ih := mem_insP (p := p) (q := q) (l := l)
    unfold insP
    split
    · rw [List.mem_cons, ih, List.mem_cons]
      constructor
      · rintro (h | h | h) <;> simp [h]
      · rintro (h | h | h) <;> simp [h]
    · split
      · rename_i h; subst h
        rw [List.mem_cons]
        constructor
        · intro h; exact .inr h
        · rintro (h | h)
          · exact .inl h
          · exact h
      · simp
theorem ins_sorted {p : P2} : ∀ {l : List P2}, l.Pairwise ltP → (insP p l).Pairwise ltP
  | [], _ => by simp [insP]
  | x :: l, h => by
    obtain ⟨h1, h2⟩ := List.pairwise_cons.1 h
    unfold insP
    split
    · rename_i a
      refine List.pairwise_cons.2 ⟨fun q hq => ?_, ins_sorted h2⟩
      rcases mem_insP.1 hq with e | e
      · rw [e]; exact cmp_ltP.1 a
      · exact h1 q e
    · rename_i a
      split
      · exact h
      · rename_i b
        have hpx : ltP p x := Classical.byContradiction fun c => b (ltP_tri (fun d => a (cmp_ltP.2 d)) c)
        refine List.pairwise_cons.2 ⟨fun q hq => ?_, h⟩
        rcases List.mem_cons.1 hq with e | e
        · rw [e]; exact hpx
        · exact ltP_trans hpx (h1 q e)
def comF (s t : S2) (out : List P2) (p : P2) : List P2 := if onR p s ∧ onR p t then insP p out else out
def pts4 (s t : S2) : List P2 := [s.1, s.2, t.1, t.2]
def comN (s t : S2) (i : Nat) : List P2 := ((pts4 s t).take i).foldl (comF s t) []
def commonR (s t : S2) : List P2 := comN s t 4
theorem comN_succ {s t : S2} {i : Nat} {p : P2} (h : (pts4 s t)[i]? = some p) : comN s t (i + 1) = comF s t (comN s t i) p := by
  unfold comN
  rw [List.take_add_one, h, List.foldl_append]; rfl
theorem com_yes {s t : S2} {i : Nat} {p : P2} (h : (pts4 s t)[i]? = some p) (h1 : onR p s) (h2 : onR p t) : comN s t (i + 1) = insP p (comN s t i) := by
  rw [comN_succ h]; exact if_pos ⟨h1, h2⟩
theorem com_no {s t : S2} {i : Nat} {p : P2} (h : (pts4 s t)[i]? = some p) (h1 : ¬ (onR p s ∧ onR p t)) : comN s t (i + 1) = comN s t i := by
  rw [comN_succ h]; exact if_neg h1
theorem fold_sorted {s t : S2} : ∀ {l out : List P2}, out.Pairwise ltP → (l.foldl (comF s t) out).Pairwise ltP
  | [], out, h => h
  | p :: l, out, h => fold_sorted (l := l) (out := comF s t out p) (by unfold comF; split; exact ins_sorted h; exact h)
theorem mem_fold {s t : S2} {q : P2} : ∀ {l out : List P2}, q ∈ l.foldl (comF s t) out ↔ q ∈ out ∨ (q ∈ l ∧ onR q s ∧ onR q t)
  | [], out => by simp
  | p :: l, out => by
    rw [List.foldl_cons, mem_fold (l := l)]
    unfold comF
    split
    · rename_i h
      rw [mem_insP, List.mem_cons]
      constructor
      · rintro ((rfl | a) | a)
        · exact .inr ⟨.inl rfl, h⟩
        · exact .inl a
        · exact .inr ⟨.inr a.1, a.2⟩
      · rintro (a | ⟨rfl | a, b⟩)
        · exact .inl (.inr a)
        · exact .inl (.inl rfl)
        · exact .inr ⟨a, b⟩
    · rename_i h
      rw [List.mem_cons]
      constructor
      · rintro (a | a)
        · exact .inl a
        · exact .inr ⟨.inr a.1, a.2⟩
      · rintro (a | ⟨rfl | a, b⟩)
        · exact .inl a
        · exact absurd b h
        · exact .inr ⟨a, b⟩
theorem mem_common {s t : S2} {q : P2} : q ∈ commonR s t ↔ Ep s t q ∧ Kp s t q := by
  unfold commonR comN
  rw [mem_fold]
  unfold Ep Kp pts4
  rw [on_same, on_same]
  simp
theorem common_sorted (s t : S2) : (commonR s t).Pairwise ltP := fold_sorted List.Pairwise.nil
theorem sorted_nodup {l : List P2} (h : l.Pairwise ltP) : l.Nodup := h.imp fun hab e => by rw [e] at hab; exact ltP_irrefl _ hab
theorem ins_len (p : P2) (l : List P2) : (insP p l).length ≤ l.length + 1 := by
  induction l with
  | nil => simp [insP]
  | cons x l ih =>
    unfold insP; split
    · simp; omega
    · split <;> simp
theorem comN_len (s t : S2) : ∀ i, (comN s t i).length ≤ i := by
  have key : ∀ (l out : List P2), (l.foldl (comF s t) out).length ≤ out.length + l.length := by
    intro l
    induction l with
    | nil => intro out; simp
    | cons p l ih =>
      intro out
      rw [List.foldl_cons]
      have h1 := ih (comF s t out p)
      have h2 : (comF s t out p).length ≤ out.length + 1 := by
        unfold comF; split
        · exact ins_len p out
        · omega
      simp; omega
  intro i
  have := key ((pts4 s t).take i) []
  unfold comN
  simp at this ⊢; omega
theorem comN_sz {s t : S2} {n : Nat} (hs : szS s ≤ n) (ht : szS t ≤ n) {i : Nat} {p : P2} (h : p ∈ comN s t i) : szP p ≤ n := by
  unfold comN at h
  rcases mem_fold.1 h with a | ⟨a, _⟩
  · cases a
  · have := List.mem_of_mem_take a
    unfold pts4 at this
    simp only [List.mem_cons, List.mem_nil_iff, or_false] at this
    rcases this with e | e | e | e <;> rw [e]
    · exact szS1 hs
    · exact szS2 hs
    · exact szS1 ht
    · exact szS2 ht
def crossR (s t : S2) : Int × S2 := if uv s t = 0 then (0, ((0, 0), (0, 0))) else
  if onR (divP s (wv s t / uv s t)) s ∧ onR (divP s (wv s t / uv s t)) t then (2, (divP s (wv s t / uv s t), divP s (wv s t / uv s t))) else (0, ((0, 0), (0, 0)))
def meetR (s t : S2) : Int × S2 := match commonR s t with
  | [] => crossR s t
  | [a] => (1, (a, a))
  | a :: b :: l => (3, (a, (b :: l).getLastD b))
theorem meetR_is (s t : S2) : MeetIs s t (meetR s t) := by
  have hs := common_sorted s t
  rcases ends_cases (sorted_nodup hs) (fun p => mem_common) with ⟨h, hN⟩ | ⟨c, h, h1, h2, h3⟩ | ⟨a, b, h | h, h1, h2, h3, h4⟩
  · unfold meetR; rw [h]
    show MeetIs s t (crossR s t)
    unfold crossR
    by_cases hD : uv s t = 0
    · rw [if_pos hD]
      exact .inl ⟨rfl, fun p hp => (cross_of hp hN).1 hD⟩
    · rw [if_neg hD]
      split
      · rename_i hc
        rw [← on_same, ← on_same] at hc
        exact .inr (.inr (.inl ⟨_, rfl, hc, fun e => hN _ e hc, fun p hp => K_uniq hD hp hc⟩))
      · rename_i hc
        refine .inl ⟨rfl, fun p hp => hc ?_⟩
        rw [← on_same, ← on_same, (cross_of hp hN).2.2]
        exact hp
  · unfold meetR; rw [h]; exact .inr (.inl ⟨c, rfl, h1, h2, h3⟩)
  · unfold meetR; rw [h]; exact .inr (.inr (.inr ⟨a, b, rfl, h1, h2, h3, h4⟩))
  · exfalso
    rw [h] at hs
    have : ltP b a := by simpa using hs
    exact ltP_irrefl _ (ltP_trans h3 this)
theorem meetR_eq (s t : S2) : meetR s t = meetP s t := (meetR_is s t).uniq (meetP_is s t) (fun p => Iff.rfl) (fun p => Iff.rfl)
end Go.Via
namespace Go.Via
/-! rows of points: parts -/
theorem PLc_take : ∀ (l : List P2) (k : Nat), (PLc l).take (k * 8) = PLc (l.take k)
  | [], k => by simp [PLc]
  | p :: l, 0 => by simp [PLc]
  | p :: l, k + 1 => by
    rw [List.take_succ_cons]
    show (ptC p ++ PLc l).take ((k + 1) * 8) = ptC p ++ PLc (l.take k)
    rw [show (k + 1) * 8 = (ptC p).length + k * 8 by simp [ptC]; omega, List.take_length_add_append, PLc_take l k]
theorem PLc_dr : ∀ (l : List P2) (k : Nat), (PLc l).drop (k * 8) = PLc (l.drop k)
  | [], k => by simp [PLc]
  | p :: l, 0 => by simp
  | p :: l, k + 1 => by
    rw [List.drop_succ_cons]
    show (ptC p ++ PLc l).drop ((k + 1) * 8) = PLc (l.drop k)
    rw [show (k + 1) * 8 = (ptC p).length + k * 8 by simp [ptC]; omega, List.drop_length_add_append, PLc_dr l k]
theorem PLc_drop (l : List P2) (k : Nat) : ((PLc l).drop (k * 8)).take ((l.length - k) * 8) = PLc (l.drop k) := by
  rw [PLc_dr]
  exact List.take_of_length_le (by rw [PLc_length, List.length_drop]; exact Nat.le_refl _)
theorem PLc_one : ∀ (l : List P2), ∀ v ∈ PLc l, v.oneCell' = true
  | [], v, h => by cases h
  | p :: l, v, h => by
    rcases List.mem_append.1 (show v ∈ ptC p ++ PLc l from h) with h | h
    · exact ptC_one p v h
    · exact PLc_one l v h
theorem pd_one (p : P2) (l : List P2) : ∀ v ∈ ptC p ++ PLc l, v.oneCell' = true := fun v h => by
  rcases List.mem_append.1 h with h | h
  · exact ptC_one p v h
  · exact PLc_one l v h
theorem pd_len (l : List P2) (k : Nat) (p : P2) (hk : k ≤ l.length) : (ptC p ++ PLc (l.drop k)).length = (1 + (l.length - k)) * 8 := by
  rw [List.length_append, PLc_length, List.length_drop, Nat.add_mul]; rfl
theorem pd_take (l : List P2) (k : Nat) (p : P2) (hk : k ≤ l.length) : ((ptC p ++ PLc (l.drop k)).drop 0).take ((1 + (l.length - k)) * 8) = ptC p ++ PLc (l.drop k) := by
  rw [List.drop_zero]
  exact List.take_of_length_le (by rw [pd_len l k p hk]; exact Nat.le_refl _)
theorem row_base2 {b : Option Nat} {l : List P2} (hl : 0 < l.length) (h : b = none → PLc l = []) : ∃ g, b = some g := by
  cases b with
  | none => exact absurd (h rfl) (PLc_ne hl)
  | some g => exact ⟨g, rfl⟩
theorem pts4_sz {s t : S2} {n : Nat} (hs : szS s ≤ n) (ht : szS t ≤ n) {p : P2} (h : p ∈ pts4 s t) : szP p ≤ n := by
  unfold pts4 at h
  simp only [List.mem_cons, List.mem_nil_iff, or_false] at h
  rcases h with e | e | e | e <;> rw [e]
  · exact szS1 hs
  · exact szS2 hs
  · exact szS1 ht
  · exact szS2 ht
theorem ins_step {l : List P2} {p x : P2} {k : Nat} (h : ∀ j x, j < k → l[j]? = some x → cmpP x p < 0) (hx : l[k]? = some x) (hlt : cmpP x p < 0) : ∀ j x, j < k + 1 → l[j]? = some x → cmpP x p < 0 := fun j y hj hy => by
  by_cases e : j = k
  · subst e; rw [hx] at hy; cases hy; exact hlt
  · exact h j y (by omega) hy
end Go.Via
set_option linter.unusedVariables false
set_option linter.unusedSimpArgs false
namespace Go.Via
open Go Go.RowKit
section
variable {P : Program} {bl : List Nat} {ops : Array Oper} {K : St → Prop} {rest : List Oper} {nt : Nat} {t : List (Nat × Value)} {L : List Blk} {d : Nat} {ty : TypeId} {pos : String} {af : Array Edge} {g : Option (Nat × Bool)} {x y z : Operand}
/-- x[:k:k] -/
theorem r_sliceK {T e : Nat} {b : Option Nat} {len cap : Nat} {ki kj : IntKind} {inf : TI} (k : Nat) (hT : P.underlying T = some (.slice e)) (hinf : tiOK P e inf = true) (hd : Nat.blt d nt = true) (hg : wantedS ops ⟨some d, .slice T x none (some y) (some z), ty, pos, af, g⟩ t = some true) (hx : ev t x = some (slv b 0 len cap)) (hy : ev t y = some (.int ki (k : Nat))) (hz : ev t z = some (.int kj (k : Nat))) (h1 : k ≤ cap)
    (h : Run P bl ops rest ⟨nt, (d, slv b 0 k k) :: t, L⟩ K) : Run P bl ops (⟨some d, .slice T x none (some y) (some z), ty, pos, af, g⟩ :: rest) ⟨nt, t, L⟩ K :=
  run_q hd hg rfl (fun B a w hrel => by
    have he : P.elem T = e := by simp [Program.elem, hT]
    have hT' : P.underlying T = some (.slice (P.elem T)) := by rw [he]; exact hT
    have h2 := hrel.ev hx
    have h3 := hrel.ev hy
    have h4 := hrel.ev hz
    unfold slv at h2
    have r1 := run_sliceAt_slice (P := P) w T (.slice (b.map fun g => ⟨g, 0, none⟩) len cap) none (some (.int ki (k : Nat))) (some (.int kj (k : Nat))) hT'
    rw [run_slice_hm (P := P) w T (b.map fun g => ⟨g, 0, none⟩) len cap hT' ki kj (k : Nat) (k : Nat) (by omega) (by omega) (by omega), he, ti_sizeOf hinf w] at r1
    simp only [Result.andThen_ok] at r1
    have e1 : sliced (b.map fun g => (⟨g, 0, none⟩ : Addr)) 0 ((k : Nat) : Int).toNat ((k : Nat) : Int).toNat inf.size = slv b 0 k k := by
      unfold sliced slv
      rw [Int.toNat_natCast]
      cases b <;> simp [add_lit]
    rw [e1] at r1
    simp [execOp, h2, h3, h4, r1]) h
/-- x[l:] -/
theorem r_sliceL {T e : Nat} {b : Option Nat} {len cap : Nat} {ki : IntKind} {inf : TI} (l : Nat) (hT : P.underlying T = some (.slice e)) (hinf : tiOK P e inf = true) (hd : Nat.blt d nt = true) (hg : wantedS ops ⟨some d, .slice T x (some y) none none, ty, pos, af, g⟩ t = some true) (hx : ev t x = some (slv b 0 len cap)) (hy : ev t y = some (.int ki (l : Nat))) (h1 : l ≤ len)
    (h : Run P bl ops rest ⟨nt, (d, slv b (if cap = l then 0 else l * inf.size) (len - l) (cap - l)) :: t, L⟩ K) : Run P bl ops (⟨some d, .slice T x (some y) none none, ty, pos, af, g⟩ :: rest) ⟨nt, t, L⟩ K :=
  run_q hd hg rfl (fun B a w hrel => by
    have he : P.elem T = e := by simp [Program.elem, hT]
    have hT' : P.underlying T = some (.slice (P.elem T)) := by rw [he]; exact hT
    have h2 := hrel.ev hx
    have h3 := hrel.ev hy
    unfold slv at h2
    have r1 := run_sliceAt_slice (P := P) w T (.slice (b.map fun g => ⟨g, 0, none⟩) len cap) (some (.int ki (l : Nat))) none none hT'
    rw [run_slice_l (P := P) w T (b.map fun g => ⟨g, 0, none⟩) len cap hT' ki (l : Nat) (by omega) (by omega), he, ti_sizeOf hinf w] at r1
    simp only [Result.andThen_ok] at r1
    have e1 : sliced (b.map fun g => (⟨g, 0, none⟩ : Addr)) ((l : Nat) : Int).toNat len cap inf.size = slv b (if cap = l then 0 else l * inf.size) (len - l) (cap - l) := by
      unfold sliced slv
      rw [Int.toNat_natCast]
      by_cases hc : cap = l
      · rw [if_pos hc, if_pos hc]
      · rw [if_neg hc, if_neg hc]; cases b <;> simp [add_lit]
    rw [e1] at r1
    simp [execOp, h2, h3, r1]) h
/-- x[l:], with the place and the lengths said -/
theorem r_sliceM {T e : Nat} {b : Option Nat} {len cap off' n' c' : Nat} {ki : IntKind} {inf : TI} (l : Nat) (hT : P.underlying T = some (.slice e)) (hinf : tiOK P e inf = true) (hd : Nat.blt d nt = true) (hg : wantedS ops ⟨some d, .slice T x (some y) none none, ty, pos, af, g⟩ t = some true) (hx : ev t x = some (slv b 0 len cap)) (hy : ev t y = some (.int ki (l : Nat))) (h1 : l ≤ len) (e1 : (if cap = l then 0 else l * inf.size) = off') (e2 : len - l = n') (e3 : cap - l = c')
    (h : Run P bl ops rest ⟨nt, (d, slv b off' n' c') :: t, L⟩ K) : Run P bl ops (⟨some d, .slice T x (some y) none none, ty, pos, af, g⟩ :: rest) ⟨nt, t, L⟩ K := by
  subst e1; subst e2; subst e3
  exact r_sliceL l hT hinf hd hg hx hy h1 h
/-- append nothing to a row (a source with an offset) -/
theorem r_append0O {T e off2 : Nat} {inf : TypeInfo} {bb : Option Nat} {len cap c2 : Nat} {b2 : Option Nat} (hT : P.underlying T = some (.slice e)) (hi : P.info? e = some inf) (hd : Nat.blt d nt = true)
    (hg : wantedS ops ⟨some d, .call { callee := .builtin .append, args := #[x, y], argTypes := #[T, T] }, ty, pos, af, g⟩ t = some true)
    (hx : ev t x = some (slv bb 0 len cap)) (hcap : len ≤ cap) (hy : ev t y = some (slv b2 off2 0 c2)) (h : Run P bl ops rest ⟨nt, (d, slv bb 0 len cap) :: t, L⟩ K) :
    Run P bl ops (⟨some d, .call { callee := .builtin .append, args := #[x, y], argTypes := #[T, T] }, ty, pos, af, g⟩ :: rest) ⟨nt, t, L⟩ K :=
  run_q hd hg rfl (fun B a w hr => by
    have hx' := hr.ev hx
    have hy' := hr.ev hy
    have hs : Src P inf.size T (slv b2 off2 0 c2) 0 [] w := by
      cases b2 with
      | none => exact Src.ofNil (P := P) w hT c2
      | some g2 => exact Src.ofSlice (P := P) w hT ⟨g2, off2, none⟩ 0 c2 [] (by simp) (fun j u hj => by simp at hj) (fun u hu => by cases hu)
    have r1 := run_append_nothing (P := P) w T T ty e inf hT hi (bb.map fun g => ⟨g, 0, none⟩) len cap hcap (slv b2 off2 0 c2) hs
    have r2 : (execOp a.eval ⟨some d, .call { callee := .builtin .append, args := #[x, y], argTypes := #[T, T] }, ty, pos, af, g⟩).run P w = ((Builtin.append_ #[T, T] ty #[slv bb 0 len cap, slv b2 off2 0 c2]).run P w).andThen fun v w => .ok (.value v) w := by
      simp [execOp, resolve, invoke, builtin, hx', hy']
    rw [r2]
    unfold slv at r1 ⊢
    rw [r1]; rfl) h
/-- append where there is no room: a new row -/
theorem r_appendG {T e : Nat} {inf : TypeInfo} {zz : Value} {b : Blk} {len cap b2o off2 n2 c2 : Nat} {b2 : Blk} (k k2 : Nat) (old news : List Value) (mk : AR (len + n2) inf.size → List Blk) (hT : P.underlying T = some (.slice e)) (hi : P.info? e = some inf) (hz : inf.zero = some zz) (hs : 0 < inf.size) (hzs : zz.cells.size = inf.size) (hbytes : inf.bytes ≤ 1024) (hd : Nat.blt d nt = true)
    (hg : wantedS ops ⟨some d, .call { callee := .builtin .append, args := #[x, y], argTypes := #[T, T] }, ty, pos, af, g⟩ t = some true)
    (hk : L[k]? = some b) (hold : b.cs.take (len * inf.size) = old) (hlen : old.length = len * inf.size) (hroom : cap < len + n2) (hcap : len ≤ cap) (hx : ev t x = some (slv b.base 0 len cap))
    (hk2 : L[k2]? = some b2) (hnew : (b2.cs.drop off2).take (n2 * inf.size) = news) (hlen2 : news.length = n2 * inf.size) (hb2 : b2.base = some b2o) (hy : ev t y = some (slv (some b2o) off2 n2 c2)) (h1 : ∀ v ∈ news, v.oneCell' = true) (hmax : len + n2 ≤ 17179869184)
    (hL : ∀ r, L ++ [⟨some r.g, e, old ++ news, r.n, true⟩] = mk r)
    (h : ∀ r : AR (len + n2) inf.size, Run P bl ops rest ⟨nt, (d, slv (some r.g) 0 (len + n2) r.cap) :: t, mk r⟩ K) :
    Run P bl ops (⟨some d, .call { callee := .builtin .append, args := #[x, y], argTypes := #[T, T] }, ty, pos, af, g⟩ :: rest) ⟨nt, t, L⟩ K :=
  run_e hd hg rfl rfl (X := AR (len + n2) inf.size) (nx := fun r => ⟨nt, (d, slv (some r.g) 0 (len + n2) r.cap) :: t, mk r⟩) (fun hd' => eff_of fun B a w hr => by
    have hx' := hr.ev hx
    have hy' := hr.ev hy
    have hnews : ∀ j u, news[j]? = some u → w.cell? ((⟨b2o, off2, none⟩ : Addr).add j) = some u := fun j u hj => by
      have hj2 : b2.cs[off2 + j]? = some u := by
        rw [← hnew] at hj
        rw [List.getElem?_take] at hj
        split at hj
        · rwa [List.getElem?_drop] at hj
        · cases hj
      obtain ⟨g', hg', h2⟩ := hr.mem.cell hk2 hj2
      rw [hb2] at hg'; cases hg'
      rw [add_lit]; exact h2
    have hsrc := Src.ofSlice (P := P) w (size := inf.size) hT ⟨b2o, off2, none⟩ n2 c2 news hlen2 hnews h1
    have fin : ∀ v w', (Builtin.append_ #[T, T] ty #[slv b.base 0 len cap, slv (some b2o) off2 n2 c2]).run P w = .ok v w' → (execOp a.eval ⟨some d, .call { callee := .builtin .append, args := #[x, y], argTypes := #[T, T] }, ty, pos, af, g⟩).run P w = .ok (.value v) w' := fun v w' hv => by
      simp [execOp, resolve, invoke, builtin, hx', hy', hv]
    have hold' : (Builtin.firstCells inf.size len (slv b.base 0 len cap)).run P w.drew = .ok old.toArray w.drew := by
      cases hbb : b.base with
      | none =>
        have h0 := ((hr.mem.blk k b hk).2 hbb).1
        have : old = [] := by rw [← hold, h0]; simp
        rw [this]
        exact run_firstCells_none w.drew inf.size len len cap
      | some gg =>
        refine run_firstCells_some (P := P) w.drew inf.size len ⟨gg, 0, none⟩ len cap old hlen (fun j v hj => ?_)
        have hj2 : b.cs[j]? = some v := by
          rw [← hold] at hj
          rw [List.getElem?_take] at hj
          split at hj
          · exact hj
          · cases hj
        obtain ⟨g', hg', h2⟩ := hr.mem.cell hk hj2
        rw [hbb] at hg'; cases hg'
        rw [add_lit, Nat.zero_add]
        exact h2
    have hge := grownCap_ge w (len + n2) cap e
    have hbb : (len + n2) * inf.bytes ≤ 17179869184 * 1024 := Nat.mul_le_mul hmax hbytes
    have hfit : Builtin.nextslicecap (len + n2) cap * inf.bytes ≤ 281474976710656 := growslice_fits (by omega) (by omega)
    have r1 := run_append_grow_src (P := P) w T T ty e inf zz hT hi hz (b.base.map fun g => ⟨g, 0, none⟩) len cap old hold' (slv (some b2o) off2 n2 c2) n2 news hsrc (by omega) (by omega) hfit
    refine ⟨_, _, (⟨w.heap.size, (((old ++ news).toArray ++ Builtin.zeroCells zz.cells (grownCap w (len + n2) cap e - (len + n2))) : Array Value).size, grownCap w (len + n2) cap e, hge, ?_⟩ : AR (len + n2) inf.size), fin _ _ r1, ?_⟩
    · have hz' : (Builtin.zeroCells zz.cells (grownCap w (len + n2) cap e - (len + n2))).size = (grownCap w (len + n2) cap e - (len + n2)) * inf.size := by
        unfold Builtin.zeroCells; simp [hzs]
      have hm : (grownCap w (len + n2) cap e - (len + n2)) * inf.size + (len + n2) * inf.size = grownCap w (len + n2) cap e * inf.size := by
        rw [← Nat.add_mul, Nat.sub_add_cancel hge]
      have hsum : (len + n2) * inf.size = len * inf.size + n2 * inf.size := Nat.add_mul ..
      rw [Array.size_append, hz']
      simp only [List.size_toArray, List.length_append]
      omega
    · refine hr.put hd' ?_
      rw [← hL]
      have h5 := (hr.mem.drew.alloc e ((old ++ news).toArray ++ Builtin.zeroCells zz.cells (grownCap w (len + n2) cap e - (len + n2))))
      refine (h5.last (b' := ⟨some w.heap.size, e, old ++ news, ((old ++ news).toArray ++ Builtin.zeroCells zz.cells (grownCap w (len + n2) cap e - (len + n2)) : Array Value).size, true⟩) ⟨rfl, rfl, rfl, ⟨(old ++ news).length, ?_⟩, fun _ => rfl⟩)
      rw [Array.toList_append]
      exact (List.take_left (l₁ := old ++ news)).symm) fun r => h r
theorem q_appendG {T e s : Nat} {zz : Value} {b : Blk} {len cap b2o off2 n2 c2 : Nat} {b2 : Blk} (k k2 : Nat) (old news : List Value) (mk : AR (len + n2) s → List Blk) (hT : P.underlying T = some (.slice e)) (hi : elB P e s zz) (hd : Nat.blt d nt = true)
    (hg : wantedS ops ⟨some d, .call { callee := .builtin .append, args := #[x, y], argTypes := #[T, T] }, ty, pos, af, g⟩ t = some true)
    (hk : L[k]? = some b) (hx : ev t x = some (slv b.base 0 len cap)) (hk2 : L[k2]? = some b2) (hb2 : b2.base = some b2o) (hy : ev t y = some (slv (some b2o) off2 n2 c2)) (hs : Nat.blt 0 s = true) (hzs : zz.cells.size = s)
    (hold : b.cs.take (len * s) = old) (hlen : old.length = len * s) (hroom : cap < len + n2) (hcap : len ≤ cap) (hnew : (b2.cs.drop off2).take (n2 * s) = news) (hlen2 : news.length = n2 * s) (h1 : ∀ v ∈ news, v.oneCell' = true) (hmax : len + n2 ≤ 17179869184)
    (hL : ∀ r, L ++ [⟨some r.g, e, old ++ news, r.n, true⟩] = mk r)
    (h : ∀ r : AR (len + n2) s, Run P bl ops rest ⟨nt, (d, slv (some r.g) 0 (len + n2) r.cap) :: t, mk r⟩ K) :
    Run P bl ops (⟨some d, .call { callee := .builtin .append, args := #[x, y], argTypes := #[T, T] }, ty, pos, af, g⟩ :: rest) ⟨nt, t, L⟩ K := by
  obtain ⟨inf, i1, i2, i3, i5⟩ := elB_spec hi
  subst i3
  exact r_appendG k k2 old news mk hT i1 i2 (by simpa using hs) hzs (by omega) hd hg hk hold hlen hroom hcap hx hk2 hnew hlen2 hb2 hy h1 hmax hL h
theorem q_append0O {T e s off2 : Nat} {zz : Value} {bb : Option Nat} {len cap c2 : Nat} {b2 : Option Nat} (hT : P.underlying T = some (.slice e)) (hi : elB P e s zz) (hd : Nat.blt d nt = true)
    (hg : wantedS ops ⟨some d, .call { callee := .builtin .append, args := #[x, y], argTypes := #[T, T] }, ty, pos, af, g⟩ t = some true)
    (hx : ev t x = some (slv bb 0 len cap)) (hcap : len ≤ cap) (hy : ev t y = some (slv b2 off2 0 c2)) (h : Run P bl ops rest ⟨nt, (d, slv bb 0 len cap) :: t, L⟩ K) :
    Run P bl ops (⟨some d, .call { callee := .builtin .append, args := #[x, y], argTypes := #[T, T] }, ty, pos, af, g⟩ :: rest) ⟨nt, t, L⟩ K := by
  obtain ⟨inf, i1, i2, i3, i5⟩ := elB_spec hi
  exact r_append0O hT i1 hd hg hx hcap hy h
end
end Go.Via
set_option linter.unusedVariables false
set_option linter.unusedSimpArgs false
namespace Go.Via
open Go Go.RowKit
/-! ### a region that draws its order: first what looks at slots alone, then each order of the others -/
theorem Oper.wp_monoQ {P : Program} {o : Oper} {a : Act} {w : World} {K K' : Act → World → Prop} {Q Q' : Exit → Act → World → Prop} (h : ∀ a w, K a w → K' a w)
    (hp : ∀ c a w, Q (.panic c) a w → Q' (.panic c) a w) (hl : LetsOut Q → LetsOut Q') (hh : o.wp P a w K Q) : o.wp P a w K' Q' := by
  unfold Oper.wp at *
  generalize (execOp a.eval o).run P w = r at *
  cases r with
  | ok n w' =>
    cases n <;> simp only [Oper.upon] at hh ⊢ <;>
      first
        | exact h _ _ hh
        | exact Calls.mono hh (fun e w'' he => by cases e <;> first | exact h _ _ he | exact hp _ _ _ he | exact hl he)
        | exact Rows.mono hh (fun _ _ he => h _ _ he)
  | halt x w' => cases x <;> simp only [Oper.upon] at hh ⊢ <;> first | exact hp _ _ _ hh | exact hh
theorem wpAny_monoQ {P : Program} {md : Region.Mode} {ops : Array Oper} {Q Q' : Exit → Act → World → Prop} (hn : ∀ a w, Q .normal a w → Q' .normal a w)
    (hp : ∀ c a w, Q (.panic c) a w → Q' (.panic c) a w) (hl : LetsOut Q → LetsOut Q') : ∀ (n : Nat) (listed : Array Bool) (a : Act) (w : World), wpAny P md ops Q n listed a w → wpAny P md ops Q' n listed a w
  | 0, _, _, _, h => ⟨h.1, hn _ _ h.2⟩
  | n + 1, listed, a, w, h => ⟨fun h0 => hn _ _ (h.1 h0), fun i hi => by
      have h1 := h.2 i hi
      unfold wpOp at h1 ⊢
      split
      · rename_i ho; rw [ho] at h1; exact wpAny_monoQ hn hp hl n _ _ _ h1
      · rename_i o ho
        rw [ho] at h1
        dsimp only at h1
        split
        · rename_i hw
          rw [if_pos hw] at h1
          exact h1.imp (Oper.wp_monoQ (wpAny_monoQ hn hp hl n _) hp hl) (fun h2 => ⟨h2.1, hl h2.2⟩)
        · rename_i hw
          rw [if_neg hw] at h1
          exact wpAny_monoQ hn hp hl n _ _ _ h1⟩
/-- what may be taken first, one after another -/
def takesOk (ops : Array Oper) : Array Bool → List Nat → Bool
  | _, [] => true
  | listed, i :: E => (match ops[i]? with
    | some o => isMov o && !isCall o
    | none => false) && Region.free .any ops listed i && (Region.ready .any ops listed).contains i && takesOk ops (listed.setIfInBounds i true) E
/-- an end in which no panic is -/
def noPanic (X : Act → World → Prop) : Exit → Act → World → Prop
  | .normal, a, w => X a w
  | _, _, _ => False
theorem wpAny_takes {P : Program} {ops : Array Oper} {X : Act → World → Prop} {B : World} {w : World} {nt : Nat} {L : List Blk} {n : Nat} (hsel : Region.noSelect ops = true) {G : List (Nat × Value) → Array Bool → Prop}
    (hG : ∀ (t : List (Nat × Value)) (listed : Array Bool) (a : Act), G t listed → Rel B ⟨nt, t, L⟩ a w → wpAny P .any ops (noPanic X) n listed a w) :
    ∀ (E : List Nat) (listed : Array Bool) (t : List (Nat × Value)) (a : Act), takesOk ops listed E = true →
      Run P [] ops (E.map fun i => ops.getD i default) ⟨nt, t, []⟩ (fun s' => G s'.t (E.foldl (fun (x : Array Bool) i => x.setIfInBounds i true) listed)) → Rel B ⟨nt, t, L⟩ a w → wpAny P .any ops (noPanic X) (E.length + n) listed a w
  | [], listed, t, a, _, hr, h => by rw [show ([] : List Nat).length + n = n by simp]; exact hG t listed a hr h
  | i :: E, listed, t, a, hc, hr, h => by
    simp only [takesOk, Bool.and_eq_true, Bool.not_eq_true'] at hc
    obtain ⟨⟨⟨hk, hf⟩, hrd⟩, hE⟩ := hc
    cases ho : ops[i]? with
    | none => rw [ho] at hk; cases hk
    | some o =>
      rw [ho] at hk
      simp only [Bool.and_eq_true, Bool.not_eq_true'] at hk
      obtain ⟨hmv, hcl⟩ := hk
      have hoid : ops.getD i default = o := by simp [ho]
      have hr1 : Step P [] ops (ops.getD i default) ⟨nt, t, []⟩ (fun s' => Run P [] ops (E.map fun i => ops.getD i default) s' (fun s' => G s'.t (E.foldl (fun (x : Array Bool) i => x.setIfInBounds i true) (listed.setIfInBounds i true)))) := hr
      rw [hoid] at hr1
      obtain ⟨h0, g, hg, hh⟩ := hr1
      have hw := wantedS_spec h hg
      have hrel0 : ∀ w', Rel w' ⟨nt, t, []⟩ a w' := fun w' => ⟨h.df, h.size, h.tmp, ⟨Below.refl _ _, fun k b hk => by simp at hk, fun i j g bi bj hij hi => by simp at hi⟩⟩
      have hnsto : isSto o = false := by
        unfold isSto; unfold isMov at hmv
        split
        · rename_i heq; rw [heq] at hmv; cases hmv
        · rfl
      have hnal : isAl o = false := by
        unfold isAl; unfold isMov at hmv
        split
        · rename_i heq; rw [heq] at hmv; cases hmv
        · rfl
      obtain ⟨v, hy, hk⟩ : ∃ v, Go.Yields P ops o v a ∧ Run P [] ops (E.map fun i => ops.getD i default) ((⟨nt, t, []⟩ : St).put o.dst v) (fun s' => G s'.t (E.foldl (fun (x : Array Bool) i => x.setIfInBounds i true) (listed.setIfInBounds i true))) := by
        rcases hh with ⟨h1, h2⟩ | ⟨h1, ⟨h2, v, h3, h4⟩ | ⟨h2, _⟩ | ⟨hm, _⟩ | ⟨hm, _⟩ | ⟨hm, _⟩ | ⟨hm, _⟩⟩
        · exact ⟨undef, .inr ⟨by rw [hw, h1], rfl⟩, h2⟩
        · exact ⟨v, .inl ⟨by rw [hw, h1], fun w' => h3.1 w' a w' (hrel0 w')⟩, h4⟩
        · rw [hcl] at h2; cases h2
        · simp [isM, mvS, hmv] at hm
        · rw [hnsto] at hm; cases hm
        · rw [hnal] at hm; cases hm
        · rw [hcl] at hm; cases hm
      rw [show (i :: E).length + n = (E.length + n) + 1 by simp; omega]
      refine wpAny_take ho hsel hf hrd (fun c a w hq => hq.elim) hy ?_
      have hput : (⟨nt, t, []⟩ : St).put o.dst v = ⟨nt, ((⟨nt, t, []⟩ : St).put o.dst v).t, []⟩ := by cases o.dst <;> rfl
      rw [hput] at hk
      refine wpAny_takes hsel hG E _ _ _ hE hk ?_
      have h5 := h.put0 (dst := o.dst) (v := v) h0
      have h6 : (⟨nt, t, L⟩ : St).put o.dst v = ⟨nt, ((⟨nt, t, []⟩ : St).put o.dst v).t, L⟩ := by cases o.dst <;> rfl
      rw [← h6]; exact h5
theorem at_drawnE {P : Program} {B : World} {Q : Exit → Act → World → Prop} {nt : Nat} {t : List (Nat × Value)} {L : List Blk} {id : Nat} {l l' : List Oper} (E : List Nat) (n : Nat) (hm : P.follows .mixedOrders = true)
    (hc : (Region.noSelect l.toArray && takesOk l.toArray (Array.replicate l.toArray.size false) E && decide (E.length + n = l.toArray.size)) = true) (hl : E.map (fun i => l.toArray.getD i default) = l')
    (h : Run P [] l.toArray l' ⟨nt, t, []⟩ (fun s' => Tree P l.toArray (fun s' => At B s' (Q .normal)) n (E.foldl (fun (x : Array Bool) i => x.setIfInBounds i true) (Array.replicate l.toArray.size false)) ⟨nt, s'.t, L⟩)) :
    At B ⟨nt, t, L⟩ ((Code.region id l.toArray true).wp P Q) := fun a w hr => by
  simp only [Bool.and_eq_true, decide_eq_true_eq] at hc
  obtain ⟨⟨h1, h2⟩, h3⟩ := hc
  subst hl
  refine wp_region_any hm ?_
  suffices hs : wpAny P .any l.toArray Q (E.length + n) (Array.replicate l.toArray.size false) a { w with drawn := w.drawn + 1 } by rw [h3] at hs; exact hs
  refine wpAny_monoQ (Q := noPanic (Q .normal)) (Q' := Q) (fun _ _ h => h) (fun _ _ _ h => h.elim) (fun ⟨_, _, h⟩ => h.elim) _ _ _ _ ?_
  refine wpAny_takes (B := B) (G := fun t listed => Tree P l.toArray (fun s' => At B s' (Q .normal)) n listed ⟨nt, t, L⟩) h1 (fun t listed a hG hrel => wp_tree (Q := noPanic (Q .normal)) (fun s' a' w' hk hr' => hk a' w' hr') _ _ _ _ _ hG hrel) E _ t a h2 h hr.drew
theorem tr_nil {P : Program} {ops : Array Oper} {K : St → Prop} {listed : Array Bool} {s : St} (h : Region.ready .any ops listed = []) (hk : K s) : Tree P ops K 0 listed s := ⟨h, hk⟩
end Go.Via
set_option linter.unusedVariables false
namespace Go.Proofs.YthnlafhnpphdhaaGreatDoor
open Go Go.RowKit Go.Via
set_option maxRecDepth 20000 in
theorem c_ref07_common (s t : S2) (hs : szS s ≤ 1000) (ht : szS t ≤ 1000) : SCall Tryz.prog 65 [] [Sg s, Sg t] (SR (commonR s t).length) SR.v (fun z => [⟨z.b, 27, PLc (commonR s t), z.n, true⟩]) := by
 refine ⟨by kernel_rfl, fun w hL0 => ?_⟩
 refine calls_at (args := [Sg s, Sg t]) Tryz.func65 rfl (Nat.le_of_ble_eq_true rfl) hL0 ?_
 show At w ⟨86, [(0, Sg s), (1, Sg t)], []⟩ _
 refine at_seq ?_
 refine at_region ?_
 refine r_box [_, _, _, _, _, _, _, _, _, _, _, _, _, _, _, _] 16 (fun g => [⟨some g, 36, _, 16, true⟩]) rfl rfl rfl rfl rfl (fun _ => rfl) (fun g0 => ?_)
 refine r_box [_, _, _, _, _, _, _, _, _, _, _, _, _, _, _, _] 16 (fun g => [_, ⟨some g, 36, _, 16, true⟩]) rfl rfl rfl rfl rfl (fun _ => rfl) (fun g1 => ?_)
 refine r_assign rfl rfl rfl ?_
 refine run_nil ?_
 refine at_tn ?_
 refine at_seq ?_
 refine at_region ?_
 refine r_assign rfl rfl rfl ?_
 refine run_nil ?_
 refine at_tn ?_
 refine at_seq ?_
 refine at_region ?_
 refine r_fieldAddr 0 0 0 rfl rfl rfl rfl rfl ti36 rfl rfl ?_
 refine r_load 0 0 [_, _, _, _, _, _, _, _] rfl rfl rfl rfl ti27 rfl rfl rfl rfl ?_
 refine r_fieldAddr 0 0 8 rfl rfl rfl rfl rfl ti36 rfl rfl ?_
 refine r_load 0 8 [_, _, _, _, _, _, _, _] rfl rfl rfl rfl ti27 rfl rfl rfl rfl ?_
 refine r_fieldAddr 1 0 0 rfl rfl rfl rfl rfl ti36 rfl rfl ?_
 refine r_load 1 0 [_, _, _, _, _, _, _, _] rfl rfl rfl rfl ti27 rfl rfl rfl rfl ?_
 refine r_fieldAddr 1 0 8 rfl rfl rfl rfl rfl ti36 rfl rfl ?_
 refine r_load 1 8 [_, _, _, _, _, _, _, _] rfl rfl rfl rfl ti27 rfl rfl rfl rfl ?_
 refine r_buildSlice [(0, _), (1, _), (2, _), (3, _)] (fun g => [_, _, ⟨some g, 27, _, 32, true⟩]) rfl rfl rfl (bs61_4) rfl (fun _ => rfl) (fun g2 => ?_)
 refine r_assign rfl rfl rfl ?_
 refine run_nil ?_
 refine at_tn ?_
 refine at_seq ?_
 refine at_seq ?_
 refine at_region ?_
 refine r_assign rfl rfl rfl ?_
 refine run_nil ?_
 refine at_tn ?_
 refine at_block ?_
 refine enterL (nt := 86) (ι := {x : Nat × Option Nat × Nat × Nat // x.1 ≤ 4 ∧ (comN s t x.1).length ≤ x.2.2.2}) (fun ⟨⟨i, ob, oN, oc⟩, hi, hoc⟩ => [(2, .pointer (some ⟨g0, 0, none⟩)), (3, .pointer (some ⟨g1, 0, none⟩)), (5, slv ob 0 (comN s t i).length oc), (6, slv (some g2) 0 4 4), (7, .int .i64 (i : Nat))]) (fun ⟨⟨i, ob, oN, oc⟩, hi, hoc⟩ => [⟨some g0, 36, ptC s.1 ++ ptC s.2, 16, true⟩, ⟨some g1, 36, ptC t.1 ++ ptC t.2, 16, true⟩, ⟨some g2, 27, PLc (pts4 s t), 32, true⟩, ⟨ob, 27, PLc (comN s t i), oN, true⟩]) (fun ⟨⟨i, ob, oN, oc⟩, hi, hoc⟩ => 4 - i) ⟨⟨0, none, 0, 0⟩, Nat.zero_le _, Nat.le_refl _⟩ ⟨rfl, rfl, rfl, rfl, rfl, trivial⟩ (weak_picks [some 0, some 1, some 2, none] ⟨⟨_, rfl, Blk.le_refl _⟩, ⟨_, rfl, Blk.le_refl _⟩, ⟨_, rfl, Blk.le_refl _⟩, ⟨rfl, rfl, rfl⟩, trivial⟩ rfl rfl) ?_
 rintro ⟨⟨i, ob, oN, oc⟩, hi, hoc⟩
 show At _ ⟨86, [(2, .pointer (some ⟨g0, 0, none⟩)), (3, .pointer (some ⟨g1, 0, none⟩)), (5, slv ob 0 (comN s t i).length oc), (6, slv (some g2) 0 4 4), (7, .int .i64 (i : Nat))], [⟨some g0, 36, ptC s.1 ++ ptC s.2, 16, true⟩, ⟨some g1, 36, ptC t.1 ++ ptC t.2, 16, true⟩, ⟨some g2, 27, PLc (pts4 s t), 32, true⟩, ⟨ob, 27, PLc (comN s t i), oN, true⟩]⟩ _
 replace hoc : (comN s t i).length ≤ oc := hoc
 replace hi : i ≤ 4 := hi
 refine at_seq ?_
 refine at_seq ?_
 refine at_region ?_
 refine r_move rfl rfl rfl ?_
 refine r_cmpInt rfl rfl rfl rfl rfl ?_
 refine run_nil ?_
 refine at_tn ?_
 refine at_cond rfl (fun hb1 => ?_) (fun hb1 => ?_)
 ·
  have hlt : i < 4 := (by have := of_decide_eq_true hb1; omega)
  obtain ⟨p, hp⟩ : ∃ p, (pts4 s t)[i]? = some p := ⟨_, List.getElem?_eq_getElem (by simp [pts4]; omega)⟩
  have hzp : szP p ≤ 1000 := pts4_sz hs ht (List.mem_of_getElem? hp)
  have hcl0 := comN_len s t i
  refine at_skip ?_
  refine at_tn ?_
  refine at_seq ?_
  refine at_block ?_
  refine at_seq ?_
  refine at_seq ?_
  refine at_drawn (l' := [⟨_,_,_,_,_,_⟩, ⟨_,_,_,_,_,_⟩, ⟨_,_,_,_,_,_⟩, ⟨_,_,_,_,_,_⟩, ⟨_,_,_,_,_,_⟩, ⟨_,_,_,_,_,_⟩, ⟨_,_,_,_,_,_⟩, ⟨_,_,_,_,_,_⟩, ⟨_,_,_,_,_,_⟩, ⟨_,_,_,_,_,_⟩, ⟨_,_,_,_,_,_⟩, ⟨_,_,_,_,_,_⟩, ⟨_,_,_,_,_,_⟩, ⟨_,_,_,_,_,_⟩, ⟨_,_,_,_,_,_⟩, ⟨_,_,_,_,_,_⟩]) [] [0, 1, 2, 3, 4, 5, 6, 7, 8, 9, 10, 11, 12, 13, 14, 15] mixed (by kernel_rfl) rfl (by kernel_rfl) ?_
  refine r_move rfl rfl rfl ?_
  refine r_move rfl rfl rfl ?_
  refine r_indexAddr 2 (i * 8) u61 ti27 rfl rfl rfl rfl rfl (by omega) (by omega) (PLc_ne (l := pts4 s t) (by simp [pts4])) (by show 0 + Int.toNat _ * 8 = _; omega) ?_
  refine r_load (v := Pt p) 2 (i * 8) _ rfl rfl rfl rfl ti27 (PLc_get hp) rfl (by decide) rfl ?_
  refine r_load 0 0 [_, _, _, _, _, _, _, _, _, _, _, _, _, _, _, _] rfl rfl rfl rfl ti36 rfl rfl rfl rfl ?_
  refine r_pcall [_, _] rfl rfl rfl (c_ref07_OnSegment p s (Nat.le_trans hzp (Nat.le_of_ble_eq_true rfl)) (Nat.le_trans hs (Nat.le_of_ble_eq_true rfl))) ?_
  refine r_not rfl rfl rfl ?_
  refine r_move rfl rfl rfl ?_
  refine r_split 29 rfl (fun hb2 => ?_) (fun hb2 => ?_)
  ·
   have hno : ¬ (onR p s ∧ onR p t) := fun c => by have hh := hb2; simp [c.1] at hh
   refine r_no rfl rfl rfl ?_
   refine r_no rfl rfl rfl ?_
   refine r_no rfl rfl rfl ?_
   refine r_no rfl rfl rfl ?_
   refine r_no rfl rfl rfl ?_
   refine r_no rfl rfl rfl ?_
   refine r_no rfl rfl rfl ?_
   refine r_pickT rfl rfl rfl rfl ?_
   refine run_nil ?_
   refine at_tn ?_
   refine at_condT rfl ?_
   refine at_exit ?_
   refine at_te ?_
   refine at_be ?_
   refine at_tn ?_
   refine at_region ?_
   refine r_move rfl rfl rfl ?_
   refine r_arith (r := ((i + 1 : Nat) : Int)) rfl rfl rfl rfl (congrArg some (wi (by omega) (by omega) (by omega))) ?_
   refine r_assign rfl rfl rfl ?_
   refine run_nil ?_
   refine at_tn ?_
   have hcn : comN s t (i + 1) = (comN s t i) := com_no hp hno
   exact nextL ⟨⟨i + 1, ob, oN, oc⟩, hlt, by rw [hcn]; exact hoc⟩ (by simp only []; omega) ⟨rfl, rfl, (look_val rfl (congrArg (fun l => slv ob 0 (List.length l) oc) hcn.symm)), rfl, rfl, trivial⟩ (weak_picks [some 0, some 1, some 2, some 3] ⟨⟨_, rfl, Blk.le_refl _⟩, ⟨_, rfl, Blk.le_refl _⟩, ⟨_, rfl, Blk.le_refl _⟩, ⟨_, rfl, le_same (congrArg (fun l => (⟨ob, 27, PLc l, oN, true⟩ : Blk)) hcn)⟩, trivial⟩ rfl rfl)
  ·
   have hy1 : onR p s := by simpa using hb2
   refine r_move rfl rfl rfl ?_
   refine r_move rfl rfl rfl ?_
   refine r_indexAddr 2 (i * 8) u61 ti27 rfl rfl rfl rfl rfl (by omega) (by omega) (PLc_ne (l := pts4 s t) (by simp [pts4])) (by show 0 + Int.toNat _ * 8 = _; omega) ?_
   refine r_load (v := Pt p) 2 (i * 8) _ rfl rfl rfl rfl ti27 (PLc_get hp) rfl (by decide) rfl ?_
   refine r_load 1 0 [_, _, _, _, _, _, _, _, _, _, _, _, _, _, _, _] rfl rfl rfl rfl ti36 rfl rfl rfl rfl ?_
   refine r_pcall [_, _] rfl rfl rfl (c_ref07_OnSegment p t (Nat.le_trans hzp (Nat.le_of_ble_eq_true rfl)) (Nat.le_trans ht (Nat.le_of_ble_eq_true rfl))) ?_
   refine r_not rfl rfl rfl ?_
   refine r_pickF rfl rfl rfl rfl ?_
   refine run_nil ?_
   refine at_tn ?_
   refine at_cond rfl (fun hb3 => ?_) (fun hb3 => ?_)
   ·
    have hno : ¬ (onR p s ∧ onR p t) := fun c => by have hh := hb3; simp [c.2] at hh
    refine at_exit ?_
    refine at_te ?_
    refine at_be ?_
    refine at_tn ?_
    refine at_region ?_
    refine r_move rfl rfl rfl ?_
    refine r_arith (r := ((i + 1 : Nat) : Int)) rfl rfl rfl rfl (congrArg some (wi (by omega) (by omega) (by omega))) ?_
    refine r_assign rfl rfl rfl ?_
    refine run_nil ?_
    refine at_tn ?_
    have hcn : comN s t (i + 1) = (comN s t i) := com_no hp hno
    exact nextL ⟨⟨i + 1, ob, oN, oc⟩, hlt, by rw [hcn]; exact hoc⟩ (by simp only []; omega) ⟨rfl, rfl, (look_val rfl (congrArg (fun l => slv ob 0 (List.length l) oc) hcn.symm)), rfl, rfl, trivial⟩ (weak_picks [some 0, some 1, some 2, some 3] ⟨⟨_, rfl, Blk.le_refl _⟩, ⟨_, rfl, Blk.le_refl _⟩, ⟨_, rfl, Blk.le_refl _⟩, ⟨_, rfl, le_same (congrArg (fun l => (⟨ob, 27, PLc l, oN, true⟩ : Blk)) hcn)⟩, trivial⟩ rfl rfl)
   ·
    have hy2 : onR p t := by simpa using hb3
    refine at_skip ?_
    refine at_tn ?_
    refine at_seq ?_
    refine at_region ?_
    refine r_assign rfl rfl rfl ?_
    refine run_nil ?_
    refine at_tn ?_
    refine at_seq ?_
    refine at_block ?_
    refine enterL (nt := 86) (ι := {k : Nat // k ≤ (comN s t i).length ∧ ∀ j x, j < k → (comN s t i)[j]? = some x → cmpP x p < 0}) (fun ⟨k, hk, hall⟩ => [(2, .pointer (some ⟨g0, 0, none⟩)), (3, .pointer (some ⟨g1, 0, none⟩)), (5, slv ob 0 (comN s t i).length oc), (6, slv (some g2) 0 4 4), (7, .int .i64 (i : Nat)), (8, .int .i64 (k : Nat))]) (fun ⟨k, hk, hall⟩ => [⟨some g0, 36, ptC s.1 ++ ptC s.2, 16, true⟩, ⟨some g1, 36, ptC t.1 ++ ptC t.2, 16, true⟩, ⟨some g2, 27, PLc (pts4 s t), 32, true⟩, ⟨ob, 27, PLc (comN s t i), oN, true⟩]) (fun ⟨k, hk, hall⟩ => (comN s t i).length - k) ⟨0, Nat.zero_le _, fun j x hj => absurd hj (by omega)⟩ ⟨rfl, rfl, rfl, rfl, rfl, rfl, trivial⟩ (weak_picks [some 0, some 1, some 2, some 3] ⟨⟨_, rfl, Blk.le_refl _⟩, ⟨_, rfl, Blk.le_refl _⟩, ⟨_, rfl, Blk.le_refl _⟩, ⟨_, rfl, Blk.le_refl _⟩, trivial⟩ rfl rfl) ?_
    rintro ⟨k, hk, hall⟩
    show At _ ⟨86, [(2, .pointer (some ⟨g0, 0, none⟩)), (3, .pointer (some ⟨g1, 0, none⟩)), (5, slv ob 0 (comN s t i).length oc), (6, slv (some g2) 0 4 4), (7, .int .i64 (i : Nat)), (8, .int .i64 (k : Nat))], [⟨some g0, 36, ptC s.1 ++ ptC s.2, 16, true⟩, ⟨some g1, 36, ptC t.1 ++ ptC t.2, 16, true⟩, ⟨some g2, 27, PLc (pts4 s t), 32, true⟩, ⟨ob, 27, PLc (comN s t i), oN, true⟩]⟩ _
    refine at_seq ?_
    refine at_seq ?_
    refine at_drawn (l' := [⟨_,_,_,_,_,_⟩, ⟨_,_,_,_,_,_⟩, ⟨_,_,_,_,_,_⟩, ⟨_,_,_,_,_,_⟩, ⟨_,_,_,_,_,_⟩, ⟨_,_,_,_,_,_⟩, ⟨_,_,_,_,_,_⟩, ⟨_,_,_,_,_,_⟩, ⟨_,_,_,_,_,_⟩, ⟨_,_,_,_,_,_⟩, ⟨_,_,_,_,_,_⟩, ⟨_,_,_,_,_,_⟩, ⟨_,_,_,_,_,_⟩, ⟨_,_,_,_,_,_⟩, ⟨_,_,_,_,_,_⟩, ⟨_,_,_,_,_,_⟩]) [] [0, 1, 2, 3, 4, 5, 6, 7, 8, 9, 10, 11, 12, 13, 14, 15] mixed (by kernel_rfl) rfl (by kernel_rfl) ?_
    refine r_move rfl rfl rfl ?_
    refine r_move rfl rfl rfl ?_
    refine r_lenS u61 rfl rfl rfl ?_
    refine r_cmpInt rfl rfl rfl rfl rfl ?_
    refine r_move rfl rfl rfl ?_
    refine r_split 42 rfl (fun hb5 => ?_) (fun hb5 => ?_)
    ·
     have hklt : k < (comN s t i).length := (by have := of_decide_eq_true hb5; omega)
     obtain ⟨x, hx⟩ : ∃ x, (comN s t i)[k]? = some x := ⟨_, List.getElem?_eq_getElem hklt⟩
     have hzx : szP x ≤ 1000 := comN_sz hs ht (List.mem_of_getElem? hx)
     refine r_move rfl rfl rfl ?_
     refine r_move rfl rfl rfl ?_
     refine r_indexAddr 3 (k * 8) u61 ti27 rfl rfl rfl rfl rfl (by omega) (by omega) (PLc_ne (by omega)) (by show 0 + Int.toNat _ * 8 = _; omega) ?_
     refine r_load (v := Pt x) 3 (k * 8) _ rfl rfl rfl rfl ti27 (PLc_get hx) rfl (by decide) rfl ?_
     refine r_move rfl rfl rfl ?_
     refine r_move rfl rfl rfl ?_
     refine r_indexAddr 2 (i * 8) u61 ti27 rfl rfl rfl rfl rfl (by omega) (by omega) (PLc_ne (l := pts4 s t) (by simp [pts4])) (by show 0 + Int.toNat _ * 8 = _; omega) ?_
     refine r_load (v := Pt p) 2 (i * 8) _ rfl rfl rfl rfl ti27 (PLc_get hp) rfl (by decide) rfl ?_
     refine r_pcall [_, _] rfl rfl rfl (c_ref07_Compare x p (Nat.le_trans hzx (Nat.le_of_ble_eq_true rfl)) (Nat.le_trans hzp (Nat.le_of_ble_eq_true rfl))) ?_
     refine r_cmpInt rfl rfl rfl rfl rfl ?_
     refine r_pickT rfl rfl rfl rfl ?_
     refine run_nil ?_
     refine at_tn ?_
     refine at_cond rfl (fun hb6 => ?_) (fun hb6 => ?_)
     ·
      have hxlt : cmpP x p < 0 := of_decide_eq_true hb6
      refine at_skip ?_
      refine at_tn ?_
      refine at_block ?_
      refine at_region ?_
      refine r_move rfl rfl rfl ?_
      refine r_arith (r := ((k + 1 : Nat) : Int)) rfl rfl rfl rfl (congrArg some (wi (by omega) (by omega) (by omega))) ?_
      refine r_assign rfl rfl rfl ?_
      refine run_nil ?_
      refine at_bn ?_
      refine at_tn ?_
      exact nextL ⟨k + 1, hklt, ins_step hall hx hxlt⟩ (by simp only []; omega) ⟨rfl, rfl, rfl, rfl, rfl, rfl, trivial⟩ (weak_picks [some 0, some 1, some 2, some 3] ⟨⟨_, rfl, Blk.le_refl _⟩, ⟨_, rfl, Blk.le_refl _⟩, ⟨_, rfl, Blk.le_refl _⟩, ⟨_, rfl, Blk.le_refl _⟩, trivial⟩ rfl rfl)
     ·
      have hxge : ¬ cmpP x p < 0 := of_decide_eq_false hb6
      refine at_exit ?_
      refine at_te ?_
      refine at_te ?_
      refine at_be ?_
      refine at_tn ?_
      refine at_seq ?_
      refine at_drawn (l' := [⟨_,_,_,_,_,_⟩, ⟨_,_,_,_,_,_⟩, ⟨_,_,_,_,_,_⟩, ⟨_,_,_,_,_,_⟩, ⟨_,_,_,_,_,_⟩, ⟨_,_,_,_,_,_⟩, ⟨_,_,_,_,_,_⟩, ⟨_,_,_,_,_,_⟩, ⟨_,_,_,_,_,_⟩, ⟨_,_,_,_,_,_⟩, ⟨_,_,_,_,_,_⟩, ⟨_,_,_,_,_,_⟩, ⟨_,_,_,_,_,_⟩, ⟨_,_,_,_,_,_⟩, ⟨_,_,_,_,_,_⟩]) [] [0, 1, 2, 3, 4, 5, 6, 7, 8, 9, 10, 11, 12, 13, 14] mixed (by kernel_rfl) rfl (by kernel_rfl) ?_
      refine r_move rfl rfl rfl ?_
      refine r_move rfl rfl rfl ?_
      refine r_lenS u61 rfl rfl rfl ?_
      refine r_cmpInt rfl rfl rfl rfl rfl ?_
      refine r_know 59 (.bool false) rfl (congrArg Value.bool (beq_eq_false_iff_ne.2 (by omega))) ?_
      refine r_move rfl rfl rfl ?_
      refine r_move rfl rfl rfl ?_
      refine r_move rfl rfl rfl ?_
      refine r_indexAddr 3 (k * 8) u61 ti27 rfl rfl rfl rfl rfl (by omega) (by omega) (PLc_ne (by omega)) (by show 0 + Int.toNat _ * 8 = _; omega) ?_
      refine r_load (v := Pt x) 3 (k * 8) _ rfl rfl rfl rfl ti27 (PLc_get hx) rfl (by decide) rfl ?_
      refine r_move rfl rfl rfl ?_
      refine r_move rfl rfl rfl ?_
      refine r_indexAddr 2 (i * 8) u61 ti27 rfl rfl rfl rfl rfl (by omega) (by omega) (PLc_ne (l := pts4 s t) (by simp [pts4])) (by show 0 + Int.toNat _ * 8 = _; omega) ?_
      refine r_load (v := Pt p) 2 (i * 8) _ rfl rfl rfl rfl ti27 (PLc_get hp) rfl (by decide) rfl ?_
      refine r_neqAgg rfl rfl rfl rfl gd27 (eq27 _ _) ?_
      refine r_pickF rfl rfl rfl rfl ?_
      refine run_nil ?_
      refine at_tn ?_
      refine at_cond rfl (fun hb7 => ?_) (fun hb7 => ?_)
      ·
       have hxp : x ≠ p := by simpa using hb7
       have hins : insP p (comN s t i) = (comN s t i).take k ++ p :: (comN s t i).drop k := insP_at hk hall (fun y hy => by rw [hx] at hy; cases hy; exact ⟨hxge, hxp⟩)
       refine at_base 3 rfl (fun hbase => ?_)
       obtain ⟨go, hgo⟩ := row_base2 (by omega) hbase
       replace hgo : ob = some go := hgo
       subst hgo
       refine at_drawnE (l' := [⟨_,_,_,_,_,_⟩, ⟨_,_,_,_,_,_⟩, ⟨_,_,_,_,_,_⟩, ⟨_,_,_,_,_,_⟩, ⟨_,_,_,_,_,_⟩, ⟨_,_,_,_,_,_⟩, ⟨_,_,_,_,_,_⟩, ⟨_,_,_,_,_,_⟩, ⟨_,_,_,_,_,_⟩]) [0, 1, 2, 3, 4, 5, 9, 10, 11] 6 mixed (by kernel_rfl) rfl ?_
       refine r_move rfl rfl rfl ?_
       refine r_move rfl rfl rfl ?_
       refine r_move rfl rfl rfl ?_
       refine r_sliceK k u61 ti27 rfl rfl rfl rfl rfl (by omega) ?_
       refine r_move rfl rfl rfl ?_
       refine r_move rfl rfl rfl ?_
       refine r_move rfl rfl rfl ?_
       refine r_move rfl rfl rfl ?_
       refine r_sliceM (off' := k * 8) (n' := (comN s t i).length - k) (c' := oc - k) k u61 ti27 rfl rfl rfl rfl (by omega) (if_neg (by omega)) rfl rfl ?_
       refine run_nil ?_
       refine t_node [6] (by kernel_rfl) rfl ⟨⟨_, rfl, ?_⟩, trivial⟩
       ·
        refine r_indexAddr 2 (i * 8) u61 ti27 rfl rfl rfl rfl rfl (by omega) (by omega) (PLc_ne (l := pts4 s t) (by simp [pts4])) (by show 0 + Int.toNat _ * 8 = _; omega) ?_
        refine run_nil ?_
        refine t_node [7] (by kernel_rfl) rfl ⟨⟨_, rfl, ?_⟩, trivial⟩
        ·
         refine r_load (v := Pt p) 2 (i * 8) _ rfl rfl rfl rfl ti27 (PLc_get hp) rfl (by decide) rfl ?_
         refine run_nil ?_
         refine t_node [8] (by kernel_rfl) rfl ⟨⟨_, rfl, ?_⟩, trivial⟩
         ·
          refine r_buildSlice [(0, _)] (fun g => [_, _, _, _, ⟨some g, 27, _, 8, true⟩]) rfl rfl rfl (bs61_1) rfl (fun _ => rfl) (fun g3 => ?_)
          refine run_nil ?_
          refine t_node [12] (by kernel_rfl) rfl ⟨⟨_, rfl, ?_⟩, trivial⟩
          ·
           refine q_appendG 4 3 (ptC p) (PLc ((comN s t i).drop k)) (fun r => [_, _, _, _, _, ⟨some r.g, 27, ptC p ++ PLc ((comN s t i).drop k), r.n, true⟩]) u61 el27 rfl rfl rfl rfl rfl rfl rfl rfl rfl rfl rfl (by omega) (Nat.le_refl _) (PLc_drop (comN s t i) k) (by rw [PLc_length, List.length_drop]) (PLc_one _) (by omega) (fun _ => rfl) (fun r => ?_)
           refine run_nil ?_
           refine t_node [13] (by kernel_rfl) rfl ⟨⟨_, rfl, ?_⟩, trivial⟩
           ·
            refine q_appendG 3 5 (PLc ((comN s t i).take k)) (ptC p ++ PLc ((comN s t i).drop k)) (fun r2 => [_, _, _, _, _, _, ⟨some r2.g, 27, PLc ((comN s t i).take k) ++ (ptC p ++ PLc ((comN s t i).drop k)), r2.n, true⟩]) u61 el27 rfl rfl rfl rfl rfl rfl rfl rfl rfl (PLc_take (comN s t i) k) (by rw [PLc_length, List.length_take]; omega) (by omega) (Nat.le_refl _) (pd_take (comN s t i) k p hk) (pd_len (comN s t i) k p hk) (pd_one _ _) (by omega) (fun _ => rfl) (fun r2 => ?_)
            refine run_nil ?_
            refine t_node [14] (by kernel_rfl) rfl ⟨⟨_, rfl, ?_⟩, trivial⟩
            ·
             refine r_assign rfl rfl rfl ?_
             refine run_nil ?_
             refine tr_nil (by kernel_rfl) ?_
             refine at_bn ?_
             refine at_tn ?_
             refine at_region ?_
             refine r_move rfl rfl rfl ?_
             refine r_arith (r := ((i + 1 : Nat) : Int)) rfl rfl rfl rfl (congrArg some (wi (by omega) (by omega) (by omega))) ?_
             refine r_assign rfl rfl rfl ?_
             refine run_nil ?_
             refine at_tn ?_
             have hcn : comN s t (i + 1) = (comN s t i).take k ++ p :: (comN s t i).drop k := (com_yes hp hy1 hy2).trans hins
             have hcl : (comN s t (i + 1)).length = k + (1 + ((comN s t i).length - k)) := by rw [hcn, List.length_append, List.length_take, List.length_cons, List.length_drop]; omega
             exact nextL ⟨⟨i + 1, some r2.g, r2.n, r2.cap⟩, hlt, by have := r2.h; show (comN s t (i + 1)).length ≤ r2.cap; omega⟩ (by simp only []; omega) ⟨rfl, rfl, (look_val rfl (congrArg (fun n => slv (some r2.g) 0 n r2.cap) hcl.symm)), rfl, rfl, trivial⟩ (weak_picks [some 0, some 1, some 2, some 6] ⟨⟨_, rfl, Blk.le_refl _⟩, ⟨_, rfl, Blk.le_refl _⟩, ⟨_, rfl, Blk.le_refl _⟩, ⟨_, rfl, le_same (congrArg (fun c => (⟨some r2.g, 27, c, r2.n, true⟩ : Blk)) (by rw [hcn, PLc_append]; rfl))⟩, trivial⟩ rfl rfl)
      ·
       have hxp : x = p := by simpa using hb7
       refine at_skip ?_
       refine at_bn ?_
       refine at_tn ?_
       refine at_region ?_
       refine r_move rfl rfl rfl ?_
       refine r_arith (r := ((i + 1 : Nat) : Int)) rfl rfl rfl rfl (congrArg some (wi (by omega) (by omega) (by omega))) ?_
       refine r_assign rfl rfl rfl ?_
       refine run_nil ?_
       refine at_tn ?_
       have hcn : comN s t (i + 1) = (comN s t i) := (com_yes hp hy1 hy2).trans (insP_eq hall (by rw [hx, hxp]))
       exact nextL ⟨⟨i + 1, ob, oN, oc⟩, hlt, by rw [hcn]; exact hoc⟩ (by simp only []; omega) ⟨rfl, rfl, (look_val rfl (congrArg (fun l => slv ob 0 (List.length l) oc) hcn.symm)), rfl, rfl, trivial⟩ (weak_picks [some 0, some 1, some 2, some 3] ⟨⟨_, rfl, Blk.le_refl _⟩, ⟨_, rfl, Blk.le_refl _⟩, ⟨_, rfl, Blk.le_refl _⟩, ⟨_, rfl, le_same (congrArg (fun l => (⟨ob, 27, PLc l, oN, true⟩ : Blk)) hcn)⟩, trivial⟩ rfl rfl)
    ·
     have hkl : k = (comN s t i).length := (by have := of_decide_eq_false hb5; omega)
     have hins : insP p (comN s t i) = (comN s t i).take k ++ p :: (comN s t i).drop k := insP_at hk hall (fun x hx => absurd (List.getElem?_eq_some_iff.1 hx).1 (by omega))
     refine r_no rfl rfl rfl ?_
     refine r_no rfl rfl rfl ?_
     refine r_no rfl rfl rfl ?_
     refine r_no rfl rfl rfl ?_
     refine r_no rfl rfl rfl ?_
     refine r_no rfl rfl rfl ?_
     refine r_no rfl rfl rfl ?_
     refine r_no rfl rfl rfl ?_
     refine r_no rfl rfl rfl ?_
     refine r_no rfl rfl rfl ?_
     refine r_pickF rfl rfl rfl rfl ?_
     refine run_nil ?_
     refine at_tn ?_
     refine at_condF rfl ?_
     refine at_exit ?_
     refine at_te ?_
     refine at_te ?_
     refine at_be ?_
     refine at_tn ?_
     refine at_seq ?_
     refine at_drawn (l' := [⟨_,_,_,_,_,_⟩, ⟨_,_,_,_,_,_⟩, ⟨_,_,_,_,_,_⟩, ⟨_,_,_,_,_,_⟩, ⟨_,_,_,_,_,_⟩, ⟨_,_,_,_,_,_⟩, ⟨_,_,_,_,_,_⟩, ⟨_,_,_,_,_,_⟩, ⟨_,_,_,_,_,_⟩, ⟨_,_,_,_,_,_⟩, ⟨_,_,_,_,_,_⟩, ⟨_,_,_,_,_,_⟩, ⟨_,_,_,_,_,_⟩, ⟨_,_,_,_,_,_⟩, ⟨_,_,_,_,_,_⟩]) [] [0, 1, 2, 3, 4, 5, 6, 7, 8, 9, 10, 11, 12, 13, 14] mixed (by kernel_rfl) rfl (by kernel_rfl) ?_
     refine r_move rfl rfl rfl ?_
     refine r_move rfl rfl rfl ?_
     refine r_lenS u61 rfl rfl rfl ?_
     refine r_cmpInt rfl rfl rfl rfl rfl ?_
     refine r_know 59 (.bool true) rfl (congrArg Value.bool (beq_iff_eq.2 (by omega))) ?_
     refine r_move rfl rfl rfl ?_
     refine r_no rfl rfl rfl ?_
     refine r_no rfl rfl rfl ?_
     refine r_no rfl rfl rfl ?_
     refine r_no rfl rfl rfl ?_
     refine r_no rfl rfl rfl ?_
     refine r_no rfl rfl rfl ?_
     refine r_no rfl rfl rfl ?_
     refine r_no rfl rfl rfl ?_
     refine r_no rfl rfl rfl ?_
     refine r_pickT rfl rfl rfl rfl ?_
     refine run_nil ?_
     refine at_tn ?_
     refine at_condT rfl ?_
     refine at_drawnE (l' := [⟨_,_,_,_,_,_⟩, ⟨_,_,_,_,_,_⟩, ⟨_,_,_,_,_,_⟩, ⟨_,_,_,_,_,_⟩, ⟨_,_,_,_,_,_⟩, ⟨_,_,_,_,_,_⟩, ⟨_,_,_,_,_,_⟩, ⟨_,_,_,_,_,_⟩, ⟨_,_,_,_,_,_⟩]) [0, 1, 2, 3, 4, 5, 9, 10, 11] 6 mixed (by kernel_rfl) rfl ?_
     refine r_move rfl rfl rfl ?_
     refine r_move rfl rfl rfl ?_
     refine r_move rfl rfl rfl ?_
     refine r_sliceK k u61 ti27 rfl rfl rfl rfl rfl (by omega) ?_
     refine r_move rfl rfl rfl ?_
     refine r_move rfl rfl rfl ?_
     refine r_move rfl rfl rfl ?_
     refine r_move rfl rfl rfl ?_
     refine r_sliceM (off' := if oc = k then 0 else k * 8) (n' := 0) (c' := oc - k) k u61 ti27 rfl rfl rfl rfl (by omega) rfl (by omega) rfl ?_
     refine run_nil ?_
     refine t_node [6] (by kernel_rfl) rfl ⟨⟨_, rfl, ?_⟩, trivial⟩
     ·
      refine r_indexAddr 2 (i * 8) u61 ti27 rfl rfl rfl rfl rfl (by omega) (by omega) (PLc_ne (l := pts4 s t) (by simp [pts4])) (by show 0 + Int.toNat _ * 8 = _; omega) ?_
      refine run_nil ?_
      refine t_node [7] (by kernel_rfl) rfl ⟨⟨_, rfl, ?_⟩, trivial⟩
      ·
       refine r_load (v := Pt p) 2 (i * 8) _ rfl rfl rfl rfl ti27 (PLc_get hp) rfl (by decide) rfl ?_
       refine run_nil ?_
       refine t_node [8] (by kernel_rfl) rfl ⟨⟨_, rfl, ?_⟩, trivial⟩
       ·
        refine r_buildSlice [(0, _)] (fun g => [_, _, _, _, ⟨some g, 27, _, 8, true⟩]) rfl rfl rfl (bs61_1) rfl (fun _ => rfl) (fun g3 => ?_)
        refine run_nil ?_
        refine t_node [12] (by kernel_rfl) rfl ⟨⟨_, rfl, ?_⟩, trivial⟩
        ·
         refine q_append0O u61 el27 rfl rfl rfl (Nat.le_refl _) rfl ?_
         refine run_nil ?_
         refine t_node [13] (by kernel_rfl) rfl ⟨⟨_, rfl, ?_⟩, trivial⟩
         ·
          refine q_appendG (n2 := 1) 3 4 (PLc ((comN s t i).take k)) (ptC p) (fun r => [_, _, _, _, _, ⟨some r.g, 27, PLc ((comN s t i).take k) ++ ptC p, r.n, true⟩]) u61 el27 rfl rfl rfl rfl rfl rfl rfl rfl rfl (PLc_take (comN s t i) k) (by rw [PLc_length, List.length_take]; omega) (by omega) (Nat.le_refl _) rfl rfl (ptC_one p) (by omega) (fun _ => rfl) (fun r => ?_)
          refine run_nil ?_
          refine t_node [14] (by kernel_rfl) rfl ⟨⟨_, rfl, ?_⟩, trivial⟩
          ·
           refine r_assign rfl rfl rfl ?_
           refine run_nil ?_
           refine tr_nil (by kernel_rfl) ?_
           refine at_bn ?_
           refine at_tn ?_
           refine at_region ?_
           refine r_move rfl rfl rfl ?_
           refine r_arith (r := ((i + 1 : Nat) : Int)) rfl rfl rfl rfl (congrArg some (wi (by omega) (by omega) (by omega))) ?_
           refine r_assign rfl rfl rfl ?_
           refine run_nil ?_
           refine at_tn ?_
           have hcn : comN s t (i + 1) = (comN s t i).take k ++ p :: (comN s t i).drop k := (com_yes hp hy1 hy2).trans hins
           have hdn : (comN s t i).drop k = [] := List.drop_of_length_le (by omega)
           have hcl : (comN s t (i + 1)).length = k + 1 := by rw [hcn, hdn, List.length_append, List.length_take]; simp; omega
           exact nextL ⟨⟨i + 1, some r.g, r.n, r.cap⟩, hlt, by have := r.h; show (comN s t (i + 1)).length ≤ r.cap; omega⟩ (by simp only []; omega) ⟨rfl, rfl, (look_val rfl (congrArg (fun n => slv (some r.g) 0 n r.cap) hcl.symm)), rfl, rfl, trivial⟩ (weak_picks [some 0, some 1, some 2, some 5] ⟨⟨_, rfl, Blk.le_refl _⟩, ⟨_, rfl, Blk.le_refl _⟩, ⟨_, rfl, Blk.le_refl _⟩, ⟨_, rfl, le_same (congrArg (fun c => (⟨some r.g, 27, c, r.n, true⟩ : Blk)) (by rw [hcn, PLc_append, hdn]; show _ ++ (ptC p ++ []) = _; rw [List.append_nil]))⟩, trivial⟩ rfl rfl)
 ·
  have hge : i = 4 := (by have := of_decide_eq_false hb1; omega)
  subst hge
  refine at_exit ?_
  refine at_te ?_
  refine at_te ?_
  refine at_be ?_
  refine at_tn ?_
  refine at_seq ?_
  refine at_region ?_
  refine r_move rfl rfl rfl ?_
  refine r_assign rfl rfl rfl ?_
  refine run_nil ?_
  refine at_tn ?_
  refine at_ret ?_
  refine at_end1 rfl (res_tmp rfl) (fun w hL => ⟨⟨ob, oN, oc, hoc⟩, ?_, hL.picks [some 3] ⟨⟨_, rfl, Blk.le_refl _⟩, trivial⟩ rfl rfl⟩)
  exact rfl
end Go.Proofs.YthnlafhnpphdhaaGreatDoor
set_option linter.unusedVariables false
set_option linter.unusedSimpArgs false
namespace Go.Via
open Go Go.RowKit
/-! ### least distances -/
theorem min_or {a b : Rat} : (min a b = a ∧ a ≤ b) ∨ (min a b = b ∧ b < a) := by
  rw [Rat.min_def]
  by_cases h : a ≤ b
  · rw [if_pos h]; exact .inl ⟨rfl, h⟩
  · rw [if_neg h]; exact .inr ⟨rfl, by grind⟩
end Go.Via
set_option linter.unusedVariables false
set_option linter.unusedSimpArgs false
namespace Go.Via
open Go Go.RowKit
theorem meetR_gt {s t : S2} {a e : P2} (ha : (commonR s t)[0]? = some a) (he : (commonR s t)[(commonR s t).length - 1]? = some e) (h : 1 < (commonR s t).length) : meetR s t = (3, (a, e)) := by
  unfold meetR
  generalize commonR s t = l at *
  match l, ha, he, h with
  | [], _, _, h => simp at h
  | [_], _, _, h => simp at h
  | x :: y :: l, ha, he, _ =>
    have e1 : x = a := by simpa using ha
    subst e1
    show (3, (x, (y :: l).getLastD y)) = (3, (x, e))
    have : (y :: l).getLastD y = e := by
      have h2 : (y :: l)[l.length]? = some e := by simpa using he
      rw [List.getLastD_eq_getLast?, List.getLast?_eq_getElem?]
      simp only [List.length_cons, Nat.add_sub_cancel, h2, Option.getD_some]
    rw [this]
theorem meetR_one {s t : S2} {a : P2} (ha : (commonR s t)[0]? = some a) (h : (commonR s t).length = 1) : meetR s t = (1, (a, a)) := by
  unfold meetR
  generalize commonR s t = l at *
  match l, ha, h with
  | [], _, h => simp at h
  | [x], ha, _ => have e1 : x = a := by simpa using ha
                  subst e1; rfl
  | x :: y :: l, _, h => simp at h
theorem meetR_nil {s t : S2} (h : (commonR s t).length = 0) : meetR s t = crossR s t := by
  unfold meetR; rw [List.eq_nil_of_length_eq_zero h]
theorem crossR_0 {s t : S2} (h : uv s t = 0) : crossR s t = (0, ((0, 0), (0, 0))) := if_pos h
theorem crossR_1 {s t : S2} (h : uv s t ≠ 0) (hn : ¬ (onR (divP s (wv s t / uv s t)) s ∧ onR (divP s (wv s t / uv s t)) t)) : crossR s t = (0, ((0, 0), (0, 0))) := by unfold crossR; rw [if_neg h, if_neg hn]
theorem crossR_2 {s t : S2} (h : uv s t ≠ 0) (h1 : onR (divP s (wv s t / uv s t)) s) (h2 : onR (divP s (wv s t / uv s t)) t) : crossR s t = (2, (divP s (wv s t / uv s t), divP s (wv s t / uv s t))) := by unfold crossR; rw [if_neg h, if_pos ⟨h1, h2⟩]
theorem minL_up {q x : Rat} {l : List Rat} {i : Nat} (h : l[i]? = some x) (hx : x < minL q (l.take i)) : x = minL q (l.take (i + 1)) := by
  rw [← minL_take h]
  generalize minL q (l.take i) = m at *
  rcases @min_or m x with h | h <;> rw [h.1] <;> grind
theorem minL_no {q x : Rat} {l : List Rat} {i : Nat} (h : l[i]? = some x) (hx : ¬ x < minL q (l.take i)) : minL q (l.take i) = minL q (l.take (i + 1)) := by
  rw [← minL_take h]
  generalize minL q (l.take i) = m at *
  rcases @min_or m x with h | h <;> rw [h.1] <;> grind
end Go.Via
set_option linter.unusedVariables false
namespace Go.Proofs.YthnlafhnpphdhaaGreatDoor
open Go Go.RowKit Go.Via
set_option maxRecDepth 20000 in
theorem c_ref07_Meet (s t : S2) (hs : szS s ≤ 1000) (ht : szS t ≤ 1000) : PCall Tryz.prog 26 #[Sg s, Sg t] (.tuple #[.int .i64 (meetP s t).1, Sg (meetP s t).2]) := by
 have hcl4 : (commonR s t).length ≤ 4 := comN_len s t 4
 refine ⟨by kernel_rfl, fun w => ?_⟩
 refine calls_at (args := [Sg s, Sg t]) Tryz.func26 rfl (Nat.le_of_ble_eq_true rfl) (LRel.nil w) ?_
 show At w ⟨77, [(0, Sg s), (1, Sg t)], []⟩ _
 refine at_seq ?_
 refine at_region ?_
 refine r_box [_, _, _, _, _, _, _, _, _, _, _, _, _, _, _, _] 16 (fun g => [⟨some g, 36, _, 16, true⟩]) rfl rfl rfl rfl rfl (fun _ => rfl) (fun g0 => ?_)
 refine r_box [_, _, _, _, _, _, _, _, _, _, _, _, _, _, _, _] 16 (fun g => [_, ⟨some g, 36, _, 16, true⟩]) rfl rfl rfl rfl rfl (fun _ => rfl) (fun g1 => ?_)
 refine r_assign rfl rfl rfl ?_
 refine r_alloc [_, _, _, _, _, _, _, _, _, _, _, _, _, _, _, _] 16 (fun g => [_, _, ⟨some g, 36, _, 16, true⟩]) rfl rfl z36 rfl rfl (fun _ => rfl) (fun g2 => ?_)
 refine run_nil ?_
 refine at_tn ?_
 refine at_seq ?_
 refine at_region ?_
 refine r_load 0 0 [_, _, _, _, _, _, _, _, _, _, _, _, _, _, _, _] rfl rfl rfl rfl ti36 rfl rfl rfl rfl ?_
 refine r_load 1 0 [_, _, _, _, _, _, _, _, _, _, _, _, _, _, _, _] rfl rfl rfl rfl ti36 rfl rfl rfl rfl ?_
 refine r_scall [_, _] [] rfl rfl rfl (c_ref07_common s t hs ht) trivial rfl (.inr (fun z b hb => by rw [List.mem_singleton.1 hb])) (fun z => ?_)
 refine r_assign rfl rfl rfl ?_
 refine run_nil ?_
 refine at_tn ?_
 refine at_seq ?_
 refine at_seq ?_
 refine at_region ?_
 refine r_move rfl rfl rfl ?_
 refine r_lenS u61 rfl rfl rfl ?_
 refine r_cmpInt rfl rfl rfl rfl rfl ?_
 refine run_nil ?_
 refine at_tn ?_
 refine at_cond rfl (fun hb0 => ?_) (fun hb0 => ?_)
 ·
  have hl1 : 1 < (commonR s t).length := (by have := of_decide_eq_true hb0; omega)
  obtain ⟨a, ha⟩ : ∃ a, (commonR s t)[0]? = some a := ⟨_, List.getElem?_eq_getElem (by omega)⟩
  obtain ⟨e, he⟩ : ∃ e, (commonR s t)[(commonR s t).length - 1]? = some e := ⟨_, List.getElem?_eq_getElem (by omega)⟩
  refine at_seq ?_
  refine at_drawn (l' := [⟨_,_,_,_,_,_⟩, ⟨_,_,_,_,_,_⟩, ⟨_,_,_,_,_,_⟩, ⟨_,_,_,_,_,_⟩, ⟨_,_,_,_,_,_⟩, ⟨_,_,_,_,_,_⟩, ⟨_,_,_,_,_,_⟩, ⟨_,_,_,_,_,_⟩, ⟨_,_,_,_,_,_⟩, ⟨_,_,_,_,_,_⟩, ⟨_,_,_,_,_,_⟩, ⟨_,_,_,_,_,_⟩]) [2000000] [0, 1, 2, 3, 4, 5, 6, 7, 8, 9, 10, 11] mixed (by kernel_rfl) rfl (by kernel_rfl) ?_
  refine r_move rfl rfl rfl ?_
  refine r_indexAddr 3 (0 * 8) u61 ti27 rfl rfl rfl rfl rfl (by omega) (by omega) (PLc_ne (by omega)) (by show 0 + Int.toNat _ * 8 = _; omega) ?_
  refine r_load (v := Pt a) 3 (0 * 8) _ rfl rfl rfl rfl ti27 (PLc_get ha) rfl (by decide) rfl ?_
  refine r_move rfl rfl rfl ?_
  refine r_move rfl rfl rfl ?_
  refine r_lenS u61 rfl rfl rfl ?_
  refine r_arith (r := ((((commonR s t).length - 1 : Nat)) : Int)) rfl rfl rfl rfl (congrArg some (wi (by omega) (by omega) (by omega))) ?_
  refine r_indexAddr 3 (((commonR s t).length - 1) * 8) u61 ti27 rfl rfl rfl rfl rfl (by omega) (by omega) (PLc_ne (by omega)) (by show 0 + Int.toNat _ * 8 = _; omega) ?_
  refine r_load (v := Pt e) 3 (((commonR s t).length - 1) * 8) _ rfl rfl rfl rfl ti27 (PLc_get he) rfl (by decide) rfl ?_
  refine r_build [(0, _), (1, _)] rfl rfl rfl (bd36_2) ?_
  refine r_assign rfl rfl rfl ?_
  refine r_store rfl 2 0 [_, _, ⟨some g2, 36, _, 16, true⟩, _] [_, _, _, _, _, _, _, _, _, _, _, _, _, _, _, _] rfl rfl rfl rfl ti36 rfl rfl rfl rfl rfl ?_
  refine run_nil ?_
  refine at_tn ?_
  refine at_ret ?_
  refine at_tr ?_
  refine at_end2 rfl (res_tmp rfl) (res_cell 2 rfl rfl ti36 (vs := [_, _, _, _, _, _, _, _, _, _, _, _, _, _, _, _]) rfl rfl (Nat.le_of_ble_eq_true rfl) rfl) (fun w hL => ⟨?_, hL.below⟩)
  refine congrArg Ending.returned ?_
  rw [← meetR_eq, meetR_gt ha he hl1]; rfl
 ·
  have hl1 : ¬ 1 < (commonR s t).length := (by have := of_decide_eq_false hb0; omega)
  refine at_skip ?_
  refine at_tn ?_
  refine at_seq ?_
  refine at_seq ?_
  refine at_region ?_
  refine r_move rfl rfl rfl ?_
  refine r_lenS u61 rfl rfl rfl ?_
  refine r_cmpInt rfl rfl rfl rfl rfl ?_
  refine run_nil ?_
  refine at_tn ?_
  refine at_cond rfl (fun hb1 => ?_) (fun hb1 => ?_)
  ·
   have hl2 : (commonR s t).length = 1 := by have := eq_of_beq hb1; omega
   obtain ⟨a, ha⟩ : ∃ a, (commonR s t)[0]? = some a := ⟨_, List.getElem?_eq_getElem (by omega)⟩
   refine at_seq ?_
   refine at_drawn (l' := [⟨_,_,_,_,_,_⟩, ⟨_,_,_,_,_,_⟩, ⟨_,_,_,_,_,_⟩, ⟨_,_,_,_,_,_⟩, ⟨_,_,_,_,_,_⟩, ⟨_,_,_,_,_,_⟩, ⟨_,_,_,_,_,_⟩, ⟨_,_,_,_,_,_⟩, ⟨_,_,_,_,_,_⟩]) [2000000] [0, 1, 2, 3, 4, 5, 6, 7, 8] mixed (by kernel_rfl) rfl (by kernel_rfl) ?_
   refine r_move rfl rfl rfl ?_
   refine r_indexAddr 3 (0 * 8) u61 ti27 rfl rfl rfl rfl rfl (by omega) (by omega) (PLc_ne (by omega)) (by show 0 + Int.toNat _ * 8 = _; omega) ?_
   refine r_load (v := Pt a) 3 (0 * 8) _ rfl rfl rfl rfl ti27 (PLc_get ha) rfl (by decide) rfl ?_
   refine r_move rfl rfl rfl ?_
   refine r_indexAddr 3 (0 * 8) u61 ti27 rfl rfl rfl rfl rfl (by omega) (by omega) (PLc_ne (by omega)) (by show 0 + Int.toNat _ * 8 = _; omega) ?_
   refine r_load (v := Pt a) 3 (0 * 8) _ rfl rfl rfl rfl ti27 (PLc_get ha) rfl (by decide) rfl ?_
   refine r_build [(0, _), (1, _)] rfl rfl rfl (bd36_2) ?_
   refine r_assign rfl rfl rfl ?_
   refine r_store rfl 2 0 [_, _, ⟨some g2, 36, _, 16, true⟩, _] [_, _, _, _, _, _, _, _, _, _, _, _, _, _, _, _] rfl rfl rfl rfl ti36 rfl rfl rfl rfl rfl ?_
   refine run_nil ?_
   refine at_tn ?_
   refine at_ret ?_
   refine at_tr ?_
   refine at_end2 rfl (res_tmp rfl) (res_cell 2 rfl rfl ti36 (vs := [_, _, _, _, _, _, _, _, _, _, _, _, _, _, _, _]) rfl rfl (Nat.le_of_ble_eq_true rfl) rfl) (fun w hL => ⟨?_, hL.below⟩)
   refine congrArg Ending.returned ?_
   rw [← meetR_eq, meetR_one ha hl2]; rfl
  ·
   have hl2 : (commonR s t).length = 0 := by have := ne_of_beq_false hb1; omega
   refine at_skip ?_
   refine at_tn ?_
   refine at_seq ?_
   refine at_drawnA (l' := [⟨_,_,_,_,_,_⟩, ⟨_,_,_,_,_,_⟩, ⟨_,_,_,_,_,_⟩, ⟨_,_,_,_,_,_⟩, ⟨_,_,_,_,_,_⟩, ⟨_,_,_,_,_,_⟩, ⟨_,_,_,_,_,_⟩, ⟨_,_,_,_,_,_⟩, ⟨_,_,_,_,_,_⟩, ⟨_,_,_,_,_,_⟩, ⟨_,_,_,_,_,_⟩, ⟨_,_,_,_,_,_⟩, ⟨_,_,_,_,_,_⟩, ⟨_,_,_,_,_,_⟩]) [3000000] [0, 1, 2, 3, 5, 6, 7, 8, 4, 9, 10, 11, 12, 13] mixed (by kernel_rfl) rfl ?_
   refine r_fieldAddr 0 0 8 rfl rfl rfl rfl rfl ti36 rfl rfl ?_
   refine r_load 0 8 [_, _, _, _, _, _, _, _] rfl rfl rfl rfl ti27 rfl rfl rfl rfl ?_
   refine r_fieldAddr 0 0 0 rfl rfl rfl rfl rfl ti36 rfl rfl ?_
   refine r_load 0 0 [_, _, _, _, _, _, _, _] rfl rfl rfl rfl ti27 rfl rfl rfl rfl ?_
   refine r_fieldAddr 1 0 8 rfl rfl rfl rfl rfl ti36 rfl rfl ?_
   refine r_load 1 8 [_, _, _, _, _, _, _, _] rfl rfl rfl rfl ti27 rfl rfl rfl rfl ?_
   refine r_fieldAddr 1 0 0 rfl rfl rfl rfl rfl ti36 rfl rfl ?_
   refine r_load 1 0 [_, _, _, _, _, _, _, _] rfl rfl rfl rfl ti27 rfl rfl rfl rfl ?_
   refine r_pcall [_, _] rfl rfl rfl (c_ref07_Sub s.2 s.1 (szPm (Nat.le_trans (szP1 (szS2 hs)) (Nat.le_of_ble_eq_true rfl)) (Nat.le_trans (szP2 (szS2 hs)) (Nat.le_of_ble_eq_true rfl))) (szPm (Nat.le_trans (szP1 (szS1 hs)) (Nat.le_of_ble_eq_true rfl)) (Nat.le_trans (szP2 (szS1 hs)) (Nat.le_of_ble_eq_true rfl)))) ?_
   refine r_pcall [_, _] rfl rfl rfl (c_ref07_Sub t.2 t.1 (szPm (Nat.le_trans (szP1 (szS2 ht)) (Nat.le_of_ble_eq_true rfl)) (Nat.le_trans (szP2 (szS2 ht)) (Nat.le_of_ble_eq_true rfl))) (szPm (Nat.le_trans (szP1 (szS1 ht)) (Nat.le_of_ble_eq_true rfl)) (Nat.le_trans (szP2 (szS1 ht)) (Nat.le_of_ble_eq_true rfl)))) ?_
   refine r_alloc [_, _, _, _, _, _, _, _] 8 (fun g => [_, _, _, _, ⟨some g, 27, _, 8, true⟩]) rfl rfl z27 rfl rfl (fun _ => rfl) (fun g3 => ?_)
   refine r_alloc [_, _, _, _, _, _, _, _] 8 (fun g => [_, _, _, _, _, ⟨some g, 27, _, 8, true⟩]) rfl rfl z27 rfl rfl (fun _ => rfl) (fun g4 => ?_)
   refine r_store rfl 4 0 [_, _, _, _, ⟨some g3, 27, _, 8, true⟩, _] [_, _, _, _, _, _, _, _] rfl rfl rfl rfl ti27 rfl rfl rfl rfl rfl ?_
   refine r_store rfl 5 0 [_, _, _, _, _, ⟨some g4, 27, _, 8, true⟩] [_, _, _, _, _, _, _, _] rfl rfl rfl rfl ti27 rfl rfl rfl rfl rfl ?_
   refine run_nil ?_
   refine at_tn ?_
   refine at_seq ?_
   refine at_region ?_
   refine r_load 4 0 [_, _, _, _, _, _, _, _] rfl rfl rfl rfl ti27 rfl rfl rfl rfl ?_
   refine r_load 5 0 [_, _, _, _, _, _, _, _] rfl rfl rfl rfl ti27 rfl rfl rfl rfl ?_
   refine r_pcall [_, _] rfl rfl rfl (c_ref07_Product (pSub s.2 s.1) (pSub t.2 t.1) (szPm (Nat.le_trans (szQ_sub (szP1 (szS2 hs)) (szP1 (szS1 hs))) (Nat.le_of_ble_eq_true rfl)) (Nat.le_trans (szQ_sub (szP2 (szS2 hs)) (szP2 (szS1 hs))) (Nat.le_of_ble_eq_true rfl))) (szPm (Nat.le_trans (szQ_sub (szP1 (szS2 ht)) (szP1 (szS1 ht))) (Nat.le_of_ble_eq_true rfl)) (Nat.le_trans (szQ_sub (szP2 (szS2 ht)) (szP2 (szS1 ht))) (Nat.le_of_ble_eq_true rfl)))) ?_
   refine r_alloc [_, _, _, _] 4 (fun g => [_, _, _, _, _, _, ⟨some g, 25, _, 4, true⟩]) rfl rfl z25 rfl rfl (fun _ => rfl) (fun g5 => ?_)
   refine r_store rfl 6 0 [_, _, _, _, _, _, ⟨some g5, 25, _, 4, true⟩] [_, _, _, _] rfl rfl rfl rfl ti25 rfl rfl rfl rfl rfl ?_
   refine run_nil ?_
   refine at_tn ?_
   refine at_seq ?_
   refine at_seq ?_
   refine at_region ?_
   refine r_load 6 0 [_, _, _, _] rfl rfl rfl rfl ti25 rfl rfl rfl rfl ?_
   refine r_pcall [_] rfl rfl rfl (c_ref02_Sign (crs (pSub s.2 s.1) (pSub t.2 t.1))) ?_
   refine r_cmpInt rfl rfl rfl rfl rfl ?_
   refine run_nil ?_
   refine at_tn ?_
   refine at_cond rfl (fun hb2 => ?_) (fun hb2 => ?_)
   ·
    have hD : uv s t = 0 := sgn_z.1 (eq_of_beq hb2)
    refine at_seq ?_
    refine at_region ?_
    refine r_build [] rfl rfl rfl (bd36_0) ?_
    refine r_know 53 (Sg ((0, 0), (0, 0))) rfl Sg_zero ?_
    refine r_assign rfl rfl rfl ?_
    refine r_store rfl 2 0 [_, _, ⟨some g2, 36, _, 16, true⟩, _, _, _, _] [_, _, _, _, _, _, _, _, _, _, _, _, _, _, _, _] rfl rfl rfl rfl ti36 rfl rfl rfl rfl rfl ?_
    refine run_nil ?_
    refine at_tn ?_
    refine at_ret ?_
    refine at_tr ?_
    refine at_end2 rfl (res_tmp rfl) (res_cell 2 rfl rfl ti36 (vs := [_, _, _, _, _, _, _, _, _, _, _, _, _, _, _, _]) rfl rfl (Nat.le_of_ble_eq_true rfl) rfl) (fun w hL => ⟨?_, hL.below⟩)
    refine congrArg Ending.returned ?_
    rw [← meetR_eq, meetR_nil hl2, crossR_0 hD]; rfl
   ·
    have hD : uv s t ≠ 0 := fun e => ne_of_beq_false hb2 (sgn_z.2 e)
    refine at_skip ?_
    refine at_tn ?_
    refine at_seq ?_
    refine at_drawnA (l' := [⟨_,_,_,_,_,_⟩, ⟨_,_,_,_,_,_⟩, ⟨_,_,_,_,_,_⟩, ⟨_,_,_,_,_,_⟩, ⟨_,_,_,_,_,_⟩, ⟨_,_,_,_,_,_⟩, ⟨_,_,_,_,_,_⟩, ⟨_,_,_,_,_,_⟩, ⟨_,_,_,_,_,_⟩, ⟨_,_,_,_,_,_⟩, ⟨_,_,_,_,_,_⟩, ⟨_,_,_,_,_,_⟩, ⟨_,_,_,_,_,_⟩]) [3000000] [0, 1, 2, 3, 4, 6, 8, 5, 7, 9, 10, 11, 12] mixed (by kernel_rfl) rfl ?_
    refine r_load 0 0 [_, _, _, _, _, _, _, _, _, _, _, _, _, _, _, _] rfl rfl rfl rfl ti36 rfl rfl rfl rfl ?_
    refine r_fieldAddr 1 0 0 rfl rfl rfl rfl rfl ti36 rfl rfl ?_
    refine r_load 1 0 [_, _, _, _, _, _, _, _] rfl rfl rfl rfl ti27 rfl rfl rfl rfl ?_
    refine r_fieldAddr 0 0 0 rfl rfl rfl rfl rfl ti36 rfl rfl ?_
    refine r_load 0 0 [_, _, _, _, _, _, _, _] rfl rfl rfl rfl ti27 rfl rfl rfl rfl ?_
    refine r_load 5 0 [_, _, _, _, _, _, _, _] rfl rfl rfl rfl ti27 rfl rfl rfl rfl ?_
    refine r_load 6 0 [_, _, _, _] rfl rfl rfl rfl ti25 rfl rfl rfl rfl ?_
    refine r_pcall [_, _] rfl rfl rfl (c_ref07_Sub t.1 s.1 (szPm (Nat.le_trans (szP1 (szS1 ht)) (Nat.le_of_ble_eq_true rfl)) (Nat.le_trans (szP2 (szS1 ht)) (Nat.le_of_ble_eq_true rfl))) (szPm (Nat.le_trans (szP1 (szS1 hs)) (Nat.le_of_ble_eq_true rfl)) (Nat.le_trans (szP2 (szS1 hs)) (Nat.le_of_ble_eq_true rfl)))) ?_
    refine r_pcall [_, _] rfl rfl rfl (c_ref07_Product (pSub t.1 s.1) (pSub t.2 t.1) (szPm (Nat.le_trans (szQ_sub (szP1 (szS1 ht)) (szP1 (szS1 hs))) (Nat.le_of_ble_eq_true rfl)) (Nat.le_trans (szQ_sub (szP2 (szS1 ht)) (szP2 (szS1 hs))) (Nat.le_of_ble_eq_true rfl))) (szPm (Nat.le_trans (szQ_sub (szP1 (szS2 ht)) (szP1 (szS1 ht))) (Nat.le_of_ble_eq_true rfl)) (Nat.le_trans (szQ_sub (szP2 (szS2 ht)) (szP2 (szS1 ht))) (Nat.le_of_ble_eq_true rfl)))) ?_
    refine r_pcall [_, _] rfl rfl rfl (c_ref02_Div (crs (pSub t.1 s.1) (pSub t.2 t.1)) (crs (pSub s.2 s.1) (pSub t.2 t.1)) hD (Nat.le_trans (szQ_sub (szQ_mul (szQ_sub (szP1 (szS1 ht)) (szP1 (szS1 hs))) (szQ_sub (szP2 (szS2 ht)) (szP2 (szS1 ht)))) (szQ_mul (szQ_sub (szP2 (szS1 ht)) (szP2 (szS1 hs))) (szQ_sub (szP1 (szS2 ht)) (szP1 (szS1 ht))))) (Nat.le_of_ble_eq_true rfl)) (Nat.le_trans (szQ_sub (szQ_mul (szQ_sub (szP1 (szS2 hs)) (szP1 (szS1 hs))) (szQ_sub (szP2 (szS2 ht)) (szP2 (szS1 ht)))) (szQ_mul (szQ_sub (szP2 (szS2 hs)) (szP2 (szS1 hs))) (szQ_sub (szP1 (szS2 ht)) (szP1 (szS1 ht))))) (Nat.le_of_ble_eq_true rfl))) ?_
    refine r_pcall [_, _] rfl rfl rfl (c_ref07_Divide s ((crs (pSub t.1 s.1) (pSub t.2 t.1)) / (crs (pSub s.2 s.1) (pSub t.2 t.1))) (szSm (szPm (Nat.le_trans (szP1 (szS1 hs)) (Nat.le_of_ble_eq_true rfl)) (Nat.le_trans (szP2 (szS1 hs)) (Nat.le_of_ble_eq_true rfl))) (szPm (Nat.le_trans (szP1 (szS2 hs)) (Nat.le_of_ble_eq_true rfl)) (Nat.le_trans (szP2 (szS2 hs)) (Nat.le_of_ble_eq_true rfl)))) (Nat.le_trans (szQ_div (szQ_sub (szQ_mul (szQ_sub (szP1 (szS1 ht)) (szP1 (szS1 hs))) (szQ_sub (szP2 (szS2 ht)) (szP2 (szS1 ht)))) (szQ_mul (szQ_sub (szP2 (szS1 ht)) (szP2 (szS1 hs))) (szQ_sub (szP1 (szS2 ht)) (szP1 (szS1 ht))))) (szQ_sub (szQ_mul (szQ_sub (szP1 (szS2 hs)) (szP1 (szS1 hs))) (szQ_sub (szP2 (szS2 ht)) (szP2 (szS1 ht)))) (szQ_mul (szQ_sub (szP2 (szS2 hs)) (szP2 (szS1 hs))) (szQ_sub (szP1 (szS2 ht)) (szP1 (szS1 ht)))))) (Nat.le_of_ble_eq_true rfl))) ?_
    refine r_alloc [_, _, _, _, _, _, _, _] 8 (fun g => [_, _, _, _, _, _, _, ⟨some g, 27, _, 8, true⟩]) rfl rfl z27 rfl rfl (fun _ => rfl) (fun g6 => ?_)
    refine r_store rfl 7 0 [_, _, _, _, _, _, _, ⟨some g6, 27, _, 8, true⟩] [_, _, _, _, _, _, _, _] rfl rfl rfl rfl ti27 rfl rfl rfl rfl rfl ?_
    refine run_nil ?_
    refine at_tn ?_
    refine at_seq ?_
    refine at_seq ?_
    refine at_region ?_
    refine r_load 7 0 [_, _, _, _, _, _, _, _] rfl rfl rfl rfl ti27 rfl rfl rfl rfl ?_
    refine r_load 0 0 [_, _, _, _, _, _, _, _, _, _, _, _, _, _, _, _] rfl rfl rfl rfl ti36 rfl rfl rfl rfl ?_
    refine r_pcall [_, _] rfl rfl rfl (c_ref07_OnSegment (divP s ((crs (pSub t.1 s.1) (pSub t.2 t.1)) / (crs (pSub s.2 s.1) (pSub t.2 t.1)))) s (szPm (Nat.le_trans (szQ_add (szP1 (szS1 hs)) (szQ_mul (szQ_sub (szP1 (szS2 hs)) (szP1 (szS1 hs))) (szQ_div (szQ_sub (szQ_mul (szQ_sub (szP1 (szS1 ht)) (szP1 (szS1 hs))) (szQ_sub (szP2 (szS2 ht)) (szP2 (szS1 ht)))) (szQ_mul (szQ_sub (szP2 (szS1 ht)) (szP2 (szS1 hs))) (szQ_sub (szP1 (szS2 ht)) (szP1 (szS1 ht))))) (szQ_sub (szQ_mul (szQ_sub (szP1 (szS2 hs)) (szP1 (szS1 hs))) (szQ_sub (szP2 (szS2 ht)) (szP2 (szS1 ht)))) (szQ_mul (szQ_sub (szP2 (szS2 hs)) (szP2 (szS1 hs))) (szQ_sub (szP1 (szS2 ht)) (szP1 (szS1 ht)))))))) (Nat.le_of_ble_eq_true rfl)) (Nat.le_trans (szQ_add (szP2 (szS1 hs)) (szQ_mul (szQ_sub (szP2 (szS2 hs)) (szP2 (szS1 hs))) (szQ_div (szQ_sub (szQ_mul (szQ_sub (szP1 (szS1 ht)) (szP1 (szS1 hs))) (szQ_sub (szP2 (szS2 ht)) (szP2 (szS1 ht)))) (szQ_mul (szQ_sub (szP2 (szS1 ht)) (szP2 (szS1 hs))) (szQ_sub (szP1 (szS2 ht)) (szP1 (szS1 ht))))) (szQ_sub (szQ_mul (szQ_sub (szP1 (szS2 hs)) (szP1 (szS1 hs))) (szQ_sub (szP2 (szS2 ht)) (szP2 (szS1 ht)))) (szQ_mul (szQ_sub (szP2 (szS2 hs)) (szP2 (szS1 hs))) (szQ_sub (szP1 (szS2 ht)) (szP1 (szS1 ht)))))))) (Nat.le_of_ble_eq_true rfl))) (szSm (szPm (Nat.le_trans (szP1 (szS1 hs)) (Nat.le_of_ble_eq_true rfl)) (Nat.le_trans (szP2 (szS1 hs)) (Nat.le_of_ble_eq_true rfl))) (szPm (Nat.le_trans (szP1 (szS2 hs)) (Nat.le_of_ble_eq_true rfl)) (Nat.le_trans (szP2 (szS2 hs)) (Nat.le_of_ble_eq_true rfl))))) ?_
    refine r_move rfl rfl rfl ?_
    refine r_split 68 rfl (fun hb3 => ?_) (fun hb3 => ?_)
    ·
     have hy1 : onR (divP s (wv s t / uv s t)) s := by have := hb3; exact of_decide_eq_true this
     refine r_load 7 0 [_, _, _, _, _, _, _, _] rfl rfl rfl rfl ti27 rfl rfl rfl rfl ?_
     refine r_load 1 0 [_, _, _, _, _, _, _, _, _, _, _, _, _, _, _, _] rfl rfl rfl rfl ti36 rfl rfl rfl rfl ?_
     refine r_pcall [_, _] rfl rfl rfl (c_ref07_OnSegment (divP s ((crs (pSub t.1 s.1) (pSub t.2 t.1)) / (crs (pSub s.2 s.1) (pSub t.2 t.1)))) t (szPm (Nat.le_trans (szQ_add (szP1 (szS1 hs)) (szQ_mul (szQ_sub (szP1 (szS2 hs)) (szP1 (szS1 hs))) (szQ_div (szQ_sub (szQ_mul (szQ_sub (szP1 (szS1 ht)) (szP1 (szS1 hs))) (szQ_sub (szP2 (szS2 ht)) (szP2 (szS1 ht)))) (szQ_mul (szQ_sub (szP2 (szS1 ht)) (szP2 (szS1 hs))) (szQ_sub (szP1 (szS2 ht)) (szP1 (szS1 ht))))) (szQ_sub (szQ_mul (szQ_sub (szP1 (szS2 hs)) (szP1 (szS1 hs))) (szQ_sub (szP2 (szS2 ht)) (szP2 (szS1 ht)))) (szQ_mul (szQ_sub (szP2 (szS2 hs)) (szP2 (szS1 hs))) (szQ_sub (szP1 (szS2 ht)) (szP1 (szS1 ht)))))))) (Nat.le_of_ble_eq_true rfl)) (Nat.le_trans (szQ_add (szP2 (szS1 hs)) (szQ_mul (szQ_sub (szP2 (szS2 hs)) (szP2 (szS1 hs))) (szQ_div (szQ_sub (szQ_mul (szQ_sub (szP1 (szS1 ht)) (szP1 (szS1 hs))) (szQ_sub (szP2 (szS2 ht)) (szP2 (szS1 ht)))) (szQ_mul (szQ_sub (szP2 (szS1 ht)) (szP2 (szS1 hs))) (szQ_sub (szP1 (szS2 ht)) (szP1 (szS1 ht))))) (szQ_sub (szQ_mul (szQ_sub (szP1 (szS2 hs)) (szP1 (szS1 hs))) (szQ_sub (szP2 (szS2 ht)) (szP2 (szS1 ht)))) (szQ_mul (szQ_sub (szP2 (szS2 hs)) (szP2 (szS1 hs))) (szQ_sub (szP1 (szS2 ht)) (szP1 (szS1 ht)))))))) (Nat.le_of_ble_eq_true rfl))) (szSm (szPm (Nat.le_trans (szP1 (szS1 ht)) (Nat.le_of_ble_eq_true rfl)) (Nat.le_trans (szP2 (szS1 ht)) (Nat.le_of_ble_eq_true rfl))) (szPm (Nat.le_trans (szP1 (szS2 ht)) (Nat.le_of_ble_eq_true rfl)) (Nat.le_trans (szP2 (szS2 ht)) (Nat.le_of_ble_eq_true rfl))))) ?_
     refine r_pickT rfl rfl rfl rfl ?_
     refine run_nil ?_
     refine at_tn ?_
     refine at_cond rfl (fun hb4 => ?_) (fun hb4 => ?_)
     ·
      have hy2 : onR (divP s (wv s t / uv s t)) t := of_decide_eq_true hb4
      refine at_seq ?_
      refine at_drawn (l' := [⟨_,_,_,_,_,_⟩, ⟨_,_,_,_,_,_⟩, ⟨_,_,_,_,_,_⟩, ⟨_,_,_,_,_,_⟩, ⟨_,_,_,_,_,_⟩]) [2000000] [0, 1, 2, 3, 4] mixed (by kernel_rfl) rfl (by kernel_rfl) ?_
      refine r_load 7 0 [_, _, _, _, _, _, _, _] rfl rfl rfl rfl ti27 rfl rfl rfl rfl ?_
      refine r_load 7 0 [_, _, _, _, _, _, _, _] rfl rfl rfl rfl ti27 rfl rfl rfl rfl ?_
      refine r_build [(0, _), (1, _)] rfl rfl rfl (bd36_2) ?_
      refine r_assign rfl rfl rfl ?_
      refine r_store rfl 2 0 [_, _, ⟨some g2, 36, _, 16, true⟩, _, _, _, _, _] [_, _, _, _, _, _, _, _, _, _, _, _, _, _, _, _] rfl rfl rfl rfl ti36 rfl rfl rfl rfl rfl ?_
      refine run_nil ?_
      refine at_tn ?_
      refine at_ret ?_
      refine at_tr ?_
      refine at_end2 rfl (res_tmp rfl) (res_cell 2 rfl rfl ti36 (vs := [_, _, _, _, _, _, _, _, _, _, _, _, _, _, _, _]) rfl rfl (Nat.le_of_ble_eq_true rfl) rfl) (fun w hL => ⟨?_, hL.below⟩)
      refine congrArg Ending.returned ?_
      rw [← meetR_eq, meetR_nil hl2, crossR_2 hD hy1 hy2]; rfl
     ·
      have hno : ¬ (onR (divP s (wv s t / uv s t)) s ∧ onR (divP s (wv s t / uv s t)) t) := fun c => of_decide_eq_false hb4 c.2
      refine at_skip ?_
      refine at_tn ?_
      refine at_seq ?_
      refine at_region ?_
      refine r_build [] rfl rfl rfl (bd36_0) ?_
      refine r_know 76 (Sg ((0, 0), (0, 0))) rfl Sg_zero ?_
      refine r_assign rfl rfl rfl ?_
      refine r_store rfl 2 0 [_, _, ⟨some g2, 36, _, 16, true⟩, _, _, _, _, _] [_, _, _, _, _, _, _, _, _, _, _, _, _, _, _, _] rfl rfl rfl rfl ti36 rfl rfl rfl rfl rfl ?_
      refine run_nil ?_
      refine at_tn ?_
      refine at_ret ?_
      refine at_end2 rfl (res_tmp rfl) (res_cell 2 rfl rfl ti36 (vs := [_, _, _, _, _, _, _, _, _, _, _, _, _, _, _, _]) rfl rfl (Nat.le_of_ble_eq_true rfl) rfl) (fun w hL => ⟨?_, hL.below⟩)
      refine congrArg Ending.returned ?_
      rw [← meetR_eq, meetR_nil hl2, crossR_1 hD hno]; rfl
    ·
     have hno : ¬ (onR (divP s (wv s t / uv s t)) s ∧ onR (divP s (wv s t / uv s t)) t) := fun c => of_decide_eq_false hb3 c.1
     refine r_no rfl rfl rfl ?_
     refine r_no rfl rfl rfl ?_
     refine r_no rfl rfl rfl ?_
     refine r_pickF rfl rfl rfl rfl ?_
     refine run_nil ?_
     refine at_tn ?_
     refine at_condF rfl ?_
     refine at_skip ?_
     refine at_tn ?_
     refine at_seq ?_
     refine at_region ?_
     refine r_build [] rfl rfl rfl (bd36_0) ?_
     refine r_know 76 (Sg ((0, 0), (0, 0))) rfl Sg_zero ?_
     refine r_assign rfl rfl rfl ?_
     refine r_store rfl 2 0 [_, _, ⟨some g2, 36, _, 16, true⟩, _, _, _, _, _] [_, _, _, _, _, _, _, _, _, _, _, _, _, _, _, _] rfl rfl rfl rfl ti36 rfl rfl rfl rfl rfl ?_
     refine run_nil ?_
     refine at_tn ?_
     refine at_ret ?_
     refine at_end2 rfl (res_tmp rfl) (res_cell 2 rfl rfl ti36 (vs := [_, _, _, _, _, _, _, _, _, _, _, _, _, _, _, _]) rfl rfl (Nat.le_of_ble_eq_true rfl) rfl) (fun w hL => ⟨?_, hL.below⟩)
     refine congrArg Ending.returned ?_
     rw [← meetR_eq, meetR_nil hl2, crossR_1 hD hno]; rfl
end Go.Proofs.YthnlafhnpphdhaaGreatDoor
set_option linter.unusedVariables false
namespace Go.Proofs.YthnlafhnpphdhaaGreatDoor
open Go Go.RowKit Go.Via
set_option maxRecDepth 20000 in
theorem c_ref07_Segments2 (s t : S2) (hs : szS s ≤ 1000) (ht : szS t ≤ 1000) : PCall Tryz.prog 46 #[Sg s, Sg t] (Q (segs2 s t)) := by
 have h3a := szPs2 (szS1 hs) ht
 have h3b : ∀ y ∈ ([ps2 s.2 t, ps2 t.1 s, ps2 t.2 s] : List Rat), szQ y ≤ 200000 := by simp only [List.forall_mem_cons]; exact ⟨szPs2 (szS2 hs) ht, szPs2 (szS1 ht) hs, szPs2 (szS2 ht) hs, fun _ h => by cases h⟩
 refine ⟨by kernel_rfl, fun w => ?_⟩
 refine calls_at (args := [Sg s, Sg t]) Tryz.func46 rfl (Nat.le_of_ble_eq_true rfl) (LRel.nil w) ?_
 show At w ⟨51, [(0, Sg s), (1, Sg t)], []⟩ _
 refine at_seq ?_
 refine at_region ?_
 refine r_box [_, _, _, _, _, _, _, _, _, _, _, _, _, _, _, _] 16 (fun g => [⟨some g, 36, _, 16, true⟩]) rfl rfl rfl rfl rfl (fun _ => rfl) (fun g0 => ?_)
 refine r_box [_, _, _, _, _, _, _, _, _, _, _, _, _, _, _, _] 16 (fun g => [_, ⟨some g, 36, _, 16, true⟩]) rfl rfl rfl rfl rfl (fun _ => rfl) (fun g1 => ?_)
 refine r_alloc [_, _, _, _] 4 (fun g => [_, _, ⟨some g, 25, _, 4, true⟩]) rfl rfl z25 rfl rfl (fun _ => rfl) (fun g2 => ?_)
 refine run_nil ?_
 refine at_tn ?_
 refine at_seq ?_
 refine at_seq ?_
 refine at_region ?_
 refine r_load 0 0 [_, _, _, _, _, _, _, _, _, _, _, _, _, _, _, _] rfl rfl rfl rfl ti36 rfl rfl rfl rfl ?_
 refine r_load 1 0 [_, _, _, _, _, _, _, _, _, _, _, _, _, _, _, _] rfl rfl rfl rfl ti36 rfl rfl rfl rfl ?_
 refine r_pcall [_, _] rfl rfl rfl (c_ref07_Meet s t hs ht) ?_
 refine r_move rfl rfl rfl ?_
 refine r_extract (vs := [_, _]) rfl rfl rfl rfl ?_
 refine r_extract (vs := [_, _]) rfl rfl rfl rfl ?_
 refine r_alloc [_, _, _, _, _, _, _, _, _, _, _, _, _, _, _, _] 16 (fun g => [_, _, _, ⟨some g, 36, _, 16, true⟩]) rfl rfl z36 rfl rfl (fun _ => rfl) (fun g3 => ?_)
 refine r_assign rfl rfl rfl ?_
 refine r_store rfl 3 0 [_, _, _, ⟨some g3, 36, _, 16, true⟩] [_, _, _, _, _, _, _, _, _, _, _, _, _, _, _, _] rfl rfl rfl rfl ti36 rfl rfl rfl rfl rfl ?_
 refine run_nil ?_
 refine at_tn ?_
 refine at_seq ?_
 refine at_region ?_
 refine r_move rfl rfl rfl ?_
 refine r_cmpInt rfl rfl rfl rfl rfl ?_
 refine run_nil ?_
 refine at_tn ?_
 refine at_cond rfl (fun hb0 => ?_) (fun hb0 => ?_)
 ·
  refine at_seq ?_
  refine at_region ?_
  refine r_pcall [_] rfl rfl rfl (c_ref07_Whole 0 (by omega) (by omega)) ?_
  refine r_store rfl 2 0 [_, _, ⟨some g2, 25, _, 4, true⟩, _] [_, _, _, _] rfl rfl rfl rfl ti25 rfl rfl rfl rfl rfl ?_
  refine run_nil ?_
  refine at_tn ?_
  refine at_ret ?_
  refine at_tr ?_
  refine at_end1 rfl (res_cell 2 rfl rfl ti25 (vs := [_, _, _, _]) rfl rfl (Nat.le_of_ble_eq_true rfl) rfl) (fun w hL => ⟨?_, hL.below⟩)
  rw [segs_T hb0]; rfl
 ·
  refine at_skip ?_
  refine at_tn ?_
  refine at_seq ?_
  refine at_region ?_
  refine r_fieldAddr 0 0 0 rfl rfl rfl rfl rfl ti36 rfl rfl ?_
  refine r_load 0 0 [_, _, _, _, _, _, _, _] rfl rfl rfl rfl ti27 rfl rfl rfl rfl ?_
  refine r_load 1 0 [_, _, _, _, _, _, _, _, _, _, _, _, _, _, _, _] rfl rfl rfl rfl ti36 rfl rfl rfl rfl ?_
  refine r_pcall [_, _] rfl rfl rfl (c_ref07_PointSegment2 s.1 t (szS1 hs) ht) ?_
  refine r_alloc [_, _, _, _] 4 (fun g => [_, _, _, _, ⟨some g, 25, _, 4, true⟩]) rfl rfl z25 rfl rfl (fun _ => rfl) (fun g4 => ?_)
  refine r_store rfl 4 0 [_, _, _, _, ⟨some g4, 25, _, 4, true⟩] [_, _, _, _] rfl rfl rfl rfl ti25 rfl rfl rfl rfl rfl ?_
  refine run_nil ?_
  refine at_tn ?_
  refine at_seq ?_
  refine at_drawn (l' := [⟨_,_,_,_,_,_⟩, ⟨_,_,_,_,_,_⟩, ⟨_,_,_,_,_,_⟩, ⟨_,_,_,_,_,_⟩, ⟨_,_,_,_,_,_⟩, ⟨_,_,_,_,_,_⟩, ⟨_,_,_,_,_,_⟩, ⟨_,_,_,_,_,_⟩, ⟨_,_,_,_,_,_⟩, ⟨_,_,_,_,_,_⟩, ⟨_,_,_,_,_,_⟩, ⟨_,_,_,_,_,_⟩, ⟨_,_,_,_,_,_⟩, ⟨_,_,_,_,_,_⟩]) [] [0, 1, 2, 4, 5, 6, 8, 9, 10, 3, 7, 11, 12, 13] mixed (by kernel_rfl) rfl (by kernel_rfl) ?_
  refine r_fieldAddr 0 0 8 rfl rfl rfl rfl rfl ti36 rfl rfl ?_
  refine r_load 0 8 [_, _, _, _, _, _, _, _] rfl rfl rfl rfl ti27 rfl rfl rfl rfl ?_
  refine r_load 1 0 [_, _, _, _, _, _, _, _, _, _, _, _, _, _, _, _] rfl rfl rfl rfl ti36 rfl rfl rfl rfl ?_
  refine r_fieldAddr 1 0 0 rfl rfl rfl rfl rfl ti36 rfl rfl ?_
  refine r_load 1 0 [_, _, _, _, _, _, _, _] rfl rfl rfl rfl ti27 rfl rfl rfl rfl ?_
  refine r_load 0 0 [_, _, _, _, _, _, _, _, _, _, _, _, _, _, _, _] rfl rfl rfl rfl ti36 rfl rfl rfl rfl ?_
  refine r_fieldAddr 1 0 8 rfl rfl rfl rfl rfl ti36 rfl rfl ?_
  refine r_load 1 8 [_, _, _, _, _, _, _, _] rfl rfl rfl rfl ti27 rfl rfl rfl rfl ?_
  refine r_load 0 0 [_, _, _, _, _, _, _, _, _, _, _, _, _, _, _, _] rfl rfl rfl rfl ti36 rfl rfl rfl rfl ?_
  refine r_pcall [_, _] rfl rfl rfl (c_ref07_PointSegment2 s.2 t (szS2 hs) ht) ?_
  refine r_pcall [_, _] rfl rfl rfl (c_ref07_PointSegment2 t.1 s (szS1 ht) hs) ?_
  refine r_pcall [_, _] rfl rfl rfl (c_ref07_PointSegment2 t.2 s (szS2 ht) hs) ?_
  refine r_buildSlice [(0, _), (1, _), (2, _)] (fun g => [_, _, _, _, _, ⟨some g, 25, _, 12, true⟩]) rfl rfl rfl (bs83_3) rfl (fun _ => rfl) (fun g5 => ?_)
  refine r_assign rfl rfl rfl ?_
  refine run_nil ?_
  refine at_tn ?_
  refine at_seq ?_
  refine at_seq ?_
  refine at_region ?_
  refine r_assign rfl rfl rfl ?_
  refine run_nil ?_
  refine at_tn ?_
  refine at_block ?_
  refine enterL (nt := 51) (ι := {i : Nat // i ≤ 3}) (fun ⟨i, hi⟩ => [(2, .pointer (some ⟨g0, 0, none⟩)), (3, .pointer (some ⟨g1, 0, none⟩)), (4, .pointer (some ⟨g2, 0, none⟩)), (7, .pointer (some ⟨g4, 0, none⟩)), (8, slv (some g5) 0 3 3), (9, .int .i64 (i : Nat))]) (fun ⟨i, hi⟩ => [⟨some g0, 36, ptC s.1 ++ ptC s.2, 16, true⟩, ⟨some g1, 36, ptC t.1 ++ ptC t.2, 16, true⟩, ⟨some g2, 25, [.bool false, .string ⟨#[]⟩, .bool false, .string ⟨#[]⟩], 4, true⟩, ⟨some g4, 25, qC (minL (ps2 s.1 t) (([ps2 s.2 t, ps2 t.1 s, ps2 t.2 s] : List Rat).take i)), 4, true⟩, ⟨some g5, 25, QLc [ps2 s.2 t, ps2 t.1 s, ps2 t.2 s], 12, true⟩]) (fun ⟨i, hi⟩ => 3 - i) ⟨0, Nat.zero_le _⟩ ⟨rfl, rfl, rfl, rfl, rfl, rfl, trivial⟩ (weak_picks [some 0, some 1, some 2, some 4, some 5] ⟨⟨_, rfl, Blk.le_refl _⟩, ⟨_, rfl, Blk.le_refl _⟩, ⟨_, rfl, Blk.le_refl _⟩, ⟨_, rfl, Blk.le_refl _⟩, ⟨_, rfl, Blk.le_refl _⟩, trivial⟩ rfl rfl) ?_
  rintro ⟨i, hi⟩
  show At _ ⟨51, [(2, .pointer (some ⟨g0, 0, none⟩)), (3, .pointer (some ⟨g1, 0, none⟩)), (4, .pointer (some ⟨g2, 0, none⟩)), (7, .pointer (some ⟨g4, 0, none⟩)), (8, slv (some g5) 0 3 3), (9, .int .i64 (i : Nat))], [⟨some g0, 36, ptC s.1 ++ ptC s.2, 16, true⟩, ⟨some g1, 36, ptC t.1 ++ ptC t.2, 16, true⟩, ⟨some g2, 25, [.bool false, .string ⟨#[]⟩, .bool false, .string ⟨#[]⟩], 4, true⟩, ⟨some g4, 25, qC (minL (ps2 s.1 t) (([ps2 s.2 t, ps2 t.1 s, ps2 t.2 s] : List Rat).take i)), 4, true⟩, ⟨some g5, 25, QLc [ps2 s.2 t, ps2 t.1 s, ps2 t.2 s], 12, true⟩]⟩ _
  refine at_seq ?_
  refine at_seq ?_
  refine at_region ?_
  refine r_move rfl rfl rfl ?_
  refine r_cmpInt rfl rfl rfl rfl rfl ?_
  refine run_nil ?_
  refine at_tn ?_
  refine at_cond rfl (fun hb2 => ?_) (fun hb2 => ?_)
  ·
   have hlt : i < 3 := (by have := of_decide_eq_true hb2; omega)
   obtain ⟨x, hx⟩ : ∃ x, ([ps2 s.2 t, ps2 t.1 s, ps2 t.2 s] : List Rat)[i]? = some x := ⟨_, List.getElem?_eq_getElem (by simp; omega)⟩
   have hzx := h3b x (List.mem_of_getElem? hx)
   refine at_skip ?_
   refine at_tn ?_
   refine at_seq ?_
   refine at_block ?_
   refine at_seq ?_
   refine at_drawn (l' := [⟨_,_,_,_,_,_⟩, ⟨_,_,_,_,_,_⟩, ⟨_,_,_,_,_,_⟩, ⟨_,_,_,_,_,_⟩, ⟨_,_,_,_,_,_⟩, ⟨_,_,_,_,_,_⟩]) [] [0, 1, 2, 3, 4, 5] mixed (by kernel_rfl) rfl (by kernel_rfl) ?_
   refine r_move rfl rfl rfl ?_
   refine r_move rfl rfl rfl ?_
   refine r_indexAddr 4 (i * 4) u83 ti25 rfl rfl rfl rfl rfl (by omega) (by omega) (QLc_ne (l := [ps2 s.2 t, ps2 t.1 s, ps2 t.2 s]) (by simp)) (by show 0 + Int.toNat _ * 4 = _; omega) ?_
   refine r_load (v := Q x) 4 (i * 4) _ rfl rfl rfl rfl ti25 (QLc_get hx) rfl (by decide) rfl ?_
   refine r_load 3 0 [_, _, _, _] rfl rfl rfl rfl ti25 rfl rfl rfl rfl ?_
   refine r_pcall [_, _] rfl rfl rfl (c_ref07_less x (minL (ps2 s.1 t) (([ps2 s.2 t, ps2 t.1 s, ps2 t.2 s] : List Rat).take i)) (Nat.le_trans hzx (Nat.le_of_ble_eq_true rfl)) (Nat.le_trans (minL_sz h3a (fun y hy => h3b y (List.mem_of_mem_take hy))) (Nat.le_of_ble_eq_true rfl))) ?_
   refine run_nil ?_
   refine at_tn ?_
   refine at_cond rfl (fun hb3 => ?_) (fun hb3 => ?_)
   ·
    have hxm : x < (minL (ps2 s.1 t) (([ps2 s.2 t, ps2 t.1 s, ps2 t.2 s] : List Rat).take i)) := of_decide_eq_true hb3
    refine at_region ?_
    refine r_move rfl rfl rfl ?_
    refine r_move rfl rfl rfl ?_
    refine r_indexAddr 4 (i * 4) u83 ti25 rfl rfl rfl rfl rfl (by omega) (by omega) (QLc_ne (l := [ps2 s.2 t, ps2 t.1 s, ps2 t.2 s]) (by simp)) (by show 0 + Int.toNat _ * 4 = _; omega) ?_
    refine r_load (v := Q x) 4 (i * 4) _ rfl rfl rfl rfl ti25 (QLc_get hx) rfl (by decide) rfl ?_
    refine r_store rfl 3 0 [_, _, _, ⟨some g4, 25, _, 4, true⟩, _] [_, _, _, _] rfl rfl rfl rfl ti25 rfl rfl rfl rfl rfl ?_
    refine run_nil ?_
    refine at_bn ?_
    refine at_tn ?_
    refine at_region ?_
    refine r_move rfl rfl rfl ?_
    refine r_arith (r := ((i + 1 : Nat) : Int)) rfl rfl rfl rfl (congrArg some (wi (by omega) (by omega) (by omega))) ?_
    refine r_assign rfl rfl rfl ?_
    refine run_nil ?_
    refine at_tn ?_
    exact nextL ⟨i + 1, hlt⟩ (by simp only []; omega) ⟨rfl, rfl, rfl, rfl, rfl, rfl, trivial⟩ (weak_picks [some 0, some 1, some 2, some 3, some 4] ⟨⟨_, rfl, Blk.le_refl _⟩, ⟨_, rfl, Blk.le_refl _⟩, ⟨_, rfl, Blk.le_refl _⟩, ⟨_, rfl, le_same (congrArg (fun q => (⟨some g4, 25, qC q, 4, true⟩ : Blk)) (minL_up hx hxm).symm)⟩, ⟨_, rfl, Blk.le_refl _⟩, trivial⟩ rfl rfl)
   ·
    have hxm : ¬ x < (minL (ps2 s.1 t) (([ps2 s.2 t, ps2 t.1 s, ps2 t.2 s] : List Rat).take i)) := of_decide_eq_false hb3
    refine at_skip ?_
    refine at_bn ?_
    refine at_tn ?_
    refine at_region ?_
    refine r_move rfl rfl rfl ?_
    refine r_arith (r := ((i + 1 : Nat) : Int)) rfl rfl rfl rfl (congrArg some (wi (by omega) (by omega) (by omega))) ?_
    refine r_assign rfl rfl rfl ?_
    refine run_nil ?_
    refine at_tn ?_
    exact nextL ⟨i + 1, hlt⟩ (by simp only []; omega) ⟨rfl, rfl, rfl, rfl, rfl, rfl, trivial⟩ (weak_picks [some 0, some 1, some 2, some 3, some 4] ⟨⟨_, rfl, Blk.le_refl _⟩, ⟨_, rfl, Blk.le_refl _⟩, ⟨_, rfl, Blk.le_refl _⟩, ⟨_, rfl, le_same (congrArg (fun q => (⟨some g4, 25, qC q, 4, true⟩ : Blk)) (minL_no hx hxm).symm)⟩, ⟨_, rfl, Blk.le_refl _⟩, trivial⟩ rfl rfl)
  ·
   have hge : i = 3 := (by have := of_decide_eq_false hb2; omega)
   subst hge
   refine at_exit ?_
   refine at_te ?_
   refine at_te ?_
   refine at_be ?_
   refine at_tn ?_
   refine at_seq ?_
   refine at_region ?_
   refine r_load 3 0 [_, _, _, _] rfl rfl rfl rfl ti25 rfl rfl rfl rfl ?_
   refine r_store rfl 2 0 [_, _, ⟨some g2, 25, _, 4, true⟩, _, _] [_, _, _, _] rfl rfl rfl rfl ti25 rfl rfl rfl rfl rfl ?_
   refine run_nil ?_
   refine at_tn ?_
   refine at_ret ?_
   refine at_end1 rfl (res_cell 2 rfl rfl ti25 (vs := [_, _, _, _]) rfl rfl (Nat.le_of_ble_eq_true rfl) rfl) (fun w hL => ⟨?_, hL.below⟩)
   rw [segs_F hb0]; rfl
end Go.Proofs.YthnlafhnpphdhaaGreatDoor
