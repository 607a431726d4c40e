/-
  Part 4: lemmas, and walks through the functions that the laws of chapter 07 call. Each theorem states its own conditions.
-/
import Derived.Test.YthnlafhnpphdhaaGreatDoorA01
import Derived.Test.YthnlafhnpphdhaaGreatDoorA03
set_option linter.unusedVariables false
set_option linter.unusedVariables false
namespace Go.Via
open Go
/-! ### division: one digit of the quotient -/
theorem B32_succ (k : Nat) : B32 ^ (k + 1) = B32 ^ k * B32 := Nat.pow_succ ..
/-- the guess so far -/
def GOK (Y W L g r : Nat) : Prop := g * (Y / B32 ^ (L - 1)) + r = W / B32 ^ (L - 1) ∧ r < 4294967296 ∧ W / Y ≤ g ∧ g ≤ 4294967297
/-- the parts of the divisor and of the window -/
theorem split3 (V L : Nat) (hL : 2 ≤ L) : V = (V / B32 ^ (L - 1) * B32 + V / B32 ^ (L - 2) % B32) * B32 ^ (L - 2) + V % B32 ^ (L - 2) := by
  have h1 := Nat.div_add_mod V (B32 ^ (L - 2))
  have h2 := sho_w V (L - 2)
  rw [show L - 2 + 1 = L - 1 by omega] at h2
  rw [← h2, Nat.mul_comm]; exact h1.symm
structure DvH (Y W L : Nat) : Prop where
  hL : 2 ≤ L
  lo : B32 ^ L ≤ 2 * Y
  hi : Y < B32 ^ L
  w : W < Y * B32
theorem DvH.y1 {Y W L : Nat} (h : DvH Y W L) : 2147483648 ≤ Y / B32 ^ (L - 1) ∧ Y / B32 ^ (L - 1) < 4294967296 := by
  have hp := B32_pos (L - 1)
  have e : B32 ^ L = B32 ^ (L - 1) * B32 := by rw [← B32_succ, show L - 1 + 1 = L by have := h.hL; omega]
  have h1 := h.lo
  have h2 := h.hi
  rw [e] at h1 h2
  refine ⟨?_, ?_⟩
  · rw [Nat.le_div_iff_mul_le hp]
    have : B32 ^ (L - 1) * B32 = 2 * (2147483648 * B32 ^ (L - 1)) := by unfold B32; omega
    omega
  · rw [Nat.div_lt_iff_lt_mul hp]; rw [Nat.mul_comm] at h2; exact h2
theorem DvH.pos {Y W L : Nat} (h : DvH Y W L) : 0 < Y := by have := h.lo; have := B32_pos L; omega
theorem DvH.wlt {Y W L : Nat} (h : DvH Y W L) : W < B32 ^ (L + 1) := by
  have := Nat.mul_le_mul_right B32 (Nat.le_of_lt h.hi)
  rw [B32_succ]; exact Nat.lt_of_lt_of_le h.w this
theorem DvH.high {Y W L : Nat} (h : DvH Y W L) : W / B32 ^ (L - 1) < (Y / B32 ^ (L - 1) + 1) * B32 := by
  refine high_le (B := B32) (split3 Y L h.hL) (split3 W L h.hL) (Nat.mod_lt _ (B32_pos _)) (Nat.mod_lt _ (by decide)) (by rw [Nat.mul_comm]; exact h.w)
theorem DvH.high64 {Y W L : Nat} (h : DvH Y W L) : W / B32 ^ (L - 1) < 18446744073709551616 := by
  have h1 := h.wlt
  rw [Nat.div_lt_iff_lt_mul (B32_pos _)]
  have : B32 ^ (L + 1) = 18446744073709551616 * B32 ^ (L - 1) := by
    rw [show L + 1 = 2 + (L - 1) by have := h.hL; omega, Nat.pow_add]; rfl
  omega
theorem DvH.q {Y W L : Nat} (h : DvH Y W L) : W / Y < 4294967296 := by
  rw [Nat.div_lt_iff_lt_mul h.pos, Nat.mul_comm]; exact h.w
theorem g_start {Y W L : Nat} (h : DvH Y W L) : GOK Y W L (W / B32 ^ (L - 1) / (Y / B32 ^ (L - 1))) (W / B32 ^ (L - 1) % (Y / B32 ^ (L - 1))) := by
  obtain ⟨a1, a2⟩ := h.y1
  have a3 := Nat.mod_lt (W / B32 ^ (L - 1)) (show 0 < Y / B32 ^ (L - 1) by omega)
  refine ⟨by rw [Nat.mul_comm]; exact Nat.div_add_mod _ _, by omega, ?_, ?_⟩
  · exact guess_start (B := B32) (B32_pos (L - 2)) (split3 Y L h.hL) (split3 W L h.hL) (Nat.mod_lt _ (B32_pos _)) (Nat.mod_lt _ (by decide)) (by omega) h.pos
  · have h1 := h.high
    have : W / B32 ^ (L - 1) / (Y / B32 ^ (L - 1)) < 4294967298 := by
      rw [Nat.div_lt_iff_lt_mul (by omega)]
      unfold B32 at *
      omega
    omega
theorem g_test {Y W L g r : Nat} (h : DvH Y W L) (hg : GOK Y W L g r) (ht : 4294967296 ≤ g ∨ r * 2 ^ 32 + W / B32 ^ (L - 2) % B32 < g * (Y / B32 ^ (L - 2) % B32)) :
    W / Y < g := by
  rcases ht with ht | ht
  · have := h.q; omega
  · exact guess_down (B := B32) (B32_pos (L - 2)) (split3 Y L h.hL) (split3 W L h.hL) (Nat.mod_lt _ (B32_pos _)) hg.1 h.pos ht
theorem g_dec {Y W L g r : Nat} (h : DvH Y W L) (hg : GOK Y W L g r) (hq : W / Y < g) : (g - 1) * (Y / B32 ^ (L - 1)) + (r + Y / B32 ^ (L - 1)) = W / B32 ^ (L - 1) := by
  have h0 : 0 < g := Nat.lt_of_le_of_lt (Nat.zero_le _) hq
  obtain ⟨k, rfl⟩ : ∃ k, g = k + 1 := ⟨g - 1, by omega⟩
  have := hg.1
  rw [Nat.add_mul] at this
  simp only [Nat.add_sub_cancel]
  omega
theorem g_next {Y W L g r : Nat} (h : DvH Y W L) (hg : GOK Y W L g r) (hq : W / Y < g) (hr : r + Y / B32 ^ (L - 1) < 4294967296) : GOK Y W L (g - 1) (r + Y / B32 ^ (L - 1)) :=
  ⟨g_dec h hg hq, hr, by omega, by have := hg.2.2.2; omega⟩
theorem g_end1 {Y W L g r : Nat} (h : DvH Y W L) (hg : GOK Y W L g r) (hB : g < 4294967296) (ht : g * (Y / B32 ^ (L - 2) % B32) ≤ r * 2 ^ 32 + W / B32 ^ (L - 2) % B32) : g ≤ W / Y + 1 := by
  obtain ⟨a1, a2⟩ := h.y1
  exact guess_end (B := B32) (split3 Y L h.hL) (split3 W L h.hL) (Nat.mod_lt _ (B32_pos _)) (by omega) (Nat.mod_lt _ (by decide)) hg.1 h.pos (by unfold B32; omega) (.inl ht)
theorem g_end2 {Y W L g r : Nat} (h : DvH Y W L) (hg : GOK Y W L g r) (hq : W / Y < g) (hr : 4294967296 ≤ r + Y / B32 ^ (L - 1)) : g - 1 ≤ W / Y + 1 := by
  obtain ⟨a1, a2⟩ := h.y1
  have := hg.2.2.2
  exact guess_end (B := B32) (split3 Y L h.hL) (split3 W L h.hL) (Nat.mod_lt _ (B32_pos _)) (by omega) (Nat.mod_lt _ (by decide)) (g_dec h hg hq) h.pos (by unfold B32; omega) (.inr hr)

/-! the product is taken away -/
def gC (Y g i : Nat) : Nat := g * (Y % B32 ^ i) / B32 ^ i
def gS (Y g i : Nat) : Nat := gC Y g i + g * (Y / B32 ^ i % B32)
theorem gC_zero (Y g : Nat) : gC Y g 0 = 0 := by simp [gC, Nat.mod_one]
theorem gC_le (Y g i : Nat) (hg : g ≤ 4294967296) : gC Y g i ≤ 4294967295 := by
  unfold gC
  have h1 := Nat.mod_lt Y (B32_pos i)
  have : g * (Y % B32 ^ i) / B32 ^ i < 4294967296 := by
    rw [Nat.div_lt_iff_lt_mul (B32_pos i)]
    have h2 : g * (Y % B32 ^ i) ≤ 4294967296 * (Y % B32 ^ i) := Nat.mul_le_mul_right _ hg
    omega
  omega
theorem gS_lt (Y g i : Nat) (hg : g ≤ 4294967296) : gS Y g i < 18446744073709551616 ∧ g * (Y / B32 ^ i % B32) < 18446744073709551616 := by
  unfold gS
  have h1 := gC_le Y g i hg
  have h2 := B32_mod (Y / B32 ^ i)
  have h3 : g * (Y / B32 ^ i % B32) ≤ 4294967296 * 4294967295 := Nat.mul_le_mul hg (by omega)
  omega
theorem gS_carry (Y g i : Nat) : gS Y g i / 2 ^ 32 = gC Y g (i + 1) := by
  show _ / B32 = _
  unfold gS gC
  rw [B32_succ, Nat.mod_mul, ← Nat.div_div_eq_div_mul]
  congr 1
  have e : g * (Y % B32 ^ i + B32 ^ i * (Y / B32 ^ i % B32)) = g * (Y % B32 ^ i) + B32 ^ i * (g * (Y / B32 ^ i % B32)) := by grind
  rw [e, Nat.add_mul_div_left _ _ (B32_pos i)]
theorem gS_low (Y g i : Nat) : gS Y g i % 4294967296 = g * Y / B32 ^ i % B32 := by
  show _ % B32 = _
  have e : g * Y = g * (Y % B32 ^ i) + B32 ^ i * (g * (Y / B32 ^ i)) := by
    have h1 := Nat.mod_add_div Y (B32 ^ i)
    conv => lhs; rw [← h1]
    grind
  rw [e, Nat.add_mul_div_left _ _ (B32_pos i)]
  unfold gS gC
  generalize g * (Y % B32 ^ i) / B32 ^ i = c
  generalize Y / B32 ^ i = p
  rw [Nat.add_mod, ← Nat.mul_mod_mod, Nat.mod_mod, Nat.mul_mod_mod, ← Nat.add_mod]
/-- the window without the product, modulo the next power -/
def dvD (Y W L g : Nat) : Nat := W + B32 ^ (L + 1) - g * Y
theorem dv_le {Y W L g : Nat} (h : DvH Y W L) (hg1 : g ≤ W / Y + 1) : g * Y ≤ W + B32 ^ (L + 1) := by
  have h1 := Nat.mul_le_mul_right Y hg1
  have h2 := Nat.div_mul_le_self W Y
  rw [Nat.add_mul] at h1
  have h3 := h.hi
  have h4 : B32 ^ L ≤ B32 ^ (L + 1) := Nat.pow_le_pow_right (by decide) (by omega)
  omega
theorem dv_dig {W L i : Nat} (hi : i ≤ L) : (W + B32 ^ (L + 1)) / B32 ^ i % B32 = W / B32 ^ i % B32 := by
  have e : B32 ^ (L + 1) = B32 ^ i * (B32 * B32 ^ (L - i)) := by
    rw [← Nat.mul_assoc, ← B32_succ, ← Nat.pow_add, show i + 1 + (L - i) = L + 1 by omega]
  rw [e, Nat.add_mul_div_left _ _ (B32_pos i), Nat.add_mul_mod_self_left]
def msT (X W D j i k : Nat) : Nat := if k < j then X / B32 ^ k % B32 else if k < j + i then D / B32 ^ (k - j) % B32 else W / B32 ^ (k - j) % B32
theorem msT_at (X W D j i : Nat) : msT X W D j i (i + j) = W / B32 ^ i % B32 := by
  unfold msT; rw [if_neg (by omega), if_neg (by omega), show i + j - j = i by omega]
theorem msT_step (X W D j i k : Nat) : msT X W D j (i + 1) k = if k = i + j then D / B32 ^ i % B32 else msT X W D j i k := by
  unfold msT
  by_cases e : k = i + j
  · subst e; rw [if_neg (by omega), if_pos (by omega), if_pos rfl, show i + j - j = i by omega]
  · rw [if_neg e]
    by_cases c : k < j
    · rw [if_pos c, if_pos c]
    · rw [if_neg c, if_neg c]
      by_cases c2 : k < j + i
      · rw [if_pos c2, if_pos (by omega)]
      · rw [if_neg c2, if_neg (by omega)]
def xw (X j V k : Nat) : Nat := if k < j then X / B32 ^ k % B32 else V / B32 ^ (k - j) % B32
def dvW (X Y j : Nat) : Nat := X / B32 ^ (j + 1) % Y * B32 + X / B32 ^ j % B32
theorem dvW_lt (X Y j : Nat) (hy : 0 < Y) : dvW X Y j < Y * B32 := shoW_lt X Y j hy
theorem xw_start (X Y D j k : Nat) : xw X (j + 1) (X / B32 ^ (j + 1) % Y) k = msT X (dvW X Y j) D j 0 k := by
  unfold xw msT dvW
  by_cases c : k < j
  · rw [if_pos (by omega), if_pos c]
  · rw [if_neg c, if_neg (by omega : ¬ k < j + 0)]
    by_cases e : k = j
    · subst e
      rw [if_pos (by omega), Nat.sub_self, Nat.pow_zero, Nat.div_one, Nat.mul_comm, Nat.mul_add_mod, Nat.mod_mod]
    · rw [if_neg (by omega)]
      obtain ⟨q, rfl⟩ : ∃ q, k = j + 1 + q := ⟨k - j - 1, by omega⟩
      rw [show j + 1 + q - (j + 1) = q by omega, show j + 1 + q - j = q + 1 by omega]
      have : (X / B32 ^ (j + 1) % Y * B32 + X / B32 ^ j % B32) / B32 = X / B32 ^ (j + 1) % Y := by
        rw [Nat.mul_comm, Nat.mul_add_div (by decide), Nat.div_eq_of_lt (Nat.mod_lt _ (by decide))]; omega
      have e2 : B32 ^ (q + 1) = B32 * B32 ^ q := Nat.pow_succ'
      rw [e2, ← Nat.div_div_eq_div_mul (X / B32 ^ (j + 1) % Y * B32 + X / B32 ^ j % B32), this]
theorem dvW_quo (X Y j : Nat) (hy : 0 < Y) : dvW X Y j / Y = X / Y / B32 ^ j % B32 := shoW_quo X Y j hy
theorem dvW_rem (X Y j : Nat) (hy : 0 < Y) : dvW X Y j % Y = X / B32 ^ j % Y := shoW_rem X Y j hy
/-- what is left, in digits -/
theorem ms_end {X Y W L g j k : Nat} (h : DvH Y W L) (hg : g = W / Y) : msT X W (dvD Y W L g) j (L + 1) k = xw X j (W % Y) k := by
  unfold msT xw
  by_cases c : k < j
  · rw [if_pos c, if_pos c]
  · rw [if_neg c, if_neg c]
    have hD : dvD Y W L g = W % Y + B32 ^ (L + 1) := by
      unfold dvD; subst hg
      have := Nat.div_add_mod W Y
      rw [Nat.mul_comm] at this; omega
    have hr := Nat.mod_lt W h.pos
    by_cases c2 : k < j + (L + 1)
    · rw [if_pos c2, hD, dv_dig (by omega)]
    · rw [if_neg c2]
      have h1 : B32 ^ (L + 1) ≤ B32 ^ (k - j) := Nat.pow_le_pow_right (by decide) (by omega)
      have h2 := h.wlt
      have h3 := h.hi
      have h4 : B32 ^ L ≤ B32 ^ (L + 1) := Nat.pow_le_pow_right (by decide) (by omega)
      rw [Nat.div_eq_of_lt (by omega), Nat.div_eq_of_lt (by omega)]
/-! added back -/
def abT (X Y W D L j i k : Nat) : Nat := if k < j then X / B32 ^ k % B32 else if k < j + i then (D + Y) / B32 ^ (k - j) % B32 else if k < j + (L + 1) then D / B32 ^ (k - j) % B32 else W / B32 ^ (k - j) % B32
theorem abT_zero (X Y W D L j k : Nat) : msT X W D j (L + 1) k = abT X Y W D L j 0 k := by
  unfold msT abT
  by_cases c : k < j
  · rw [if_pos c, if_pos c]
  · rw [if_neg c, if_neg c, if_neg (by omega : ¬ k < j + 0)]
theorem abT_at (X Y W D L j i : Nat) (hi : i ≤ L) : abT X Y W D L j i (i + j) = D / B32 ^ i % B32 := by
  unfold abT; rw [if_neg (by omega), if_neg (by omega), if_pos (by omega), show i + j - j = i by omega]
theorem abT_step (X Y W D L j i k : Nat) : abT X Y W D L j (i + 1) k = if k = i + j then addS D Y i % 4294967296 else abT X Y W D L j i k := by
  rw [addS_low]
  unfold abT
  by_cases e : k = i + j
  · subst e; rw [if_neg (by omega), if_pos (by omega), if_pos rfl, show i + j - j = i by omega]
  · rw [if_neg e]
    by_cases c : k < j
    · rw [if_pos c, if_pos c]
    · rw [if_neg c, if_neg c]
      by_cases c2 : k < j + i
      · rw [if_pos c2, if_pos (by omega)]
      · rw [if_neg c2, if_neg (by omega)]
theorem ab_end {X Y W L g j k : Nat} (h : DvH Y W L) (hg : g = W / Y + 1) : abT X Y W (dvD Y W L g) L j (L + 1) k = xw X j (W % Y) k := by
  have e : dvD Y W L g + Y = dvD Y W L (W / Y) := by
    have h1 := dv_le h (g := g) (by omega)
    unfold dvD; subst hg
    rw [Nat.add_mul] at h1 ⊢; omega
  rw [← ms_end (X := X) (j := j) (k := k) h rfl, ← e]
  unfold abT msT
  by_cases c : k < j
  · rw [if_pos c, if_pos c]
  · rw [if_neg c, if_neg c]
    by_cases c2 : k < j + (L + 1)
    · rw [if_pos c2, if_pos c2]
    · rw [if_neg c2, if_neg c2, if_neg c2]
theorem ab_low (D Y L : Nat) (hY : Y < B32 ^ L) : (D / B32 ^ L % B32 + addC D Y L % 4294967296) % 4294967296 = addS D Y L % 4294967296 := by
  rw [addS_eq, show Y / B32 ^ L % B32 = 0 by rw [Nat.div_eq_of_lt hY]; rfl]
  omega
/-- is the guess too great? -/
theorem dv_neg {Y W L g : Nat} (h : DvH Y W L) (h1 : g ≤ W / Y + 1) (h2 : W / Y ≤ g) (hb : subB (W + B32 ^ (L + 1)) (g * Y) (L + 1) = 1) : g = W / Y + 1 := by
  rcases Nat.lt_or_ge (W / Y) g with c | c
  · omega
  · exfalso
    have e : g = W / Y := by omega
    subst e
    unfold subB at hb
    have h3 := Nat.div_mul_le_self W Y
    have h4 := h.wlt
    rw [Nat.add_mod_right, Nat.mod_eq_of_lt h4, Nat.mod_eq_of_lt (by omega), if_neg (by omega)] at hb
    cases hb
theorem dv_pos {Y W L g : Nat} (h : DvH Y W L) (h1 : g ≤ W / Y + 1) (h2 : W / Y ≤ g) (hB : g ≤ 4294967296) (hb : subB (W + B32 ^ (L + 1)) (g * Y) (L + 1) = 0) : g = W / Y := by
  rcases Nat.lt_or_ge (W / Y) g with c | c
  · exfalso
    have e : g = W / Y + 1 := by omega
    unfold subB at hb
    have h3 := Nat.div_add_mod W Y
    have h4 := h.wlt
    have h5 := Nat.mod_lt W h.pos
    have h6 : g * Y < B32 ^ (L + 1) := by
      rw [B32_succ, Nat.mul_comm]
      exact Nat.mul_lt_mul_of_lt_of_le h.hi hB (by decide)
    rw [Nat.add_mod_right, Nat.mod_eq_of_lt h4, Nat.mod_eq_of_lt h6] at hb
    have h7 : g * Y = Y * (W / Y) + Y := by rw [e, Nat.add_mul, Nat.mul_comm, Nat.one_mul]
    rw [if_pos (by omega)] at hb
    cases hb
  · omega
theorem gC_last {Y L g : Nat} (hY : Y < B32 ^ L) (hB : g ≤ 4294967296) : gC Y g L = g * Y / B32 ^ L % B32 := by
  have h1 : gC Y g L = g * Y / B32 ^ L := by unfold gC; rw [Nat.mod_eq_of_lt hY]
  have h2 := gC_le Y g L hB
  rw [h1] at h2 ⊢
  exact (Nat.mod_eq_of_lt (by unfold B32 at *; omega)).symm
end Go.Via
set_option linter.unusedVariables false
namespace Go.Via
open Go
theorem mod256_4 : B32 = 4294967296 := rfl
/-- the first digit of the divisor is made great -/
theorem norm_s {n : Nat} (h0 : n ≠ 0) : ∃ s, s < 32 ∧ (32 - (Lib.bitLen (n / B32 ^ ((digs B32 n).length - 1) % B32) : Int)) = ((s : Nat) : Int) ∧ B32 ^ (digs B32 n).length ≤ 2 * (n * 2 ^ s) ∧ n * 2 ^ s < B32 ^ (digs B32 n).length := by
  have hlt := lt_pow_digs B32_two n
  have hl : 0 < (digs B32 n).length := by
    rcases Nat.eq_zero_or_pos (digs B32 n).length with h | h
    · exact absurd ((digs_eq_nil B32_two).1 (List.eq_nil_of_length_eq_zero h)) h0
    · exact h
  generalize hL : (digs B32 n).length = L at *
  obtain ⟨k, rfl⟩ : ∃ k, L = k + 1 := ⟨L - 1, by omega⟩
  simp only [Nat.add_sub_cancel]
  have hk : B32 ^ k ≤ n := by
    rcases Nat.lt_or_ge n (B32 ^ k) with h | h
    · have := digs_length_le B32_two h; omega
    · exact h
  have ht : n / B32 ^ k < B32 := by rw [Nat.div_lt_iff_lt_mul (B32_pos k), Nat.mul_comm, ← B32_succ]; exact hlt
  have ht0 : 0 < n / B32 ^ k := Nat.div_pos hk (B32_pos k)
  rw [Nat.mod_eq_of_lt ht]
  obtain ⟨b1, b2, b3⟩ := bitLen_bounds (x := n / B32 ^ k) (Nat.lt_trans ht (by decide)) (by omega)
  have b4 : Lib.bitLen (n / B32 ^ k) ≤ 32 := Lib.bitLen_le _ 32 (by omega) ht
  generalize Lib.bitLen (n / B32 ^ k) = b at *
  refine ⟨32 - b, by omega, by omega, ?_, ?_⟩
  · have h1 : 2 ^ (b - 1) * B32 ^ k ≤ n := by
      have := Nat.mul_le_mul_right (B32 ^ k) b2
      exact Nat.le_trans this (Nat.div_mul_le_self _ _)
    have h2 := Nat.mul_le_mul_right (2 ^ (32 - b)) h1
    have h3 : 2 ^ (b - 1) * B32 ^ k * 2 ^ (32 - b) * 2 = B32 ^ (k + 1) := by
      have e : 2 ^ (b - 1) * 2 ^ (32 - b) * 2 = B32 := by
        rw [← Nat.pow_add, ← Nat.pow_succ, show (b - 1 + (32 - b)).succ = 32 by omega]; rfl
      rw [B32_succ, ← e]; grind
    omega
  · have h1 : n < 2 ^ b * B32 ^ k := by
      exact Nat.lt_mul_of_div_lt b3 (B32_pos k)
    have h2 := (Nat.mul_lt_mul_right (a := 2 ^ (32 - b)) (Nat.pow_pos (by omega))).2 h1
    have h3 : 2 ^ b * B32 ^ k * 2 ^ (32 - b) = B32 ^ (k + 1) := by
      have e : 2 ^ b * 2 ^ (32 - b) = B32 := by rw [← Nat.pow_add, show b + (32 - b) = 32 by omega]; rfl
      rw [B32_succ, ← e]; grind
    omega
theorem dv_init {m n s : Nat} (hs : s < 32) (hlen : (digs B32 n).length ≤ (digs B32 m).length) (h1 : B32 ^ (digs B32 n).length ≤ 2 * (n * 2 ^ s)) : m * 2 ^ s / B32 ^ ((digs B32 m).length + 1 - (digs B32 n).length) < n * 2 ^ s := by
  rw [Nat.div_lt_iff_lt_mul (B32_pos _)]
  have h2 := lt_pow_digs B32_two m
  have h3 := two_pow_le hs
  have h4 : m * 2 ^ s ≤ m * 2147483648 := Nat.mul_le_mul_left _ h3
  have h5 : B32 ^ (digs B32 n).length * B32 ^ ((digs B32 m).length + 1 - (digs B32 n).length) = B32 ^ (digs B32 m).length * B32 := by
    rw [← Nat.pow_add, ← B32_succ]; congr 1; omega
  have h6 := Nat.mul_le_mul_right (B32 ^ ((digs B32 m).length + 1 - (digs B32 n).length)) h1
  rw [h5, Nat.mul_assoc] at h6
  have h7 : B32 ^ (digs B32 m).length * B32 = 2 * (2147483648 * B32 ^ (digs B32 m).length) := by unfold B32; omega
  omega
theorem xw_init {X Y M k : Nat} (h : X / B32 ^ M < Y) : shR X k = xw X M (X / B32 ^ M % Y) k := by
  unfold xw shR
  rw [Nat.mod_eq_of_lt h]
  split
  · rfl
  · rw [Nat.div_div_eq_div_mul, ← Nat.pow_add, show M + (k - M) = k by omega]
theorem xw_load {X Y W j : Nat} (hW : dvW X Y j = W) (k : Nat) : xw X (j + 1) (X / B32 ^ (j + 1) % Y) (k + j) = W / B32 ^ k % B32 := by
  rw [xw_start X Y 0 j, hW]
  unfold msT
  rw [if_neg (by omega), if_neg (by omega), show k + j - j = k by omega]
theorem xw_ms {X Y W j : Nat} (hW : dvW X Y j = W) (D k : Nat) : xw X (j + 1) (X / B32 ^ (j + 1) % Y) k = msT X W D j 0 k := by
  rw [xw_start X Y D j, hW]
theorem DvH.whigh {Y W L : Nat} (h : DvH Y W L) : 2 ^ 32 * (W / B32 ^ L % B32) + W / B32 ^ (L - 1) % B32 = W / B32 ^ (L - 1) := by
  have h1 := sho_w W (L - 1)
  rw [show L - 1 + 1 = L by have := h.hL; omega] at h1
  have h2 : W / B32 ^ L < B32 := by rw [Nat.div_lt_iff_lt_mul (B32_pos L), Nat.mul_comm, ← B32_succ]; exact h.wlt
  rw [Nat.mod_eq_of_lt h2, Nat.mul_comm]; exact h1.symm
theorem DvH.ytop {Y W L : Nat} (h : DvH Y W L) : shR Y (L - 1) = Y / B32 ^ (L - 1) := by
  unfold shR; exact Nat.mod_eq_of_lt h.y1.2
theorem mul64 {p q : Nat} (hp : p < 4294967296) (hq : q < 4294967296) : p * q < 18446744073709551616 := by
  have : p * q ≤ 4294967295 * 4294967295 := Nat.mul_le_mul (by omega) (by omega)
  omega
theorem ms_neg {Y W L g i : Nat} (h : DvH Y W L) (hg1 : g ≤ W / Y + 1) (hi : i ≤ L) (hd : W / B32 ^ i % B32 < g * Y / B32 ^ i % B32 + subB (W + B32 ^ (L + 1)) (g * Y) i) :
    W / B32 ^ i % B32 + 4294967296 = dvD Y W L g / B32 ^ i % B32 + g * Y / B32 ^ i % B32 + subB (W + B32 ^ (L + 1)) (g * Y) i ∧ subB (W + B32 ^ (L + 1)) (g * Y) (i + 1) = 1 := by
  have := sub_neg (i := i) (dv_le h hg1) (by rw [dv_dig hi]; exact hd)
  rw [dv_dig hi] at this; exact this
theorem ms_pos {Y W L g i : Nat} (h : DvH Y W L) (hg1 : g ≤ W / Y + 1) (hi : i ≤ L) (hd : ¬ W / B32 ^ i % B32 < g * Y / B32 ^ i % B32 + subB (W + B32 ^ (L + 1)) (g * Y) i) :
    W / B32 ^ i % B32 = dvD Y W L g / B32 ^ i % B32 + g * Y / B32 ^ i % B32 + subB (W + B32 ^ (L + 1)) (g * Y) i ∧ subB (W + B32 ^ (L + 1)) (g * Y) (i + 1) = 0 := by
  have := sub_pos (i := i) (dv_le h hg1) (by rw [dv_dig hi]; exact hd)
  rw [dv_dig hi] at this; exact this
theorem ms_u32 {Y W L g i : Nat} (h : DvH Y W L) (hg1 : g ≤ W / Y + 1) (hi : i ≤ L) : IntKind.u32.wrap (((W / B32 ^ i % B32 : Nat) : Int) - ((subB (W + B32 ^ (L + 1)) (g * Y) i : Nat) : Int) - ((g * Y / B32 ^ i % B32 : Nat) : Int)) = ((dvD Y W L g / B32 ^ i % B32 : Nat) : Int) := by
  rw [wu32]
  have hD := B32_mod (dvD Y W L g / B32 ^ i)
  by_cases c : W / B32 ^ i % B32 < g * Y / B32 ^ i % B32 + subB (W + B32 ^ (L + 1)) (g * Y) i
  · have := (ms_neg h hg1 hi c).1
    generalize W / B32 ^ i % B32 = w at *
    generalize g * Y / B32 ^ i % B32 = p at *
    generalize dvD Y W L g / B32 ^ i % B32 = d at *
    generalize subB (W + B32 ^ (L + 1)) (g * Y) i = b at *
    omega
  · have := (ms_pos h hg1 hi c).1
    generalize W / B32 ^ i % B32 = w at *
    generalize g * Y / B32 ^ i % B32 = p at *
    generalize dvD Y W L g / B32 ^ i % B32 = d at *
    generalize subB (W + B32 ^ (L + 1)) (g * Y) i = b at *
    omega
def outT (X Y p k : Nat) : Nat := if k < p then 0 else X / Y / B32 ^ k % B32
theorem outT_step (X Y j k : Nat) : outT X Y j k = if k = j then X / Y / B32 ^ j % B32 else outT X Y (j + 1) k := by
  unfold outT
  by_cases e : k = j
  · subst e; rw [if_neg (by omega), if_pos rfl]
  · rw [if_neg e]
    by_cases c : k < j
    · rw [if_pos c, if_pos (by omega)]
    · rw [if_neg c, if_neg (by omega)]
theorem outT_lt (X Y p k : Nat) : outT X Y p k < B32 := by unfold outT; split; decide; exact B32_mod _
theorem out_val {m n s M : Nat} (h0 : n ≠ 0) (h : m * 2 ^ s / B32 ^ M < n * 2 ^ s) : val B32 (row M (outT (m * 2 ^ s) (n * 2 ^ s) 0)) = m / n := by
  have e : m * 2 ^ s / (n * 2 ^ s) = m / n := Nat.mul_div_mul_right m n (Nat.pow_pos (by omega))
  rw [row_congr (g := fun j => m / n / B32 ^ j % B32) (fun j _ => by unfold outT; rw [if_neg (by omega), e]), val_row B32 (by decide), Nat.mod_eq_of_lt]
  have hp : 0 < n * 2 ^ s := Nat.mul_pos (by omega) (Nat.pow_pos (by omega))
  rw [← e, Nat.div_lt_iff_lt_mul hp]
  rw [Nat.div_lt_iff_lt_mul (B32_pos M)] at h
  rw [Nat.mul_comm (n * 2 ^ s) (B32 ^ M)] at h; exact h
theorem x0_load (m n s k : Nat) : xw (m * 2 ^ s) 0 (m * 2 ^ s / B32 ^ 0 % (n * 2 ^ s)) k = m % n * 2 ^ s / B32 ^ k % B32 := by
  unfold xw
  rw [if_neg (by omega), Nat.sub_zero, Nat.pow_zero, Nat.div_one, Nat.mul_mod_mul_right]
def restT (r i k : Nat) : Nat := if k < i then r / B32 ^ k % B32 else 0
theorem restT_zero (r k : Nat) : restT r 0 k = 0 := by simp [restT]
theorem restT_step (r i k : Nat) : restT r (i + 1) k = if k = i then r / B32 ^ i % B32 else restT r i k := by
  unfold restT
  by_cases e : k = i
  · subst e; rw [if_pos (by omega), if_pos rfl]
  · rw [if_neg e]
    by_cases c : k < i
    · rw [if_pos c, if_pos (by omega)]
    · rw [if_neg c, if_neg (by omega)]
theorem restT_lt (r i k : Nat) : restT r i k < B32 := by unfold restT; split; exact B32_mod _; decide
theorem rest_val {m n : Nat} (h0 : n ≠ 0) : val B32 (row (digs B32 n).length (restT (m % n) (digs B32 n).length)) = m % n := by
  rw [row_congr (g := fun j => m % n / B32 ^ j % B32) (fun j hj => by unfold restT; rw [if_pos hj]), val_row B32 (by decide), Nat.mod_eq_of_lt]
  exact Nat.lt_trans (Nat.mod_lt _ (by omega)) (lt_pow_digs B32_two n)
theorem back_or (V i : Nat) : 2 ^ 32 * (V / B32 ^ (i + 1) % B32) + V / B32 ^ i % B32 = V / B32 ^ i % (B32 * B32) := by
  rw [Nat.mod_mul, B32_succ, ← Nat.div_div_eq_div_mul]
  show B32 * _ + _ = _
  omega
theorem back_lt (V i : Nat) : V / B32 ^ i % (B32 * B32) < 18446744073709551616 := Nat.mod_lt _ (by decide)
theorem back_shr {r s i : Nat} (hs : s < 32) : r * 2 ^ s / B32 ^ i % (B32 * B32) / 2 ^ s % 4294967296 = r / B32 ^ i % B32 := by
  show _ % B32 = _
  have hp : 0 < 2 ^ s := Nat.pow_pos (by omega)
  have e : B32 * B32 = 2 ^ s * (B32 * 2 ^ (32 - s)) := by
    have := B32_two_pow hs
    conv => lhs; rw [this]
    rw [← this]; conv => lhs; arg 1; rw [this]
    grind
  rw [e, Nat.mod_mul, Nat.add_mul_div_left _ _ hp, Nat.div_eq_of_lt (Nat.mod_lt _ hp), Nat.zero_add]
  have e2 : r * 2 ^ s / B32 ^ i / 2 ^ s = r / B32 ^ i := by
    rw [Nat.div_div_eq_div_mul, Nat.mul_comm (B32 ^ i), ← Nat.div_div_eq_div_mul, Nat.mul_div_cancel _ hp]
  rw [e2, Nat.mod_mul_right_mod]
theorem gS_cast (Y g i : Nat) : ((gC Y g i : Nat) : Int) + ((g * (Y / B32 ^ i % B32) : Nat) : Int) = ((gS Y g i : Nat) : Int) := by unfold gS; omega
theorem addS_cast (D Y i : Nat) : ((addC D Y i : Nat) : Int) + ((D / B32 ^ i % B32 + Y / B32 ^ i % B32 : Nat) : Int) = ((addS D Y i : Nat) : Int) := by rw [addS_eq]; omega
theorem cmpN_false {m n : Nat} (h : decide (cmpN m n < 0) = false) : n ≤ m := by
  have := of_decide_eq_false h; unfold cmpN at this
  rcases Nat.lt_or_ge m n with c | c
  · rw [if_pos c] at this; exact absurd (by decide) this
  · exact c
theorem cmpN_true {m n : Nat} (h : decide (cmpN m n < 0) = true) : m < n := by
  have := of_decide_eq_true h; unfold cmpN at this
  rcases Nat.lt_or_ge m n with c | c
  · exact c
  · rw [if_neg (by omega)] at this
    split at this <;> exact absurd this (by decide)
theorem dig_pos {n : Nat} (h0 : n ≠ 0) : 0 < (digs B32 n).length := by
  rcases Nat.eq_zero_or_pos (digs B32 n).length with h | h
  · exact absurd ((digs_eq_nil B32_two).1 (List.eq_nil_of_length_eq_zero h)) h0
  · exact h
theorem one_dig {n : Nat} (h : (digs B32 n).length = 1) : n < 4294967296 := by have := lt_pow_digs B32_two n; rw [h] at this; exact this
end Go.Via
namespace Go.Via
open Go
theorem digs_one {n : Nat} (h1 : (digs B32 n).length = 1) (hn : n < 4294967296) : (digs B32 n)[0]? = some n := by
  rw [digs_get B32_two (by omega), Nat.pow_zero, Nat.div_one]
  exact congrArg some (Nat.mod_eq_of_lt hn)
end Go.Via
