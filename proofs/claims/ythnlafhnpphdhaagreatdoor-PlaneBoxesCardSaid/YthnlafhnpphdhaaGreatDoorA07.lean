/-
  Part 7: lemmas, and walks through the functions that the laws of chapter 07 call. Each theorem states its own conditions.
-/
import Derived.Test.YthnlafhnpphdhaaGreatDoorA02
import Derived.Test.YthnlafhnpphdhaaGreatDoorA06
set_option linter.unusedVariables false
set_option linter.unusedVariables false
set_option linter.unusedSimpArgs false
namespace Go.Via
open Go Go.RowKit
theorem cmpN_nonneg {m n : Nat} : 0 ≤ cmpN m n ↔ n ≤ m := by
  unfold cmpN
  by_cases h1 : m < n
  · rw [if_pos h1]; omega
  · rw [if_neg h1]
    by_cases h2 : n < m
    · rw [if_pos h2]; omega
    · rw [if_neg h2]; omega
theorem cmpN_nonpos {m n : Nat} : cmpN m n ≤ 0 ↔ m ≤ n := by
  unfold cmpN
  by_cases h1 : m < n
  · rw [if_pos h1]; omega
  · rw [if_neg h1]
    by_cases h2 : n < m
    · rw [if_pos h2]; omega
    · rw [if_neg h2]; omega
theorem cmpN_lt0 {m n : Nat} : cmpN m n < 0 ↔ m < n := by
  unfold cmpN
  by_cases h1 : m < n
  · rw [if_pos h1]; omega
  · rw [if_neg h1]
    by_cases h2 : n < m
    · rw [if_pos h2]; omega
    · rw [if_neg h2]; omega
/-- what 'divide' hands back: new rows, or its first argument -/
def divRes {a b : Nat} (x : SR (nb a)) : (SR (nb (a / b)) × SR (nb (a % b))) ⊕ PLift (a < b) → Value
  | .inl z => .tuple #[z.1.v, z.2.v]
  | .inr _ => .tuple #[.slice none 0 0, x.v]
def divNew {a b : Nat} : (SR (nb (a / b)) × SR (nb (a % b))) ⊕ PLift (a < b) → List Blk
  | .inl z => [⟨z.1.b, 3, NV .i64 (D8 (a / b)), z.1.n, true⟩, ⟨z.2.b, 3, NV .i64 (D8 (a % b)), z.2.n, true⟩]
  | .inr _ => []
/-- a block with cells lies somewhere -/
theorem at_base {B : World} {X : Act → World → Prop} {nt : Nat} {t : List (Nat × Value)} {L : List Blk} {b : Blk} (k : Nat) (hk : L[k]? = some b) (h : (b.base = none → b.cs = []) → At B ⟨nt, t, L⟩ X) : At B ⟨nt, t, L⟩ X :=
  fun a w hr => h (fun hb => ((hr.mem.blk k b hk).2 hb).1) a w hr
/-- the digits of a number behind a row of one -/
theorem r_app8 {P : Program} {bl : List Nat} {ops : Array Oper} {K : St → Prop} {rest : List Oper} {nt : Nat} {t : List (Nat × Value)} {L : List Blk} {d : Nat} {ty : TypeId} {pos : String} {af : Array Edge} {g : Option (Nat × Bool)} {x y : Operand}
    {T e : Nat} {z : Value} {gx : Nat} {d0 R : Nat} {ob : Option Nat} {oN oc : Nat} {o2 : Bool} (k k2 : Nat) (mk : Option Nat → Nat → List Blk) (hT : P.underlying T = some (.slice e)) (hi : elB P e 1 z) (hd : Nat.blt d nt = true)
    (hg : wantedS ops ⟨some d, .call { callee := .builtin .append, args := #[x, y], argTypes := #[T, T] }, ty, pos, af, g⟩ t = some true)
    (hk : L[k]? = some ⟨some gx, e, [.int .i64 (d0 : Nat)], 1, true⟩) (hx : ev t x = some (slv (some gx) 0 1 1)) (hk2 : L[k2]? = some ⟨ob, 3, NV .i64 (D8 R), oN, o2⟩) (hb : ob = none → NV .i64 (D8 R) = []) (hy : ev t y = some (slv ob 0 (nb R) oc))
    (hzs : z.cells.size = 1) (hmax : nb R ≤ 1073741824) (hL : ∀ b n, L.set k ⟨b, e, NV .i64 (d0 :: D8 R), n, true⟩ = mk b n)
    (h : ∀ r : SR (nb R + 1), Run P bl ops rest ⟨nt, (d, r.v) :: t, mk r.b r.n⟩ K) :
    Run P bl ops (⟨some d, .call { callee := .builtin .append, args := #[x, y], argTypes := #[T, T] }, ty, pos, af, g⟩ :: rest) ⟨nt, t, L⟩ K := by
  by_cases h0 : nb R = 0
  · have hD : D8 R = [] := List.eq_nil_of_length_eq_zero (by rw [D8_length]; exact h0)
    have := h ⟨some gx, 1, 1, by omega⟩
    rw [← hL] at this
    unfold SR.v at this
    simp only [h0, hD] at this
    have e1 : L.set k ⟨some gx, e, NV .i64 [d0], 1, true⟩ = L := by
      obtain ⟨hlt, he⟩ := List.getElem?_eq_some_iff.1 hk
      exact (congrArg (L.set k) he.symm).trans (List.set_getElem_self hlt)
    rw [e1] at this
    obtain ⟨inf, i1, i2, i3, i5⟩ := elB_spec hi
    rw [h0] at hy
    exact r_append0 hT i1 hd hg hx (Nat.le_refl 1) hy this
  · obtain ⟨g2, rfl⟩ : ∃ g2, ob = some g2 := by
      cases ob with
      | none =>
        have := congrArg List.length (hb rfl)
        rw [NV_length, D8_length] at this
        exact absurd this h0
      | some g2 => exact ⟨g2, rfl⟩
    refine q_append (s := 1) (len := 1) (n2 := nb R) k k2 (fun r => mk (some r.g) r.n) hT hi hd hg hk rfl rfl hx hk2 rfl hy rfl hzs (by simpa using (by omega : 0 < nb R)) rfl (Nat.le_refl _) (Nat.le_refl _) (by rw [NV_length, D8_length]; omega) (NV_one _ _) (by omega) (fun r => ?_) (fun r => ?_)
    · rw [← hL]; rfl
    · have h1 := h ⟨some r.g, r.n, r.cap, by have := r.h; omega⟩
      unfold SR.v at h1
      have e : slv (some r.g) 0 (1 + nb R) r.cap = slv (some r.g) 0 (nb R + 1) r.cap := congrArg (fun n => slv (some r.g) 0 n r.cap) (Nat.add_comm 1 (nb R))
      rw [e]; exact h1
theorem dW8_val (a b q : Nat) : val 256 (a / 256 ^ q % 256 :: D8 (a / 256 ^ (q + 1) % b)) = dW8 a b q := dW8_row _ _ (m256 _)
theorem dW8_lt256 (a b q : Nat) : ∀ d ∈ a / 256 ^ q % 256 :: D8 (a / 256 ^ (q + 1) % b), d < 256 := fun d hd => by
  rcases List.mem_cons.1 hd with rfl | hd
  · exact m256 _
  · exact D8_lt _ d hd
theorem dW8_trim (a b q : Nat) : (digs 256 (val 256 (a / 256 ^ q % 256 :: D8 (a / 256 ^ (q + 1) % b)))).length = nb (dW8 a b q) := by rw [dW8_val]; rfl
theorem dW8_nb (a b q : Nat) : nb (dW8 a b q) ≤ nb (a / 256 ^ (q + 1) % b) + 1 := by
  rw [← dW8_trim]
  exact Nat.le_trans (digs_length_le (by decide) (val_lt (by decide) (dW8_lt256 a b q))) (by simp [D8_length])
theorem dW8_take (a b q : Nat) : NV .i64 (D8 (dW8 a b q)) = (NV .i64 (a / 256 ^ q % 256 :: D8 (a / 256 ^ (q + 1) % b))).take (nb (dW8 a b q)) := by
  have := trim_take (B := 256) (by omega) (dW8_lt256 a b q)
  rw [dW8_val] at this
  rw [NV_take]; congr 1; exact this.symm
theorem dW8_top (a b : Nat) : a / 256 ^ nb a % b = 0 := by rw [Nat.div_eq_of_lt (lt_nb a), Nat.zero_mod]
theorem dW8_nil (a b : Nat) : NV .i64 (D8 (a / 256 ^ nb a % b)) = [] := by
  rw [dW8_top]
  have : D8 0 = [] := List.eq_nil_of_length_eq_zero (by rw [D8_length, nb_zero])
  rw [this]; rfl
theorem dW8_nilv (a b : Nat) : Value.slice none 0 0 = slv none 0 (nb (a / 256 ^ nb a % b)) 0 := by rw [dW8_top, nb_zero]; rfl
def quS (a b q m k : Nat) : Nat := if k = q then m else quT a b (q + 1) k
theorem quS_at (a b q m : Nat) : quS a b q m q = m := by simp [quS]
theorem quS_zero (a b q k : Nat) : quS a b q 0 k = quT a b (q + 1) k := by
  unfold quS
  split
  · rename_i h; subst h; simp [quT]
  · rfl
theorem quS_step (a b q m m' k : Nat) : quS a b q m' k = if k = q then m' else quS a b q m k := by
  unfold quS; split <;> rfl
theorem quS_end (a b q k : Nat) : quS a b q (a / b / 256 ^ q % 256) k = quT a b q k := by
  unfold quS quT
  by_cases h : k = q
  · subst h; simp
  · rw [if_neg h]
    by_cases c : k < q
    · rw [if_pos c, if_pos (by omega)]
    · rw [if_neg c, if_neg (by omega)]
theorem quT_top (a b : Nat) {k : Nat} (h : k < nb a) : quT a b (nb a) k = 0 := by unfold quT; rw [if_pos h]
theorem quT_lt (a b p k : Nat) : quT a b p k < 256 := by unfold quT; split <;> omega
theorem quT_row (a b : Nat) : val 256 (row (nb a) (quT a b 0)) = a / b := by
  have h : a / b < 256 ^ nb a := Nat.lt_of_le_of_lt (Nat.div_le_self _ _) (lt_nb a)
  rw [row_congr (g := fun j => a / b / 256 ^ j % 256) (fun j hj => by unfold quT; rw [if_neg (by omega)]), val_row 256 (by decide), Nat.mod_eq_of_lt h]
theorem quT_trim (a b : Nat) : digs 256 (val 256 (row (nb a) (quT a b 0))) = D8 (a / b) := by rw [quT_row]; rfl
theorem quT_take (a b : Nat) : NV .i64 (D8 (a / b)) = (NV .i64 (row (nb a) (quT a b 0))).take (nb (a / b)) := by
  have := trim_take (B := 256) (by omega) (row_lt (n := nb a) (fun j => quT_lt a b 0 j))
  rw [quT_trim] at this
  rw [NV_take]; congr 1; exact this.symm
theorem nb_below {r b : Nat} (h : r < 256 * b) : nb r ≤ nb b + 1 := nb_le (by
  have := lt_nb b
  rw [Nat.pow_succ]; omega)
theorem dq8_bnd {a b p m r : Nat} (hb : 0 < b) (h : m * b + r = dW8 a b p) : nb r ≤ nb b + 1 := nb_below (by have := dW8_lt a b p hb; have := Nat.zero_le (m * b); omega)
end Go.Via
namespace Go.Via
theorem NV_D8_0 : NV .i64 (D8 0) = [] := by
  have : D8 0 = [] := List.eq_nil_of_length_eq_zero (by rw [D8_length, nb_zero])
  rw [this]; rfl
end Go.Via
set_option linter.unusedVariables false
namespace Go.Proofs.YthnlafhnpphdhaaGreatDoor
open Go Go.RowKit Go.Via
set_option maxRecDepth 20000 in
theorem c_ref02_divide (a b : Nat) (hb : 0 < b) (ha : nb a ≤ 1073740000) (hbn : nb b ≤ 1073740000) (x : SR (nb a)) (y : SR (nb b)) : SCall Tryz.prog 109 [⟨x.b, 3, NV .i64 (D8 a), x.n, false⟩, ⟨y.b, 3, NV .i64 (D8 b), y.n, false⟩] [x.v, y.v] ((SR (nb (a / b)) × SR (nb (a % b))) ⊕ PLift (a < b)) (divRes x) divNew := by
 refine ⟨by kernel_rfl, fun w hL0 => ?_⟩
 refine calls_at (args := [x.v, y.v]) Tryz.func109 rfl (Nat.le_of_ble_eq_true rfl) hL0 ?_
 show At w ⟨105, [(0, x.v), (1, y.v)], [⟨x.b, 3, NV .i64 (D8 a), x.n, false⟩, ⟨y.b, 3, NV .i64 (D8 b), y.n, false⟩]⟩ _
 refine at_seq ?_
 refine at_region ?_
 refine r_assign rfl rfl rfl ?_
 refine r_assign rfl rfl rfl ?_
 refine run_nil ?_
 refine at_tn ?_
 refine at_seq ?_
 refine at_region ?_
 refine r_move rfl rfl rfl ?_
 refine r_scall0 [_] [0] rfl rfl rfl (c_ref02_small a (by omega) x) ⟨⟨_, rfl, le_share⟩, trivial⟩ rfl ?_
 refine r_move rfl rfl rfl ?_
 refine r_extract (vs := [_, _]) rfl rfl rfl rfl ?_
 refine r_extract (vs := [_, _]) rfl rfl rfl rfl ?_
 refine r_assign rfl rfl rfl ?_
 refine r_assign rfl rfl rfl ?_
 refine run_nil ?_
 refine at_tn ?_
 refine at_seq ?_
 refine at_region ?_
 refine r_move rfl rfl rfl ?_
 refine r_scall0 [_] [1] rfl rfl rfl (c_ref02_small b (by omega) y) ⟨⟨_, rfl, le_share⟩, trivial⟩ rfl ?_
 refine r_move rfl rfl rfl ?_
 refine r_extract (vs := [_, _]) rfl rfl rfl rfl ?_
 refine r_extract (vs := [_, _]) rfl rfl rfl rfl ?_
 refine r_assign rfl rfl rfl ?_
 refine r_assign rfl rfl rfl ?_
 refine run_nil ?_
 refine at_tn ?_
 refine at_seq ?_
 refine at_seq ?_
 refine at_region ?_
 refine r_move rfl rfl rfl ?_
 refine r_move rfl rfl rfl ?_
 refine r_split 24 rfl (fun hb0 => ?_) (fun hb0 => ?_)
 ·
  have h1 : nb a ≤ 7 := of_decide_eq_true hb0
  refine r_move rfl rfl rfl ?_
  refine r_pickT rfl rfl rfl rfl ?_
  refine r_move rfl rfl rfl ?_
  refine r_split 27 rfl (fun hb1 => ?_) (fun hb1 => ?_)
  ·
   have h2 : nb b ≤ 7 := of_decide_eq_true hb1
   refine r_move rfl rfl rfl ?_
   refine r_cmpInt rfl rfl rfl rfl rfl ?_
   refine r_pickT rfl rfl rfl rfl ?_
   refine run_nil ?_
   refine at_tn ?_
   refine at_cond rfl (fun hb2 => ?_) (fun hb2 => ?_)
   ·
    have hA : a < 72057594037927936 := Nat.lt_of_lt_of_le (lt_nb a) (pow256_le h1)
    have hB : b < 72057594037927936 := Nat.lt_of_lt_of_le (lt_nb b) (pow256_le h2)
    have hq1 : a / b ≤ a := Nat.div_le_self _ _
    have hr1 : a % b < b := Nat.mod_lt _ hb
    refine at_know 6 (.int .i64 (a : Nat)) rfl (by rw [if_pos h1]) ?_
    refine at_know 8 (.int .i64 (b : Nat)) rfl (by rw [if_pos h2]) ?_
    refine at_seq ?_
    refine at_drawn (l' := [⟨_,_,_,_,_,_⟩, ⟨_,_,_,_,_,_⟩, ⟨_,_,_,_,_,_⟩, ⟨_,_,_,_,_,_⟩, ⟨_,_,_,_,_,_⟩, ⟨_,_,_,_,_,_⟩, ⟨_,_,_,_,_,_⟩, ⟨_,_,_,_,_,_⟩, ⟨_,_,_,_,_,_⟩, ⟨_,_,_,_,_,_⟩]) [] [0, 1, 2, 4, 5, 6, 3, 7, 8, 9] mixed (by kernel_rfl) rfl (by kernel_rfl) ?_
    refine r_move rfl rfl rfl ?_
    refine r_move rfl rfl rfl ?_
    refine r_div (r := ((a / b : Nat) : Int)) rfl rfl rfl rfl (by omega) (congrArg some (quo_i _ _ rfl rfl (by omega))) ?_
    refine r_move rfl rfl rfl ?_
    refine r_move rfl rfl rfl ?_
    refine r_div (r := ((a % b : Nat) : Int)) rfl rfl rfl rfl (by omega) (congrArg some (rem_n _ _ rfl rfl)) ?_
    refine r_scall [_] [] rfl rfl rfl (c_ref02_large (a / b) (by omega)) trivial rfl (.inr fun x b hb => by rw [List.mem_singleton.1 hb]) (fun xq => ?_)
    refine r_scall [_] [] rfl rfl rfl (c_ref02_large (a % b) (by omega)) trivial rfl (.inr fun x b hb => by rw [List.mem_singleton.1 hb]) (fun xr => ?_)
    refine r_assign rfl rfl rfl ?_
    refine r_assign rfl rfl rfl ?_
    refine run_nil ?_
    refine at_tn ?_
    refine at_ret ?_
    refine at_tr ?_
    refine at_end2 rfl (res_tmp rfl) (res_tmp rfl) (fun w hL => ⟨.inl (xq, xr), ?_, hL.picks [some 2, some 3] ⟨⟨_, rfl, Blk.le_refl _⟩, ⟨_, rfl, Blk.le_refl _⟩, trivial⟩ rfl rfl⟩)
    exact rfl
   · exact absurd hb2 (by rw [if_pos h2]; simp; omega)
  ·
   refine r_no rfl rfl rfl ?_
   refine r_no rfl rfl rfl ?_
   refine r_pickF rfl rfl rfl rfl ?_
   refine run_nil ?_
   refine at_tn ?_
   refine at_condF rfl ?_
   refine at_skip ?_
   refine at_tn ?_
   refine at_seq ?_
   refine at_seq ?_
   refine at_region ?_
   refine r_move rfl rfl rfl ?_
   refine r_move rfl rfl rfl ?_
   refine r_scall0 [_, _] [0, 1] rfl rfl rfl (c_ref02_compare a b (by omega) x y) ⟨⟨_, rfl, le_share⟩, ⟨_, rfl, le_share⟩, trivial⟩ rfl ?_
   refine r_cmpInt rfl rfl rfl rfl rfl ?_
   refine run_nil ?_
   refine at_tn ?_
   refine at_cond rfl (fun hb2 => ?_) (fun hb2 => ?_)
   ·
    have hlt : a < b := cmpN_lt0.1 (of_decide_eq_true hb2)
    refine at_seq ?_
    refine at_region ?_
    refine r_move rfl rfl rfl ?_
    refine r_assign rfl rfl rfl ?_
    refine r_assign rfl rfl rfl ?_
    refine run_nil ?_
    refine at_tn ?_
    refine at_ret ?_
    refine at_tr ?_
    refine at_end2 rfl (res_tmp rfl) (res_tmp rfl) (fun w hL => ⟨.inr ⟨hlt⟩, ?_, hL.picks [] trivial rfl rfl⟩)
    exact rfl
   ·
    have hge : b ≤ a := by have := of_decide_eq_false hb2; rw [cmpN_lt0] at this; omega
    refine at_skip ?_
    refine at_tn ?_
    refine at_seq ?_
    refine at_region ?_
    refine r_move rfl rfl rfl ?_
    refine r_lenS u85 rfl rfl rfl ?_
    refine q_makeSlice (c := nb a) (NV .i64 (row (nb a) (quT a b (nb a)))) (fun g => [_, _, ⟨some g, 3, _, _, true⟩]) u85 el3 rfl rfl rfl rfl rfl rfl (by omega) (by rw [row_congr (g := fun _ => 0) (fun j hj => quT_top a b hj), row_zero, NV_replicate]) (fun _ => rfl) (fun g0 => ?_)
    refine r_assign rfl rfl rfl ?_
    refine run_nil ?_
    refine at_tn ?_
    refine at_seq ?_
    refine at_seq ?_
    refine at_region ?_
    refine r_move rfl rfl rfl ?_
    refine r_lenS u85 rfl rfl rfl ?_
    refine r_arith (r := ((nb a : Nat) : Int) - 1) rfl rfl rfl rfl (congrArg some (wi (by omega) (by omega) (by omega))) ?_
    refine r_assign rfl rfl rfl ?_
    refine run_nil ?_
    refine at_tn ?_
    refine at_block ?_
    refine enterL (nt := 105) (ι := (p : {p : Nat // p ≤ nb a}) × SR (nb (a / 256 ^ p.1 % b))) (fun ⟨⟨p, hp⟩, z⟩ => [(0, x.v), (1, y.v), (4, slv (some g0) 0 (nb a) (nb a)), (5, z.v), (10, .int .i64 ((p : Nat) - 1))]) (fun ⟨⟨p, hp⟩, z⟩ => [⟨x.b, 3, NV .i64 (D8 a), x.n, false⟩, ⟨y.b, 3, NV .i64 (D8 b), y.n, false⟩, ⟨some g0, 3, NV .i64 (row (nb a) (quT a b p)), nb a, true⟩, ⟨z.b, 3, NV .i64 (D8 (a / 256 ^ p % b)), z.n, true⟩]) (fun ⟨⟨p, hp⟩, z⟩ => p) ⟨⟨nb a, Nat.le_refl _⟩, ⟨none, 0, 0, by rw [dW8_top, nb_zero]; exact Nat.le_refl _⟩⟩ ⟨rfl, rfl, rfl, (look_val rfl (dW8_nilv a b)), rfl, trivial⟩ (weak_picks [some 0, some 1, some 2, none] ⟨⟨_, rfl, Blk.le_refl _⟩, ⟨_, rfl, Blk.le_refl _⟩, ⟨_, rfl, Blk.le_refl _⟩, ⟨rfl, dW8_nil a b, rfl⟩, trivial⟩ rfl rfl) ?_
    rintro ⟨⟨p, hp⟩, z⟩
    show At _ ⟨105, [(0, x.v), (1, y.v), (4, slv (some g0) 0 (nb a) (nb a)), (5, z.v), (10, .int .i64 ((p : Nat) - 1))], [⟨x.b, 3, NV .i64 (D8 a), x.n, false⟩, ⟨y.b, 3, NV .i64 (D8 b), y.n, false⟩, ⟨some g0, 3, NV .i64 (row (nb a) (quT a b p)), nb a, true⟩, ⟨z.b, 3, NV .i64 (D8 (a / 256 ^ p % b)), z.n, true⟩]⟩ _
    refine at_seq ?_
    refine at_seq ?_
    refine at_region ?_
    refine r_move rfl rfl rfl ?_
    refine r_cmpInt rfl rfl rfl rfl rfl ?_
    refine run_nil ?_
    refine at_tn ?_
    refine at_cond rfl (fun hb4 => ?_) (fun hb4 => ?_)
    ·
     obtain ⟨q, rfl⟩ : ∃ q, p = q + 1 := ⟨p - 1, by have := of_decide_eq_true hb4; omega⟩
     refine at_know 10 (.int .i64 (q : Nat)) rfl (congrArg (Value.int .i64) (by omega)) ?_
     have hR := Nat.mod_lt (a / 256 ^ (q + 1)) hb
     have hnR : nb (a / 256 ^ (q + 1) % b) ≤ nb b := nb_mono (Nat.le_of_lt hR)
     have hdq := m256 (a / 256 ^ q)
     have hWn := dW8_nb a b q
     refine at_base 3 rfl (fun hbase => ?_)
     refine at_skip ?_
     refine at_tn ?_
     refine at_seq ?_
     refine at_block ?_
     refine at_seq ?_
     refine at_region ?_
     refine r_move rfl rfl rfl ?_
     refine r_move rfl rfl rfl ?_
     refine r_indexAddr 0 (q) u85 ti3 rfl rfl rfl rfl rfl (by omega) (by omega) (NV_ne (by rw [D8_length]; omega)) (by show 0 + Int.toNat _ * 1 = _; omega) ?_
     refine r_load1 0 (q) ti3 rfl rfl rfl rfl (NV_get (D8_get (by omega))) ?_
     refine r_buildSlice [(0, _)] (fun g => [_, _, _, _, ⟨some g, 3, _, 1, true⟩]) rfl rfl rfl (bs85_1) rfl (fun _ => rfl) (fun g1 => ?_)
     refine r_move rfl rfl rfl ?_
     refine r_app8 4 3 (fun b n => [_, _, _, _, ⟨b, 3, _, n, true⟩]) u85 el3 rfl rfl rfl rfl rfl hbase rfl rfl (by omega) (fun _ _ => rfl) (fun r => ?_)
     refine r_scall0 [_] [4] rfl rfl rfl (c_ref02_trim (a / 256 ^ q % 256 :: D8 (a / 256 ^ (q + 1) % b)) (dW8_lt256 a b q) (by rw [List.length_cons, D8_length]; omega) (by rw [List.length_cons, D8_length]) r) ⟨⟨_, rfl, le_share⟩, trivial⟩ rfl ?_
     refine r_know 61 (slv r.b 0 (nb (dW8 a b q)) r.cap) rfl (by rw [dW8_trim]) ?_
     refine r_assign rfl rfl rfl ?_
     refine run_nil ?_
     refine at_tn ?_
     refine at_block ?_
     refine enterL (nt := 105) (ι := (x : {x : Nat × Nat // x.1 * b + x.2 = dW8 a b q}) × SR (nb x.1.2)) (fun ⟨⟨⟨m, rr⟩, hq⟩, z2⟩ => [(0, x.v), (1, y.v), (4, slv (some g0) 0 (nb a) (nb a)), (5, z2.v), (10, .int .i64 (q : Nat))]) (fun ⟨⟨⟨m, rr⟩, hq⟩, z2⟩ => [⟨x.b, 3, NV .i64 (D8 a), x.n, false⟩, ⟨y.b, 3, NV .i64 (D8 b), y.n, false⟩, ⟨some g0, 3, NV .i64 (row (nb a) (quS a b q m)), nb a, true⟩, ⟨z2.b, 3, NV .i64 (D8 (rr)), z2.n, true⟩]) (fun ⟨⟨⟨m, rr⟩, hq⟩, z2⟩ => rr) ⟨⟨(0, dW8 a b q), by omega⟩, ⟨r.b, r.n, r.cap, Nat.le_trans hWn r.h⟩⟩ ⟨rfl, rfl, rfl, rfl, rfl, trivial⟩ (weak_picks [some 0, some 1, some 2, some 4] ⟨⟨_, rfl, Blk.le_refl _⟩, ⟨_, rfl, Blk.le_refl _⟩, ⟨_, rfl, le_same (congrArg (fun c => (⟨some g0, 3, NV .i64 c, nb a, true⟩ : Blk)) (row_congr fun j _ => quS_zero a b q j))⟩, ⟨_, rfl, rfl, rfl, rfl, ⟨nb (dW8 a b q), dW8_take a b q⟩, fun _ => rfl⟩, trivial⟩ rfl rfl) ?_
     rintro ⟨⟨⟨m, rr⟩, hq⟩, z2⟩
     show At _ ⟨105, [(0, x.v), (1, y.v), (4, slv (some g0) 0 (nb a) (nb a)), (5, z2.v), (10, .int .i64 (q : Nat))], [⟨x.b, 3, NV .i64 (D8 a), x.n, false⟩, ⟨y.b, 3, NV .i64 (D8 b), y.n, false⟩, ⟨some g0, 3, NV .i64 (row (nb a) (quS a b q m)), nb a, true⟩, ⟨z2.b, 3, NV .i64 (D8 (rr)), z2.n, true⟩]⟩ _
     replace hq : m * b + rr = dW8 a b q := hq
     have hrn := dq8_bnd hb hq
     refine at_seq ?_
     refine at_seq ?_
     refine at_region ?_
     refine r_move rfl rfl rfl ?_
     refine r_move rfl rfl rfl ?_
     refine r_scall0 [_, _] [3, 1] rfl rfl rfl (c_ref02_compare rr b (by omega) z2 y) ⟨⟨_, rfl, le_share⟩, ⟨_, rfl, le_share⟩, trivial⟩ rfl ?_
     refine r_cmpInt rfl rfl rfl rfl rfl ?_
     refine r_move rfl rfl rfl ?_
     refine r_split 66 rfl (fun hb6 => ?_) (fun hb6 => ?_)
     ·
      have hge2 : b ≤ rr := cmpN_nonneg.1 (of_decide_eq_true hb6)
      have hm1 := dq8_lt (s := 1) hb hq (by omega)
      refine r_move rfl rfl rfl ?_
      refine r_move rfl rfl rfl ?_
      refine r_indexAddr 2 (q) u85 ti3 rfl rfl rfl rfl rfl (by omega) (by omega) (NV_ne (by rw [row_length]; omega)) (by show 0 + Int.toNat _ * 1 = _; omega) ?_
      refine r_load1 2 (q) ti3 rfl rfl rfl rfl (NV_get ((row_get (by omega)).trans (by rw [quS_at]))) ?_
      refine r_cmpInt rfl rfl rfl rfl rfl ?_
      refine r_pickT rfl rfl rfl rfl ?_
      refine run_nil ?_
      refine at_tn ?_
      refine at_cond rfl (fun hb7 => ?_) (fun hb7 => ?_)
      ·
       refine at_skip ?_
       refine at_tn ?_
       refine at_block ?_
       refine at_seq ?_
       refine at_region ?_
       refine r_move rfl rfl rfl ?_
       refine r_assign rfl rfl rfl ?_
       refine r_assign rfl rfl rfl ?_
       refine run_nil ?_
       refine at_tn ?_
       refine at_seq ?_
       refine at_block ?_
       refine enterL (nt := 105) (ι := (s : {s : Nat // 0 < s ∧ s ≤ 128 ∧ s * b ≤ rr}) × SR (nb (s.1 * b))) (fun ⟨⟨s, hs0, hs1, hs2⟩, z3⟩ => [(0, x.v), (1, y.v), (4, slv (some g0) 0 (nb a) (nb a)), (5, z2.v), (10, .int .i64 (q : Nat)), (11, .int .i64 (s : Nat)), (12, z3.v)]) (fun ⟨⟨s, hs0, hs1, hs2⟩, z3⟩ => [⟨x.b, 3, NV .i64 (D8 a), x.n, false⟩, ⟨y.b, 3, NV .i64 (D8 b), y.n, false⟩, ⟨some g0, 3, NV .i64 (row (nb a) (quS a b q m)), nb a, true⟩, ⟨z2.b, 3, NV .i64 (D8 (rr)), z2.n, true⟩, ⟨z3.b, 3, NV .i64 (D8 (s * b)), z3.n, false⟩]) (fun ⟨⟨s, hs0, hs1, hs2⟩, z3⟩ => 128 - s) ⟨⟨1, by omega, by omega, by omega⟩, ⟨y.b, y.n, y.cap, by rw [Nat.one_mul]; exact y.h⟩⟩ ⟨rfl, rfl, rfl, rfl, rfl, rfl, (look_val rfl (congrArg (fun n => slv y.b 0 (nb n) y.cap) (Nat.one_mul b).symm)), trivial⟩ (weak_picks [some 0, some 1, some 2, some 3, some 1] ⟨⟨_, rfl, Blk.le_refl _⟩, ⟨_, rfl, Blk.le_refl _⟩, ⟨_, rfl, Blk.le_refl _⟩, ⟨_, rfl, Blk.le_refl _⟩, ⟨_, rfl, le_same (congrArg (fun n => (⟨y.b, 3, NV .i64 (D8 n), y.n, false⟩ : Blk)) (Nat.one_mul b))⟩, trivial⟩ rfl rfl) ?_
       rintro ⟨⟨s, hs0, hs1, hs2⟩, z3⟩
       show At _ ⟨105, [(0, x.v), (1, y.v), (4, slv (some g0) 0 (nb a) (nb a)), (5, z2.v), (10, .int .i64 (q : Nat)), (11, .int .i64 (s : Nat)), (12, z3.v)], [⟨x.b, 3, NV .i64 (D8 a), x.n, false⟩, ⟨y.b, 3, NV .i64 (D8 b), y.n, false⟩, ⟨some g0, 3, NV .i64 (row (nb a) (quS a b q m)), nb a, true⟩, ⟨z2.b, 3, NV .i64 (D8 (rr)), z2.n, true⟩, ⟨z3.b, 3, NV .i64 (D8 (s * b)), z3.n, false⟩]⟩ _
       have e2 : 2 * s * b = s * b + s * b := by rw [Nat.two_mul, Nat.add_mul]
       replace hs2 : s * b ≤ rr := hs2
       have hsn : nb (s * b) ≤ nb rr := nb_mono hs2
       have hsn2 : nb (s * b + s * b) ≤ nb b + 2 := nb_le (by have h1 := lt_nb b; have h2 : s * b ≤ 128 * b := Nat.mul_le_mul_right _ hs1; rw [Nat.pow_succ, Nat.pow_succ]; omega)
       refine at_seq ?_
       refine at_seq ?_
       refine at_region ?_
       refine r_move rfl rfl rfl ?_
       refine r_arith (r := ((2 * s : Nat) : Int)) rfl rfl rfl rfl (congrArg some (wi (by omega) (by omega) (by omega))) ?_
       refine r_cmpInt rfl rfl rfl rfl rfl ?_
       refine r_move rfl rfl rfl ?_
       refine r_split 77 rfl (fun hb9 => ?_) (fun hb9 => ?_)
       ·
        have hs3 : 2 * s ≤ 128 := (by have := of_decide_eq_true hb9; omega)
        refine r_move rfl rfl rfl ?_
        refine r_move rfl rfl rfl ?_
        refine r_scall [_, _] [4, 4] rfl rfl rfl (c_ref02_plus (s * b) (s * b) (by omega) (by omega) z3 z3) ⟨⟨_, rfl, le_share⟩, ⟨_, rfl, le_share⟩, trivial⟩ rfl (.inr fun x b hb => by rw [List.mem_singleton.1 hb]) (fun z4 => ?_)
        refine r_move rfl rfl rfl ?_
        refine r_scall0 [_, _] [5, 3] rfl rfl rfl (c_ref02_compare (s * b + s * b) rr (by omega) z4 z2) ⟨⟨_, rfl, le_share⟩, ⟨_, rfl, le_share⟩, trivial⟩ rfl ?_
        refine r_cmpInt rfl rfl rfl rfl rfl ?_
        refine r_pickT rfl rfl rfl rfl ?_
        refine run_nil ?_
        refine at_tn ?_
        refine at_cond rfl (fun hb10 => ?_) (fun hb10 => ?_)
        ·
         have hs4 : s * b + s * b ≤ rr := cmpN_nonpos.1 (of_decide_eq_true hb10)
         refine at_skip ?_
         refine at_tn ?_
         refine at_block ?_
         refine at_region ?_
         refine r_move rfl rfl rfl ?_
         refine r_arith (r := ((2 * s : Nat) : Int)) rfl rfl rfl rfl (congrArg some (wi (by omega) (by omega) (by omega))) ?_
         refine r_move rfl rfl rfl ?_
         refine r_move rfl rfl rfl ?_
         refine r_scall [_, _] [4, 4] rfl rfl rfl (c_ref02_plus (s * b) (s * b) (by omega) (by omega) z3 z3) ⟨⟨_, rfl, le_share⟩, ⟨_, rfl, le_share⟩, trivial⟩ rfl (.inr fun x b hb => by rw [List.mem_singleton.1 hb]) (fun z5 => ?_)
         refine r_assign rfl rfl rfl ?_
         refine r_assign rfl rfl rfl ?_
         refine run_nil ?_
         refine at_bn ?_
         refine at_tn ?_
         exact nextL ⟨⟨2 * s, by omega, hs3, by rw [Nat.two_mul, Nat.add_mul]; exact hs4⟩, ⟨z5.b, z5.n, z5.cap, by show nb (2 * s * b) ≤ z5.cap; rw [e2]; exact z5.h⟩⟩ (by show 128 - 2 * s < 128 - s; omega) ⟨rfl, rfl, rfl, rfl, rfl, rfl, (look_val rfl (congrArg (fun n => slv z5.b 0 (nb n) z5.cap) e2.symm)), trivial⟩ (weak_picks [some 0, some 1, some 2, some 3, some 6] ⟨⟨_, rfl, Blk.le_refl _⟩, ⟨_, rfl, Blk.le_refl _⟩, ⟨_, rfl, Blk.le_refl _⟩, ⟨_, rfl, Blk.le_refl _⟩, ⟨_, rfl, ⟨rfl, rfl, rfl, ⟨(NV .i64 (D8 (s * b + s * b))).length, by show NV .i64 (D8 (2 * s * b)) = _; rw [e2, List.take_length]⟩, fun h => by cases h⟩⟩, trivial⟩ rfl rfl)
        ·
         refine at_exit ?_
         refine at_te ?_
         refine at_te ?_
         refine at_be ?_
         refine at_tn ?_
         refine at_drawn (l' := [⟨_,_,_,_,_,_⟩, ⟨_,_,_,_,_,_⟩, ⟨_,_,_,_,_,_⟩, ⟨_,_,_,_,_,_⟩, ⟨_,_,_,_,_,_⟩, ⟨_,_,_,_,_,_⟩, ⟨_,_,_,_,_,_⟩, ⟨_,_,_,_,_,_⟩, ⟨_,_,_,_,_,_⟩, ⟨_,_,_,_,_,_⟩, ⟨_,_,_,_,_,_⟩, ⟨_,_,_,_,_,_⟩, ⟨_,_,_,_,_,_⟩, ⟨_,_,_,_,_,_⟩]) [2000000] [0, 1, 2, 3, 5, 6, 7, 8, 9, 10, 4, 11, 12, 13] mixed (by kernel_rfl) rfl (by kernel_rfl) ?_
         refine r_move rfl rfl rfl ?_
         refine r_move rfl rfl rfl ?_
         refine r_move rfl rfl rfl ?_
         refine r_move rfl rfl rfl ?_
         refine r_move rfl rfl rfl ?_
         refine r_move rfl rfl rfl ?_
         refine r_indexAddr 2 (q) u85 ti3 rfl rfl rfl rfl rfl (by omega) (by omega) (NV_ne (by rw [row_length]; omega)) (by show 0 + Int.toNat _ * 1 = _; omega) ?_
         refine r_load1 2 (q) ti3 rfl rfl rfl rfl (NV_get ((row_get (by omega)).trans (by rw [quS_at]))) ?_
         refine r_move rfl rfl rfl ?_
         refine r_arith (r := ((m + s : Nat) : Int)) rfl rfl rfl rfl (congrArg some (wi (by omega) (by omega) (by omega))) ?_
         refine r_scall [_, _] [3, 4] rfl rfl rfl (c_ref02_minus rr (s * b) (by omega) hs2 z2 z3) ⟨⟨_, rfl, le_share⟩, ⟨_, rfl, le_share⟩, trivial⟩ rfl (.inr fun x b hb => by rw [List.mem_singleton.1 hb]) (fun z6 => ?_)
         refine r_assign rfl rfl rfl ?_
         refine r_indexAddr 2 (q) u85 ti3 rfl rfl rfl rfl rfl (by omega) (by omega) (NV_ne (by rw [row_length]; omega)) (by show 0 + Int.toNat _ * 1 = _; omega) ?_
         refine r_store1 rfl 2 (q) [_, _, ⟨some g0, 3, _, _, true⟩, _, _, _, _] (NV .i64 (row (nb a) (quS a b q (m + s)))) ti3 rfl rfl rfl rfl rfl rfl rfl rfl (by rw [NV_length, row_length]; omega) (by rw [NV_set, row_set (fun j _ => quS_step a b q m (m + s) j)]) rfl ?_
         refine run_nil ?_
         refine at_bn ?_
         refine at_tn ?_
         exact nextL ⟨⟨(m + s, rr - s * b), dq8_next hq hs2⟩, z6⟩ (by have := Nat.mul_pos hs0 hb; show rr - s * b < rr; omega) ⟨rfl, rfl, rfl, rfl, rfl, trivial⟩ (weak_picks [some 0, some 1, some 2, some 6] ⟨⟨_, rfl, Blk.le_refl _⟩, ⟨_, rfl, Blk.le_refl _⟩, ⟨_, rfl, Blk.le_refl _⟩, ⟨_, rfl, Blk.le_refl _⟩, trivial⟩ rfl rfl)
       ·
        refine r_no rfl rfl rfl ?_
        refine r_no rfl rfl rfl ?_
        refine r_no rfl rfl rfl ?_
        refine r_no rfl rfl rfl ?_
        refine r_no rfl rfl rfl ?_
        refine r_no rfl rfl rfl ?_
        refine r_pickF rfl rfl rfl rfl ?_
        refine run_nil ?_
        refine at_tn ?_
        refine at_condF rfl ?_
        refine at_exit ?_
        refine at_te ?_
        refine at_te ?_
        refine at_be ?_
        refine at_tn ?_
        refine at_drawn (l' := [⟨_,_,_,_,_,_⟩, ⟨_,_,_,_,_,_⟩, ⟨_,_,_,_,_,_⟩, ⟨_,_,_,_,_,_⟩, ⟨_,_,_,_,_,_⟩, ⟨_,_,_,_,_,_⟩, ⟨_,_,_,_,_,_⟩, ⟨_,_,_,_,_,_⟩, ⟨_,_,_,_,_,_⟩, ⟨_,_,_,_,_,_⟩, ⟨_,_,_,_,_,_⟩, ⟨_,_,_,_,_,_⟩, ⟨_,_,_,_,_,_⟩, ⟨_,_,_,_,_,_⟩]) [2000000] [0, 1, 2, 3, 5, 6, 7, 8, 9, 10, 4, 11, 12, 13] mixed (by kernel_rfl) rfl (by kernel_rfl) ?_
        refine r_move rfl rfl rfl ?_
        refine r_move rfl rfl rfl ?_
        refine r_move rfl rfl rfl ?_
        refine r_move rfl rfl rfl ?_
        refine r_move rfl rfl rfl ?_
        refine r_move rfl rfl rfl ?_
        refine r_indexAddr 2 (q) u85 ti3 rfl rfl rfl rfl rfl (by omega) (by omega) (NV_ne (by rw [row_length]; omega)) (by show 0 + Int.toNat _ * 1 = _; omega) ?_
        refine r_load1 2 (q) ti3 rfl rfl rfl rfl (NV_get ((row_get (by omega)).trans (by rw [quS_at]))) ?_
        refine r_move rfl rfl rfl ?_
        refine r_arith (r := ((m + s : Nat) : Int)) rfl rfl rfl rfl (congrArg some (wi (by omega) (by omega) (by omega))) ?_
        refine r_scall [_, _] [3, 4] rfl rfl rfl (c_ref02_minus rr (s * b) (by omega) hs2 z2 z3) ⟨⟨_, rfl, le_share⟩, ⟨_, rfl, le_share⟩, trivial⟩ rfl (.inr fun x b hb => by rw [List.mem_singleton.1 hb]) (fun z6 => ?_)
        refine r_assign rfl rfl rfl ?_
        refine r_indexAddr 2 (q) u85 ti3 rfl rfl rfl rfl rfl (by omega) (by omega) (NV_ne (by rw [row_length]; omega)) (by show 0 + Int.toNat _ * 1 = _; omega) ?_
        refine r_store1 rfl 2 (q) [_, _, ⟨some g0, 3, _, _, true⟩, _, _, _] (NV .i64 (row (nb a) (quS a b q (m + s)))) ti3 rfl rfl rfl rfl rfl rfl rfl rfl (by rw [NV_length, row_length]; omega) (by rw [NV_set, row_set (fun j _ => quS_step a b q m (m + s) j)]) rfl ?_
        refine run_nil ?_
        refine at_bn ?_
        refine at_tn ?_
        exact nextL ⟨⟨(m + s, rr - s * b), dq8_next hq hs2⟩, z6⟩ (by have := Nat.mul_pos hs0 hb; show rr - s * b < rr; omega) ⟨rfl, rfl, rfl, rfl, rfl, trivial⟩ (weak_picks [some 0, some 1, some 2, some 5] ⟨⟨_, rfl, Blk.le_refl _⟩, ⟨_, rfl, Blk.le_refl _⟩, ⟨_, rfl, Blk.le_refl _⟩, ⟨_, rfl, Blk.le_refl _⟩, trivial⟩ rfl rfl)
      · exact absurd (of_decide_eq_false hb7) (by omega)
     ·
      have hlt2 : rr < b := by have := of_decide_eq_false hb6; rw [cmpN_nonneg] at this; omega
      obtain ⟨hm, hr⟩ := dq8 hb hq hlt2
      subst hm; subst hr
      refine r_no rfl rfl rfl ?_
      refine r_no rfl rfl rfl ?_
      refine r_no rfl rfl rfl ?_
      refine r_no rfl rfl rfl ?_
      refine r_no rfl rfl rfl ?_
      refine r_pickF rfl rfl rfl rfl ?_
      refine run_nil ?_
      refine at_tn ?_
      refine at_condF rfl ?_
      refine at_exit ?_
      refine at_te ?_
      refine at_te ?_
      refine at_be ?_
      refine at_bn ?_
      refine at_tn ?_
      refine at_region ?_
      refine r_move rfl rfl rfl ?_
      refine r_arith (r := ((q : Nat) : Int) - 1) rfl rfl rfl rfl (congrArg some (wi (by omega) (by omega) (by omega))) ?_
      refine r_assign rfl rfl rfl ?_
      refine run_nil ?_
      refine at_tn ?_
      exact nextL ⟨⟨q, by omega⟩, z2⟩ (Nat.lt_succ_self q) ⟨rfl, rfl, rfl, rfl, rfl, trivial⟩ (weak_picks [some 0, some 1, some 2, some 3] ⟨⟨_, rfl, Blk.le_refl _⟩, ⟨_, rfl, Blk.le_refl _⟩, ⟨_, rfl, le_same (congrArg (fun c => (⟨some g0, 3, NV .i64 c, nb a, true⟩ : Blk)) (row_congr fun j _ => (quS_end a b q j).symm))⟩, ⟨_, rfl, Blk.le_refl _⟩, trivial⟩ rfl rfl)
    ·
     have hp0 : p = 0 := by have := of_decide_eq_false hb4; omega
     subst hp0
     refine at_exit ?_
     refine at_te ?_
     refine at_te ?_
     refine at_be ?_
     refine at_tn ?_
     refine at_seq ?_
     refine at_region ?_
     refine r_move rfl rfl rfl ?_
     refine r_scall0 [_] [2] rfl rfl rfl (c_ref02_trim (row (nb a) (quT a b 0)) (row_lt fun j => quT_lt a b 0 j) (by rw [row_length]; omega) (row_length _ _) ⟨some g0, nb a, nb a, Nat.le_refl _⟩) ⟨⟨_, rfl, le_share⟩, trivial⟩ rfl ?_
     refine r_know 103 (slv (some g0) 0 (nb (a / b)) (nb a)) rfl (by rw [quT_trim]; rfl) ?_
     refine r_move rfl rfl rfl ?_
     refine r_assign rfl rfl rfl ?_
     refine r_assign rfl rfl rfl ?_
     refine run_nil ?_
     refine at_tn ?_
     refine at_ret ?_
     refine at_end2 rfl (res_tmp rfl) (res_tmp rfl) (fun w hL => ⟨.inl (⟨some g0, nb a, nb a, nb_mono (Nat.div_le_self _ _)⟩, ⟨z.b, z.n, z.cap, by have h := z.h; simp only [Nat.pow_zero, Nat.div_one] at h; exact h⟩), ?_, ?_⟩)
     · exact congrArg (fun n => Ending.returned (.tuple #[slv (some g0) 0 (nb (a / b)) (nb a), slv z.b 0 (nb n) z.cap])) (show a / 256 ^ 0 % b = a % b by rw [Nat.pow_zero, Nat.div_one])
     · exact hL.picks [some 2, some 3] ⟨⟨_, rfl, rfl, rfl, rfl, ⟨nb (a / b), quT_take a b⟩, fun _ => rfl⟩, ⟨_, rfl, le_same (congrArg (fun n => (⟨z.b, 3, NV .i64 (D8 n), z.n, true⟩ : Blk)) (show a % b = a / 256 ^ 0 % b by rw [Nat.pow_zero, Nat.div_one]))⟩, trivial⟩ rfl rfl
 ·
  refine r_no rfl rfl rfl ?_
  refine r_pickF rfl rfl rfl rfl ?_
  refine r_move rfl rfl rfl ?_
  refine r_no rfl rfl rfl ?_
  refine r_no rfl rfl rfl ?_
  refine r_pickF rfl rfl rfl rfl ?_
  refine run_nil ?_
  refine at_tn ?_
  refine at_condF rfl ?_
  refine at_skip ?_
  refine at_tn ?_
  refine at_seq ?_
  refine at_seq ?_
  refine at_region ?_
  refine r_move rfl rfl rfl ?_
  refine r_move rfl rfl rfl ?_
  refine r_scall0 [_, _] [0, 1] rfl rfl rfl (c_ref02_compare a b (by omega) x y) ⟨⟨_, rfl, le_share⟩, ⟨_, rfl, le_share⟩, trivial⟩ rfl ?_
  refine r_cmpInt rfl rfl rfl rfl rfl ?_
  refine run_nil ?_
  refine at_tn ?_
  refine at_cond rfl (fun hb1 => ?_) (fun hb1 => ?_)
  ·
   have hlt : a < b := cmpN_lt0.1 (of_decide_eq_true hb1)
   refine at_seq ?_
   refine at_region ?_
   refine r_move rfl rfl rfl ?_
   refine r_assign rfl rfl rfl ?_
   refine r_assign rfl rfl rfl ?_
   refine run_nil ?_
   refine at_tn ?_
   refine at_ret ?_
   refine at_tr ?_
   refine at_end2 rfl (res_tmp rfl) (res_tmp rfl) (fun w hL => ⟨.inr ⟨hlt⟩, ?_, hL.picks [] trivial rfl rfl⟩)
   exact rfl
  ·
   have hge : b ≤ a := by have := of_decide_eq_false hb1; rw [cmpN_lt0] at this; omega
   refine at_skip ?_
   refine at_tn ?_
   refine at_seq ?_
   refine at_region ?_
   refine r_move rfl rfl rfl ?_
   refine r_lenS u85 rfl rfl rfl ?_
   refine q_makeSlice (c := nb a) (NV .i64 (row (nb a) (quT a b (nb a)))) (fun g => [_, _, ⟨some g, 3, _, _, true⟩]) u85 el3 rfl rfl rfl rfl rfl rfl (by omega) (by rw [row_congr (g := fun _ => 0) (fun j hj => quT_top a b hj), row_zero, NV_replicate]) (fun _ => rfl) (fun g0 => ?_)
   refine r_assign rfl rfl rfl ?_
   refine run_nil ?_
   refine at_tn ?_
   refine at_seq ?_
   refine at_seq ?_
   refine at_region ?_
   refine r_move rfl rfl rfl ?_
   refine r_lenS u85 rfl rfl rfl ?_
   refine r_arith (r := ((nb a : Nat) : Int) - 1) rfl rfl rfl rfl (congrArg some (wi (by omega) (by omega) (by omega))) ?_
   refine r_assign rfl rfl rfl ?_
   refine run_nil ?_
   refine at_tn ?_
   refine at_block ?_
   refine enterL (nt := 105) (ι := (p : {p : Nat // p ≤ nb a}) × SR (nb (a / 256 ^ p.1 % b))) (fun ⟨⟨p, hp⟩, z⟩ => [(0, x.v), (1, y.v), (4, slv (some g0) 0 (nb a) (nb a)), (5, z.v), (10, .int .i64 ((p : Nat) - 1))]) (fun ⟨⟨p, hp⟩, z⟩ => [⟨x.b, 3, NV .i64 (D8 a), x.n, false⟩, ⟨y.b, 3, NV .i64 (D8 b), y.n, false⟩, ⟨some g0, 3, NV .i64 (row (nb a) (quT a b p)), nb a, true⟩, ⟨z.b, 3, NV .i64 (D8 (a / 256 ^ p % b)), z.n, true⟩]) (fun ⟨⟨p, hp⟩, z⟩ => p) ⟨⟨nb a, Nat.le_refl _⟩, ⟨none, 0, 0, by rw [dW8_top, nb_zero]; exact Nat.le_refl _⟩⟩ ⟨rfl, rfl, rfl, (look_val rfl (dW8_nilv a b)), rfl, trivial⟩ (weak_picks [some 0, some 1, some 2, none] ⟨⟨_, rfl, Blk.le_refl _⟩, ⟨_, rfl, Blk.le_refl _⟩, ⟨_, rfl, Blk.le_refl _⟩, ⟨rfl, dW8_nil a b, rfl⟩, trivial⟩ rfl rfl) ?_
   rintro ⟨⟨p, hp⟩, z⟩
   show At _ ⟨105, [(0, x.v), (1, y.v), (4, slv (some g0) 0 (nb a) (nb a)), (5, z.v), (10, .int .i64 ((p : Nat) - 1))], [⟨x.b, 3, NV .i64 (D8 a), x.n, false⟩, ⟨y.b, 3, NV .i64 (D8 b), y.n, false⟩, ⟨some g0, 3, NV .i64 (row (nb a) (quT a b p)), nb a, true⟩, ⟨z.b, 3, NV .i64 (D8 (a / 256 ^ p % b)), z.n, true⟩]⟩ _
   refine at_seq ?_
   refine at_seq ?_
   refine at_region ?_
   refine r_move rfl rfl rfl ?_
   refine r_cmpInt rfl rfl rfl rfl rfl ?_
   refine run_nil ?_
   refine at_tn ?_
   refine at_cond rfl (fun hb3 => ?_) (fun hb3 => ?_)
   ·
    obtain ⟨q, rfl⟩ : ∃ q, p = q + 1 := ⟨p - 1, by have := of_decide_eq_true hb3; omega⟩
    refine at_know 10 (.int .i64 (q : Nat)) rfl (congrArg (Value.int .i64) (by omega)) ?_
    have hR := Nat.mod_lt (a / 256 ^ (q + 1)) hb
    have hnR : nb (a / 256 ^ (q + 1) % b) ≤ nb b := nb_mono (Nat.le_of_lt hR)
    have hdq := m256 (a / 256 ^ q)
    have hWn := dW8_nb a b q
    refine at_base 3 rfl (fun hbase => ?_)
    refine at_skip ?_
    refine at_tn ?_
    refine at_seq ?_
    refine at_block ?_
    refine at_seq ?_
    refine at_region ?_
    refine r_move rfl rfl rfl ?_
    refine r_move rfl rfl rfl ?_
    refine r_indexAddr 0 (q) u85 ti3 rfl rfl rfl rfl rfl (by omega) (by omega) (NV_ne (by rw [D8_length]; omega)) (by show 0 + Int.toNat _ * 1 = _; omega) ?_
    refine r_load1 0 (q) ti3 rfl rfl rfl rfl (NV_get (D8_get (by omega))) ?_
    refine r_buildSlice [(0, _)] (fun g => [_, _, _, _, ⟨some g, 3, _, 1, true⟩]) rfl rfl rfl (bs85_1) rfl (fun _ => rfl) (fun g1 => ?_)
    refine r_move rfl rfl rfl ?_
    refine r_app8 4 3 (fun b n => [_, _, _, _, ⟨b, 3, _, n, true⟩]) u85 el3 rfl rfl rfl rfl rfl hbase rfl rfl (by omega) (fun _ _ => rfl) (fun r => ?_)
    refine r_scall0 [_] [4] rfl rfl rfl (c_ref02_trim (a / 256 ^ q % 256 :: D8 (a / 256 ^ (q + 1) % b)) (dW8_lt256 a b q) (by rw [List.length_cons, D8_length]; omega) (by rw [List.length_cons, D8_length]) r) ⟨⟨_, rfl, le_share⟩, trivial⟩ rfl ?_
    refine r_know 61 (slv r.b 0 (nb (dW8 a b q)) r.cap) rfl (by rw [dW8_trim]) ?_
    refine r_assign rfl rfl rfl ?_
    refine run_nil ?_
    refine at_tn ?_
    refine at_block ?_
    refine enterL (nt := 105) (ι := (x : {x : Nat × Nat // x.1 * b + x.2 = dW8 a b q}) × SR (nb x.1.2)) (fun ⟨⟨⟨m, rr⟩, hq⟩, z2⟩ => [(0, x.v), (1, y.v), (4, slv (some g0) 0 (nb a) (nb a)), (5, z2.v), (10, .int .i64 (q : Nat))]) (fun ⟨⟨⟨m, rr⟩, hq⟩, z2⟩ => [⟨x.b, 3, NV .i64 (D8 a), x.n, false⟩, ⟨y.b, 3, NV .i64 (D8 b), y.n, false⟩, ⟨some g0, 3, NV .i64 (row (nb a) (quS a b q m)), nb a, true⟩, ⟨z2.b, 3, NV .i64 (D8 (rr)), z2.n, true⟩]) (fun ⟨⟨⟨m, rr⟩, hq⟩, z2⟩ => rr) ⟨⟨(0, dW8 a b q), by omega⟩, ⟨r.b, r.n, r.cap, Nat.le_trans hWn r.h⟩⟩ ⟨rfl, rfl, rfl, rfl, rfl, trivial⟩ (weak_picks [some 0, some 1, some 2, some 4] ⟨⟨_, rfl, Blk.le_refl _⟩, ⟨_, rfl, Blk.le_refl _⟩, ⟨_, rfl, le_same (congrArg (fun c => (⟨some g0, 3, NV .i64 c, nb a, true⟩ : Blk)) (row_congr fun j _ => quS_zero a b q j))⟩, ⟨_, rfl, rfl, rfl, rfl, ⟨nb (dW8 a b q), dW8_take a b q⟩, fun _ => rfl⟩, trivial⟩ rfl rfl) ?_
    rintro ⟨⟨⟨m, rr⟩, hq⟩, z2⟩
    show At _ ⟨105, [(0, x.v), (1, y.v), (4, slv (some g0) 0 (nb a) (nb a)), (5, z2.v), (10, .int .i64 (q : Nat))], [⟨x.b, 3, NV .i64 (D8 a), x.n, false⟩, ⟨y.b, 3, NV .i64 (D8 b), y.n, false⟩, ⟨some g0, 3, NV .i64 (row (nb a) (quS a b q m)), nb a, true⟩, ⟨z2.b, 3, NV .i64 (D8 (rr)), z2.n, true⟩]⟩ _
    replace hq : m * b + rr = dW8 a b q := hq
    have hrn := dq8_bnd hb hq
    refine at_seq ?_
    refine at_seq ?_
    refine at_region ?_
    refine r_move rfl rfl rfl ?_
    refine r_move rfl rfl rfl ?_
    refine r_scall0 [_, _] [3, 1] rfl rfl rfl (c_ref02_compare rr b (by omega) z2 y) ⟨⟨_, rfl, le_share⟩, ⟨_, rfl, le_share⟩, trivial⟩ rfl ?_
    refine r_cmpInt rfl rfl rfl rfl rfl ?_
    refine r_move rfl rfl rfl ?_
    refine r_split 66 rfl (fun hb5 => ?_) (fun hb5 => ?_)
    ·
     have hge2 : b ≤ rr := cmpN_nonneg.1 (of_decide_eq_true hb5)
     have hm1 := dq8_lt (s := 1) hb hq (by omega)
     refine r_move rfl rfl rfl ?_
     refine r_move rfl rfl rfl ?_
     refine r_indexAddr 2 (q) u85 ti3 rfl rfl rfl rfl rfl (by omega) (by omega) (NV_ne (by rw [row_length]; omega)) (by show 0 + Int.toNat _ * 1 = _; omega) ?_
     refine r_load1 2 (q) ti3 rfl rfl rfl rfl (NV_get ((row_get (by omega)).trans (by rw [quS_at]))) ?_
     refine r_cmpInt rfl rfl rfl rfl rfl ?_
     refine r_pickT rfl rfl rfl rfl ?_
     refine run_nil ?_
     refine at_tn ?_
     refine at_cond rfl (fun hb6 => ?_) (fun hb6 => ?_)
     ·
      refine at_skip ?_
      refine at_tn ?_
      refine at_block ?_
      refine at_seq ?_
      refine at_region ?_
      refine r_move rfl rfl rfl ?_
      refine r_assign rfl rfl rfl ?_
      refine r_assign rfl rfl rfl ?_
      refine run_nil ?_
      refine at_tn ?_
      refine at_seq ?_
      refine at_block ?_
      refine enterL (nt := 105) (ι := (s : {s : Nat // 0 < s ∧ s ≤ 128 ∧ s * b ≤ rr}) × SR (nb (s.1 * b))) (fun ⟨⟨s, hs0, hs1, hs2⟩, z3⟩ => [(0, x.v), (1, y.v), (4, slv (some g0) 0 (nb a) (nb a)), (5, z2.v), (10, .int .i64 (q : Nat)), (11, .int .i64 (s : Nat)), (12, z3.v)]) (fun ⟨⟨s, hs0, hs1, hs2⟩, z3⟩ => [⟨x.b, 3, NV .i64 (D8 a), x.n, false⟩, ⟨y.b, 3, NV .i64 (D8 b), y.n, false⟩, ⟨some g0, 3, NV .i64 (row (nb a) (quS a b q m)), nb a, true⟩, ⟨z2.b, 3, NV .i64 (D8 (rr)), z2.n, true⟩, ⟨z3.b, 3, NV .i64 (D8 (s * b)), z3.n, false⟩]) (fun ⟨⟨s, hs0, hs1, hs2⟩, z3⟩ => 128 - s) ⟨⟨1, by omega, by omega, by omega⟩, ⟨y.b, y.n, y.cap, by rw [Nat.one_mul]; exact y.h⟩⟩ ⟨rfl, rfl, rfl, rfl, rfl, rfl, (look_val rfl (congrArg (fun n => slv y.b 0 (nb n) y.cap) (Nat.one_mul b).symm)), trivial⟩ (weak_picks [some 0, some 1, some 2, some 3, some 1] ⟨⟨_, rfl, Blk.le_refl _⟩, ⟨_, rfl, Blk.le_refl _⟩, ⟨_, rfl, Blk.le_refl _⟩, ⟨_, rfl, Blk.le_refl _⟩, ⟨_, rfl, le_same (congrArg (fun n => (⟨y.b, 3, NV .i64 (D8 n), y.n, false⟩ : Blk)) (Nat.one_mul b))⟩, trivial⟩ rfl rfl) ?_
      rintro ⟨⟨s, hs0, hs1, hs2⟩, z3⟩
      show At _ ⟨105, [(0, x.v), (1, y.v), (4, slv (some g0) 0 (nb a) (nb a)), (5, z2.v), (10, .int .i64 (q : Nat)), (11, .int .i64 (s : Nat)), (12, z3.v)], [⟨x.b, 3, NV .i64 (D8 a), x.n, false⟩, ⟨y.b, 3, NV .i64 (D8 b), y.n, false⟩, ⟨some g0, 3, NV .i64 (row (nb a) (quS a b q m)), nb a, true⟩, ⟨z2.b, 3, NV .i64 (D8 (rr)), z2.n, true⟩, ⟨z3.b, 3, NV .i64 (D8 (s * b)), z3.n, false⟩]⟩ _
      have e2 : 2 * s * b = s * b + s * b := by rw [Nat.two_mul, Nat.add_mul]
      replace hs2 : s * b ≤ rr := hs2
      have hsn : nb (s * b) ≤ nb rr := nb_mono hs2
      have hsn2 : nb (s * b + s * b) ≤ nb b + 2 := nb_le (by have h1 := lt_nb b; have h2 : s * b ≤ 128 * b := Nat.mul_le_mul_right _ hs1; rw [Nat.pow_succ, Nat.pow_succ]; omega)
      refine at_seq ?_
      refine at_seq ?_
      refine at_region ?_
      refine r_move rfl rfl rfl ?_
      refine r_arith (r := ((2 * s : Nat) : Int)) rfl rfl rfl rfl (congrArg some (wi (by omega) (by omega) (by omega))) ?_
      refine r_cmpInt rfl rfl rfl rfl rfl ?_
      refine r_move rfl rfl rfl ?_
      refine r_split 77 rfl (fun hb8 => ?_) (fun hb8 => ?_)
      ·
       have hs3 : 2 * s ≤ 128 := (by have := of_decide_eq_true hb8; omega)
       refine r_move rfl rfl rfl ?_
       refine r_move rfl rfl rfl ?_
       refine r_scall [_, _] [4, 4] rfl rfl rfl (c_ref02_plus (s * b) (s * b) (by omega) (by omega) z3 z3) ⟨⟨_, rfl, le_share⟩, ⟨_, rfl, le_share⟩, trivial⟩ rfl (.inr fun x b hb => by rw [List.mem_singleton.1 hb]) (fun z4 => ?_)
       refine r_move rfl rfl rfl ?_
       refine r_scall0 [_, _] [5, 3] rfl rfl rfl (c_ref02_compare (s * b + s * b) rr (by omega) z4 z2) ⟨⟨_, rfl, le_share⟩, ⟨_, rfl, le_share⟩, trivial⟩ rfl ?_
       refine r_cmpInt rfl rfl rfl rfl rfl ?_
       refine r_pickT rfl rfl rfl rfl ?_
       refine run_nil ?_
       refine at_tn ?_
       refine at_cond rfl (fun hb9 => ?_) (fun hb9 => ?_)
       ·
        have hs4 : s * b + s * b ≤ rr := cmpN_nonpos.1 (of_decide_eq_true hb9)
        refine at_skip ?_
        refine at_tn ?_
        refine at_block ?_
        refine at_region ?_
        refine r_move rfl rfl rfl ?_
        refine r_arith (r := ((2 * s : Nat) : Int)) rfl rfl rfl rfl (congrArg some (wi (by omega) (by omega) (by omega))) ?_
        refine r_move rfl rfl rfl ?_
        refine r_move rfl rfl rfl ?_
        refine r_scall [_, _] [4, 4] rfl rfl rfl (c_ref02_plus (s * b) (s * b) (by omega) (by omega) z3 z3) ⟨⟨_, rfl, le_share⟩, ⟨_, rfl, le_share⟩, trivial⟩ rfl (.inr fun x b hb => by rw [List.mem_singleton.1 hb]) (fun z5 => ?_)
        refine r_assign rfl rfl rfl ?_
        refine r_assign rfl rfl rfl ?_
        refine run_nil ?_
        refine at_bn ?_
        refine at_tn ?_
        exact nextL ⟨⟨2 * s, by omega, hs3, by rw [Nat.two_mul, Nat.add_mul]; exact hs4⟩, ⟨z5.b, z5.n, z5.cap, by show nb (2 * s * b) ≤ z5.cap; rw [e2]; exact z5.h⟩⟩ (by show 128 - 2 * s < 128 - s; omega) ⟨rfl, rfl, rfl, rfl, rfl, rfl, (look_val rfl (congrArg (fun n => slv z5.b 0 (nb n) z5.cap) e2.symm)), trivial⟩ (weak_picks [some 0, some 1, some 2, some 3, some 6] ⟨⟨_, rfl, Blk.le_refl _⟩, ⟨_, rfl, Blk.le_refl _⟩, ⟨_, rfl, Blk.le_refl _⟩, ⟨_, rfl, Blk.le_refl _⟩, ⟨_, rfl, ⟨rfl, rfl, rfl, ⟨(NV .i64 (D8 (s * b + s * b))).length, by show NV .i64 (D8 (2 * s * b)) = _; rw [e2, List.take_length]⟩, fun h => by cases h⟩⟩, trivial⟩ rfl rfl)
       ·
        refine at_exit ?_
        refine at_te ?_
        refine at_te ?_
        refine at_be ?_
        refine at_tn ?_
        refine at_drawn (l' := [⟨_,_,_,_,_,_⟩, ⟨_,_,_,_,_,_⟩, ⟨_,_,_,_,_,_⟩, ⟨_,_,_,_,_,_⟩, ⟨_,_,_,_,_,_⟩, ⟨_,_,_,_,_,_⟩, ⟨_,_,_,_,_,_⟩, ⟨_,_,_,_,_,_⟩, ⟨_,_,_,_,_,_⟩, ⟨_,_,_,_,_,_⟩, ⟨_,_,_,_,_,_⟩, ⟨_,_,_,_,_,_⟩, ⟨_,_,_,_,_,_⟩, ⟨_,_,_,_,_,_⟩]) [2000000] [0, 1, 2, 3, 5, 6, 7, 8, 9, 10, 4, 11, 12, 13] mixed (by kernel_rfl) rfl (by kernel_rfl) ?_
        refine r_move rfl rfl rfl ?_
        refine r_move rfl rfl rfl ?_
        refine r_move rfl rfl rfl ?_
        refine r_move rfl rfl rfl ?_
        refine r_move rfl rfl rfl ?_
        refine r_move rfl rfl rfl ?_
        refine r_indexAddr 2 (q) u85 ti3 rfl rfl rfl rfl rfl (by omega) (by omega) (NV_ne (by rw [row_length]; omega)) (by show 0 + Int.toNat _ * 1 = _; omega) ?_
        refine r_load1 2 (q) ti3 rfl rfl rfl rfl (NV_get ((row_get (by omega)).trans (by rw [quS_at]))) ?_
        refine r_move rfl rfl rfl ?_
        refine r_arith (r := ((m + s : Nat) : Int)) rfl rfl rfl rfl (congrArg some (wi (by omega) (by omega) (by omega))) ?_
        refine r_scall [_, _] [3, 4] rfl rfl rfl (c_ref02_minus rr (s * b) (by omega) hs2 z2 z3) ⟨⟨_, rfl, le_share⟩, ⟨_, rfl, le_share⟩, trivial⟩ rfl (.inr fun x b hb => by rw [List.mem_singleton.1 hb]) (fun z6 => ?_)
        refine r_assign rfl rfl rfl ?_
        refine r_indexAddr 2 (q) u85 ti3 rfl rfl rfl rfl rfl (by omega) (by omega) (NV_ne (by rw [row_length]; omega)) (by show 0 + Int.toNat _ * 1 = _; omega) ?_
        refine r_store1 rfl 2 (q) [_, _, ⟨some g0, 3, _, _, true⟩, _, _, _, _] (NV .i64 (row (nb a) (quS a b q (m + s)))) ti3 rfl rfl rfl rfl rfl rfl rfl rfl (by rw [NV_length, row_length]; omega) (by rw [NV_set, row_set (fun j _ => quS_step a b q m (m + s) j)]) rfl ?_
        refine run_nil ?_
        refine at_bn ?_
        refine at_tn ?_
        exact nextL ⟨⟨(m + s, rr - s * b), dq8_next hq hs2⟩, z6⟩ (by have := Nat.mul_pos hs0 hb; show rr - s * b < rr; omega) ⟨rfl, rfl, rfl, rfl, rfl, trivial⟩ (weak_picks [some 0, some 1, some 2, some 6] ⟨⟨_, rfl, Blk.le_refl _⟩, ⟨_, rfl, Blk.le_refl _⟩, ⟨_, rfl, Blk.le_refl _⟩, ⟨_, rfl, Blk.le_refl _⟩, trivial⟩ rfl rfl)
      ·
       refine r_no rfl rfl rfl ?_
       refine r_no rfl rfl rfl ?_
       refine r_no rfl rfl rfl ?_
       refine r_no rfl rfl rfl ?_
       refine r_no rfl rfl rfl ?_
       refine r_no rfl rfl rfl ?_
       refine r_pickF rfl rfl rfl rfl ?_
       refine run_nil ?_
       refine at_tn ?_
       refine at_condF rfl ?_
       refine at_exit ?_
       refine at_te ?_
       refine at_te ?_
       refine at_be ?_
       refine at_tn ?_
       refine at_drawn (l' := [⟨_,_,_,_,_,_⟩, ⟨_,_,_,_,_,_⟩, ⟨_,_,_,_,_,_⟩, ⟨_,_,_,_,_,_⟩, ⟨_,_,_,_,_,_⟩, ⟨_,_,_,_,_,_⟩, ⟨_,_,_,_,_,_⟩, ⟨_,_,_,_,_,_⟩, ⟨_,_,_,_,_,_⟩, ⟨_,_,_,_,_,_⟩, ⟨_,_,_,_,_,_⟩, ⟨_,_,_,_,_,_⟩, ⟨_,_,_,_,_,_⟩, ⟨_,_,_,_,_,_⟩]) [2000000] [0, 1, 2, 3, 5, 6, 7, 8, 9, 10, 4, 11, 12, 13] mixed (by kernel_rfl) rfl (by kernel_rfl) ?_
       refine r_move rfl rfl rfl ?_
       refine r_move rfl rfl rfl ?_
       refine r_move rfl rfl rfl ?_
       refine r_move rfl rfl rfl ?_
       refine r_move rfl rfl rfl ?_
       refine r_move rfl rfl rfl ?_
       refine r_indexAddr 2 (q) u85 ti3 rfl rfl rfl rfl rfl (by omega) (by omega) (NV_ne (by rw [row_length]; omega)) (by show 0 + Int.toNat _ * 1 = _; omega) ?_
       refine r_load1 2 (q) ti3 rfl rfl rfl rfl (NV_get ((row_get (by omega)).trans (by rw [quS_at]))) ?_
       refine r_move rfl rfl rfl ?_
       refine r_arith (r := ((m + s : Nat) : Int)) rfl rfl rfl rfl (congrArg some (wi (by omega) (by omega) (by omega))) ?_
       refine r_scall [_, _] [3, 4] rfl rfl rfl (c_ref02_minus rr (s * b) (by omega) hs2 z2 z3) ⟨⟨_, rfl, le_share⟩, ⟨_, rfl, le_share⟩, trivial⟩ rfl (.inr fun x b hb => by rw [List.mem_singleton.1 hb]) (fun z6 => ?_)
       refine r_assign rfl rfl rfl ?_
       refine r_indexAddr 2 (q) u85 ti3 rfl rfl rfl rfl rfl (by omega) (by omega) (NV_ne (by rw [row_length]; omega)) (by show 0 + Int.toNat _ * 1 = _; omega) ?_
       refine r_store1 rfl 2 (q) [_, _, ⟨some g0, 3, _, _, true⟩, _, _, _] (NV .i64 (row (nb a) (quS a b q (m + s)))) ti3 rfl rfl rfl rfl rfl rfl rfl rfl (by rw [NV_length, row_length]; omega) (by rw [NV_set, row_set (fun j _ => quS_step a b q m (m + s) j)]) rfl ?_
       refine run_nil ?_
       refine at_bn ?_
       refine at_tn ?_
       exact nextL ⟨⟨(m + s, rr - s * b), dq8_next hq hs2⟩, z6⟩ (by have := Nat.mul_pos hs0 hb; show rr - s * b < rr; omega) ⟨rfl, rfl, rfl, rfl, rfl, trivial⟩ (weak_picks [some 0, some 1, some 2, some 5] ⟨⟨_, rfl, Blk.le_refl _⟩, ⟨_, rfl, Blk.le_refl _⟩, ⟨_, rfl, Blk.le_refl _⟩, ⟨_, rfl, Blk.le_refl _⟩, trivial⟩ rfl rfl)
     · exact absurd (of_decide_eq_false hb6) (by omega)
    ·
     have hlt2 : rr < b := by have := of_decide_eq_false hb5; rw [cmpN_nonneg] at this; omega
     obtain ⟨hm, hr⟩ := dq8 hb hq hlt2
     subst hm; subst hr
     refine r_no rfl rfl rfl ?_
     refine r_no rfl rfl rfl ?_
     refine r_no rfl rfl rfl ?_
     refine r_no rfl rfl rfl ?_
     refine r_no rfl rfl rfl ?_
     refine r_pickF rfl rfl rfl rfl ?_
     refine run_nil ?_
     refine at_tn ?_
     refine at_condF rfl ?_
     refine at_exit ?_
     refine at_te ?_
     refine at_te ?_
     refine at_be ?_
     refine at_bn ?_
     refine at_tn ?_
     refine at_region ?_
     refine r_move rfl rfl rfl ?_
     refine r_arith (r := ((q : Nat) : Int) - 1) rfl rfl rfl rfl (congrArg some (wi (by omega) (by omega) (by omega))) ?_
     refine r_assign rfl rfl rfl ?_
     refine run_nil ?_
     refine at_tn ?_
     exact nextL ⟨⟨q, by omega⟩, z2⟩ (Nat.lt_succ_self q) ⟨rfl, rfl, rfl, rfl, rfl, trivial⟩ (weak_picks [some 0, some 1, some 2, some 3] ⟨⟨_, rfl, Blk.le_refl _⟩, ⟨_, rfl, Blk.le_refl _⟩, ⟨_, rfl, le_same (congrArg (fun c => (⟨some g0, 3, NV .i64 c, nb a, true⟩ : Blk)) (row_congr fun j _ => (quS_end a b q j).symm))⟩, ⟨_, rfl, Blk.le_refl _⟩, trivial⟩ rfl rfl)
   ·
    have hp0 : p = 0 := by have := of_decide_eq_false hb3; omega
    subst hp0
    refine at_exit ?_
    refine at_te ?_
    refine at_te ?_
    refine at_be ?_
    refine at_tn ?_
    refine at_seq ?_
    refine at_region ?_
    refine r_move rfl rfl rfl ?_
    refine r_scall0 [_] [2] rfl rfl rfl (c_ref02_trim (row (nb a) (quT a b 0)) (row_lt fun j => quT_lt a b 0 j) (by rw [row_length]; omega) (row_length _ _) ⟨some g0, nb a, nb a, Nat.le_refl _⟩) ⟨⟨_, rfl, le_share⟩, trivial⟩ rfl ?_
    refine r_know 103 (slv (some g0) 0 (nb (a / b)) (nb a)) rfl (by rw [quT_trim]; rfl) ?_
    refine r_move rfl rfl rfl ?_
    refine r_assign rfl rfl rfl ?_
    refine r_assign rfl rfl rfl ?_
    refine run_nil ?_
    refine at_tn ?_
    refine at_ret ?_
    refine at_end2 rfl (res_tmp rfl) (res_tmp rfl) (fun w hL => ⟨.inl (⟨some g0, nb a, nb a, nb_mono (Nat.div_le_self _ _)⟩, ⟨z.b, z.n, z.cap, by have h := z.h; simp only [Nat.pow_zero, Nat.div_one] at h; exact h⟩), ?_, ?_⟩)
    · exact congrArg (fun n => Ending.returned (.tuple #[slv (some g0) 0 (nb (a / b)) (nb a), slv z.b 0 (nb n) z.cap])) (show a / 256 ^ 0 % b = a % b by rw [Nat.pow_zero, Nat.div_one])
    · exact hL.picks [some 2, some 3] ⟨⟨_, rfl, rfl, rfl, rfl, ⟨nb (a / b), quT_take a b⟩, fun _ => rfl⟩, ⟨_, rfl, le_same (congrArg (fun n => (⟨z.b, 3, NV .i64 (D8 n), z.n, true⟩ : Blk)) (show a % b = a / 256 ^ 0 % b by rw [Nat.pow_zero, Nat.div_one]))⟩, trivial⟩ rfl rfl
end Go.Proofs.YthnlafhnpphdhaaGreatDoor
set_option linter.unusedVariables false
set_option linter.unusedSimpArgs false
namespace Go.Via
open Go Go.RowKit
/-- a slice whose row is the call's own, or one of those that came in -/
structure FS (bs : List (Option Nat)) (len : Nat) where
  z : SR len
  o : Bool
  ho : o = true ∨ z.b ∈ bs
theorem divNew_own {a b : Nat} (z : (SR (nb (a / b)) × SR (nb (a % b))) ⊕ PLift (a < b)) : ∀ c ∈ divNew z, c.own = true := by
  intro c hc
  cases z with
  | inl z =>
    simp only [divNew, List.mem_cons, List.mem_nil_iff, or_false] at hc
    rcases hc with rfl | rfl <;> rfl
  | inr h => cases hc
theorem fs_new {B w : World} {L : List Blk} {x y : Blk} {c : Blk} {o : Bool} {bb : Option Nat} (h : LRel B L w) (k : Nat) {b : Blk} (hk : L[k]? = some b) (hb : b.base = bb) (hoo : b.own = o) (ho : o = true ∨ bb ∈ [x.base, y.base]) (hc : c.base = bb) : ∀ g, c.base = some g → B.heap.size ≤ g ∨ ∃ b0 ∈ [x, y], b0.base = some g := by
  intro g hg
  rcases ho with h1 | h1
  · exact .inl (own_new h k hk (by rw [hoo]; exact h1) g (by rw [hb, ← hc]; exact hg))
  · rw [hc] at hg
    subst hg
    simp only [List.mem_cons, List.mem_nil_iff, or_false] at h1
    rcases h1 with h1 | h1
    · exact .inr ⟨x, by simp, h1.symm⟩
    · exact .inr ⟨y, by simp, h1.symm⟩
theorem gcd_step8 {m n a b : Nat} (h : Nat.gcd m n = Nat.gcd a b) : Nat.gcd n (m % n) = Nat.gcd a b := by
  rw [← h, Nat.gcd_comm m n, Nat.gcd_rec n m, Nat.gcd_comm (m % n) n]
/-- the quotient and the remainder, whatever they are -/
theorem div_two {P : Program} {f a b : Nat} {x : SR (nb a)} {L0 : List Blk} {args : List Value} (hx : ∀ g, x.b = some g → ∃ b0 ∈ L0, b0.base = some g) (hL0 : L0[0]? = some ⟨x.b, 3, NV .i64 (D8 a), x.n, false⟩) (h : SCall P f L0 args ((SR (nb (a / b)) × SR (nb (a % b))) ⊕ PLift (a < b)) (divRes x) divNew) :
    SCallA P f L0 args (SR (nb (a / b)) × SR (nb (a % b))) (fun z => .tuple #[z.1.v, z.2.v]) (fun z => [⟨z.1.b, 3, NV .i64 (D8 (a / b)), z.1.n, false⟩, ⟨z.2.b, 3, NV .i64 (D8 (a % b)), z.2.n, false⟩]) := by
  refine ⟨h.1, fun w hL => (h.2 w hL).mono ?_⟩
  rintro e w' ⟨z, rfl, hz⟩
  cases z with
  | inl z =>
    refine ⟨z, rfl, hz.un, fun c hc g hg => .inl ?_⟩
    simp only [List.mem_cons, List.mem_nil_iff, or_false] at hc
    rcases hc with rfl | rfl
    · exact own_new hz 0 rfl rfl g hg
    · exact own_new hz 1 rfl rfl g hg
  | inr hlt =>
    have hlt := hlt.down
    refine ⟨(⟨none, 0, 0, by rw [Nat.div_eq_of_lt hlt, nb_zero]; exact Nat.le_refl _⟩, ⟨x.b, x.n, x.cap, by rw [Nat.mod_eq_of_lt hlt]; exact x.h⟩), ?_, ?_, fun c hc g hg => ?_⟩
    · show Ending.returned (.tuple #[Value.slice none 0 0, slv x.b 0 (nb a) x.cap]) = Ending.returned (.tuple #[slv none 0 (nb (a / b)) 0, slv x.b 0 (nb (a % b)) x.cap])
      rw [Nat.div_eq_of_lt hlt, Nat.mod_eq_of_lt hlt, nb_zero]; rfl
    · refine (hL.same (hz : LRel w [] w').below).picks [none, some 0] ⟨⟨rfl, by show NV .i64 (D8 (a / b)) = []; rw [Nat.div_eq_of_lt hlt]; exact NV_D8_0, rfl⟩, ⟨_, hL0, le_same (by show (⟨x.b, 3, NV .i64 (D8 (a % b)), x.n, false⟩ : Blk) = ⟨x.b, 3, NV .i64 (D8 a), x.n, false⟩; rw [Nat.mod_eq_of_lt hlt])⟩, trivial⟩ rfl rfl
    · simp only [List.mem_cons, List.mem_nil_iff, or_false] at hc
      rcases hc with rfl | rfl
      · cases hg
      · exact .inr (hx g hg)
end Go.Via
set_option linter.unusedVariables false
namespace Go.Proofs.YthnlafhnpphdhaaGreatDoor
open Go Go.RowKit Go.Via
set_option maxRecDepth 20000 in
theorem c_ref02_common (a b : Nat) (ha : nb a ≤ 1073740000) (hb : nb b ≤ 1073740000) (x : SR (nb a)) (y : SR (nb b)) : SCallA Tryz.prog 83 [⟨x.b, 3, NV .i64 (D8 a), x.n, false⟩, ⟨y.b, 3, NV .i64 (D8 b), y.n, false⟩] [x.v, y.v] (SR (nb (Nat.gcd a b))) SR.v (fun z => [⟨z.b, 3, NV .i64 (D8 (Nat.gcd a b)), z.n, false⟩]) := by
 refine ⟨by kernel_rfl, fun w hL0 => ?_⟩
 refine calls_at (args := [x.v, y.v]) Tryz.func83 rfl (Nat.le_of_ble_eq_true rfl) hL0 ?_
 show At w ⟨19, [(0, x.v), (1, y.v)], [⟨x.b, 3, NV .i64 (D8 a), x.n, false⟩, ⟨y.b, 3, NV .i64 (D8 b), y.n, false⟩]⟩ _
 refine at_seq ?_
 refine at_region ?_
 refine r_assign rfl rfl rfl ?_
 refine run_nil ?_
 refine at_tn ?_
 refine at_seq ?_
 refine at_block ?_
 refine enterL (nt := 19) (ι := (p : {p : Nat × Nat // Nat.gcd p.1 p.2 = Nat.gcd a b ∧ nb p.1 ≤ 1073740000 ∧ nb p.2 ≤ 1073740000}) × FS [x.b, y.b] (nb p.1.1) × FS [x.b, y.b] (nb p.1.2)) (fun ⟨⟨⟨m, n⟩, hg, hm, hn⟩, ⟨za, oa, hoa⟩, ⟨zb, ob, hob⟩⟩ => [(0, za.v), (1, zb.v)]) (fun ⟨⟨⟨m, n⟩, hg, hm, hn⟩, ⟨za, oa, hoa⟩, ⟨zb, ob, hob⟩⟩ => [⟨x.b, 3, NV .i64 (D8 a), x.n, false⟩, ⟨y.b, 3, NV .i64 (D8 b), y.n, false⟩, ⟨za.b, 3, NV .i64 (D8 (m)), za.n, oa⟩, ⟨zb.b, 3, NV .i64 (D8 (n)), zb.n, ob⟩]) (fun ⟨⟨⟨m, n⟩, hg, hm, hn⟩, ⟨za, oa, hoa⟩, ⟨zb, ob, hob⟩⟩ => n) ⟨⟨(a, b), rfl, ha, hb⟩, ⟨x, false, .inr (by simp)⟩, ⟨y, false, .inr (by simp)⟩⟩ ⟨rfl, rfl, trivial⟩ (weak_picks [some 0, some 1, some 0, some 1] ⟨⟨_, rfl, Blk.le_refl _⟩, ⟨_, rfl, Blk.le_refl _⟩, ⟨_, rfl, Blk.le_refl _⟩, ⟨_, rfl, Blk.le_refl _⟩, trivial⟩ rfl rfl) ?_
 rintro ⟨⟨⟨m, n⟩, hg, hm, hn⟩, ⟨za, oa, hoa⟩, ⟨zb, ob, hob⟩⟩
 show At _ ⟨19, [(0, za.v), (1, zb.v)], [⟨x.b, 3, NV .i64 (D8 a), x.n, false⟩, ⟨y.b, 3, NV .i64 (D8 b), y.n, false⟩, ⟨za.b, 3, NV .i64 (D8 (m)), za.n, oa⟩, ⟨zb.b, 3, NV .i64 (D8 (n)), zb.n, ob⟩]⟩ _
 replace hm : nb m ≤ 1073740000 := hm
 replace hn : nb n ≤ 1073740000 := hn
 replace hg : Nat.gcd m n = Nat.gcd a b := hg
 refine at_seq ?_
 refine at_seq ?_
 refine at_region ?_
 refine r_move rfl rfl rfl ?_
 refine r_lenS u85 rfl rfl rfl ?_
 refine r_cmpInt rfl rfl rfl rfl rfl ?_
 refine run_nil ?_
 refine at_tn ?_
 refine at_cond rfl (fun hb1 => ?_) (fun hb1 => ?_)
 ·
  have hn0 : 0 < n := Nat.pos_of_ne_zero (fun e => by subst e; rw [nb_zero] at hb1; cases hb1)
  refine at_skip ?_
  refine at_tn ?_
  refine at_block ?_
  refine at_seq ?_
  refine at_region ?_
  refine r_move rfl rfl rfl ?_
  refine r_move rfl rfl rfl ?_
  refine r_scall [_, _] [2, 3] rfl rfl rfl (c_ref02_divide m n hn0 hm hn za zb) ⟨⟨_, rfl, le_share⟩, ⟨_, rfl, le_share⟩, trivial⟩ rfl (.inr divNew_own) (fun z => ?_)
  rcases z with z | hlt
  ·
   refine r_move rfl rfl rfl ?_
   refine r_extract (vs := [_, _]) rfl rfl rfl rfl ?_
   refine r_extract (vs := [_, _]) rfl rfl rfl rfl ?_
   refine r_assign rfl rfl rfl ?_
   refine r_assign rfl rfl rfl ?_
   refine run_nil ?_
   refine at_tn ?_
   refine at_region ?_
   refine r_move rfl rfl rfl ?_
   refine r_move rfl rfl rfl ?_
   refine r_assign rfl rfl rfl ?_
   refine r_assign rfl rfl rfl ?_
   refine run_nil ?_
   refine at_bn ?_
   refine at_tn ?_
   exact nextL ⟨⟨(n, m % n), gcd_step8 hg, hn, Nat.le_trans (nb_mono (Nat.mod_le _ _)) hm⟩, ⟨zb, ob, hob⟩, ⟨z.2, true, .inl rfl⟩⟩ (Nat.mod_lt _ hn0) ⟨rfl, rfl, trivial⟩ (weak_picks [some 0, some 1, some 3, some 5] ⟨⟨_, rfl, Blk.le_refl _⟩, ⟨_, rfl, Blk.le_refl _⟩, ⟨_, rfl, Blk.le_refl _⟩, ⟨_, rfl, Blk.le_refl _⟩, trivial⟩ rfl (by cases ob <;> rfl))
  ·
   have hlt := hlt.down
   refine r_move rfl rfl rfl ?_
   refine r_extract (vs := [_, _]) rfl rfl rfl rfl ?_
   refine r_extract (vs := [_, _]) rfl rfl rfl rfl ?_
   refine r_assign rfl rfl rfl ?_
   refine r_assign rfl rfl rfl ?_
   refine run_nil ?_
   refine at_tn ?_
   refine at_region ?_
   refine r_move rfl rfl rfl ?_
   refine r_move rfl rfl rfl ?_
   refine r_assign rfl rfl rfl ?_
   refine r_assign rfl rfl rfl ?_
   refine run_nil ?_
   refine at_bn ?_
   refine at_tn ?_
   exact nextL ⟨⟨(n, m), (Nat.gcd_comm n m).trans hg, hn, hm⟩, ⟨zb, ob, hob⟩, ⟨za, oa, hoa⟩⟩ hlt ⟨rfl, rfl, trivial⟩ (weak_picks [some 0, some 1, some 3, some 2] ⟨⟨_, rfl, Blk.le_refl _⟩, ⟨_, rfl, Blk.le_refl _⟩, ⟨_, rfl, Blk.le_refl _⟩, ⟨_, rfl, Blk.le_refl _⟩, trivial⟩ rfl (by cases oa <;> cases ob <;> rfl))
 ·
  have hn1 : n = 0 := Classical.byContradiction fun e => by have := nb_pos e; have hz : ¬ ((0 : Int) < ((nb n : Nat) : Int)) := of_decide_eq_false hb1; omega
  subst hn1
  rw [Nat.gcd_zero_right] at hg
  replace hg : m = Nat.gcd a b := hg
  subst hg
  refine at_exit ?_
  refine at_te ?_
  refine at_te ?_
  refine at_be ?_
  refine at_tn ?_
  refine at_seq ?_
  refine at_region ?_
  refine r_move rfl rfl rfl ?_
  refine r_assign rfl rfl rfl ?_
  refine run_nil ?_
  refine at_tn ?_
  refine at_ret ?_
  refine at_end1 rfl (res_tmp rfl) (fun w hL => ⟨za, ?_, hL.picks [some 2] ⟨⟨_, rfl, le_share⟩, trivial⟩ rfl rfl, fun c hc => ?_⟩)
  · rfl
  · rw [List.mem_singleton.1 hc]
    exact fs_new hL 2 rfl rfl rfl hoa rfl
end Go.Proofs.YthnlafhnpphdhaaGreatDoor
set_option linter.unusedVariables false
namespace Go.Proofs.YthnlafhnpphdhaaGreatDoor
open Go Go.RowKit Go.Via
set_option maxRecDepth 20000 in
theorem c_ref02_times (a b : Nat) (ha : nb a ≤ 500000000) (hb : nb b ≤ 500000000) (x : SR (nb a)) (y : SR (nb b)) : SCall Tryz.prog 96 [⟨x.b, 3, NV .i64 (D8 a), x.n, false⟩, ⟨y.b, 3, NV .i64 (D8 b), y.n, false⟩] [x.v, y.v] (SR (nb (a * b))) SR.v (fun x => [⟨x.b, 3, NV .i64 (D8 (a * b)), x.n, true⟩]) := by
 refine ⟨by kernel_rfl, fun w hL0 => ?_⟩
 refine calls_at (args := [x.v, y.v]) Tryz.func96 rfl (Nat.le_of_ble_eq_true rfl) hL0 ?_
 show At w ⟨67, [(0, x.v), (1, y.v)], [⟨x.b, 3, NV .i64 (D8 a), x.n, false⟩, ⟨y.b, 3, NV .i64 (D8 b), y.n, false⟩]⟩ _
 refine at_seq ?_
 refine at_region ?_
 refine r_assign rfl rfl rfl ?_
 refine run_nil ?_
 refine at_tn ?_
 refine at_seq ?_
 refine at_region ?_
 refine r_move rfl rfl rfl ?_
 refine r_lenS u85 rfl rfl rfl ?_
 refine r_move rfl rfl rfl ?_
 refine r_lenS u85 rfl rfl rfl ?_
 refine r_arith (r := ((nb a + nb b : Nat) : Int)) rfl rfl rfl rfl (congrArg some (wi (by omega) (by omega) (by omega))) ?_
 refine r_arith (r := (((nb a + nb b + 1) : Nat) : Int)) rfl rfl rfl rfl (congrArg some (wi (by omega) (by omega) (by omega))) ?_
 refine q_makeSlice (c := (nb a + nb b + 1)) (NV .i64 (row (nb a + nb b + 1) (mu8R a b 0))) (fun g => [_, _, ⟨some g, 3, _, _, true⟩]) u85 el3 rfl rfl rfl rfl rfl rfl (by omega) (by rw [row_congr (g := fun _ => 0) (fun j _ => mu8R_zero a b j), row_zero, NV_replicate]) (fun _ => rfl) (fun g0 => ?_)
 refine r_assign rfl rfl rfl ?_
 refine run_nil ?_
 refine at_tn ?_
 refine at_seq ?_
 refine at_seq ?_
 refine at_region ?_
 refine r_assign rfl rfl rfl ?_
 refine run_nil ?_
 refine at_tn ?_
 refine at_block ?_
 refine enterL (nt := 67) (ι := {i : Nat // i ≤ nb a}) (fun ⟨i, hi⟩ => [(0, x.v), (1, y.v), (5, slv (some g0) 0 (nb a + nb b + 1) (nb a + nb b + 1)), (6, .int .i64 (i : Nat))]) (fun ⟨i, hi⟩ => [⟨x.b, 3, NV .i64 (D8 a), x.n, false⟩, ⟨y.b, 3, NV .i64 (D8 b), y.n, false⟩, ⟨some g0, 3, NV .i64 (row (nb a + nb b + 1) (mu8R a b i)), (nb a + nb b + 1), true⟩]) (fun ⟨i, hi⟩ => nb a - i) ⟨0, Nat.zero_le _⟩ ⟨rfl, rfl, rfl, rfl, trivial⟩ (Weak.refl _) ?_
 rintro ⟨i, hi⟩
 show At _ ⟨67, [(0, x.v), (1, y.v), (5, slv (some g0) 0 (nb a + nb b + 1) (nb a + nb b + 1)), (6, .int .i64 (i : Nat))], [⟨x.b, 3, NV .i64 (D8 a), x.n, false⟩, ⟨y.b, 3, NV .i64 (D8 b), y.n, false⟩, ⟨some g0, 3, NV .i64 (row (nb a + nb b + 1) (mu8R a b i)), (nb a + nb b + 1), true⟩]⟩ _
 refine at_seq ?_
 refine at_seq ?_
 refine at_region ?_
 refine r_move rfl rfl rfl ?_
 refine r_move rfl rfl rfl ?_
 refine r_lenS u85 rfl rfl rfl ?_
 refine r_cmpInt rfl rfl rfl rfl rfl ?_
 refine run_nil ?_
 refine at_tn ?_
 refine at_cond rfl (fun hb1 => ?_) (fun hb1 => ?_)
 ·
  have hlt : i < nb a := (by have := of_decide_eq_true hb1; omega)
  refine at_skip ?_
  refine at_tn ?_
  refine at_seq ?_
  refine at_block ?_
  refine at_seq ?_
  refine at_region ?_
  refine r_assign rfl rfl rfl ?_
  refine run_nil ?_
  refine at_tn ?_
  refine at_seq ?_
  refine at_region ?_
  refine r_assign rfl rfl rfl ?_
  refine run_nil ?_
  refine at_tn ?_
  refine at_block ?_
  refine enterL (nt := 67) (ι := {k : Nat // k ≤ nb b + 1}) (fun ⟨k, hk⟩ => [(0, x.v), (1, y.v), (5, slv (some g0) 0 (nb a + nb b + 1) (nb a + nb b + 1)), (6, .int .i64 (i : Nat)), (7, .int .i64 (mu8C a b i k : Nat)), (8, .int .i64 (k : Nat))]) (fun ⟨k, hk⟩ => [⟨x.b, 3, NV .i64 (D8 a), x.n, false⟩, ⟨y.b, 3, NV .i64 (D8 b), y.n, false⟩, ⟨some g0, 3, NV .i64 (row (nb a + nb b + 1) (mu8T a b i k)), (nb a + nb b + 1), true⟩]) (fun ⟨k, hk⟩ => nb b + 1 - k) ⟨0, Nat.zero_le _⟩ ⟨rfl, rfl, rfl, rfl, (look_val rfl (by rw [mu8C_zero]; rfl)), rfl, trivial⟩ (weak_eq (congrArg (fun c => [⟨x.b, 3, NV .i64 (D8 a), x.n, false⟩, ⟨y.b, 3, NV .i64 (D8 b), y.n, false⟩, (⟨some g0, 3, NV .i64 c, (nb a + nb b + 1), true⟩ : Blk)]) (row_congr fun j _ => (mu8T_zero a b i j).symm))) ?_
  rintro ⟨k, hk⟩
  show At _ ⟨67, [(0, x.v), (1, y.v), (5, slv (some g0) 0 (nb a + nb b + 1) (nb a + nb b + 1)), (6, .int .i64 (i : Nat)), (7, .int .i64 (mu8C a b i k : Nat)), (8, .int .i64 (k : Nat))], [⟨x.b, 3, NV .i64 (D8 a), x.n, false⟩, ⟨y.b, 3, NV .i64 (D8 b), y.n, false⟩, ⟨some g0, 3, NV .i64 (row (nb a + nb b + 1) (mu8T a b i k)), (nb a + nb b + 1), true⟩]⟩ _
  refine at_seq ?_
  refine at_seq ?_
  refine at_region ?_
  refine r_move rfl rfl rfl ?_
  refine r_move rfl rfl rfl ?_
  refine r_lenS u85 rfl rfl rfl ?_
  refine r_cmpInt rfl rfl rfl rfl rfl ?_
  refine r_move rfl rfl rfl ?_
  refine r_split 27 rfl (fun hb3 => ?_) (fun hb3 => ?_)
  ·
   have hkb : k < nb b := (by have := of_decide_eq_true hb3; omega)
   have hkm : k ≤ nb b := by omega
   have hcl := mu8C_lt a b i k
   have hvx := m256 (mu8V a b i / 256 ^ (i + k))
   have hdm := dmul8 (a / 256 ^ i) (b / 256 ^ k)
   have hax := m256 (a / 256 ^ i)
   have hbx := m256 (b / 256 ^ k)
   refine r_no rfl rfl rfl ?_
   refine r_no rfl rfl rfl ?_
   refine r_pickT rfl rfl rfl rfl ?_
   refine run_nil ?_
   refine at_tn ?_
   refine at_condT rfl ?_
   refine at_skip ?_
   refine at_tn ?_
   refine at_seq ?_
   refine at_block ?_
   refine at_seq ?_
   refine at_region ?_
   refine r_move rfl rfl rfl ?_
   refine r_move rfl rfl rfl ?_
   refine r_move rfl rfl rfl ?_
   refine r_arith (r := ((i + k : Nat) : Int)) rfl rfl rfl rfl (congrArg some (wi (by omega) (by omega) (by omega))) ?_
   refine r_indexAddr 2 (i + k) u85 ti3 rfl rfl rfl rfl rfl (by omega) (by omega) (NV_ne (by rw [row_length]; omega)) (by show 0 + Int.toNat _ * 1 = _; omega) ?_
   refine r_load1 2 (i + k) ti3 rfl rfl rfl rfl (NV_get ((row_get (by omega)).trans (by rw [mu8T_at]))) ?_
   refine r_move rfl rfl rfl ?_
   refine r_arith (r := ((mu8V a b i / 256 ^ (i + k) % 256 + mu8C a b i k : Nat) : Int)) rfl rfl rfl rfl (congrArg some (wi (by omega) (by omega) (by omega))) ?_
   refine r_assign rfl rfl rfl ?_
   refine run_nil ?_
   refine at_tn ?_
   refine at_seq ?_
   refine at_seq ?_
   refine at_region ?_
   refine r_move rfl rfl rfl ?_
   refine r_move rfl rfl rfl ?_
   refine r_lenS u85 rfl rfl rfl ?_
   refine r_cmpInt rfl rfl rfl rfl rfl ?_
   refine run_nil ?_
   refine at_tn ?_
   refine at_cond rfl (fun hb4 => ?_) (fun hb4 => ?_)
   ·
    have hkj : k < nb b := (by have := of_decide_eq_true hb4; omega)
    have hcl := mu8C_lt a b i k
    have hvx := m256 (mu8V a b i / 256 ^ (i + k))
    have hdm := dmul8 (a / 256 ^ i) (b / 256 ^ k)
    have hax := m256 (a / 256 ^ i)
    have hbx := m256 (b / 256 ^ k)
    refine at_drawn (l' := [⟨_,_,_,_,_,_⟩, ⟨_,_,_,_,_,_⟩, ⟨_,_,_,_,_,_⟩, ⟨_,_,_,_,_,_⟩, ⟨_,_,_,_,_,_⟩, ⟨_,_,_,_,_,_⟩, ⟨_,_,_,_,_,_⟩, ⟨_,_,_,_,_,_⟩, ⟨_,_,_,_,_,_⟩, ⟨_,_,_,_,_,_⟩, ⟨_,_,_,_,_,_⟩, ⟨_,_,_,_,_,_⟩]) [] [0, 1, 2, 3, 4, 5, 6, 7, 8, 9, 10, 11] mixed (by kernel_rfl) rfl (by kernel_rfl) ?_
    refine r_move rfl rfl rfl ?_
    refine r_move rfl rfl rfl ?_
    refine r_move rfl rfl rfl ?_
    refine r_indexAddr 0 (i) u85 ti3 rfl rfl rfl rfl rfl (by omega) (by omega) (NV_ne (by rw [D8_length]; omega)) (by show 0 + Int.toNat _ * 1 = _; omega) ?_
    refine r_load1 0 (i) ti3 rfl rfl rfl rfl (NV_get (D8_get (by omega))) ?_
    refine r_move rfl rfl rfl ?_
    refine r_move rfl rfl rfl ?_
    refine r_indexAddr 1 (k) u85 ti3 rfl rfl rfl rfl rfl (by omega) (by omega) (NV_ne (by rw [D8_length]; omega)) (by show 0 + Int.toNat _ * 1 = _; omega) ?_
    refine r_load1 1 (k) ti3 rfl rfl rfl rfl (NV_get (D8_get (by omega))) ?_
    refine r_arith (r := ((a / 256 ^ i % 256 * (b / 256 ^ k % 256) : Nat) : Int)) rfl rfl rfl rfl (congrArg some (wi (by rw [← Int.natCast_mul]; omega) (by rw [← Int.natCast_mul]; omega) (Int.natCast_mul _ _).symm)) ?_
    refine r_arith (r := ((mu8S a b i k : Nat) : Int)) rfl rfl rfl rfl (congrArg some (wi (by omega) (by omega) (by unfold mu8S; omega))) ?_
    refine r_assign rfl rfl rfl ?_
    refine run_nil ?_
    refine at_tn ?_
    refine at_region ?_
    refine r_move rfl rfl rfl ?_
    refine r_move rfl rfl rfl ?_
    refine r_move rfl rfl rfl ?_
    refine r_arith (r := ((i + k : Nat) : Int)) rfl rfl rfl rfl (congrArg some (wi (by omega) (by omega) (by omega))) ?_
    refine r_move rfl rfl rfl ?_
    refine r_div (r := ((mu8S a b i k % 256 : Nat) : Int)) rfl rfl rfl rfl (by omega) (congrArg some (rem_n _ 256 rfl rfl)) ?_
    refine r_move rfl rfl rfl ?_
    refine r_div (r := ((mu8C a b i (k + 1) : Nat) : Int)) rfl rfl rfl rfl (by omega) (congrArg some ((quo_i _ 256 rfl rfl (by have := mu8S_lt8 a b i k; omega)).trans (by rw [mu8S_carry]))) ?_
    refine r_indexAddr 2 (i + k) u85 ti3 rfl rfl rfl rfl rfl (by omega) (by omega) (NV_ne (by rw [row_length]; omega)) (by show 0 + Int.toNat _ * 1 = _; omega) ?_
    refine r_store1 rfl 2 (i + k) [_, _, ⟨some g0, 3, _, _, true⟩] (NV .i64 (row (nb a + nb b + 1) (mu8T a b i (k + 1)))) ti3 rfl rfl rfl rfl rfl rfl rfl rfl (by rw [NV_length, row_length]; omega) (by rw [NV_set, row_set (fun j _ => mu8T_step a b i k j)]) rfl ?_
    refine r_assign rfl rfl rfl ?_
    refine run_nil ?_
    refine at_bn ?_
    refine at_tn ?_
    refine at_region ?_
    refine r_move rfl rfl rfl ?_
    refine r_arith (r := ((k + 1 : Nat) : Int)) rfl rfl rfl rfl (congrArg some (wi (by omega) (by omega) (by omega))) ?_
    refine r_assign rfl rfl rfl ?_
    refine run_nil ?_
    refine at_tn ?_
    exact nextL ⟨k + 1, Nat.succ_le_succ hkm⟩ (by show nb b + 1 - (k + 1) < nb b + 1 - k; omega) ⟨rfl, rfl, rfl, rfl, rfl, rfl, trivial⟩ (Weak.refl _)
   ·
    have hkj : nb b ≤ k := (by have := of_decide_eq_false hb4; omega)
    have hcl := mu8C_lt a b i k
    have hvx := m256 (mu8V a b i / 256 ^ (i + k))
    have hdm := dmul8 (a / 256 ^ i) (b / 256 ^ k)
    have hax := m256 (a / 256 ^ i)
    have hbx := m256 (b / 256 ^ k)
    refine at_know 9 (.int .i64 (mu8S a b i k : Nat)) rfl (congrArg (Value.int .i64) (by unfold mu8S; rw [dg8_above hkj]; omega)) ?_
    have hS : mu8S a b i k < 131072 := by rw [mu8S_high a b i hkj]; omega
    refine at_skip ?_
    refine at_tn ?_
    refine at_region ?_
    refine r_move rfl rfl rfl ?_
    refine r_move rfl rfl rfl ?_
    refine r_move rfl rfl rfl ?_
    refine r_arith (r := ((i + k : Nat) : Int)) rfl rfl rfl rfl (congrArg some (wi (by omega) (by omega) (by omega))) ?_
    refine r_move rfl rfl rfl ?_
    refine r_div (r := ((mu8S a b i k % 256 : Nat) : Int)) rfl rfl rfl rfl (by omega) (congrArg some (rem_n _ 256 rfl rfl)) ?_
    refine r_move rfl rfl rfl ?_
    refine r_div (r := ((mu8C a b i (k + 1) : Nat) : Int)) rfl rfl rfl rfl (by omega) (congrArg some ((quo_i _ 256 rfl rfl (by have := mu8S_lt8 a b i k; omega)).trans (by rw [mu8S_carry]))) ?_
    refine r_indexAddr 2 (i + k) u85 ti3 rfl rfl rfl rfl rfl (by omega) (by omega) (NV_ne (by rw [row_length]; omega)) (by show 0 + Int.toNat _ * 1 = _; omega) ?_
    refine r_store1 rfl 2 (i + k) [_, _, ⟨some g0, 3, _, _, true⟩] (NV .i64 (row (nb a + nb b + 1) (mu8T a b i (k + 1)))) ti3 rfl rfl rfl rfl rfl rfl rfl rfl (by rw [NV_length, row_length]; omega) (by rw [NV_set, row_set (fun j _ => mu8T_step a b i k j)]) rfl ?_
    refine r_assign rfl rfl rfl ?_
    refine run_nil ?_
    refine at_bn ?_
    refine at_tn ?_
    refine at_region ?_
    refine r_move rfl rfl rfl ?_
    refine r_arith (r := ((k + 1 : Nat) : Int)) rfl rfl rfl rfl (congrArg some (wi (by omega) (by omega) (by omega))) ?_
    refine r_assign rfl rfl rfl ?_
    refine run_nil ?_
    refine at_tn ?_
    exact nextL ⟨k + 1, Nat.succ_le_succ hkm⟩ (by show nb b + 1 - (k + 1) < nb b + 1 - k; omega) ⟨rfl, rfl, rfl, rfl, rfl, rfl, trivial⟩ (Weak.refl _)
  ·
   have hkb : nb b ≤ k := (by have := of_decide_eq_false hb3; omega)
   refine r_move rfl rfl rfl ?_
   refine r_cmpInt rfl rfl rfl rfl rfl ?_
   refine r_pickF rfl rfl rfl rfl ?_
   refine run_nil ?_
   refine at_tn ?_
   refine at_cond rfl (fun hb4 => ?_) (fun hb4 => ?_)
   ·
    have hkm := mu8_more a b i k (by have := of_decide_eq_true hb4; omega)
    have hcl := mu8C_lt a b i k
    have hvx := m256 (mu8V a b i / 256 ^ (i + k))
    have hdm := dmul8 (a / 256 ^ i) (b / 256 ^ k)
    have hax := m256 (a / 256 ^ i)
    have hbx := m256 (b / 256 ^ k)
    refine at_skip ?_
    refine at_tn ?_
    refine at_seq ?_
    refine at_block ?_
    refine at_seq ?_
    refine at_region ?_
    refine r_move rfl rfl rfl ?_
    refine r_move rfl rfl rfl ?_
    refine r_move rfl rfl rfl ?_
    refine r_arith (r := ((i + k : Nat) : Int)) rfl rfl rfl rfl (congrArg some (wi (by omega) (by omega) (by omega))) ?_
    refine r_indexAddr 2 (i + k) u85 ti3 rfl rfl rfl rfl rfl (by omega) (by omega) (NV_ne (by rw [row_length]; omega)) (by show 0 + Int.toNat _ * 1 = _; omega) ?_
    refine r_load1 2 (i + k) ti3 rfl rfl rfl rfl (NV_get ((row_get (by omega)).trans (by rw [mu8T_at]))) ?_
    refine r_move rfl rfl rfl ?_
    refine r_arith (r := ((mu8V a b i / 256 ^ (i + k) % 256 + mu8C a b i k : Nat) : Int)) rfl rfl rfl rfl (congrArg some (wi (by omega) (by omega) (by omega))) ?_
    refine r_assign rfl rfl rfl ?_
    refine run_nil ?_
    refine at_tn ?_
    refine at_seq ?_
    refine at_seq ?_
    refine at_region ?_
    refine r_move rfl rfl rfl ?_
    refine r_move rfl rfl rfl ?_
    refine r_lenS u85 rfl rfl rfl ?_
    refine r_cmpInt rfl rfl rfl rfl rfl ?_
    refine run_nil ?_
    refine at_tn ?_
    refine at_cond rfl (fun hb5 => ?_) (fun hb5 => ?_)
    ·
     have hkj : k < nb b := (by have := of_decide_eq_true hb5; omega)
     have hcl := mu8C_lt a b i k
     have hvx := m256 (mu8V a b i / 256 ^ (i + k))
     have hdm := dmul8 (a / 256 ^ i) (b / 256 ^ k)
     have hax := m256 (a / 256 ^ i)
     have hbx := m256 (b / 256 ^ k)
     refine at_drawn (l' := [⟨_,_,_,_,_,_⟩, ⟨_,_,_,_,_,_⟩, ⟨_,_,_,_,_,_⟩, ⟨_,_,_,_,_,_⟩, ⟨_,_,_,_,_,_⟩, ⟨_,_,_,_,_,_⟩, ⟨_,_,_,_,_,_⟩, ⟨_,_,_,_,_,_⟩, ⟨_,_,_,_,_,_⟩, ⟨_,_,_,_,_,_⟩, ⟨_,_,_,_,_,_⟩, ⟨_,_,_,_,_,_⟩]) [] [0, 1, 2, 3, 4, 5, 6, 7, 8, 9, 10, 11] mixed (by kernel_rfl) rfl (by kernel_rfl) ?_
     refine r_move rfl rfl rfl ?_
     refine r_move rfl rfl rfl ?_
     refine r_move rfl rfl rfl ?_
     refine r_indexAddr 0 (i) u85 ti3 rfl rfl rfl rfl rfl (by omega) (by omega) (NV_ne (by rw [D8_length]; omega)) (by show 0 + Int.toNat _ * 1 = _; omega) ?_
     refine r_load1 0 (i) ti3 rfl rfl rfl rfl (NV_get (D8_get (by omega))) ?_
     refine r_move rfl rfl rfl ?_
     refine r_move rfl rfl rfl ?_
     refine r_indexAddr 1 (k) u85 ti3 rfl rfl rfl rfl rfl (by omega) (by omega) (NV_ne (by rw [D8_length]; omega)) (by show 0 + Int.toNat _ * 1 = _; omega) ?_
     refine r_load1 1 (k) ti3 rfl rfl rfl rfl (NV_get (D8_get (by omega))) ?_
     refine r_arith (r := ((a / 256 ^ i % 256 * (b / 256 ^ k % 256) : Nat) : Int)) rfl rfl rfl rfl (congrArg some (wi (by rw [← Int.natCast_mul]; omega) (by rw [← Int.natCast_mul]; omega) (Int.natCast_mul _ _).symm)) ?_
     refine r_arith (r := ((mu8S a b i k : Nat) : Int)) rfl rfl rfl rfl (congrArg some (wi (by omega) (by omega) (by unfold mu8S; omega))) ?_
     refine r_assign rfl rfl rfl ?_
     refine run_nil ?_
     refine at_tn ?_
     refine at_region ?_
     refine r_move rfl rfl rfl ?_
     refine r_move rfl rfl rfl ?_
     refine r_move rfl rfl rfl ?_
     refine r_arith (r := ((i + k : Nat) : Int)) rfl rfl rfl rfl (congrArg some (wi (by omega) (by omega) (by omega))) ?_
     refine r_move rfl rfl rfl ?_
     refine r_div (r := ((mu8S a b i k % 256 : Nat) : Int)) rfl rfl rfl rfl (by omega) (congrArg some (rem_n _ 256 rfl rfl)) ?_
     refine r_move rfl rfl rfl ?_
     refine r_div (r := ((mu8C a b i (k + 1) : Nat) : Int)) rfl rfl rfl rfl (by omega) (congrArg some ((quo_i _ 256 rfl rfl (by have := mu8S_lt8 a b i k; omega)).trans (by rw [mu8S_carry]))) ?_
     refine r_indexAddr 2 (i + k) u85 ti3 rfl rfl rfl rfl rfl (by omega) (by omega) (NV_ne (by rw [row_length]; omega)) (by show 0 + Int.toNat _ * 1 = _; omega) ?_
     refine r_store1 rfl 2 (i + k) [_, _, ⟨some g0, 3, _, _, true⟩] (NV .i64 (row (nb a + nb b + 1) (mu8T a b i (k + 1)))) ti3 rfl rfl rfl rfl rfl rfl rfl rfl (by rw [NV_length, row_length]; omega) (by rw [NV_set, row_set (fun j _ => mu8T_step a b i k j)]) rfl ?_
     refine r_assign rfl rfl rfl ?_
     refine run_nil ?_
     refine at_bn ?_
     refine at_tn ?_
     refine at_region ?_
     refine r_move rfl rfl rfl ?_
     refine r_arith (r := ((k + 1 : Nat) : Int)) rfl rfl rfl rfl (congrArg some (wi (by omega) (by omega) (by omega))) ?_
     refine r_assign rfl rfl rfl ?_
     refine run_nil ?_
     refine at_tn ?_
     exact nextL ⟨k + 1, Nat.succ_le_succ hkm⟩ (by show nb b + 1 - (k + 1) < nb b + 1 - k; omega) ⟨rfl, rfl, rfl, rfl, rfl, rfl, trivial⟩ (Weak.refl _)
    ·
     have hkj : nb b ≤ k := (by have := of_decide_eq_false hb5; omega)
     have hcl := mu8C_lt a b i k
     have hvx := m256 (mu8V a b i / 256 ^ (i + k))
     have hdm := dmul8 (a / 256 ^ i) (b / 256 ^ k)
     have hax := m256 (a / 256 ^ i)
     have hbx := m256 (b / 256 ^ k)
     refine at_know 9 (.int .i64 (mu8S a b i k : Nat)) rfl (congrArg (Value.int .i64) (by unfold mu8S; rw [dg8_above hkj]; omega)) ?_
     have hS : mu8S a b i k < 131072 := by rw [mu8S_high a b i hkj]; omega
     refine at_skip ?_
     refine at_tn ?_
     refine at_region ?_
     refine r_move rfl rfl rfl ?_
     refine r_move rfl rfl rfl ?_
     refine r_move rfl rfl rfl ?_
     refine r_arith (r := ((i + k : Nat) : Int)) rfl rfl rfl rfl (congrArg some (wi (by omega) (by omega) (by omega))) ?_
     refine r_move rfl rfl rfl ?_
     refine r_div (r := ((mu8S a b i k % 256 : Nat) : Int)) rfl rfl rfl rfl (by omega) (congrArg some (rem_n _ 256 rfl rfl)) ?_
     refine r_move rfl rfl rfl ?_
     refine r_div (r := ((mu8C a b i (k + 1) : Nat) : Int)) rfl rfl rfl rfl (by omega) (congrArg some ((quo_i _ 256 rfl rfl (by have := mu8S_lt8 a b i k; omega)).trans (by rw [mu8S_carry]))) ?_
     refine r_indexAddr 2 (i + k) u85 ti3 rfl rfl rfl rfl rfl (by omega) (by omega) (NV_ne (by rw [row_length]; omega)) (by show 0 + Int.toNat _ * 1 = _; omega) ?_
     refine r_store1 rfl 2 (i + k) [_, _, ⟨some g0, 3, _, _, true⟩] (NV .i64 (row (nb a + nb b + 1) (mu8T a b i (k + 1)))) ti3 rfl rfl rfl rfl rfl rfl rfl rfl (by rw [NV_length, row_length]; omega) (by rw [NV_set, row_set (fun j _ => mu8T_step a b i k j)]) rfl ?_
     refine r_assign rfl rfl rfl ?_
     refine run_nil ?_
     refine at_bn ?_
     refine at_tn ?_
     refine at_region ?_
     refine r_move rfl rfl rfl ?_
     refine r_arith (r := ((k + 1 : Nat) : Int)) rfl rfl rfl rfl (congrArg some (wi (by omega) (by omega) (by omega))) ?_
     refine r_assign rfl rfl rfl ?_
     refine run_nil ?_
     refine at_tn ?_
     exact nextL ⟨k + 1, Nat.succ_le_succ hkm⟩ (by show nb b + 1 - (k + 1) < nb b + 1 - k; omega) ⟨rfl, rfl, rfl, rfl, rfl, rfl, trivial⟩ (Weak.refl _)
   ·
    have hc0 : mu8C a b i k = 0 := by have := of_decide_eq_false hb4; omega
    refine at_exit ?_
    refine at_te ?_
    refine at_te ?_
    refine at_be ?_
    refine at_bn ?_
    refine at_tn ?_
    refine at_region ?_
    refine r_move rfl rfl rfl ?_
    refine r_arith (r := ((i + 1 : Nat) : Int)) rfl rfl rfl rfl (congrArg some (wi (by omega) (by omega) (by omega))) ?_
    refine r_assign rfl rfl rfl ?_
    refine run_nil ?_
    refine at_tn ?_
    exact nextL ⟨i + 1, hlt⟩ (by simp only []; omega) ⟨rfl, rfl, rfl, rfl, trivial⟩ (weak_eq (congrArg (fun c => [⟨x.b, 3, NV .i64 (D8 a), x.n, false⟩, ⟨y.b, 3, NV .i64 (D8 b), y.n, false⟩, (⟨some g0, 3, NV .i64 c, (nb a + nb b + 1), true⟩ : Blk)]) (row_congr fun j _ => mu8T_done a b i k j hkb hc0)))
 ·
  have hge : i = nb a := (by have := of_decide_eq_false hb1; omega)
  subst hge
  refine at_exit ?_
  refine at_te ?_
  refine at_te ?_
  refine at_be ?_
  refine at_tn ?_
  refine at_seq ?_
  refine at_region ?_
  refine r_move rfl rfl rfl ?_
  refine r_scall0 [_] [2] rfl rfl rfl (c_ref02_trim (row (nb a + nb b + 1) (mu8R a b (nb a))) (row_lt fun j => mu8R_lt _ _ _ j) (by rw [row_length]; omega) (row_length _ _) ⟨some g0, _, _, Nat.le_refl _⟩) ⟨⟨_, rfl, le_share⟩, trivial⟩ rfl ?_
  refine r_know 66 (slv (some g0) 0 (nb (a * b)) (nb a + nb b + 1)) rfl (by rw [mu8_trim]; rfl) ?_
  refine r_assign rfl rfl rfl ?_
  refine run_nil ?_
  refine at_tn ?_
  refine at_ret ?_
  refine at_end1 rfl (res_tmp rfl) (fun w hL => ⟨⟨some g0, (nb a + nb b + 1), (nb a + nb b + 1), Nat.le_trans (nb_mul a b) (by omega)⟩, rfl, ?_⟩)
  exact hL.picks [some 2] ⟨⟨_, rfl, rfl, rfl, rfl, ⟨nb (a * b), mu8_take a b⟩, fun _ => rfl⟩, trivial⟩ rfl rfl
end Go.Proofs.YthnlafhnpphdhaaGreatDoor
set_option linter.unusedVariables false
set_option linter.unusedSimpArgs false
namespace Go.Via
open Go Go.RowKit
/-- the denominator as it is written: 0 for 1 -/
def dz (q : Rat) : Int := if q.den = 1 then 0 else q.den
theorem dz_eq (q : Rat) : Value.agg #[.bool false, .string (dm q)] = I (dz q) := by
  unfold dz dm I
  by_cases h : q.den = 1
  · simp only [if_pos h]
    rw [show (0 : Int).natAbs = 0 from rfl, mag_zero]; rfl
  · simp only [if_neg h, Int.natAbs_natCast]
    rw [show decide (((q.den : Nat) : Int) < 0) = false from decide_eq_false (by omega)]
theorem nb_one : nb 1 = 1 := by have h1 := nb_le (n := 1) (k := 1) (by omega); have h2 := nb_pos (u := 1) (by omega); omega
theorem dz_T {q : Rat} (h : ((nb (dz q).natAbs : Nat) : Int) = 0) : q.den = 1 := by
  unfold dz at h
  by_cases e : q.den = 1
  · exact e
  · rw [if_neg e, Int.natAbs_natCast] at h
    have := nb_pos (u := q.den) (by have := q.den_nz; omega)
    omega
theorem dz_F {q : Rat} (h : ¬ ((nb (dz q).natAbs : Nat) : Int) = 0) : (dz q).natAbs = q.den := by
  unfold dz at *
  by_cases e : q.den = 1
  · rw [if_pos e] at h; exact absurd (by rw [show (0 : Int).natAbs = 0 from rfl, nb_zero]; rfl) h
  · rw [if_neg e, Int.natAbs_natCast]
theorem dz_sz (q : Rat) : szI (dz q) ≤ szQ q := by
  unfold dz szI szQ
  split
  · rw [show (0 : Int).natAbs = 0 from rfl, nb_zero]; omega
  · rw [Int.natAbs_natCast]; omega
theorem D8_one : D8 1 = [1] := by
  have h := D8_row 1
  rw [nb_one] at h
  rw [← h]
  simp [row, dg8]
/-- the canonical form of two magnitudes and a sign -/
def sg (neg : Bool) (n : Nat) : Int := if neg = true then -(n : Int) else (n : Int)
theorem sg_natAbs (neg : Bool) (n : Nat) : (sg neg n).natAbs = n := by unfold sg; split <;> simp
theorem sg_gcd (neg : Bool) (n d : Nat) : Int.gcd (sg neg n) d = Nat.gcd n d := by rw [Int.gcd, sg_natAbs, Int.natAbs_natCast]
theorem sg_div (neg : Bool) (n d : Nat) : sg neg n / (Int.gcd (sg neg n) d : Int) = sg neg (n / Nat.gcd n d) := by
  rw [sg_gcd]
  unfold sg
  split
  · rw [Int.neg_ediv_of_dvd (Int.natCast_dvd_natCast.2 (Nat.gcd_dvd_left n d))]; rfl
  · rfl
theorem canon8_1 {n d : Nat} (neg : Bool) (hd : 0 < d) (h1 : d / Nat.gcd n d = 1) : Value.agg #[.bool (decide (sg neg (n / Nat.gcd n d) < 0)), .string (mag (sg neg (n / Nat.gcd n d)).natAbs), .bool false, .string ⟨#[]⟩] = Q (Rat.divInt (sg neg n) d) := by
  have := canon_1 (n := sg neg n) (d := d) (by omega) (by rw [sg_gcd]; exact_mod_cast h1)
  rw [sg_div] at this
  exact this
theorem canon8_2 {n d : Nat} (neg : Bool) (hd : 0 < d) (h1 : d / Nat.gcd n d ≠ 1) : Value.agg #[.bool (decide (sg neg (n / Nat.gcd n d) < 0)), .string (mag (sg neg (n / Nat.gcd n d)).natAbs), .bool (decide (((d / Nat.gcd n d : Nat) : Int) < 0)), .string (mag (((d / Nat.gcd n d : Nat) : Int)).natAbs)] = Q (Rat.divInt (sg neg n) d) := by
  have := canon_2 (n := sg neg n) (d := d) (by omega) (by rw [sg_gcd]; exact_mod_cast h1)
  rw [sg_div, sg_gcd] at this
  exact this
theorem dig_one {m : Nat} (h : nb m = 1) : m / 256 ^ 0 % 256 = m := by
  have := lt_nb m
  rw [h] at this
  rw [Nat.pow_zero, Nat.div_one, Nat.mod_eq_of_lt (by omega)]
theorem not_one_of_nb {m : Nat} (h : ¬ ((nb m : Nat) : Int) = 1) : m ≠ 1 := fun e => h (by rw [e, nb_one]; rfl)
theorem sg_Make (n d : Int) (h : d ≠ 0) : Rat.divInt (sg (decide (n < 0) != decide (d < 0)) n.natAbs) (d.natAbs : Int) = Rat.divInt n d := by
  unfold sg
  by_cases hd : d < 0
  · have e : (d.natAbs : Int) = -d := by omega
    rw [e]
    by_cases hn : n < 0
    · rw [decide_eq_true hd, decide_eq_true hn]
      simp only [bne_self_eq_false, Bool.false_eq_true, if_false]
      rw [show (n.natAbs : Int) = -n by omega, Rat.neg_divInt_neg]
    · rw [decide_eq_true hd, decide_eq_false hn]
      simp only [Bool.bne_true, Bool.not_false, if_true]
      rw [show (n.natAbs : Int) = n by omega, Rat.neg_divInt_neg]
  · have e : (d.natAbs : Int) = d := by omega
    rw [e]
    by_cases hn : n < 0
    · rw [decide_eq_false hd, decide_eq_true hn]
      simp only [Bool.bne_false, if_true]
      rw [show -(n.natAbs : Int) = n by omega]
    · rw [decide_eq_false hd, decide_eq_false hn]
      simp only [bne_self_eq_false, Bool.false_eq_true, if_false]
      rw [show (n.natAbs : Int) = n by omega]
theorem mul_lt_dec (a : Int) (d : Nat) (h : d ≠ 0) : decide (a * (d : Int) < 0) = decide (a < 0) := by
  refine decide_eq_decide.2 ⟨fun h2 => ?_, fun h2 => Int.mul_neg_of_neg_of_pos h2 (by omega)⟩
  refine Int.not_le.1 fun h3 => ?_
  have := Int.mul_nonneg h3 (show (0 : Int) ≤ d by omega)
  omega
theorem add_divInt8 (p q : Rat) : Rat.divInt (p.num * q.den + q.num * p.den) ((p.den * q.den : Nat) : Int) = p + q := by
  have h1 : (p.den : Int) ≠ 0 := den_ne p
  have h2 : (q.den : Int) ≠ 0 := den_ne q
  conv => rhs; rw [← Rat.num_divInt_den p, ← Rat.num_divInt_den q]
  rw [Rat.divInt_add_divInt _ _ h1 h2, Int.natCast_mul]
theorem sg_add1 (p q : Rat) (h : (decide (p.num < 0) == decide (q.num < 0)) = true) : Rat.divInt (sg (decide (p.num < 0)) (p.num.natAbs * q.den + q.num.natAbs * p.den)) ((p.den * q.den : Nat) : Int) = p + q := by
  rw [← add_divInt8 p q]
  congr 1
  have h1 := add_same (p.num * q.den) (q.num * p.den) (by rw [mul_lt_dec _ _ q.den_nz, mul_lt_dec _ _ p.den_nz]; exact h)
  rw [mul_lt_dec _ _ q.den_nz, Int.natAbs_mul, Int.natAbs_mul, Int.natAbs_natCast, Int.natAbs_natCast] at h1
  exact h1
theorem sg_add2 (p q : Rat) (h : (decide (p.num < 0) == decide (q.num < 0)) = false) (hle : q.num.natAbs * p.den ≤ p.num.natAbs * q.den) : Rat.divInt (sg (decide (p.num < 0)) (p.num.natAbs * q.den - q.num.natAbs * p.den)) ((p.den * q.den : Nat) : Int) = p + q := by
  rw [← add_divInt8 p q]
  congr 1
  have h1 := add_diff1 (p.num * q.den) (q.num * p.den) (by rw [mul_lt_dec _ _ q.den_nz, mul_lt_dec _ _ p.den_nz]; exact h) (by rw [Int.natAbs_mul, Int.natAbs_mul, Int.natAbs_natCast, Int.natAbs_natCast]; exact hle)
  rw [mul_lt_dec _ _ q.den_nz, Int.natAbs_mul, Int.natAbs_mul, Int.natAbs_natCast, Int.natAbs_natCast] at h1
  exact h1
theorem sg_add3 (p q : Rat) (h : (decide (p.num < 0) == decide (q.num < 0)) = false) (hle : p.num.natAbs * q.den ≤ q.num.natAbs * p.den) : Rat.divInt (sg (decide (q.num < 0)) (q.num.natAbs * p.den - p.num.natAbs * q.den)) ((p.den * q.den : Nat) : Int) = p + q := by
  rw [← add_divInt8 p q]
  congr 1
  have h1 := add_diff2 (p.num * q.den) (q.num * p.den) (by rw [mul_lt_dec _ _ q.den_nz, mul_lt_dec _ _ p.den_nz]; exact h) (by rw [Int.natAbs_mul, Int.natAbs_mul, Int.natAbs_natCast, Int.natAbs_natCast]; exact hle)
  rw [mul_lt_dec _ _ p.den_nz, Int.natAbs_mul, Int.natAbs_mul, Int.natAbs_natCast, Int.natAbs_natCast] at h1
  exact h1
theorem num_neg8 {q : Rat} (h : q < 0) : q.num < 0 := by
  refine Int.not_le.1 fun h1 => ?_
  have := Rat.num_nonneg.1 h1
  grind
theorem num_pos8 {q : Rat} (h : 0 < q) : 0 < q.num := by
  have h1 := Rat.num_nonneg.2 (show 0 ≤ q by grind)
  have h2 : q.num ≠ 0 := fun e => by have := Rat.num_eq_zero.1 e; grind
  omega
/-- the sign of a difference -/
theorem sign_sub (p q : Rat) : (p - q).num.sign = cmpQ p q := by
  unfold cmpQ
  by_cases h : p < q
  · rw [if_pos h]
    have : p - q < 0 := by grind
    exact Int.sign_eq_neg_one_of_neg (num_neg8 this)
  · rw [if_neg h]
    by_cases h2 : q < p
    · rw [if_pos h2]
      have : 0 < p - q := by grind
      exact Int.sign_eq_one_of_pos (num_pos8 this)
    · rw [if_neg h2]
      have : p - q = 0 := by grind
      rw [this]; rfl
/-- Floor by magnitudes -/
theorem floor_neg {q : Rat} (h : q.num < 0) (hr : q.num.natAbs % q.den ≠ 0) : ((sg true (q.num.natAbs / q.den) : Int) : Rat) - 1 = (q.floor : Rat) := by
  have e : q.floor = sg true (q.num.natAbs / q.den) - 1 := by
    rw [Rat.floor_def]
    have h2 := divmod_T (a := q.num) (b := q.den) (den_ne q) h (by rw [Int.natAbs_natCast]; exact hr)
    have := q.den_nz
    have h3 : q.num = -(q.num.natAbs : Int) := by omega
    have h4 : (q.num.natAbs : Int) = (q.den : Int) * ((q.num.natAbs / q.den : Nat) : Int) + ((q.num.natAbs % q.den : Nat) : Int) := by
      have := Nat.div_add_mod q.num.natAbs q.den
      exact_mod_cast this.symm
    have h5 : ((q.num.natAbs % q.den : Nat) : Int) < q.den := by have := Nat.mod_lt q.num.natAbs (show 0 < q.den by omega); omega
    have h6 := (divmod_core (a := q.num) (b := q.den) (q := sg true (q.num.natAbs / q.den) - 1) (r := q.den - ((q.num.natAbs % q.den : Nat) : Int)) (den_ne q) (by
      unfold sg; simp only [if_true]
      rw [Int.mul_sub, Int.mul_neg, Int.mul_one]; omega) (by omega) (by rw [Int.natAbs_natCast]; omega)).1
    exact h6.symm
  rw [e, Rat.intCast_sub]; rfl
theorem floor_nn {q : Rat} (neg : Bool) (hneg : neg = decide (q.num < 0)) (h : ¬ q.num < 0 ∨ q.num.natAbs % q.den = 0) : sg neg (q.num.natAbs / q.den) = q.floor := by
  subst hneg
  rw [Rat.floor_def]
  have hd := q.den_nz
  have h4 : (q.num.natAbs : Int) = (q.den : Int) * ((q.num.natAbs / q.den : Nat) : Int) + ((q.num.natAbs % q.den : Nat) : Int) := by
    have := Nat.div_add_mod q.num.natAbs q.den
    exact_mod_cast this.symm
  have h5 : ((q.num.natAbs % q.den : Nat) : Int) < q.den := by have := Nat.mod_lt q.num.natAbs (show 0 < q.den by omega); omega
  unfold sg
  by_cases hn : q.num < 0
  · rw [if_pos (decide_eq_true hn)]
    rcases h with h | h
    · exact absurd hn h
    · have h6 := (divmod_core (a := q.num) (b := q.den) (q := -((q.num.natAbs / q.den : Nat) : Int)) (r := 0) (den_ne q) (by
        rw [h] at h4; rw [Int.mul_neg]; omega) (by omega) (by rw [Int.natAbs_natCast]; omega)).1
      exact h6
  · rw [if_neg (by simp [hn])]
    have h6 := (divmod_core (a := q.num) (b := q.den) (q := ((q.num.natAbs / q.den : Nat) : Int)) (r := ((q.num.natAbs % q.den : Nat) : Int)) (den_ne q) (by omega) (by omega) (by rw [Int.natAbs_natCast]; omega)).1
    exact h6
end Go.Via
set_option linter.unusedVariables false
set_option linter.unusedSimpArgs false
namespace Go.Via
open Go Go.RowKit
theorem own2 {q : Rat} : ∀ (z : SR (nb q.num.natAbs) × SR (nb q.den)), ∀ c ∈ ([⟨z.1.b, 3, NV .i64 (D8 q.num.natAbs), z.1.n, true⟩, ⟨z.2.b, 3, NV .i64 (D8 q.den), z.2.n, true⟩] : List Blk), c.own = true := by
  intro z c hc
  simp only [List.mem_cons, List.mem_nil_iff, or_false] at hc
  rcases hc with rfl | rfl <;> rfl
/-- an int, shifted to the right -/
def im (z : Int) (i : Nat) : Int := if z < 0 then -((z.natAbs / 256 ^ i : Nat) : Int) else ((z.natAbs / 256 ^ i : Nat) : Int)
def imR (z : Int) (i : Nat) : Int := if z < 0 then -((dg8 z.natAbs i : Nat) : Int) else ((dg8 z.natAbs i : Nat) : Int)
theorem im_zero (z : Int) : im z 0 = z := by unfold im; rw [Nat.pow_zero, Nat.div_one]; split <;> omega
theorem imR_rem (z : Int) (i : Nat) : (im z i).tmod 256 = imR z i := by
  unfold im imR dg8
  split
  · rw [Int.neg_tmod, show (256 : Int) = ((256 : Nat) : Int) from rfl, ← Int.ofNat_tmod]
  · rw [show (256 : Int) = ((256 : Nat) : Int) from rfl, ← Int.ofNat_tmod]
theorem imR_neg {z : Int} {i : Nat} (h : imR z i < 0) : IntKind.i64.wrap (0 - imR z i) = ((dg8 z.natAbs i : Nat) : Int) := by
  have hd := dg8_lt z.natAbs i
  unfold imR at *
  by_cases hz : z < 0
  · rw [if_pos hz] at *; exact wi (by omega) (by omega) (by omega)
  · rw [if_neg hz] at *; omega
theorem imR_pos {z : Int} {i : Nat} (h : ¬ imR z i < 0) : imR z i = ((dg8 z.natAbs i : Nat) : Int) := by
  unfold imR at *
  by_cases hz : z < 0
  · rw [if_pos hz] at *; omega
  · rw [if_neg hz] at *
theorem im_bound {z : Int} {i : Nat} (h1 : -9223372036854775808 ≤ z) (h2 : z ≤ 9223372036854775807) : -9223372036854775808 ≤ im z i ∧ im z i ≤ 9223372036854775807 := by
  have h3 : z.natAbs / 256 ^ i ≤ z.natAbs := Nat.div_le_self _ _
  unfold im
  generalize z.natAbs / 256 ^ i = k at *
  split <;> omega
theorem imR_quo (z : Int) (i : Nat) (h1 : -9223372036854775808 ≤ z) (h2 : z ≤ 9223372036854775807) : IntKind.i64.wrap ((im z i).tdiv 256) = im z (i + 1) := by
  have e : (im z i).tdiv 256 = im z (i + 1) := by
    unfold im
    split
    · rw [Int.neg_tdiv, show (256 : Int) = ((256 : Nat) : Int) from rfl, ← Int.ofNat_tdiv, div256]
    · rw [show (256 : Int) = ((256 : Nat) : Int) from rfl, ← Int.ofNat_tdiv, div256]
  have := im_bound (i := i + 1) h1 h2
  exact wi (by rw [e]; omega) (by rw [e]; omega) e
theorem im_lt {z : Int} {i : Nat} (h : (im z i != 0) = true) : i < nb z.natAbs := by
  have h1 : im z i ≠ 0 := by simpa using h
  refine div_le_nb (Nat.pos_of_ne_zero fun e => h1 ?_)
  unfold im; rw [e]; split <;> rfl
theorem im_end {z : Int} {i : Nat} (h : (im z i != 0) = false) (hi : i ≤ nb z.natAbs) : i = nb z.natAbs := by
  have h1 : im z i = 0 := by simpa using h
  refine nb_of_div (n := z.natAbs) ?_ hi
  unfold im at h1
  split at h1 <;> omega
theorem szI64 {a : Int} (h1 : -9223372036854775808 ≤ a) (h2 : a ≤ 9223372036854775807) : szI a ≤ 8388608 := by
  have : szI a ≤ 8 := nb_le (by omega)
  omega
theorem of_one : Rat.divInt 1 1 = 1 := by decide
theorem szQ_one : szQ 1 ≤ 1 := by
  show max (nb (1 : Int).natAbs) (nb 1) ≤ 1
  rw [show (1 : Int).natAbs = 1 from rfl, nb_one]; omega
theorem szQ_cast (z : Int) : szQ (z : Rat) ≤ nb z.natAbs + 1 := by
  show max (nb z.natAbs) (nb 1) ≤ _
  rw [nb_one]; omega
theorem Q_int (z : Int) : Q (z : Rat) = .agg #[.bool (decide (z < 0)), .string (mag z.natAbs), .bool false, .string ⟨#[]⟩] := by
  unfold Q dm
  rw [Rat.num_intCast, Rat.den_intCast, if_pos rfl]
theorem dm_neg (q : Rat) : dm (-q) = dm q := by unfold dm; rw [Rat.neg_den]
theorem Q_neg (q : Rat) : Q (-q) = .agg #[.bool (decide (-q.num < 0)), .string (mag q.num.natAbs), .bool false, .string (dm q)] := by
  unfold Q; rw [dm_neg, Rat.neg_num, Int.natAbs_neg]
theorem mag_ne (n : Nat) : (mag n != ⟨#[]⟩) = decide (n ≠ 0) := by
  rw [bne_empty]
theorem neg8_T {q : Rat} (h : (!decide (q.num < 0)) = true) : Value.agg #[.bool (mag q.num.natAbs != ⟨#[]⟩), .string (mag q.num.natAbs), .bool false, .string (dm q)] = Q (-q) := by
  rw [Q_neg, mag_ne]
  have h1 : ¬ q.num < 0 := by simpa using h
  rw [show decide (q.num.natAbs ≠ 0) = decide (-q.num < 0) from decide_eq_decide.2 ⟨fun _ => by omega, fun _ => by omega⟩]
theorem neg8_F {q : Rat} (h : (!decide (q.num < 0)) = false) : Value.agg #[.bool false, .string (mag q.num.natAbs), .bool false, .string (dm q)] = Q (-q) := by
  rw [Q_neg]
  have h1 : q.num < 0 := by simpa using h
  rw [decide_eq_false (show ¬ -q.num < 0 by omega)]
theorem floor8 {q : Rat} (hr : q.num.natAbs % q.den = 0) : Value.agg #[.bool (decide (sg (decide (q.num < 0)) (q.num.natAbs / q.den) < 0)), .string (mag (sg (decide (q.num < 0)) (q.num.natAbs / q.den)).natAbs), .bool false, .string ⟨#[]⟩] = Q (q.floor : Rat) := by
  rw [Q_int, floor_nn _ rfl (.inr hr)]
theorem floor8n {q : Rat} (hn : ¬ q.num < 0) : Value.agg #[.bool (decide (sg (decide (q.num < 0)) (q.num.natAbs / q.den) < 0)), .string (mag (sg (decide (q.num < 0)) (q.num.natAbs / q.den)).natAbs), .bool false, .string ⟨#[]⟩] = Q (q.floor : Rat) := by
  rw [Q_int, floor_nn _ rfl (.inl hn)]
end Go.Via
set_option linter.unusedVariables false
namespace Go.Proofs.YthnlafhnpphdhaaGreatDoor
open Go Go.RowKit Go.Via
set_option maxRecDepth 20000 in
theorem c_ref02_of (q : Rat) (hq : szQ q ≤ 500000000) : SCall Tryz.prog 95 [] [Q q] (SR (nb q.num.natAbs) × SR (nb q.den)) (fun z => .agg #[.bool (decide (q.num < 0)), z.1.v, z.2.v]) (fun z => [⟨z.1.b, 3, NV .i64 (D8 q.num.natAbs), z.1.n, true⟩, ⟨z.2.b, 3, NV .i64 (D8 q.den), z.2.n, true⟩]) := by
 refine ⟨by kernel_rfl, fun w hL0 => ?_⟩
 refine calls_at (args := [Q q]) Tryz.func95 rfl (Nat.le_of_ble_eq_true rfl) hL0 ?_
 show At w ⟨19, [(0, Q q)], []⟩ _
 refine at_seq ?_
 refine at_region ?_
 refine r_box [_, _, _, _] 4 (fun g => [⟨some g, 25, _, 4, true⟩]) rfl rfl rfl rfl rfl (fun _ => rfl) (fun g0 => ?_)
 refine r_alloc [_, _, _] 3 (fun g => [_, ⟨some g, 97, _, 3, true⟩]) rfl rfl z97 rfl rfl (fun _ => rfl) (fun g1 => ?_)
 refine run_nil ?_
 refine at_tn ?_
 refine at_seq ?_
 refine at_region ?_
 refine r_fieldAddr 0 0 2 rfl rfl rfl rfl rfl ti25 rfl rfl ?_
 refine r_load 0 2 [_, _] rfl rfl rfl rfl ti23 rfl rfl rfl rfl ?_
 refine r_know 5 (I (dz q)) rfl (dz_eq q) ?_
 refine r_scall [_] [] rfl rfl rfl (c_ref02_digits (dz q) (by have := dz_sz q; omega)) trivial rfl (.inr fun x b hb => by rw [List.mem_singleton.1 hb]) (fun xd => ?_)
 refine r_assign rfl rfl rfl ?_
 refine run_nil ?_
 refine at_tn ?_
 refine at_seq ?_
 refine at_seq ?_
 refine at_region ?_
 refine r_move rfl rfl rfl ?_
 refine r_lenS u85 rfl rfl rfl ?_
 refine r_cmpInt rfl rfl rfl rfl rfl ?_
 refine run_nil ?_
 refine at_tn ?_
 refine at_cond rfl (fun hb0 => ?_) (fun hb0 => ?_)
 ·
  have hd1 : q.den = 1 := dz_T (by simpa using hb0)
  have hd2 : nb q.den = 1 := by rw [hd1, nb_one]
  refine at_region ?_
  refine r_buildSlice [(0, _)] (fun g => [_, _, _, ⟨some g, 3, _, 1, true⟩]) rfl rfl rfl (bs85_1) rfl (fun _ => rfl) (fun g2 => ?_)
  refine r_assign rfl rfl rfl ?_
  refine run_nil ?_
  refine at_tn ?_
  refine at_seq ?_
  refine at_drawn (l' := [⟨_,_,_,_,_,_⟩, ⟨_,_,_,_,_,_⟩, ⟨_,_,_,_,_,_⟩, ⟨_,_,_,_,_,_⟩, ⟨_,_,_,_,_,_⟩, ⟨_,_,_,_,_,_⟩, ⟨_,_,_,_,_,_⟩, ⟨_,_,_,_,_,_⟩, ⟨_,_,_,_,_,_⟩]) [] [0, 1, 2, 3, 4, 6, 5, 7, 8] mixed (by kernel_rfl) rfl (by kernel_rfl) ?_
  refine r_fieldAddr 0 0 0 rfl rfl rfl rfl rfl ti25 rfl rfl ?_
  refine r_fieldAddr 0 0 0 rfl rfl rfl rfl rfl ti23 rfl rfl ?_
  refine r_load 0 0 [_] rfl rfl rfl rfl ti4 rfl rfl rfl rfl ?_
  refine r_fieldAddr 0 0 0 rfl rfl rfl rfl rfl ti25 rfl rfl ?_
  refine r_load 0 0 [_, _] rfl rfl rfl rfl ti23 rfl rfl rfl rfl ?_
  refine r_move rfl rfl rfl ?_
  refine r_scall [_] [] rfl rfl rfl (c_ref02_digits q.num (by have := szI_num hq; omega)) trivial rfl (.inr fun x b hb => by rw [List.mem_singleton.1 hb]) (fun xn => ?_)
  refine r_build [(0, _), (1, _), (2, _)] rfl rfl rfl (bd97_3) ?_
  refine r_store rfl 1 0 [_, ⟨some g1, 97, _, 3, true⟩, _, _, _] [_, _, _] rfl rfl rfl rfl ti97 rfl rfl rfl rfl rfl ?_
  refine run_nil ?_
  refine at_tn ?_
  refine at_ret ?_
  refine at_end1 rfl (res_cell 1 rfl rfl ti97 (vs := [_, _, _]) rfl rfl (Nat.le_of_ble_eq_true rfl) rfl) (fun w hL => ⟨(xn, ⟨some g2, 1, 1, by rw [hd2]; exact Nat.le_refl _⟩), ?_, hL.picks [some 4, some 3] ⟨⟨_, rfl, Blk.le_refl _⟩, ⟨_, rfl, le_same (congrArg (fun l => (⟨some g2, 3, NV .i64 l, 1, true⟩ : Blk)) (show D8 q.den = [1] by rw [hd1, D8_one]))⟩, trivial⟩ rfl rfl⟩)
  exact congrArg (fun n => Ending.returned (.agg #[.bool (decide (q.num < 0)), xn.v, slv (some g2) 0 n 1])) hd2.symm
 ·
  have hd1 : (dz q).natAbs = q.den := dz_F (by simpa using hb0)
  refine at_skip ?_
  refine at_tn ?_
  refine at_seq ?_
  refine at_drawn (l' := [⟨_,_,_,_,_,_⟩, ⟨_,_,_,_,_,_⟩, ⟨_,_,_,_,_,_⟩, ⟨_,_,_,_,_,_⟩, ⟨_,_,_,_,_,_⟩, ⟨_,_,_,_,_,_⟩, ⟨_,_,_,_,_,_⟩, ⟨_,_,_,_,_,_⟩, ⟨_,_,_,_,_,_⟩]) [] [0, 1, 2, 3, 4, 6, 5, 7, 8] mixed (by kernel_rfl) rfl (by kernel_rfl) ?_
  refine r_fieldAddr 0 0 0 rfl rfl rfl rfl rfl ti25 rfl rfl ?_
  refine r_fieldAddr 0 0 0 rfl rfl rfl rfl rfl ti23 rfl rfl ?_
  refine r_load 0 0 [_] rfl rfl rfl rfl ti4 rfl rfl rfl rfl ?_
  refine r_fieldAddr 0 0 0 rfl rfl rfl rfl rfl ti25 rfl rfl ?_
  refine r_load 0 0 [_, _] rfl rfl rfl rfl ti23 rfl rfl rfl rfl ?_
  refine r_move rfl rfl rfl ?_
  refine r_scall [_] [] rfl rfl rfl (c_ref02_digits q.num (by have := szI_num hq; omega)) trivial rfl (.inr fun x b hb => by rw [List.mem_singleton.1 hb]) (fun xn => ?_)
  refine r_build [(0, _), (1, _), (2, _)] rfl rfl rfl (bd97_3) ?_
  refine r_store rfl 1 0 [_, ⟨some g1, 97, _, 3, true⟩, _, _] [_, _, _] rfl rfl rfl rfl ti97 rfl rfl rfl rfl rfl ?_
  refine run_nil ?_
  refine at_tn ?_
  refine at_ret ?_
  refine at_end1 rfl (res_cell 1 rfl rfl ti97 (vs := [_, _, _]) rfl rfl (Nat.le_of_ble_eq_true rfl) rfl) (fun w hL => ⟨(xn, ⟨xd.b, xd.n, xd.cap, by rw [← hd1]; exact xd.h⟩), ?_, hL.picks [some 3, some 2] ⟨⟨_, rfl, Blk.le_refl _⟩, ⟨_, rfl, le_same (congrArg (fun n => (⟨xd.b, 3, NV .i64 (D8 n), xd.n, true⟩ : Blk)) hd1.symm)⟩, trivial⟩ rfl rfl⟩)
  exact congrArg (fun n => Ending.returned (.agg #[.bool (decide (q.num < 0)), xn.v, slv xd.b 0 (nb n) xd.cap])) hd1
set_option maxRecDepth 20000 in
theorem c_ref02_canonical (n d : Nat) (neg : Bool) (hd : 0 < d) (hn : nb n ≤ 1073740000) (hdn : nb d ≤ 1073740000) (x : SR (nb n)) (y : SR (nb d)) : SCall Tryz.prog 97 [⟨x.b, 3, NV .i64 (D8 n), x.n, false⟩, ⟨y.b, 3, NV .i64 (D8 d), y.n, false⟩] [.agg #[.bool neg, x.v, y.v]] Unit (fun _ => Q (Rat.divInt (sg neg n) (d : Int))) (fun _ => []) := by
 refine ⟨by kernel_rfl, fun w hL0 => ?_⟩
 have hg0 : 0 < Nat.gcd n d := Nat.gcd_pos_of_pos_right n hd
 have hgn : nb (Nat.gcd n d) ≤ 1073740000 := Nat.le_trans (nb_mono (Nat.gcd_le_right n hd)) hdn
 refine calls_at (args := [.agg #[.bool neg, x.v, y.v]]) Tryz.func97 rfl (Nat.le_of_ble_eq_true rfl) hL0 ?_
 show At w ⟨43, [(0, .agg #[.bool neg, x.v, y.v])], [⟨x.b, 3, NV .i64 (D8 n), x.n, false⟩, ⟨y.b, 3, NV .i64 (D8 d), y.n, false⟩]⟩ _
 refine at_seq ?_
 refine at_region ?_
 refine r_box [_, _, _] 3 (fun g => [_, _, ⟨some g, 97, _, 3, true⟩]) rfl rfl rfl rfl rfl (fun _ => rfl) (fun g0 => ?_)
 refine r_alloc [_, _, _, _] 4 (fun g => [_, _, _, ⟨some g, 25, _, 4, true⟩]) rfl rfl z25 rfl rfl (fun _ => rfl) (fun g1 => ?_)
 refine run_nil ?_
 refine at_tn ?_
 refine at_seq ?_
 refine at_region ?_
 refine r_fieldAddr 2 0 1 rfl rfl rfl rfl rfl ti97 rfl rfl ?_
 refine r_load 2 1 [_] rfl rfl rfl rfl ti85 rfl rfl rfl rfl ?_
 refine r_fieldAddr 2 0 2 rfl rfl rfl rfl rfl ti97 rfl rfl ?_
 refine r_load 2 2 [_] rfl rfl rfl rfl ti85 rfl rfl rfl rfl ?_
 refine r_scallA [_, _] [0, 1] rfl rfl rfl (c_ref02_common n d hn hdn x y) ⟨⟨_, rfl, le_share⟩, ⟨_, rfl, le_share⟩, trivial⟩ rfl rfl (fun zg => ?_)
 refine r_assign rfl rfl rfl ?_
 refine run_nil ?_
 refine at_tn ?_
 refine at_seq ?_
 refine at_region ?_
 refine r_fieldAddr 2 0 1 rfl rfl rfl rfl rfl ti97 rfl rfl ?_
 refine r_load 2 1 [_] rfl rfl rfl rfl ti85 rfl rfl rfl rfl ?_
 refine r_move rfl rfl rfl ?_
 refine r_scallA [_, _] [0, 4] rfl rfl rfl (div_two (fun g hg => ⟨_, List.mem_cons_self, hg⟩) rfl (c_ref02_divide n (Nat.gcd n d) hg0 hn hgn x zg)) ⟨⟨_, rfl, le_share⟩, ⟨_, rfl, le_share⟩, trivial⟩ rfl rfl (fun zn => ?_)
 refine r_move rfl rfl rfl ?_
 refine r_extract (vs := [_, _]) rfl rfl rfl rfl ?_
 refine r_extract (vs := [_, _]) rfl rfl rfl rfl ?_
 refine r_assign rfl rfl rfl ?_
 refine r_assign rfl rfl rfl ?_
 refine run_nil ?_
 refine at_tn ?_
 refine at_seq ?_
 refine at_region ?_
 refine r_fieldAddr 2 0 2 rfl rfl rfl rfl rfl ti97 rfl rfl ?_
 refine r_load 2 2 [_] rfl rfl rfl rfl ti85 rfl rfl rfl rfl ?_
 refine r_move rfl rfl rfl ?_
 refine r_scallA [_, _] [1, 4] rfl rfl rfl (div_two (fun g hg => ⟨_, List.mem_cons_self, hg⟩) rfl (c_ref02_divide d (Nat.gcd n d) hg0 hdn hgn y zg)) ⟨⟨_, rfl, le_share⟩, ⟨_, rfl, le_share⟩, trivial⟩ rfl rfl (fun zd => ?_)
 refine r_move rfl rfl rfl ?_
 refine r_extract (vs := [_, _]) rfl rfl rfl rfl ?_
 refine r_extract (vs := [_, _]) rfl rfl rfl rfl ?_
 refine r_assign rfl rfl rfl ?_
 refine r_assign rfl rfl rfl ?_
 refine run_nil ?_
 refine at_tn ?_
 refine at_seq ?_
 refine at_seq ?_
 refine at_region ?_
 refine r_move rfl rfl rfl ?_
 refine r_lenS u85 rfl rfl rfl ?_
 refine r_cmpInt rfl rfl rfl rfl rfl ?_
 refine r_move rfl rfl rfl ?_
 refine r_split 30 rfl (fun hb0 => ?_) (fun hb0 => ?_)
 ·
  have hl1 : nb (d / Nat.gcd n d) = 1 := by have := eq_of_beq hb0; omega
  refine r_move rfl rfl rfl ?_
  refine r_indexAddr 7 (0) u85 ti3 rfl rfl rfl rfl rfl (by omega) (by omega) (NV_ne (by rw [D8_length]; omega)) (by show 0 + Int.toNat _ * 1 = _; omega) ?_
  refine r_load1 7 (0) ti3 rfl rfl rfl rfl (NV_get (D8_get (by omega))) ?_
  refine r_cmpInt rfl rfl rfl rfl rfl ?_
  refine r_pickT rfl rfl rfl rfl ?_
  refine run_nil ?_
  refine at_tn ?_
  refine at_cond rfl (fun hb1 => ?_) (fun hb1 => ?_)
  ·
   have hd1 : d / Nat.gcd n d = 1 := by have := eq_of_beq hb1; rw [dig_one hl1] at this; omega
   refine at_weak _ (weak_picks (L' := [_, _, _, _, _, _, _, _, _, ⟨none, 3, NV .i64 (D8 0), 0, false⟩]) [some 0, some 1, some 2, some 3, some 4, some 5, some 6, some 7, some 8, none] ⟨⟨_, rfl, Blk.le_refl _⟩, ⟨_, rfl, Blk.le_refl _⟩, ⟨_, rfl, Blk.le_refl _⟩, ⟨_, rfl, Blk.le_refl _⟩, ⟨_, rfl, Blk.le_refl _⟩, ⟨_, rfl, Blk.le_refl _⟩, ⟨_, rfl, Blk.le_refl _⟩, ⟨_, rfl, Blk.le_refl _⟩, ⟨_, rfl, Blk.le_refl _⟩, ⟨rfl, NV_D8_0, rfl⟩, trivial⟩ rfl rfl) ?_
   refine at_region ?_
   refine r_assign rfl rfl rfl ?_
   refine run_nil ?_
   refine at_tn ?_
   refine at_seq ?_
   refine at_region ?_
   refine r_move rfl rfl rfl ?_
   refine r_fieldAddr 2 0 0 rfl rfl rfl rfl rfl ti97 rfl rfl ?_
   refine r_load 2 0 [_] rfl rfl rfl rfl ti4 rfl rfl rfl rfl ?_
   refine r_scall0 [_, _] [5] rfl rfl rfl (c_ref02_whole (n / Nat.gcd n d) neg (by have := nb_div n (Nat.gcd n d); omega) zn.1) ⟨⟨_, rfl, le_share⟩, trivial⟩ rfl ?_
   refine r_move rfl rfl rfl ?_
   refine r_know 40 (slv none 0 (nb 0) 0) rfl (by rw [nb_zero]; rfl) ?_
   refine r_scall0 [_, _] [9] rfl rfl rfl (c_ref02_whole 0 false (by rw [nb_zero]; omega) ⟨none, 0, 0, by rw [nb_zero]; exact Nat.le_refl _⟩) ⟨⟨_, rfl, Blk.le_refl _⟩, trivial⟩ rfl ?_
   refine r_build [(0, _), (1, _)] rfl rfl rfl (bd25_2) ?_
   refine r_store rfl 3 0 [_, _, _, ⟨some g1, 25, _, 4, true⟩, _, _, _, _, _, _] [_, _, _, _] rfl rfl rfl rfl ti25 rfl rfl rfl rfl rfl ?_
   refine run_nil ?_
   refine at_tn ?_
   refine at_ret ?_
   refine at_end1 rfl (res_cell 3 rfl rfl ti25 (vs := [_, _, _, _]) rfl rfl (Nat.le_of_ble_eq_true rfl) rfl) (fun w hL => ⟨(), ?_, hL.picks [] trivial rfl rfl⟩)
   exact congrArg Ending.returned (Eq.trans (by rw [show (if false = true then -((0 : Nat) : Int) else ((0 : Nat) : Int)) = 0 from rfl, show (0 : Int).natAbs = 0 from rfl, mag_zero]; rfl) (canon8_1 neg hd hd1))
  ·
   have hd1 : d / Nat.gcd n d ≠ 1 := by have := ne_of_beq_false hb1; rw [dig_one hl1] at this; omega
   refine at_skip ?_
   refine at_tn ?_
   refine at_seq ?_
   refine at_region ?_
   refine r_move rfl rfl rfl ?_
   refine r_fieldAddr 2 0 0 rfl rfl rfl rfl rfl ti97 rfl rfl ?_
   refine r_load 2 0 [_] rfl rfl rfl rfl ti4 rfl rfl rfl rfl ?_
   refine r_scall0 [_, _] [5] rfl rfl rfl (c_ref02_whole (n / Nat.gcd n d) neg (by have := nb_div n (Nat.gcd n d); omega) zn.1) ⟨⟨_, rfl, le_share⟩, trivial⟩ rfl ?_
   refine r_move rfl rfl rfl ?_
   refine r_scall0 [_, _] [7] rfl rfl rfl (c_ref02_whole (d / Nat.gcd n d) false (by have := nb_div d (Nat.gcd n d); omega) zd.1) ⟨⟨_, rfl, le_share⟩, trivial⟩ rfl ?_
   refine r_build [(0, _), (1, _)] rfl rfl rfl (bd25_2) ?_
   refine r_store rfl 3 0 [_, _, _, ⟨some g1, 25, _, 4, true⟩, _, _, _, _, _] [_, _, _, _] rfl rfl rfl rfl ti25 rfl rfl rfl rfl rfl ?_
   refine run_nil ?_
   refine at_tn ?_
   refine at_ret ?_
   refine at_end1 rfl (res_cell 3 rfl rfl ti25 (vs := [_, _, _, _]) rfl rfl (Nat.le_of_ble_eq_true rfl) rfl) (fun w hL => ⟨(), ?_, hL.picks [] trivial rfl rfl⟩)
   exact congrArg Ending.returned (canon8_2 neg hd hd1)
 ·
  have hd1 : d / Nat.gcd n d ≠ 1 := not_one_of_nb (by simpa using hb0)
  refine r_no rfl rfl rfl ?_
  refine r_no rfl rfl rfl ?_
  refine r_no rfl rfl rfl ?_
  refine r_no rfl rfl rfl ?_
  refine r_pickF rfl rfl rfl rfl ?_
  refine run_nil ?_
  refine at_tn ?_
  refine at_condF rfl ?_
  refine at_skip ?_
  refine at_tn ?_
  refine at_seq ?_
  refine at_region ?_
  refine r_move rfl rfl rfl ?_
  refine r_fieldAddr 2 0 0 rfl rfl rfl rfl rfl ti97 rfl rfl ?_
  refine r_load 2 0 [_] rfl rfl rfl rfl ti4 rfl rfl rfl rfl ?_
  refine r_scall0 [_, _] [5] rfl rfl rfl (c_ref02_whole (n / Nat.gcd n d) neg (by have := nb_div n (Nat.gcd n d); omega) zn.1) ⟨⟨_, rfl, le_share⟩, trivial⟩ rfl ?_
  refine r_move rfl rfl rfl ?_
  refine r_scall0 [_, _] [7] rfl rfl rfl (c_ref02_whole (d / Nat.gcd n d) false (by have := nb_div d (Nat.gcd n d); omega) zd.1) ⟨⟨_, rfl, le_share⟩, trivial⟩ rfl ?_
  refine r_build [(0, _), (1, _)] rfl rfl rfl (bd25_2) ?_
  refine r_store rfl 3 0 [_, _, _, ⟨some g1, 25, _, 4, true⟩, _, _, _, _, _] [_, _, _, _] rfl rfl rfl rfl ti25 rfl rfl rfl rfl rfl ?_
  refine run_nil ?_
  refine at_tn ?_
  refine at_ret ?_
  refine at_end1 rfl (res_cell 3 rfl rfl ti25 (vs := [_, _, _, _]) rfl rfl (Nat.le_of_ble_eq_true rfl) rfl) (fun w hL => ⟨(), ?_, hL.picks [] trivial rfl rfl⟩)
  exact congrArg Ending.returned (canon8_2 neg hd hd1)
end Go.Proofs.YthnlafhnpphdhaaGreatDoor
set_option linter.unusedVariables false
namespace Go.Proofs.YthnlafhnpphdhaaGreatDoor
open Go Go.RowKit Go.Via
set_option maxRecDepth 20000 in
theorem c_ref02_Make (n d : Int) (hd : d ≠ 0) (hn : szI n ≤ 8388608) (hdn : szI d ≤ 8388608) : PCall Tryz.prog 69 #[I n, I d] (Q (Rat.divInt n d)) := by
 refine ⟨by kernel_rfl, fun w => ?_⟩
 refine calls_at (args := [I n, I d]) Tryz.func69 rfl (Nat.le_of_ble_eq_true rfl) (LRel.nil w) ?_
 show At w ⟨16, [(0, I n), (1, I d)], []⟩ _
 refine at_seq ?_
 refine at_region ?_
 refine r_box [_, _] 2 (fun g => [⟨some g, 23, _, 2, true⟩]) rfl rfl rfl rfl rfl (fun _ => rfl) (fun g0 => ?_)
 refine r_box [_, _] 2 (fun g => [_, ⟨some g, 23, _, 2, true⟩]) rfl rfl rfl rfl rfl (fun _ => rfl) (fun g1 => ?_)
 refine r_alloc [_, _, _, _] 4 (fun g => [_, _, ⟨some g, 25, _, 4, true⟩]) rfl rfl z25 rfl rfl (fun _ => rfl) (fun g2 => ?_)
 refine run_nil ?_
 refine at_tn ?_
 refine at_seq ?_
 refine at_drawn (l' := [⟨_,_,_,_,_,_⟩, ⟨_,_,_,_,_,_⟩, ⟨_,_,_,_,_,_⟩, ⟨_,_,_,_,_,_⟩, ⟨_,_,_,_,_,_⟩, ⟨_,_,_,_,_,_⟩, ⟨_,_,_,_,_,_⟩, ⟨_,_,_,_,_,_⟩, ⟨_,_,_,_,_,_⟩, ⟨_,_,_,_,_,_⟩, ⟨_,_,_,_,_,_⟩, ⟨_,_,_,_,_,_⟩]) [] [0, 1, 2, 3, 4, 5, 7, 6, 8, 9, 10, 11] mixed (by kernel_rfl) rfl (by kernel_rfl) ?_
 refine r_fieldAddr 0 0 0 rfl rfl rfl rfl rfl ti23 rfl rfl ?_
 refine r_load 0 0 [_] rfl rfl rfl rfl ti4 rfl rfl rfl rfl ?_
 refine r_fieldAddr 1 0 0 rfl rfl rfl rfl rfl ti23 rfl rfl ?_
 refine r_load 1 0 [_] rfl rfl rfl rfl ti4 rfl rfl rfl rfl ?_
 refine r_neqBool rfl u4 rfl rfl rfl ?_
 refine r_load 0 0 [_, _] rfl rfl rfl rfl ti23 rfl rfl rfl rfl ?_
 refine r_load 1 0 [_, _] rfl rfl rfl rfl ti23 rfl rfl rfl rfl ?_
 refine r_scall [_] [] rfl rfl rfl (c_ref02_digits n (Nat.le_trans hn (Nat.le_of_ble_eq_true rfl))) trivial rfl (.inr fun x b hb => by rw [List.mem_singleton.1 hb]) (fun xn => ?_)
 refine r_scall [_] [] rfl rfl rfl (c_ref02_digits d (Nat.le_trans hdn (Nat.le_of_ble_eq_true rfl))) trivial rfl (.inr fun x b hb => by rw [List.mem_singleton.1 hb]) (fun xd => ?_)
 refine r_build [(0, _), (1, _), (2, _)] rfl rfl rfl (bd97_3) ?_
 refine r_scall0 [_] [3, 4] rfl rfl rfl (c_ref02_canonical n.natAbs d.natAbs (decide (n < 0) != decide (d < 0)) (by omega) (Nat.le_trans hn (Nat.le_of_ble_eq_true rfl)) (Nat.le_trans hdn (Nat.le_of_ble_eq_true rfl)) xn xd) ⟨⟨_, rfl, le_share⟩, ⟨_, rfl, le_share⟩, trivial⟩ rfl ?_
 refine r_know 15 (Q (Rat.divInt n d)) rfl (congrArg Q (sg_Make n d hd)) ?_
 refine r_store rfl 2 0 [_, _, ⟨some g2, 25, _, 4, true⟩, _, _] [_, _, _, _] rfl rfl rfl rfl ti25 rfl rfl rfl rfl rfl ?_
 refine run_nil ?_
 refine at_tn ?_
 refine at_ret ?_
 refine at_end1 rfl (res_cell 2 rfl rfl ti25 (vs := [_, _, _, _]) rfl rfl (Nat.le_of_ble_eq_true rfl) rfl) (fun w hL => ⟨?_, hL.below⟩)
 exact rfl
set_option maxRecDepth 20000 in
theorem c_ref02_Int (z : Int) (h1 : -9223372036854775808 ≤ z) (h2 : z ≤ 9223372036854775807) : PCall Tryz.prog 70 #[.int .i64 z] (I z) := by
 have hnb : nb z.natAbs ≤ 8 := nb_le (by omega)
 refine ⟨by kernel_rfl, fun w => ?_⟩
 refine calls_at (args := [.int .i64 z]) Tryz.func70 rfl (Nat.le_of_ble_eq_true rfl) (LRel.nil w) ?_
 show At w ⟨25, [(0, .int .i64 z)], []⟩ _
 refine at_seq ?_
 refine at_region ?_
 refine r_alloc [_, _] 2 (fun g => [⟨some g, 23, _, 2, true⟩]) rfl rfl z23 rfl rfl (fun _ => rfl) (fun g0 => ?_)
 refine run_nil ?_
 refine at_tn ?_
 refine at_seq ?_
 refine at_region ?_
 refine r_assign rfl rfl rfl ?_
 refine run_nil ?_
 refine at_tn ?_
 refine at_seq ?_
 refine at_region ?_
 refine r_move rfl rfl rfl ?_
 refine r_assign rfl rfl rfl ?_
 refine run_nil ?_
 refine at_tn ?_
 refine at_seq ?_
 refine at_block ?_
 refine enterL (nt := 25) (ι := {x : Nat × Option Nat × Nat × Nat // x.1 ≤ nb z.natAbs ∧ x.1 ≤ x.2.2.2 ∧ x.2.2.2 ≤ x.2.2.1}) (fun ⟨⟨i, ob, oN, oc⟩, hi, h3, h4⟩ => [(0, .int .i64 z), (2, .pointer (some ⟨g0, 0, none⟩)), (3, slv ob 0 i oc), (4, .int .i64 (im z i))]) (fun ⟨⟨i, ob, oN, oc⟩, hi, h3, h4⟩ => [⟨some g0, 23, [.bool false, .string ⟨#[]⟩], 2, true⟩, ⟨ob, 3, NV .i64 (row i (dg8 z.natAbs)), oN, true⟩]) (fun ⟨⟨i, ob, oN, oc⟩, hi, h3, h4⟩ => nb z.natAbs - i) ⟨(0, none, 0, 0), Nat.zero_le _, Nat.le_refl _, Nat.le_refl _⟩ ⟨rfl, rfl, rfl, (look_val rfl (congrArg (Value.int .i64) (im_zero z).symm)), trivial⟩ (weak_picks [some 0, none] ⟨⟨_, rfl, Blk.le_refl _⟩, ⟨rfl, rfl, rfl⟩, trivial⟩ rfl rfl) ?_
 rintro ⟨⟨i, ob, oN, oc⟩, hi, h3, h4⟩
 show At _ ⟨25, [(0, .int .i64 z), (2, .pointer (some ⟨g0, 0, none⟩)), (3, slv ob 0 i oc), (4, .int .i64 (im z i))], [⟨some g0, 23, [.bool false, .string ⟨#[]⟩], 2, true⟩, ⟨ob, 3, NV .i64 (row i (dg8 z.natAbs)), oN, true⟩]⟩ _
 replace hi : i ≤ nb z.natAbs := hi
 replace h3 : i ≤ oc := h3
 replace h4 : oc ≤ oN := h4
 have hdg := dg8_lt z.natAbs i
 refine at_seq ?_
 refine at_seq ?_
 refine at_region ?_
 refine r_move rfl rfl rfl ?_
 refine r_cmpInt rfl rfl rfl rfl rfl ?_
 refine run_nil ?_
 refine at_tn ?_
 refine at_cond rfl (fun hb1 => ?_) (fun hb1 => ?_)
 ·
  have hlt := im_lt hb1
  refine at_skip ?_
  refine at_tn ?_
  refine at_block ?_
  refine at_seq ?_
  refine at_region ?_
  refine r_move rfl rfl rfl ?_
  refine r_div (r := imR z i) rfl rfl rfl rfl (by omega) (congrArg some (imR_rem z i)) ?_
  refine r_assign rfl rfl rfl ?_
  refine run_nil ?_
  refine at_tn ?_
  refine at_seq ?_
  refine at_seq ?_
  refine at_region ?_
  refine r_move rfl rfl rfl ?_
  refine r_cmpInt rfl rfl rfl rfl rfl ?_
  refine run_nil ?_
  refine at_tn ?_
  refine at_cond rfl (fun hb2 => ?_) (fun hb2 => ?_)
  ·
   have HB12 := hb2
   refine at_region ?_
   refine r_move rfl rfl rfl ?_
   refine r_arith (r := ((dg8 z.natAbs i : Nat) : Int)) rfl rfl rfl rfl (congrArg some (imR_neg (of_decide_eq_true HB12))) ?_
   refine r_assign rfl rfl rfl ?_
   refine run_nil ?_
   refine at_tn ?_
   refine at_seq ?_
   refine at_region ?_
   refine r_move rfl rfl rfl ?_
   refine r_move rfl rfl rfl ?_
   refine r_buildSlice [(0, _)] (fun g => [_, _, ⟨some g, 3, _, 1, true⟩]) rfl rfl rfl (bs85_1) rfl (fun _ => rfl) (fun g1 => ?_)
   refine q_append (s := 1) (len := i) (n2 := 1) 1 2 (fun r => [_, ⟨some r.g, 3, NV .i64 (row (i + 1) (dg8 z.natAbs)), r.n, true⟩, ⟨some g1, 3, _, 1, true⟩]) u85 el3 rfl rfl rfl rfl rfl rfl rfl rfl rfl rfl rfl rfl (by rw [NV_length, row_length]; omega) (by omega) (by show oc * 1 ≤ oN; omega) rfl (one_cell _ _) (by omega) (fun r => congrArg (fun c => [_, (⟨some r.g, 3, c, r.n, true⟩ : Blk), ⟨some g1, 3, _, 1, true⟩]) (NV_snoc _ _ _ _ (rfl))) (fun r => ?_)
   refine r_assign rfl rfl rfl ?_
   refine run_nil ?_
   refine at_tn ?_
   refine at_region ?_
   refine r_move rfl rfl rfl ?_
   refine r_div (r := im z (i + 1)) rfl rfl rfl rfl (by omega) (congrArg some (imR_quo z i h1 h2)) ?_
   refine r_assign rfl rfl rfl ?_
   refine run_nil ?_
   refine at_bn ?_
   refine at_tn ?_
   exact nextL ⟨(i + 1, some r.g, r.n, r.cap), hlt, r.h, by have := r.hn; show r.cap ≤ r.n; omega⟩ (by show nb z.natAbs - (i + 1) < nb z.natAbs - i; omega) ⟨rfl, rfl, rfl, rfl, trivial⟩ (weak_picks [some 0, some 1] ⟨⟨_, rfl, Blk.le_refl _⟩, ⟨_, rfl, Blk.le_refl _⟩, trivial⟩ rfl rfl)
  ·
   refine at_know 5 (.int .i64 (dg8 z.natAbs i : Nat)) rfl (congrArg (Value.int .i64) (imR_pos (of_decide_eq_false hb2))) ?_
   refine at_skip ?_
   refine at_tn ?_
   refine at_seq ?_
   refine at_region ?_
   refine r_move rfl rfl rfl ?_
   refine r_move rfl rfl rfl ?_
   refine r_buildSlice [(0, _)] (fun g => [_, _, ⟨some g, 3, _, 1, true⟩]) rfl rfl rfl (bs85_1) rfl (fun _ => rfl) (fun g1 => ?_)
   refine q_append (s := 1) (len := i) (n2 := 1) 1 2 (fun r => [_, ⟨some r.g, 3, NV .i64 (row (i + 1) (dg8 z.natAbs)), r.n, true⟩, ⟨some g1, 3, _, 1, true⟩]) u85 el3 rfl rfl rfl rfl rfl rfl rfl rfl rfl rfl rfl rfl (by rw [NV_length, row_length]; omega) (by omega) (by show oc * 1 ≤ oN; omega) rfl (one_cell _ _) (by omega) (fun r => congrArg (fun c => [_, (⟨some r.g, 3, c, r.n, true⟩ : Blk), ⟨some g1, 3, _, 1, true⟩]) (NV_snoc _ _ _ _ (rfl))) (fun r => ?_)
   refine r_assign rfl rfl rfl ?_
   refine run_nil ?_
   refine at_tn ?_
   refine at_region ?_
   refine r_move rfl rfl rfl ?_
   refine r_div (r := im z (i + 1)) rfl rfl rfl rfl (by omega) (congrArg some (imR_quo z i h1 h2)) ?_
   refine r_assign rfl rfl rfl ?_
   refine run_nil ?_
   refine at_bn ?_
   refine at_tn ?_
   exact nextL ⟨(i + 1, some r.g, r.n, r.cap), hlt, r.h, by have := r.hn; show r.cap ≤ r.n; omega⟩ (by show nb z.natAbs - (i + 1) < nb z.natAbs - i; omega) ⟨rfl, rfl, rfl, rfl, trivial⟩ (weak_picks [some 0, some 1] ⟨⟨_, rfl, Blk.le_refl _⟩, ⟨_, rfl, Blk.le_refl _⟩, trivial⟩ rfl rfl)
 ·
  have hge := im_end hb1 hi
  subst hge
  refine at_exit ?_
  refine at_te ?_
  refine at_te ?_
  refine at_be ?_
  refine at_tn ?_
  refine at_seq ?_
  refine at_region ?_
  refine r_move rfl rfl rfl ?_
  refine r_move rfl rfl rfl ?_
  refine r_cmpInt rfl rfl rfl rfl rfl ?_
  refine r_scall0 [_, _] [1] rfl rfl rfl (c_ref02_whole z.natAbs (decide (z < 0)) (by omega) ⟨ob, oN, oc, h3⟩) ⟨⟨_, rfl, ⟨rfl, rfl, rfl, ⟨nb z.natAbs, by rw [D8_row, List.take_of_length_le (by rw [NV_length, D8_length]; exact Nat.le_refl _)]⟩, fun h => by cases h⟩⟩, trivial⟩ rfl ?_
  refine r_know 24 (I z) rfl (congrArg I (by by_cases hz : z < 0 <;> simp [hz] <;> omega)) ?_
  refine r_store rfl 0 0 [⟨some g0, 23, _, 2, true⟩, _] [_, _] rfl rfl rfl rfl ti23 rfl rfl rfl rfl rfl ?_
  refine run_nil ?_
  refine at_tn ?_
  refine at_ret ?_
  refine at_end1 rfl (res_cell 0 rfl rfl ti23 (vs := [_, _]) rfl rfl (Nat.le_of_ble_eq_true rfl) rfl) (fun w hL => ⟨?_, hL.below⟩)
  exact rfl
set_option maxRecDepth 20000 in
theorem c_ref02_Of (a b : Int) (ha1 : -9223372036854775808 ≤ a) (ha2 : a ≤ 9223372036854775807) (hb1 : -9223372036854775808 ≤ b) (hb2 : b ≤ 9223372036854775807) (hb0 : b ≠ 0) : PCall Tryz.prog 30 #[.int .i64 a, .int .i64 b] (Q (Rat.divInt a b)) := by
 refine ⟨by kernel_rfl, fun w => ?_⟩
 refine calls_at (args := [.int .i64 a, .int .i64 b]) Tryz.func30 rfl (Nat.le_of_ble_eq_true rfl) (LRel.nil w) ?_
 show At w ⟨10, [(0, .int .i64 a), (1, .int .i64 b)], []⟩ _
 refine at_seq ?_
 refine at_region ?_
 refine r_alloc [_, _, _, _] 4 (fun g => [⟨some g, 25, _, 4, true⟩]) rfl rfl z25 rfl rfl (fun _ => rfl) (fun g0 => ?_)
 refine run_nil ?_
 refine at_tn ?_
 refine at_seq ?_
 refine at_region ?_
 refine r_move rfl rfl rfl ?_
 refine r_pcall [_] rfl rfl rfl (c_ref02_Int a ha1 ha2) ?_
 refine r_move rfl rfl rfl ?_
 refine r_pcall [_] rfl rfl rfl (c_ref02_Int b hb1 hb2) ?_
 refine r_pcall [_, _] rfl rfl rfl (c_ref02_Make a b hb0 (szI64 ha1 ha2) (szI64 hb1 hb2)) ?_
 refine r_store rfl 0 0 [⟨some g0, 25, _, 4, true⟩] [_, _, _, _] rfl rfl rfl rfl ti25 rfl rfl rfl rfl rfl ?_
 refine run_nil ?_
 refine at_tn ?_
 refine at_ret ?_
 refine at_end1 rfl (res_cell 0 rfl rfl ti25 (vs := [_, _, _, _]) rfl rfl (Nat.le_of_ble_eq_true rfl) rfl) (fun w hL => ⟨?_, hL.below⟩)
 exact rfl
set_option maxRecDepth 20000 in
theorem c_ref02_Neg (q : Rat) : PCall Tryz.prog 56 #[Q q] (Q (-q)) := by
 refine ⟨by kernel_rfl, fun w => ?_⟩
 refine calls_at (args := [Q q]) Tryz.func56 rfl (Nat.le_of_ble_eq_true rfl) (LRel.nil w) ?_
 show At w ⟨16, [(0, Q q)], []⟩ _
 refine at_seq ?_
 refine at_region ?_
 refine r_box [_, _, _, _] 4 (fun g => [⟨some g, 25, _, 4, true⟩]) rfl rfl rfl rfl rfl (fun _ => rfl) (fun g0 => ?_)
 refine r_alloc [_, _, _, _] 4 (fun g => [_, ⟨some g, 25, _, 4, true⟩]) rfl rfl z25 rfl rfl (fun _ => rfl) (fun g1 => ?_)
 refine run_nil ?_
 refine at_tn ?_
 refine at_seq ?_
 refine at_region ?_
 refine r_fieldAddr 0 0 0 rfl rfl rfl rfl rfl ti25 rfl rfl ?_
 refine r_fieldAddr 0 0 0 rfl rfl rfl rfl rfl ti23 rfl rfl ?_
 refine r_load 0 0 [_] rfl rfl rfl rfl ti4 rfl rfl rfl rfl ?_
 refine r_not rfl rfl rfl ?_
 refine r_move rfl rfl rfl ?_
 refine r_split 7 rfl (fun hb0 => ?_) (fun hb0 => ?_)
 ·
  refine r_fieldAddr 0 0 0 rfl rfl rfl rfl rfl ti25 rfl rfl ?_
  refine r_fieldAddr 0 0 1 rfl rfl rfl rfl rfl ti23 rfl rfl ?_
  refine r_load 0 1 [_] rfl rfl rfl rfl ti9 rfl rfl rfl rfl ?_
  refine r_neqStr rfl rfl rfl rfl ?_
  refine r_pickT rfl rfl rfl rfl ?_
  refine r_fieldAddr 0 0 0 rfl rfl rfl rfl rfl ti25 rfl rfl ?_
  refine r_fieldAddr 0 0 0 rfl rfl rfl rfl rfl ti23 rfl rfl ?_
  refine r_store rfl 0 0 [⟨some g0, 25, _, 4, true⟩, _] [_, _, _, _] rfl rfl rfl rfl ti4 rfl rfl rfl rfl rfl ?_
  refine run_nil ?_
  refine at_tn ?_
  refine at_seq ?_
  refine at_region ?_
  refine r_load 0 0 [_, _, _, _] rfl rfl rfl rfl ti25 rfl rfl rfl rfl ?_
  refine r_store rfl 1 0 [_, ⟨some g1, 25, _, 4, true⟩] [_, _, _, _] rfl rfl rfl rfl ti25 rfl rfl rfl rfl rfl ?_
  refine run_nil ?_
  refine at_tn ?_
  refine at_ret ?_
  refine at_end1 rfl (res_cell 1 rfl rfl ti25 (vs := [_, _, _, _]) rfl rfl (Nat.le_of_ble_eq_true rfl) rfl) (fun w hL => ⟨?_, hL.below⟩)
  exact congrArg Ending.returned (neg8_T hb0)
 ·
  refine r_no rfl rfl rfl ?_
  refine r_no rfl rfl rfl ?_
  refine r_no rfl rfl rfl ?_
  refine r_no rfl rfl rfl ?_
  refine r_pickF rfl rfl rfl rfl ?_
  refine r_fieldAddr 0 0 0 rfl rfl rfl rfl rfl ti25 rfl rfl ?_
  refine r_fieldAddr 0 0 0 rfl rfl rfl rfl rfl ti23 rfl rfl ?_
  refine r_store rfl 0 0 [⟨some g0, 25, _, 4, true⟩, _] [_, _, _, _] rfl rfl rfl rfl ti4 rfl rfl rfl rfl rfl ?_
  refine run_nil ?_
  refine at_tn ?_
  refine at_seq ?_
  refine at_region ?_
  refine r_load 0 0 [_, _, _, _] rfl rfl rfl rfl ti25 rfl rfl rfl rfl ?_
  refine r_store rfl 1 0 [_, ⟨some g1, 25, _, 4, true⟩] [_, _, _, _] rfl rfl rfl rfl ti25 rfl rfl rfl rfl rfl ?_
  refine run_nil ?_
  refine at_tn ?_
  refine at_ret ?_
  refine at_end1 rfl (res_cell 1 rfl rfl ti25 (vs := [_, _, _, _]) rfl rfl (Nat.le_of_ble_eq_true rfl) rfl) (fun w hL => ⟨?_, hL.below⟩)
  exact congrArg Ending.returned (neg8_F hb0)
set_option maxRecDepth 20000 in
theorem c_ref02_Sign (q : Rat) : PCall Tryz.prog 49 #[Q q] (.int .i64 q.num.sign) := by
 refine ⟨by kernel_rfl, fun w => ?_⟩
 refine calls_at (args := [Q q]) Tryz.func49 rfl (Nat.le_of_ble_eq_true rfl) (LRel.nil w) ?_
 show At w ⟨12, [(0, Q q)], []⟩ _
 refine at_seq ?_
 refine at_region ?_
 refine r_box [_, _, _, _] 4 (fun g => [⟨some g, 25, _, 4, true⟩]) rfl rfl rfl rfl rfl (fun _ => rfl) (fun g0 => ?_)
 refine r_assign rfl rfl rfl ?_
 refine run_nil ?_
 refine at_tn ?_
 refine at_seq ?_
 refine at_block ?_
 refine at_seq ?_
 refine at_region ?_
 refine r_fieldAddr 0 0 0 rfl rfl rfl rfl rfl ti25 rfl rfl ?_
 refine r_fieldAddr 0 0 1 rfl rfl rfl rfl rfl ti23 rfl rfl ?_
 refine r_load 0 1 [_] rfl rfl rfl rfl ti9 rfl rfl rfl rfl ?_
 refine r_eqlStr rfl rfl rfl rfl ?_
 refine r_assign rfl rfl rfl ?_
 refine run_nil ?_
 refine at_tn ?_
 refine at_cond rfl (fun hb0 => ?_) (fun hb0 => ?_)
 ·
  refine at_seq ?_
  refine at_region ?_
  refine r_assign rfl rfl rfl ?_
  refine run_nil ?_
  refine at_tn ?_
  refine at_ret ?_
  refine at_br ?_
  refine at_tr ?_
  refine at_end1 rfl (res_tmp rfl) (fun w hL => ⟨?_, hL.below⟩)
  exact congrArg (fun z => Ending.returned (.int .i64 z)) (sign_zero q.num hb0)
 ·
  refine at_seq ?_
  refine at_region ?_
  refine r_fieldAddr 0 0 0 rfl rfl rfl rfl rfl ti25 rfl rfl ?_
  refine r_fieldAddr 0 0 0 rfl rfl rfl rfl rfl ti23 rfl rfl ?_
  refine r_load 0 0 [_] rfl rfl rfl rfl ti4 rfl rfl rfl rfl ?_
  refine r_assign rfl rfl rfl ?_
  refine run_nil ?_
  refine at_tn ?_
  refine at_cond rfl (fun hb1 => ?_) (fun hb1 => ?_)
  ·
   refine at_seq ?_
   refine at_region ?_
   refine r_assign rfl rfl rfl ?_
   refine run_nil ?_
   refine at_tn ?_
   refine at_ret ?_
   refine at_br ?_
   refine at_tr ?_
   refine at_end1 rfl (res_tmp rfl) (fun w hL => ⟨?_, hL.below⟩)
   exact congrArg (fun z => Ending.returned (.int .i64 z)) (sign_neg q.num hb1)
  ·
   refine at_skip ?_
   refine at_bn ?_
   refine at_tn ?_
   refine at_seq ?_
   refine at_region ?_
   refine r_assign rfl rfl rfl ?_
   refine run_nil ?_
   refine at_tn ?_
   refine at_ret ?_
   refine at_end1 rfl (res_tmp rfl) (fun w hL => ⟨?_, hL.below⟩)
   exact congrArg (fun z => Ending.returned (.int .i64 z)) (sign_pos q.num hb0 hb1)
end Go.Proofs.YthnlafhnpphdhaaGreatDoor
