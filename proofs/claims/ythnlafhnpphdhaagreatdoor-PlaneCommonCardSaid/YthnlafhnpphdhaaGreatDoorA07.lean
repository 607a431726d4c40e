/-
  Part 7: lemmas, and walks through the functions that the laws of chapter 07 call. Each theorem states its own conditions.
-/
import Derived.Test.YthnlafhnpphdhaaGreatDoorA02
import Derived.Test.YthnlafhnpphdhaaGreatDoorA06
set_option linter.unusedVariables false
set_option linter.unusedVariables false
set_option linter.unusedSimpArgs false
namespace Go.Via
open Go Go.RowKit
theorem cmpN_nonneg {m n : Nat} : 0 ≤ cmpN m n ↔ n ≤ m := by
  unfold cmpN
  by_cases h1 : m < n
  · rw [if_pos h1]; omega
  · rw [if_neg h1]
    by_cases h2 : n < m
    · rw [if_pos h2]; omega
    · rw [if_neg h2]; omega
theorem cmpN_nonpos {m n : Nat} : cmpN m n ≤ 0 ↔ m ≤ n := by
  unfold cmpN
  by_cases h1 : m < n
  · rw [if_pos h1]; omega
  · rw [if_neg h1]
    by_cases h2 : n < m
    · rw [if_pos h2]; omega
    · rw [if_neg h2]; omega
theorem cmpN_lt0 {m n : Nat} : cmpN m n < 0 ↔ m < n := by
  unfold cmpN
  by_cases h1 : m < n
  · rw [if_pos h1]; omega
  · rw [if_neg h1]
    by_cases h2 : n < m
    · rw [if_pos h2]; omega
    · rw [if_neg h2]; omega
/-- what 'divide' hands back: new rows, or its first argument -/
def divRes {a b : Nat} (x : SR (nb a)) : (SR (nb (a / b)) × SR (nb (a % b))) ⊕ PLift (a < b) → Value
  | .inl z => .tuple #[z.1.v, z.2.v]
  | .inr _ => .tuple #[.slice none 0 0, x.v]
def divNew {a b : Nat} : (SR (nb (a / b)) × SR (nb (a % b))) ⊕ PLift (a < b) → List Blk
  | .inl z => [⟨z.1.b, 3, NV .i64 (D8 (a / b)), z.1.n, true⟩, ⟨z.2.b, 3, NV .i64 (D8 (a % b)), z.2.n, true⟩]
  | .inr _ => []
/-- a block with cells lies somewhere -/
theorem at_base {B : World} {X : Act → World → Prop} {nt : Nat} {t : List (Nat × Value)} {L : List Blk} {b : Blk} (k : Nat) (hk : L[k]? = some b) (h : (b.base = none → b.cs = []) → At B ⟨nt, t, L⟩ X) : At B ⟨nt, t, L⟩ X :=
  fun a w hr => h (fun hb => ((hr.mem.blk k b hk).2 hb).1) a w hr
/-- the digits of a number behind a row of one -/
theorem r_app8 {P : Program} {bl : List Nat} {ops : Array Oper} {K : St → Prop} {rest : List Oper} {nt : Nat} {t : List (Nat × Value)} {L : List Blk} {d : Nat} {ty : TypeId} {pos : String} {af : Array Edge} {g : Option (Nat × Bool)} {x y : Operand}
    {T e : Nat} {z : Value} {gx : Nat} {d0 R : Nat} {ob : Option Nat} {oN oc : Nat} {o2 : Bool} (k k2 : Nat) (mk : Option Nat → Nat → List Blk) (hT : P.underlying T = some (.slice e)) (hi : elB P e 1 z) (hd : Nat.blt d nt = true)
    (hg : wantedS ops ⟨some d, .call { callee := .builtin .append, args := #[x, y], argTypes := #[T, T] }, ty, pos, af, g⟩ t = some true)
    (hk : L[k]? = some ⟨some gx, e, [.int .i64 (d0 : Nat)], 1, true⟩) (hx : ev t x = some (slv (some gx) 0 1 1)) (hk2 : L[k2]? = some ⟨ob, 3, NV .i64 (D8 R), oN, o2⟩) (hb : ob = none → NV .i64 (D8 R) = []) (hy : ev t y = some (slv ob 0 (nb R) oc))
    (hzs : z.cells.size = 1) (hmax : nb R ≤ 1073741824) (hL : ∀ b n, L.set k ⟨b, e, NV .i64 (d0 :: D8 R), n, true⟩ = mk b n)
    (h : ∀ r : SR (nb R + 1), Run P bl ops rest ⟨nt, (d, r.v) :: t, mk r.b r.n⟩ K) :
    Run P bl ops (⟨some d, .call { callee := .builtin .append, args := #[x, y], argTypes := #[T, T] }, ty, pos, af, g⟩ :: rest) ⟨nt, t, L⟩ K := by
  by_cases h0 : nb R = 0
  · have hD : D8 R = [] := List.eq_nil_of_length_eq_zero (by rw [D8_length]; exact h0)
    have := h ⟨some gx, 1, 1, by omega⟩
    rw [← hL] at this
    unfold SR.v at this
    simp only [h0, hD] at this
    have e1 : L.set k ⟨some gx, e, NV .i64 [d0], 1, true⟩ = L := by
      obtain ⟨hlt, he⟩ := List.getElem?_eq_some_iff.1 hk
      exact (congrArg (L.set k) he.symm).trans (List.set_getElem_self hlt)
    rw [e1] at this
    obtain ⟨inf, i1, i2, i3, i5⟩ := elB_spec hi
    rw [h0] at hy
    exact r_append0 hT i1 hd hg hx (Nat.le_refl 1) hy this
  · obtain ⟨g2, rfl⟩ : ∃ g2, ob = some g2 := by
      cases ob with
      | none =>
        have := congrArg List.length (hb rfl)
        rw [NV_length, D8_length] at this
        exact absurd this h0
      | some g2 => exact ⟨g2, rfl⟩
    refine q_append (s := 1) (len := 1) (n2 := nb R) k k2 (fun r => mk (some r.g) r.n) hT hi hd hg hk rfl rfl hx hk2 rfl hy rfl hzs (by simpa using (by omega : 0 < nb R)) rfl (Nat.le_refl _) (Nat.le_refl _) (by rw [NV_length, D8_length]; omega) (NV_one _ _) (by omega) (fun r => ?_) (fun r => ?_)
    · rw [← hL]; rfl
    · have h1 := h ⟨some r.g, r.n, r.cap, by have := r.h; omega⟩
      unfold SR.v at h1
      have e : slv (some r.g) 0 (1 + nb R) r.cap = slv (some r.g) 0 (nb R + 1) r.cap := congrArg (fun n => slv (some r.g) 0 n r.cap) (Nat.add_comm 1 (nb R))
      rw [e]; exact h1
theorem dW8_val (a b q : Nat) : val 256 (a / 256 ^ q % 256 :: D8 (a / 256 ^ (q + 1) % b)) = dW8 a b q := dW8_row _ _ (m256 _)
theorem dW8_lt256 (a b q : Nat) : ∀ d ∈ a / 256 ^ q % 256 :: D8 (a / 256 ^ (q + 1) % b), d < 256 := fun d hd => by
  rcases List.mem_cons.1 hd with rfl | hd
  · exact m256 _
  · exact D8_lt _ d hd
theorem dW8_trim (a b q : Nat) : (digs 256 (val 256 (a / 256 ^ q % 256 :: D8 (a / 256 ^ (q + 1) % b)))).length = nb (dW8 a b q) := by rw [dW8_val]; rfl
theorem dW8_nb (a b q : Nat) : nb (dW8 a b q) ≤ nb (a / 256 ^ (q + 1) % b) + 1 := by
  rw [← dW8_trim]
  exact Nat.le_trans (digs_length_le (by decide) (val_lt (by decide) (dW8_lt256 a b q))) (by simp [D8_length])
theorem dW8_take (a b q : Nat) : NV .i64 (D8 (dW8 a b q)) = (NV .i64 (a / 256 ^ q % 256 :: D8 (a / 256 ^ (q + 1) % b))).take (nb (dW8 a b q)) := by
  have := trim_take (B := 256) (by omega) (dW8_lt256 a b q)
  rw [dW8_val] at this
  rw [NV_take]; congr 1; exact this.symm
theorem dW8_top (a b : Nat) : a / 256 ^ nb a % b = 0 := by rw [Nat.div_eq_of_lt (lt_nb a), Nat.zero_mod]
theorem dW8_nil (a b : Nat) : NV .i64 (D8 (a / 256 ^ nb a % b)) = [] := by
  rw [dW8_top]
  have : D8 0 = [] := List.eq_nil_of_length_eq_zero (by rw [D8_length, nb_zero])
  rw [this]; rfl
theorem dW8_nilv (a b : Nat) : Value.slice none 0 0 = slv none 0 (nb (a / 256 ^ nb a % b)) 0 := by rw [dW8_top, nb_zero]; rfl
def quS (a b q m k : Nat) : Nat := if k = q then m else quT a b (q + 1) k
theorem quS_at (a b q m : Nat) : quS a b q m q = m := by simp [quS]
theorem quS_zero (a b q k : Nat) : quS a b q 0 k = quT a b (q + 1) k := by
  unfold quS
  split
  · rename_i h; subst h; simp [quT]
  · rfl
theorem quS_step (a b q m m' k : Nat) : quS a b q m' k = if k = q then m' else quS a b q m k := by
  unfold quS; split <;> rfl
theorem quS_end (a b q k : Nat) : quS a b q (a / b / 256 ^ q % 256) k = quT a b q k := by
  unfold quS quT
  by_cases h : k = q
  · subst h; simp
  · rw [if_neg h]
    by_cases c : k < q
    · rw [if_pos c, if_pos (by omega)]
    · rw [if_neg c, if_neg (by omega)]
theorem quT_top (a b : Nat) {k : Nat} (h : k < nb a) : quT a b (nb a) k = 0 := by unfold quT; rw [if_pos h]
theorem quT_lt (a b p k : Nat) : quT a b p k < 256 := by unfold quT; split <;> omega
theorem quT_row (a b : Nat) : val 256 (row (nb a) (quT a b 0)) = a / b := by
  have h : a / b < 256 ^ nb a := Nat.lt_of_le_of_lt (Nat.div_le_self _ _) (lt_nb a)
  rw [row_congr (g := fun j => a / b / 256 ^ j % 256) (fun j hj => by unfold quT; rw [if_neg (by omega)]), val_row 256 (by decide), Nat.mod_eq_of_lt h]
theorem quT_trim (a b : Nat) : digs 256 (val 256 (row (nb a) (quT a b 0))) = D8 (a / b) := by rw [quT_row]; rfl
theorem quT_take (a b : Nat) : NV .i64 (D8 (a / b)) = (NV .i64 (row (nb a) (quT a b 0))).take (nb (a / b)) := by
  have := trim_take (B := 256) (by omega) (row_lt (n := nb a) (fun j => quT_lt a b 0 j))
  rw [quT_trim] at this
  rw [NV_take]; congr 1; exact this.symm
theorem nb_below {r b : Nat} (h : r < 256 * b) : nb r ≤ nb b + 1 := nb_le (by
  have := lt_nb b
  rw [Nat.pow_succ]; omega)
theorem dq8_bnd {a b p m r : Nat} (hb : 0 < b) (h : m * b + r = dW8 a b p) : nb r ≤ nb b + 1 := nb_below (by have := dW8_lt a b p hb; have := Nat.zero_le (m * b); omega)
end Go.Via
namespace Go.Via
theorem NV_D8_0 : NV .i64 (D8 0) = [] := by
  have : D8 0 = [] := List.eq_nil_of_length_eq_zero (by rw [D8_length, nb_zero])
  rw [this]; rfl
end Go.Via
set_option linter.unusedVariables false
namespace Go.Proofs.YthnlafhnpphdhaaGreatDoor
open Go Go.RowKit Go.Via
set_option maxRecDepth 20000 in
theorem c_ref02_divide (a b : Nat) (hb : 0 < b) (ha : nb a ≤ 1073740000) (hbn : nb b ≤ 1073740000) (x : SR (nb a)) (y : SR (nb b)) : SCall Tryz.prog 109 [⟨x.b, 3, NV .i64 (D8 a), x.n, false⟩, ⟨y.b, 3, NV .i64 (D8 b), y.n, false⟩] [x.v, y.v] ((SR (nb (a / b)) × SR (nb (a % b))) ⊕ PLift (a < b)) (divRes x) divNew := by
  refine ⟨by kernel_rfl, fun w hL0 => ?_⟩
  refine calls_at (args := [x.v, y.v]) Tryz.func109 rfl (Nat.le_of_ble_eq_true rfl) hL0 ?_
  show At w ⟨105, [(0, x.v), (1, y.v)], [⟨x.b, 3, NV .i64 (D8 a), x.n, false⟩, ⟨y.b, 3, NV .i64 (D8 b), y.n, false⟩]⟩ _
  refine at_seq ?_
  refine at_region ?_
  refine r_assign rfl rfl rfl ?_
  refine r_assign rfl rfl rfl ?_
  refine run_nil ?_
  refine at_tn ?_
  refine at_seq ?_
  refine at_region ?_
  refine r_move rfl rfl rfl ?_
  refine r_scall0 [_] [0] rfl rfl rfl (c_ref02_small a (by omega) x) ⟨⟨_, rfl, le_share⟩, trivial⟩ rfl ?_
  refine r_move rfl rfl rfl ?_
  refine r_extract (vs := [_, _]) rfl rfl rfl rfl ?_
  refine r_extract (vs := [_, _]) rfl rfl rfl rfl ?_
  refine r_assign rfl rfl rfl ?_
  refine r_assign rfl rfl rfl ?_
  refine run_nil ?_
  refine at_tn ?_
  refine at_seq ?_
  refine at_region ?_
  refine r_move rfl rfl rfl ?_
  refine r_scall0 [_] [1] rfl rfl rfl (c_ref02_small b (by omega) y) ⟨⟨_, rfl, le_share⟩, trivial⟩ rfl ?_
  refine r_move rfl rfl rfl ?_
  refine r_extract (vs := [_, _]) rfl rfl rfl rfl ?_
  refine r_extract (vs := [_, _]) rfl rfl rfl rfl ?_
  refine r_assign rfl rfl rfl ?_
  refine r_assign rfl rfl rfl ?_
  refine run_nil ?_
  refine at_tn ?_
  refine at_seq ?_
  refine at_seq ?_
  refine at_region ?_
  refine r_move rfl rfl rfl ?_
  refine r_move rfl rfl rfl ?_
  refine r_split 24 rfl (fun hb0 => ?_) (fun hb0 => ?_)
  ·
    have h1 : nb a ≤ 7 := of_decide_eq_true hb0
    refine r_move rfl rfl rfl ?_
    refine r_pickT rfl rfl rfl rfl ?_
    refine r_move rfl rfl rfl ?_
    refine r_split 27 rfl (fun hb1 => ?_) (fun hb1 => ?_)
    ·
      have h2 : nb b ≤ 7 := of_decide_eq_true hb1
      refine r_move rfl rfl rfl ?_
      refine r_cmpInt rfl rfl rfl rfl rfl ?_
      refine r_pickT rfl rfl rfl rfl ?_
      refine run_nil ?_
      refine at_tn ?_
      refine at_cond rfl (fun hb2 => ?_) (fun hb2 => ?_)
      ·
        have hA : a < 72057594037927936 := Nat.lt_of_lt_of_le (lt_nb a) (pow256_le h1)
        have hB : b < 72057594037927936 := Nat.lt_of_lt_of_le (lt_nb b) (pow256_le h2)
        have hq1 : a / b ≤ a := Nat.div_le_self _ _
        have hr1 : a % b < b := Nat.mod_lt _ hb
        refine at_know 6 (.int .i64 (a : Nat)) rfl (by rw [if_pos h1]) ?_
        refine at_know 8 (.int .i64 (b : Nat)) rfl (by rw [if_pos h2]) ?_
        refine at_seq ?_
        refine at_drawn (l' := [⟨_,_,_,_,_,_⟩, ⟨_,_,_,_,_,_⟩, ⟨_,_,_,_,_,_⟩, ⟨_,_,_,_,_,_⟩, ⟨_,_,_,_,_,_⟩, ⟨_,_,_,_,_,_⟩, ⟨_,_,_,_,_,_⟩, ⟨_,_,_,_,_,_⟩, ⟨_,_,_,_,_,_⟩, ⟨_,_,_,_,_,_⟩]) [] [0, 1, 2, 4, 5, 6, 3, 7, 8, 9] mixed (by kernel_rfl) rfl (by kernel_rfl) ?_
        refine r_move rfl rfl rfl ?_
        refine r_move rfl rfl rfl ?_
        refine r_div (r := ((a / b : Nat) : Int)) rfl rfl rfl rfl (by omega) (congrArg some (quo_i _ _ rfl rfl (by omega))) ?_
        refine r_move rfl rfl rfl ?_
        refine r_move rfl rfl rfl ?_
        refine r_div (r := ((a % b : Nat) : Int)) rfl rfl rfl rfl (by omega) (congrArg some (rem_n _ _ rfl rfl)) ?_
        refine r_scall [_] [] rfl rfl rfl (c_ref02_large (a / b) (by omega)) trivial rfl (.inr fun x b hb => by rw [List.mem_singleton.1 hb]) (fun xq => ?_)
        refine r_scall [_] [] rfl rfl rfl (c_ref02_large (a % b) (by omega)) trivial rfl (.inr fun x b hb => by rw [List.mem_singleton.1 hb]) (fun xr => ?_)
        refine r_assign rfl rfl rfl ?_
        refine r_assign rfl rfl rfl ?_
        refine run_nil ?_
        refine at_tn ?_
        refine at_ret ?_
        refine at_tr ?_
        refine at_end2 rfl (res_tmp rfl) (res_tmp rfl) (fun w hL => ⟨.inl (xq, xr), ?_, hL.picks [some 2, some 3] ⟨⟨_, rfl, Blk.le_refl _⟩, ⟨_, rfl, Blk.le_refl _⟩, trivial⟩ rfl rfl⟩)
        exact rfl
      · exact absurd hb2 (by rw [if_pos h2]; simp; omega)
    ·
      refine r_no rfl rfl rfl ?_
      refine r_no rfl rfl rfl ?_
      refine r_pickF rfl rfl rfl rfl ?_
      refine run_nil ?_
      refine at_tn ?_
      refine at_condF rfl ?_
      refine at_skip ?_
      refine at_tn ?_
      refine at_seq ?_
      refine at_seq ?_
      refine at_region ?_
      refine r_move rfl rfl rfl ?_
      refine r_move rfl rfl rfl ?_
      refine r_scall0 [_, _] [0, 1] rfl rfl rfl (c_ref02_compare a b (by omega) x y) ⟨⟨_, rfl, le_share⟩, ⟨_, rfl, le_share⟩, trivial⟩ rfl ?_
      refine r_cmpInt rfl rfl rfl rfl rfl ?_
      refine run_nil ?_
      refine at_tn ?_
      refine at_cond rfl (fun hb2 => ?_) (fun hb2 => ?_)
      ·
        have hlt : a < b := cmpN_lt0.1 (of_decide_eq_true hb2)
        refine at_seq ?_
        refine at_region ?_
        refine r_move rfl rfl rfl ?_
        refine r_assign rfl rfl rfl ?_
        refine r_assign rfl rfl rfl ?_
        refine run_nil ?_
        refine at_tn ?_
        refine at_ret ?_
        refine at_tr ?_
        refine at_end2 rfl (res_tmp rfl) (res_tmp rfl) (fun w hL => ⟨.inr ⟨hlt⟩, ?_, hL.picks [] trivial rfl rfl⟩)
        exact rfl
      ·
        have hge : b ≤ a := by have := of_decide_eq_false hb2; rw [cmpN_lt0] at this; omega
        refine at_skip ?_
        refine at_tn ?_
        refine at_seq ?_
        refine at_region ?_
        refine r_move rfl rfl rfl ?_
        refine r_lenS u85 rfl rfl rfl ?_
        refine q_makeSlice (c := nb a) (NV .i64 (row (nb a) (quT a b (nb a)))) (fun g => [_, _, ⟨some g, 3, _, _, true⟩]) u85 el3 rfl rfl rfl rfl rfl rfl (by omega) (by rw [row_congr (g := fun _ => 0) (fun j hj => quT_top a b hj), row_zero, NV_replicate]) (fun _ => rfl) (fun g0 => ?_)
        refine r_assign rfl rfl rfl ?_
        refine run_nil ?_
        refine at_tn ?_
        refine at_seq ?_
        refine at_seq ?_
        refine at_region ?_
        refine r_move rfl rfl rfl ?_
        refine r_lenS u85 rfl rfl rfl ?_
        refine r_arith (r := ((nb a : Nat) : Int) - 1) rfl rfl rfl rfl (congrArg some (wi (by omega) (by omega) (by omega))) ?_
        refine r_assign rfl rfl rfl ?_
        refine run_nil ?_
        refine at_tn ?_
        refine at_block ?_
        refine enterL (nt := 105) (ι := (p : {p : Nat // p ≤ nb a}) × SR (nb (a / 256 ^ p.1 % b))) (fun ⟨⟨p, hp⟩, z⟩ => [(0, x.v), (1, y.v), (4, slv (some g0) 0 (nb a) (nb a)), (5, z.v), (10, .int .i64 ((p : Nat) - 1))]) (fun ⟨⟨p, hp⟩, z⟩ => [⟨x.b, 3, NV .i64 (D8 a), x.n, false⟩, ⟨y.b, 3, NV .i64 (D8 b), y.n, false⟩, ⟨some g0, 3, NV .i64 (row (nb a) (quT a b p)), nb a, true⟩, ⟨z.b, 3, NV .i64 (D8 (a / 256 ^ p % b)), z.n, true⟩]) (fun ⟨⟨p, hp⟩, z⟩ => p) ⟨⟨nb a, Nat.le_refl _⟩, ⟨none, 0, 0, by rw [dW8_top, nb_zero]; exact Nat.le_refl _⟩⟩ ⟨rfl, rfl, rfl, (look_val rfl (dW8_nilv a b)), rfl, trivial⟩ (weak_picks [some 0, some 1, some 2, none] ⟨⟨_, rfl, Blk.le_refl _⟩, ⟨_, rfl, Blk.le_refl _⟩, ⟨_, rfl, Blk.le_refl _⟩, ⟨rfl, dW8_nil a b, rfl⟩, trivial⟩ rfl rfl) ?_
        rintro ⟨⟨p, hp⟩, z⟩
        show At _ ⟨105, [(0, x.v), (1, y.v), (4, slv (some g0) 0 (nb a) (nb a)), (5, z.v), (10, .int .i64 ((p : Nat) - 1))], [⟨x.b, 3, NV .i64 (D8 a), x.n, false⟩, ⟨y.b, 3, NV .i64 (D8 b), y.n, false⟩, ⟨some g0, 3, NV .i64 (row (nb a) (quT a b p)), nb a, true⟩, ⟨z.b, 3, NV .i64 (D8 (a / 256 ^ p % b)), z.n, true⟩]⟩ _
        refine at_seq ?_
        refine at_seq ?_
        refine at_region ?_
        refine r_move rfl rfl rfl ?_
        refine r_cmpInt rfl rfl rfl rfl rfl ?_
        refine run_nil ?_
        refine at_tn ?_
        refine at_cond rfl (fun hb4 => ?_) (fun hb4 => ?_)
        ·
          obtain ⟨q, rfl⟩ : ∃ q, p = q + 1 := ⟨p - 1, by have := of_decide_eq_true hb4; omega⟩
          refine at_know 10 (.int .i64 (q : Nat)) rfl (congrArg (Value.int .i64) (by omega)) ?_
          have hR := Nat.mod_lt (a / 256 ^ (q + 1)) hb
          have hnR : nb (a / 256 ^ (q + 1) % b) ≤ nb b := nb_mono (Nat.le_of_lt hR)
          have hdq := m256 (a / 256 ^ q)
          have hWn := dW8_nb a b q
          refine at_base 3 rfl (fun hbase => ?_)
          refine at_skip ?_
          refine at_tn ?_
          refine at_seq ?_
          refine at_block ?_
          refine at_seq ?_
          refine at_region ?_
          refine r_move rfl rfl rfl ?_
          refine r_move rfl rfl rfl ?_
          refine r_indexAddr 0 (q) u85 ti3 rfl rfl rfl rfl rfl (by omega) (by omega) (NV_ne (by rw [D8_length]; omega)) (by show 0 + Int.toNat _ * 1 = _; omega) ?_
          refine r_load1 0 (q) ti3 rfl rfl rfl rfl (NV_get (D8_get (by omega))) ?_
          refine r_buildSlice [(0, _)] (fun g => [_, _, _, _, ⟨some g, 3, _, 1, true⟩]) rfl rfl rfl (bs85_1) rfl (fun _ => rfl) (fun g1 => ?_)
          refine r_move rfl rfl rfl ?_
          refine r_app8 4 3 (fun b n => [_, _, _, _, ⟨b, 3, _, n, true⟩]) u85 el3 rfl rfl rfl rfl rfl hbase rfl rfl (by omega) (fun _ _ => rfl) (fun r => ?_)
          refine r_scall0 [_] [4] rfl rfl rfl (c_ref02_trim (a / 256 ^ q % 256 :: D8 (a / 256 ^ (q + 1) % b)) (dW8_lt256 a b q) (by rw [List.length_cons, D8_length]; omega) (by rw [List.length_cons, D8_length]) r) ⟨⟨_, rfl, le_share⟩, trivial⟩ rfl ?_
          refine r_know 61 (slv r.b 0 (nb (dW8 a b q)) r.cap) rfl (by rw [dW8_trim]) ?_
          refine r_assign rfl rfl rfl ?_
          refine run_nil ?_
          refine at_tn ?_
          refine at_block ?_
          refine enterL (nt := 105) (ι := (x : {x : Nat × Nat // x.1 * b + x.2 = dW8 a b q}) × SR (nb x.1.2)) (fun ⟨⟨⟨m, rr⟩, hq⟩, z2⟩ => [(0, x.v), (1, y.v), (4, slv (some g0) 0 (nb a) (nb a)), (5, z2.v), (10, .int .i64 (q : Nat))]) (fun ⟨⟨⟨m, rr⟩, hq⟩, z2⟩ => [⟨x.b, 3, NV .i64 (D8 a), x.n, false⟩, ⟨y.b, 3, NV .i64 (D8 b), y.n, false⟩, ⟨some g0, 3, NV .i64 (row (nb a) (quS a b q m)), nb a, true⟩, ⟨z2.b, 3, NV .i64 (D8 (rr)), z2.n, true⟩]) (fun ⟨⟨⟨m, rr⟩, hq⟩, z2⟩ => rr) ⟨⟨(0, dW8 a b q), by omega⟩, ⟨r.b, r.n, r.cap, Nat.le_trans hWn r.h⟩⟩ ⟨rfl, rfl, rfl, rfl, rfl, trivial⟩ (weak_picks [some 0, some 1, some 2, some 4] ⟨⟨_, rfl, Blk.le_refl _⟩, ⟨_, rfl, Blk.le_refl _⟩, ⟨_, rfl, le_same (congrArg (fun c => (⟨some g0, 3, NV .i64 c, nb a, true⟩ : Blk)) (row_congr fun j _ => quS_zero a b q j))⟩, ⟨_, rfl, rfl, rfl, rfl, ⟨nb (dW8 a b q), dW8_take a b q⟩, fun _ => rfl⟩, trivial⟩ rfl rfl) ?_
          rintro ⟨⟨⟨m, rr⟩, hq⟩, z2⟩
          show At _ ⟨105, [(0, x.v), (1, y.v), (4, slv (some g0) 0 (nb a) (nb a)), (5, z2.v), (10, .int .i64 (q : Nat))], [⟨x.b, 3, NV .i64 (D8 a), x.n, false⟩, ⟨y.b, 3, NV .i64 (D8 b), y.n, false⟩, ⟨some g0, 3, NV .i64 (row (nb a) (quS a b q m)), nb a, true⟩, ⟨z2.b, 3, NV .i64 (D8 (rr)), z2.n, true⟩]⟩ _
          replace hq : m * b + rr = dW8 a b q := hq
          have hrn := dq8_bnd hb hq
          refine at_seq ?_
          refine at_seq ?_
          refine at_region ?_
          refine r_move rfl rfl rfl ?_
          refine r_move rfl rfl rfl ?_
          refine r_scall0 [_, _] [3, 1] rfl rfl rfl (c_ref02_compare rr b (by omega) z2 y) ⟨⟨_, rfl, le_share⟩, ⟨_, rfl, le_share⟩, trivial⟩ rfl ?_
          refine r_cmpInt rfl rfl rfl rfl rfl ?_
          refine r_move rfl rfl rfl ?_
          refine r_split 66 rfl (fun hb6 => ?_) (fun hb6 => ?_)
          ·
            have hge2 : b ≤ rr := cmpN_nonneg.1 (of_decide_eq_true hb6)
            have hm1 := dq8_lt (s := 1) hb hq (by omega)
            refine r_move rfl rfl rfl ?_
            refine r_move rfl rfl rfl ?_
            refine r_indexAddr 2 (q) u85 ti3 rfl rfl rfl rfl rfl (by omega) (by omega) (NV_ne (by rw [row_length]; omega)) (by show 0 + Int.toNat _ * 1 = _; omega) ?_
            refine r_load1 2 (q) ti3 rfl rfl rfl rfl (NV_get ((row_get (by omega)).trans (by rw [quS_at]))) ?_
            refine r_cmpInt rfl rfl rfl rfl rfl ?_
            refine r_pickT rfl rfl rfl rfl ?_
            refine run_nil ?_
            refine at_tn ?_
            refine at_cond rfl (fun hb7 => ?_) (fun hb7 => ?_)
            ·
              refine at_skip ?_
              refine at_tn ?_
              refine at_block ?_
              refine at_seq ?_
              refine at_region ?_
              refine r_move rfl rfl rfl ?_
              refine r_assign rfl rfl rfl ?_
              refine r_assign rfl rfl rfl ?_
              refine run_nil ?_
              refine at_tn ?_
              refine at_seq ?_
              refine at_block ?_
              refine enterL (nt := 105) (ι := (s : {s : Nat // 0 < s ∧ s ≤ 128 ∧ s * b ≤ rr}) × SR (nb (s.1 * b))) (fun ⟨⟨s, hs0, hs1, hs2⟩, z3⟩ => [(0, x.v), (1, y.v), (4, slv (some g0) 0 (nb a) (nb a)), (5, z2.v), (10, .int .i64 (q : Nat)), (11, .int .i64 (s : Nat)), (12, z3.v)]) (fun ⟨⟨s, hs0, hs1, hs2⟩, z3⟩ => [⟨x.b, 3, NV .i64 (D8 a), x.n, false⟩, ⟨y.b, 3, NV .i64 (D8 b), y.n, false⟩, ⟨some g0, 3, NV .i64 (row (nb a) (quS a b q m)), nb a, true⟩, ⟨z2.b, 3, NV .i64 (D8 (rr)), z2.n, true⟩, ⟨z3.b, 3, NV .i64 (D8 (s * b)), z3.n, false⟩]) (fun ⟨⟨s, hs0, hs1, hs2⟩, z3⟩ => 128 - s) ⟨⟨1, by omega, by omega, by omega⟩, ⟨y.b, y.n, y.cap, by rw [Nat.one_mul]; exact y.h⟩⟩ ⟨rfl, rfl, rfl, rfl, rfl, rfl, (look_val rfl (congrArg (fun n => slv y.b 0 (nb n) y.cap) (Nat.one_mul b).symm)), trivial⟩ (weak_picks [some 0, some 1, some 2, some 3, some 1] ⟨⟨_, rfl, Blk.le_refl _⟩, ⟨_, rfl, Blk.le_refl _⟩, ⟨_, rfl, Blk.le_refl _⟩, ⟨_, rfl, Blk.le_refl _⟩, ⟨_, rfl, le_same (congrArg (fun n => (⟨y.b, 3, NV .i64 (D8 n), y.n, false⟩ : Blk)) (Nat.one_mul b))⟩, trivial⟩ rfl rfl) ?_
              rintro ⟨⟨s, hs0, hs1, hs2⟩, z3⟩
              show At _ ⟨105, [(0, x.v), (1, y.v), (4, slv (some g0) 0 (nb a) (nb a)), (5, z2.v), (10, .int .i64 (q : Nat)), (11, .int .i64 (s : Nat)), (12, z3.v)], [⟨x.b, 3, NV .i64 (D8 a), x.n, false⟩, ⟨y.b, 3, NV .i64 (D8 b), y.n, false⟩, ⟨some g0, 3, NV .i64 (row (nb a) (quS a b q m)), nb a, true⟩, ⟨z2.b, 3, NV .i64 (D8 (rr)), z2.n, true⟩, ⟨z3.b, 3, NV .i64 (D8 (s * b)), z3.n, false⟩]⟩ _
              have e2 : 2 * s * b = s * b + s * b := by rw [Nat.two_mul, Nat.add_mul]
              replace hs2 : s * b ≤ rr := hs2
              have hsn : nb (s * b) ≤ nb rr := nb_mono hs2
              have hsn2 : nb (s * b + s * b) ≤ nb b + 2 := nb_le (by have h1 := lt_nb b; have h2 : s * b ≤ 128 * b := Nat.mul_le_mul_right _ hs1; rw [Nat.pow_succ, Nat.pow_succ]; omega)
              refine at_seq ?_
              refine at_seq ?_
              refine at_region ?_
              refine r_move rfl rfl rfl ?_
              refine r_arith (r := ((2 * s : Nat) : Int)) rfl rfl rfl rfl (congrArg some (wi (by omega) (by omega) (by omega))) ?_
              refine r_cmpInt rfl rfl rfl rfl rfl ?_
              refine r_move rfl rfl rfl ?_
              refine r_split 77 rfl (fun hb9 => ?_) (fun hb9 => ?_)
              ·
                have hs3 : 2 * s ≤ 128 := (by have := of_decide_eq_true hb9; omega)
                refine r_move rfl rfl rfl ?_
                refine r_move rfl rfl rfl ?_
                refine r_scall [_, _] [4, 4] rfl rfl rfl (c_ref02_plus (s * b) (s * b) (by omega) (by omega) z3 z3) ⟨⟨_, rfl, le_share⟩, ⟨_, rfl, le_share⟩, trivial⟩ rfl (.inr fun x b hb => by rw [List.mem_singleton.1 hb]) (fun z4 => ?_)
                refine r_move rfl rfl rfl ?_
                refine r_scall0 [_, _] [5, 3] rfl rfl rfl (c_ref02_compare (s * b + s * b) rr (by omega) z4 z2) ⟨⟨_, rfl, le_share⟩, ⟨_, rfl, le_share⟩, trivial⟩ rfl ?_
                refine r_cmpInt rfl rfl rfl rfl rfl ?_
                refine r_pickT rfl rfl rfl rfl ?_
                refine run_nil ?_
                refine at_tn ?_
                refine at_cond rfl (fun hb10 => ?_) (fun hb10 => ?_)
                ·
                  have hs4 : s * b + s * b ≤ rr := cmpN_nonpos.1 (of_decide_eq_true hb10)
                  refine at_skip ?_
                  refine at_tn ?_
                  refine at_block ?_
                  refine at_region ?_
                  refine r_move rfl rfl rfl ?_
                  refine r_arith (r := ((2 * s : Nat) : Int)) rfl rfl rfl rfl (congrArg some (wi (by omega) (by omega) (by omega))) ?_
                  refine r_move rfl rfl rfl ?_
                  refine r_move rfl rfl rfl ?_
                  refine r_scall [_, _] [4, 4] rfl rfl rfl (c_ref02_plus (s * b) (s * b) (by omega) (by omega) z3 z3) ⟨⟨_, rfl, le_share⟩, ⟨_, rfl, le_share⟩, trivial⟩ rfl (.inr fun x b hb => by rw [List.mem_singleton.1 hb]) (fun z5 => ?_)
                  refine r_assign rfl rfl rfl ?_
                  refine r_assign rfl rfl rfl ?_
                  refine run_nil ?_
                  refine at_bn ?_
                  refine at_tn ?_
                  exact nextL ⟨⟨2 * s, by omega, hs3, by rw [Nat.two_mul, Nat.add_mul]; exact hs4⟩, ⟨z5.b, z5.n, z5.cap, by show nb (2 * s * b) ≤ z5.cap; rw [e2]; exact z5.h⟩⟩ (by show 128 - 2 * s < 128 - s; omega) ⟨rfl, rfl, rfl, rfl, rfl, rfl, (look_val rfl (congrArg (fun n => slv z5.b 0 (nb n) z5.cap) e2.symm)), trivial⟩ (weak_picks [some 0, some 1, some 2, some 3, some 6] ⟨⟨_, rfl, Blk.le_refl _⟩, ⟨_, rfl, Blk.le_refl _⟩, ⟨_, rfl, Blk.le_refl _⟩, ⟨_, rfl, Blk.le_refl _⟩, ⟨_, rfl, ⟨rfl, rfl, rfl, ⟨(NV .i64 (D8 (s * b + s * b))).length, by show NV .i64 (D8 (2 * s * b)) = _; rw [e2, List.take_length]⟩, fun h => by cases h⟩⟩, trivial⟩ rfl rfl)
                ·
                  refine at_exit ?_
                  refine at_te ?_
                  refine at_te ?_
                  refine at_be ?_
                  refine at_tn ?_
                  refine at_drawn (l' := [⟨_,_,_,_,_,_⟩, ⟨_,_,_,_,_,_⟩, ⟨_,_,_,_,_,_⟩, ⟨_,_,_,_,_,_⟩, ⟨_,_,_,_,_,_⟩, ⟨_,_,_,_,_,_⟩, ⟨_,_,_,_,_,_⟩, ⟨_,_,_,_,_,_⟩, ⟨_,_,_,_,_,_⟩, ⟨_,_,_,_,_,_⟩, ⟨_,_,_,_,_,_⟩, ⟨_,_,_,_,_,_⟩, ⟨_,_,_,_,_,_⟩, ⟨_,_,_,_,_,_⟩]) [2000000] [0, 1, 2, 3, 5, 6, 7, 8, 9, 10, 4, 11, 12, 13] mixed (by kernel_rfl) rfl (by kernel_rfl) ?_
                  refine r_move rfl rfl rfl ?_
                  refine r_move rfl rfl rfl ?_
                  refine r_move rfl rfl rfl ?_
                  refine r_move rfl rfl rfl ?_
                  refine r_move rfl rfl rfl ?_
                  refine r_move rfl rfl rfl ?_
                  refine r_indexAddr 2 (q) u85 ti3 rfl rfl rfl rfl rfl (by omega) (by omega) (NV_ne (by rw [row_length]; omega)) (by show 0 + Int.toNat _ * 1 = _; omega) ?_
                  refine r_load1 2 (q) ti3 rfl rfl rfl rfl (NV_get ((row_get (by omega)).trans (by rw [quS_at]))) ?_
                  refine r_move rfl rfl rfl ?_
                  refine r_arith (r := ((m + s : Nat) : Int)) rfl rfl rfl rfl (congrArg some (wi (by omega) (by omega) (by omega))) ?_
                  refine r_scall [_, _] [3, 4] rfl rfl rfl (c_ref02_minus rr (s * b) (by omega) hs2 z2 z3) ⟨⟨_, rfl, le_share⟩, ⟨_, rfl, le_share⟩, trivial⟩ rfl (.inr fun x b hb => by rw [List.mem_singleton.1 hb]) (fun z6 => ?_)
                  refine r_assign rfl rfl rfl ?_
                  refine r_indexAddr 2 (q) u85 ti3 rfl rfl rfl rfl rfl (by omega) (by omega) (NV_ne (by rw [row_length]; omega)) (by show 0 + Int.toNat _ * 1 = _; omega) ?_
                  refine r_store1 rfl 2 (q) [_, _, ⟨some g0, 3, _, _, true⟩, _, _, _, _] (NV .i64 (row (nb a) (quS a b q (m + s)))) ti3 rfl rfl rfl rfl rfl rfl rfl rfl (by rw [NV_length, row_length]; omega) (by rw [NV_set, row_set (fun j _ => quS_step a b q m (m + s) j)]) rfl ?_
                  refine run_nil ?_
                  refine at_bn ?_
                  refine at_tn ?_
                  exact nextL ⟨⟨(m + s, rr - s * b), dq8_next hq hs2⟩, z6⟩ (by have := Nat.mul_pos hs0 hb; show rr - s * b < rr; omega) ⟨rfl, rfl, rfl, rfl, rfl, trivial⟩ (weak_picks [some 0, some 1, some 2, some 6] ⟨⟨_, rfl, Blk.le_refl _⟩, ⟨_, rfl, Blk.le_refl _⟩, ⟨_, rfl, Blk.le_refl _⟩, ⟨_, rfl, Blk.le_refl _⟩, trivial⟩ rfl rfl)
              ·
                refine r_no rfl rfl rfl ?_
                refine r_no rfl rfl rfl ?_
                refine r_no rfl rfl rfl ?_
                refine r_no rfl rfl rfl ?_
                refine r_no rfl rfl rfl ?_
                refine r_no rfl rfl rfl ?_
                refine r_pickF rfl rfl rfl rfl ?_
                refine run_nil ?_
                refine at_tn ?_
                refine at_condF rfl ?_
                refine at_exit ?_
                refine at_te ?_
                refine at_te ?_
                refine at_be ?_
                refine at_tn ?_
                refine at_drawn (l' := [⟨_,_,_,_,_,_⟩, ⟨_,_,_,_,_,_⟩, ⟨_,_,_,_,_,_⟩, ⟨_,_,_,_,_,_⟩, ⟨_,_,_,_,_,_⟩, ⟨_,_,_,_,_,_⟩, ⟨_,_,_,_,_,_⟩, ⟨_,_,_,_,_,_⟩, ⟨_,_,_,_,_,_⟩, ⟨_,_,_,_,_,_⟩, ⟨_,_,_,_,_,_⟩, ⟨_,_,_,_,_,_⟩, ⟨_,_,_,_,_,_⟩, ⟨_,_,_,_,_,_⟩]) [2000000] [0, 1, 2, 3, 5, 6, 7, 8, 9, 10, 4, 11, 12, 13] mixed (by kernel_rfl) rfl (by kernel_rfl) ?_
                refine r_move rfl rfl rfl ?_
                refine r_move rfl rfl rfl ?_
                refine r_move rfl rfl rfl ?_
                refine r_move rfl rfl rfl ?_
                refine r_move rfl rfl rfl ?_
                refine r_move rfl rfl rfl ?_
                refine r_indexAddr 2 (q) u85 ti3 rfl rfl rfl rfl rfl (by omega) (by omega) (NV_ne (by rw [row_length]; omega)) (by show 0 + Int.toNat _ * 1 = _; omega) ?_
                refine r_load1 2 (q) ti3 rfl rfl rfl rfl (NV_get ((row_get (by omega)).trans (by rw [quS_at]))) ?_
                refine r_move rfl rfl rfl ?_
                refine r_arith (r := ((m + s : Nat) : Int)) rfl rfl rfl rfl (congrArg some (wi (by omega) (by omega) (by omega))) ?_
                refine r_scall [_, _] [3, 4] rfl rfl rfl (c_ref02_minus rr (s * b) (by omega) hs2 z2 z3) ⟨⟨_, rfl, le_share⟩, ⟨_, rfl, le_share⟩, trivial⟩ rfl (.inr fun x b hb => by rw [List.mem_singleton.1 hb]) (fun z6 => ?_)
                refine r_assign rfl rfl rfl ?_
                refine r_indexAddr 2 (q) u85 ti3 rfl rfl rfl rfl rfl (by omega) (by omega) (NV_ne (by rw [row_length]; omega)) (by show 0 + Int.toNat _ * 1 = _; omega) ?_
                refine r_store1 rfl 2 (q) [_, _, ⟨some g0, 3, _, _, true⟩, _, _, _] (NV .i64 (row (nb a) (quS a b q (m + s)))) ti3 rfl rfl rfl rfl rfl rfl rfl rfl (by rw [NV_length, row_length]; omega) (by rw [NV_set, row_set (fun j _ => quS_step a b q m (m + s) j)]) rfl ?_
                refine run_nil ?_
                refine at_bn ?_
                refine at_tn ?_
                exact nextL ⟨⟨(m + s, rr - s * b), dq8_next hq hs2⟩, z6⟩ (by have := Nat.mul_pos hs0 hb; show rr - s * b < rr; omega) ⟨rfl, rfl, rfl, rfl, rfl, trivial⟩ (weak_picks [some 0, some 1, some 2, some 5] ⟨⟨_, rfl, Blk.le_refl _⟩, ⟨_, rfl, Blk.le_refl _⟩, ⟨_, rfl, Blk.le_refl _⟩, ⟨_, rfl, Blk.le_refl _⟩, trivial⟩ rfl rfl)
            · exact absurd (of_decide_eq_false hb7) (by omega)
          ·
            have hlt2 : rr < b := by have := of_decide_eq_false hb6; rw [cmpN_nonneg] at this; omega
            obtain ⟨hm, hr⟩ := dq8 hb hq hlt2
            subst hm; subst hr
            refine r_no rfl rfl rfl ?_
            refine r_no rfl rfl rfl ?_
            refine r_no rfl rfl rfl ?_
            refine r_no rfl rfl rfl ?_
            refine r_no rfl rfl rfl ?_
            refine r_pickF rfl rfl rfl rfl ?_
            refine run_nil ?_
            refine at_tn ?_
            refine at_condF rfl ?_
            refine at_exit ?_
            refine at_te ?_
            refine at_te ?_
            refine at_be ?_
            refine at_bn ?_
            refine at_tn ?_
            refine at_region ?_
            refine r_move rfl rfl rfl ?_
            refine r_arith (r := ((q : Nat) : Int) - 1) rfl rfl rfl rfl (congrArg some (wi (by omega) (by omega) (by omega))) ?_
            refine r_assign rfl rfl rfl ?_
            refine run_nil ?_
            refine at_tn ?_
            exact nextL ⟨⟨q, by omega⟩, z2⟩ (Nat.lt_succ_self q) ⟨rfl, rfl, rfl, rfl, rfl, trivial⟩ (weak_picks [some 0, some 1, some 2, some 3] ⟨⟨_, rfl, Blk.le_refl _⟩, ⟨_, rfl, Blk.le_refl _⟩, ⟨_, rfl, le_same (congrArg (fun c => (⟨some g0, 3, NV .i64 c, nb a, true⟩ : Blk)) (row_congr fun j _ => (quS_end a b q j).symm))⟩, ⟨_, rfl, Blk.le_refl _⟩, trivial⟩ rfl rfl)
        ·
          have hp0 : p = 0 := by have := of_decide_eq_false hb4; omega
          subst hp0
          refine at_exit ?_
          refine at_te ?_
          refine at_te ?_
          refine at_be ?_
          refine at_tn ?_
          refine at_seq ?_
          refine at_region ?_
          refine r_move rfl rfl rfl ?_
          refine r_scall0 [_] [2] rfl rfl rfl (c_ref02_trim (row (nb a) (quT a b 0)) (row_lt fun j => quT_lt a b 0 j) (by rw [row_length]; omega) (row_length _ _) ⟨some g0, nb a, nb a, Nat.le_refl _⟩) ⟨⟨_, rfl, le_share⟩, trivial⟩ rfl ?_
          refine r_know 103 (slv (some g0) 0 (nb (a / b)) (nb a)) rfl (by rw [quT_trim]; rfl) ?_
          refine r_move rfl rfl rfl ?_
          refine r_assign rfl rfl rfl ?_
          refine r_assign rfl rfl rfl ?_
          refine run_nil ?_
          refine at_tn ?_
          refine at_ret ?_
          refine at_end2 rfl (res_tmp rfl) (res_tmp rfl) (fun w hL => ⟨.inl (⟨some g0, nb a, nb a, nb_mono (Nat.div_le_self _ _)⟩, ⟨z.b, z.n, z.cap, by have h := z.h; simp only [Nat.pow_zero, Nat.div_one] at h; exact h⟩), ?_, ?_⟩)
          · exact congrArg (fun n => Ending.returned (.tuple #[slv (some g0) 0 (nb (a / b)) (nb a), slv z.b 0 (nb n) z.cap])) (show a / 256 ^ 0 % b = a % b by rw [Nat.pow_zero, Nat.div_one])
          · exact hL.picks [some 2, some 3] ⟨⟨_, rfl, rfl, rfl, rfl, ⟨nb (a / b), quT_take a b⟩, fun _ => rfl⟩, ⟨_, rfl, le_same (congrArg (fun n => (⟨z.b, 3, NV .i64 (D8 n), z.n, true⟩ : Blk)) (show a % b = a / 256 ^ 0 % b by rw [Nat.pow_zero, Nat.div_one]))⟩, trivial⟩ rfl rfl
  ·
    refine r_no rfl rfl rfl ?_
    refine r_pickF rfl rfl rfl rfl ?_
    refine r_move rfl rfl rfl ?_
    refine r_no rfl rfl rfl ?_
    refine r_no rfl rfl rfl ?_
    refine r_pickF rfl rfl rfl rfl ?_
    refine run_nil ?_
    refine at_tn ?_
    refine at_condF rfl ?_
    refine at_skip ?_
    refine at_tn ?_
    refine at_seq ?_
    refine at_seq ?_
    refine at_region ?_
    refine r_move rfl rfl rfl ?_
    refine r_move rfl rfl rfl ?_
    refine r_scall0 [_, _] [0, 1] rfl rfl rfl (c_ref02_compare a b (by omega) x y) ⟨⟨_, rfl, le_share⟩, ⟨_, rfl, le_share⟩, trivial⟩ rfl ?_
    refine r_cmpInt rfl rfl rfl rfl rfl ?_
    refine run_nil ?_
    refine at_tn ?_
    refine at_cond rfl (fun hb1 => ?_) (fun hb1 => ?_)
    ·
      have hlt : a < b := cmpN_lt0.1 (of_decide_eq_true hb1)
      refine at_seq ?_
      refine at_region ?_
      refine r_move rfl rfl rfl ?_
      refine r_assign rfl rfl rfl ?_
      refine r_assign rfl rfl rfl ?_
      refine run_nil ?_
      refine at_tn ?_
      refine at_ret ?_
      refine at_tr ?_
      refine at_end2 rfl (res_tmp rfl) (res_tmp rfl) (fun w hL => ⟨.inr ⟨hlt⟩, ?_, hL.picks [] trivial rfl rfl⟩)
      exact rfl
    ·
      have hge : b ≤ a := by have := of_decide_eq_false hb1; rw [cmpN_lt0] at this; omega
      refine at_skip ?_
      refine at_tn ?_
      refine at_seq ?_
      refine at_region ?_
      refine r_move rfl rfl rfl ?_
      refine r_lenS u85 rfl rfl rfl ?_
      refine q_makeSlice (c := nb a) (NV .i64 (row (nb a) (quT a b (nb a)))) (fun g => [_, _, ⟨some g, 3, _, _, true⟩]) u85 el3 rfl rfl rfl rfl rfl rfl (by omega) (by rw [row_congr (g := fun _ => 0) (fun j hj => quT_top a b hj), row_zero, NV_replicate]) (fun _ => rfl) (fun g0 => ?_)
      refine r_assign rfl rfl rfl ?_
      refine run_nil ?_
      refine at_tn ?_
      refine at_seq ?_
      refine at_seq ?_
      refine at_region ?_
      refine r_move rfl rfl rfl ?_
      refine r_lenS u85 rfl rfl rfl ?_
      refine r_arith (r := ((nb a : Nat) : Int) - 1) rfl rfl rfl rfl (congrArg some (wi (by omega) (by omega) (by omega))) ?_
      refine r_assign rfl rfl rfl ?_
      refine run_nil ?_
      refine at_tn ?_
      refine at_block ?_
      refine enterL (nt := 105) (ι := (p : {p : Nat // p ≤ nb a}) × SR (nb (a / 256 ^ p.1 % b))) (fun ⟨⟨p, hp⟩, z⟩ => [(0, x.v), (1, y.v), (4, slv (some g0) 0 (nb a) (nb a)), (5, z.v), (10, .int .i64 ((p : Nat) - 1))]) (fun ⟨⟨p, hp⟩, z⟩ => [⟨x.b, 3, NV .i64 (D8 a), x.n, false⟩, ⟨y.b, 3, NV .i64 (D8 b), y.n, false⟩, ⟨some g0, 3, NV .i64 (row (nb a) (quT a b p)), nb a, true⟩, ⟨z.b, 3, NV .i64 (D8 (a / 256 ^ p % b)), z.n, true⟩]) (fun ⟨⟨p, hp⟩, z⟩ => p) ⟨⟨nb a, Nat.le_refl _⟩, ⟨none, 0, 0, by rw [dW8_top, nb_zero]; exact Nat.le_refl _⟩⟩ ⟨rfl, rfl, rfl, (look_val rfl (dW8_nilv a b)), rfl, trivial⟩ (weak_picks [some 0, some 1, some 2, none] ⟨⟨_, rfl, Blk.le_refl _⟩, ⟨_, rfl, Blk.le_refl _⟩, ⟨_, rfl, Blk.le_refl _⟩, ⟨rfl, dW8_nil a b, rfl⟩, trivial⟩ rfl rfl) ?_
      rintro ⟨⟨p, hp⟩, z⟩
      show At _ ⟨105, [(0, x.v), (1, y.v), (4, slv (some g0) 0 (nb a) (nb a)), (5, z.v), (10, .int .i64 ((p : Nat) - 1))], [⟨x.b, 3, NV .i64 (D8 a), x.n, false⟩, ⟨y.b, 3, NV .i64 (D8 b), y.n, false⟩, ⟨some g0, 3, NV .i64 (row (nb a) (quT a b p)), nb a, true⟩, ⟨z.b, 3, NV .i64 (D8 (a / 256 ^ p % b)), z.n, true⟩]⟩ _
      refine at_seq ?_
      refine at_seq ?_
      refine at_region ?_
      refine r_move rfl rfl rfl ?_
      refine r_cmpInt rfl rfl rfl rfl rfl ?_
      refine run_nil ?_
      refine at_tn ?_
      refine at_cond rfl (fun hb3 => ?_) (fun hb3 => ?_)
      ·
        obtain ⟨q, rfl⟩ : ∃ q, p = q + 1 := ⟨p - 1, by have := of_decide_eq_true hb3; omega⟩
        refine at_know 10 (.int .i64 (q : Nat)) rfl (congrArg (Value.int .i64) (by omega)) ?_
        have hR := Nat.mod_lt (a / 256 ^ (q + 1)) hb
        have hnR : nb (a / 256 ^ (q + 1) % b) ≤ nb b := nb_mono (Nat.le_of_lt hR)
        have hdq := m256 (a / 256 ^ q)
        have hWn := dW8_nb a b q
        refine at_base 3 rfl (fun hbase => ?_)
        refine at_skip ?_
        refine at_tn ?_
        refine at_seq ?_
        refine at_block ?_
        refine at_seq ?_
        refine at_region ?_
        refine r_move rfl rfl rfl ?_
        refine r_move rfl rfl rfl ?_
        refine r_indexAddr 0 (q) u85 ti3 rfl rfl rfl rfl rfl (by omega) (by omega) (NV_ne (by rw [D8_length]; omega)) (by show 0 + Int.toNat _ * 1 = _; omega) ?_
        refine r_load1 0 (q) ti3 rfl rfl rfl rfl (NV_get (D8_get (by omega))) ?_
        refine r_buildSlice [(0, _)] (fun g => [_, _, _, _, ⟨some g, 3, _, 1, true⟩]) rfl rfl rfl (bs85_1) rfl (fun _ => rfl) (fun g1 => ?_)
        refine r_move rfl rfl rfl ?_
        refine r_app8 4 3 (fun b n => [_, _, _, _, ⟨b, 3, _, n, true⟩]) u85 el3 rfl rfl rfl rfl rfl hbase rfl rfl (by omega) (fun _ _ => rfl) (fun r => ?_)
        refine r_scall0 [_] [4] rfl rfl rfl (c_ref02_trim (a / 256 ^ q % 256 :: D8 (a / 256 ^ (q + 1) % b)) (dW8_lt256 a b q) (by rw [List.length_cons, D8_length]; omega) (by rw [List.length_cons, D8_length]) r) ⟨⟨_, rfl, le_share⟩, trivial⟩ rfl ?_
        refine r_know 61 (slv r.b 0 (nb (dW8 a b q)) r.cap) rfl (by rw [dW8_trim]) ?_
        refine r_assign rfl rfl rfl ?_
        refine run_nil ?_
        refine at_tn ?_
        refine at_block ?_
        refine enterL (nt := 105) (ι := (x : {x : Nat × Nat // x.1 * b + x.2 = dW8 a b q}) × SR (nb x.1.2)) (fun ⟨⟨⟨m, rr⟩, hq⟩, z2⟩ => [(0, x.v), (1, y.v), (4, slv (some g0) 0 (nb a) (nb a)), (5, z2.v), (10, .int .i64 (q : Nat))]) (fun ⟨⟨⟨m, rr⟩, hq⟩, z2⟩ => [⟨x.b, 3, NV .i64 (D8 a), x.n, false⟩, ⟨y.b, 3, NV .i64 (D8 b), y.n, false⟩, ⟨some g0, 3, NV .i64 (row (nb a) (quS a b q m)), nb a, true⟩, ⟨z2.b, 3, NV .i64 (D8 (rr)), z2.n, true⟩]) (fun ⟨⟨⟨m, rr⟩, hq⟩, z2⟩ => rr) ⟨⟨(0, dW8 a b q), by omega⟩, ⟨r.b, r.n, r.cap, Nat.le_trans hWn r.h⟩⟩ ⟨rfl, rfl, rfl, rfl, rfl, trivial⟩ (weak_picks [some 0, some 1, some 2, some 4] ⟨⟨_, rfl, Blk.le_refl _⟩, ⟨_, rfl, Blk.le_refl _⟩, ⟨_, rfl, le_same (congrArg (fun c => (⟨some g0, 3, NV .i64 c, nb a, true⟩ : Blk)) (row_congr fun j _ => quS_zero a b q j))⟩, ⟨_, rfl, rfl, rfl, rfl, ⟨nb (dW8 a b q), dW8_take a b q⟩, fun _ => rfl⟩, trivial⟩ rfl rfl) ?_
        rintro ⟨⟨⟨m, rr⟩, hq⟩, z2⟩
        show At _ ⟨105, [(0, x.v), (1, y.v), (4, slv (some g0) 0 (nb a) (nb a)), (5, z2.v), (10, .int .i64 (q : Nat))], [⟨x.b, 3, NV .i64 (D8 a), x.n, false⟩, ⟨y.b, 3, NV .i64 (D8 b), y.n, false⟩, ⟨some g0, 3, NV .i64 (row (nb a) (quS a b q m)), nb a, true⟩, ⟨z2.b, 3, NV .i64 (D8 (rr)), z2.n, true⟩]⟩ _
        replace hq : m * b + rr = dW8 a b q := hq
        have hrn := dq8_bnd hb hq
        refine at_seq ?_
        refine at_seq ?_
        refine at_region ?_
        refine r_move rfl rfl rfl ?_
        refine r_move rfl rfl rfl ?_
        refine r_scall0 [_, _] [3, 1] rfl rfl rfl (c_ref02_compare rr b (by omega) z2 y) ⟨⟨_, rfl, le_share⟩, ⟨_, rfl, le_share⟩, trivial⟩ rfl ?_
        refine r_cmpInt rfl rfl rfl rfl rfl ?_
        refine r_move rfl rfl rfl ?_
        refine r_split 66 rfl (fun hb5 => ?_) (fun hb5 => ?_)
        ·
          have hge2 : b ≤ rr := cmpN_nonneg.1 (of_decide_eq_true hb5)
          have hm1 := dq8_lt (s := 1) hb hq (by omega)
          refine r_move rfl rfl rfl ?_
          refine r_move rfl rfl rfl ?_
          refine r_indexAddr 2 (q) u85 ti3 rfl rfl rfl rfl rfl (by omega) (by omega) (NV_ne (by rw [row_length]; omega)) (by show 0 + Int.toNat _ * 1 = _; omega) ?_
          refine r_load1 2 (q) ti3 rfl rfl rfl rfl (NV_get ((row_get (by omega)).trans (by rw [quS_at]))) ?_
          refine r_cmpInt rfl rfl rfl rfl rfl ?_
          refine r_pickT rfl rfl rfl rfl ?_
          refine run_nil ?_
          refine at_tn ?_
          refine at_cond rfl (fun hb6 => ?_) (fun hb6 => ?_)
          ·
            refine at_skip ?_
            refine at_tn ?_
            refine at_block ?_
            refine at_seq ?_
            refine at_region ?_
            refine r_move rfl rfl rfl ?_
            refine r_assign rfl rfl rfl ?_
            refine r_assign rfl rfl rfl ?_
            refine run_nil ?_
            refine at_tn ?_
            refine at_seq ?_
            refine at_block ?_
            refine enterL (nt := 105) (ι := (s : {s : Nat // 0 < s ∧ s ≤ 128 ∧ s * b ≤ rr}) × SR (nb (s.1 * b))) (fun ⟨⟨s, hs0, hs1, hs2⟩, z3⟩ => [(0, x.v), (1, y.v), (4, slv (some g0) 0 (nb a) (nb a)), (5, z2.v), (10, .int .i64 (q : Nat)), (11, .int .i64 (s : Nat)), (12, z3.v)]) (fun ⟨⟨s, hs0, hs1, hs2⟩, z3⟩ => [⟨x.b, 3, NV .i64 (D8 a), x.n, false⟩, ⟨y.b, 3, NV .i64 (D8 b), y.n, false⟩, ⟨some g0, 3, NV .i64 (row (nb a) (quS a b q m)), nb a, true⟩, ⟨z2.b, 3, NV .i64 (D8 (rr)), z2.n, true⟩, ⟨z3.b, 3, NV .i64 (D8 (s * b)), z3.n, false⟩]) (fun ⟨⟨s, hs0, hs1, hs2⟩, z3⟩ => 128 - s) ⟨⟨1, by omega, by omega, by omega⟩, ⟨y.b, y.n, y.cap, by rw [Nat.one_mul]; exact y.h⟩⟩ ⟨rfl, rfl, rfl, rfl, rfl, rfl, (look_val rfl (congrArg (fun n => slv y.b 0 (nb n) y.cap) (Nat.one_mul b).symm)), trivial⟩ (weak_picks [some 0, some 1, some 2, some 3, some 1] ⟨⟨_, rfl, Blk.le_refl _⟩, ⟨_, rfl, Blk.le_refl _⟩, ⟨_, rfl, Blk.le_refl _⟩, ⟨_, rfl, Blk.le_refl _⟩, ⟨_, rfl, le_same (congrArg (fun n => (⟨y.b, 3, NV .i64 (D8 n), y.n, false⟩ : Blk)) (Nat.one_mul b))⟩, trivial⟩ rfl rfl) ?_
            rintro ⟨⟨s, hs0, hs1, hs2⟩, z3⟩
            show At _ ⟨105, [(0, x.v), (1, y.v), (4, slv (some g0) 0 (nb a) (nb a)), (5, z2.v), (10, .int .i64 (q : Nat)), (11, .int .i64 (s : Nat)), (12, z3.v)], [⟨x.b, 3, NV .i64 (D8 a), x.n, false⟩, ⟨y.b, 3, NV .i64 (D8 b), y.n, false⟩, ⟨some g0, 3, NV .i64 (row (nb a) (quS a b q m)), nb a, true⟩, ⟨z2.b, 3, NV .i64 (D8 (rr)), z2.n, true⟩, ⟨z3.b, 3, NV .i64 (D8 (s * b)), z3.n, false⟩]⟩ _
            have e2 : 2 * s * b = s * b + s * b := by rw [Nat.two_mul, Nat.add_mul]
            replace hs2 : s * b ≤ rr := hs2
            have hsn : nb (s * b) ≤ nb rr := nb_mono hs2
            have hsn2 : nb (s * b + s * b) ≤ nb b + 2 := nb_le (by have h1 := lt_nb b; have h2 : s * b ≤ 128 * b := Nat.mul_le_mul_right _ hs1; rw [Nat.pow_succ, Nat.pow_succ]; omega)
            refine at_seq ?_
            refine at_seq ?_
            refine at_region ?_
            refine r_move rfl rfl rfl ?_
            refine r_arith (r := ((2 * s : Nat) : Int)) rfl rfl rfl rfl (congrArg some (wi (by omega) (by omega) (by omega))) ?_
            refine r_cmpInt rfl rfl rfl rfl rfl ?_
            refine r_move rfl rfl rfl ?_
            refine r_split 77 rfl (fun hb8 => ?_) (fun hb8 => ?_)
            ·
              have hs3 : 2 * s ≤ 128 := (by have := of_decide_eq_true hb8; omega)
              refine r_move rfl rfl rfl ?_
              refine r_move rfl rfl rfl ?_
              refine r_scall [_, _] [4, 4] rfl rfl rfl (c_ref02_plus (s * b) (s * b) (by omega) (by omega) z3 z3) ⟨⟨_, rfl, le_share⟩, ⟨_, rfl, le_share⟩, trivial⟩ rfl (.inr fun x b hb => by rw [List.mem_singleton.1 hb]) (fun z4 => ?_)
              refine r_move rfl rfl rfl ?_
              refine r_scall0 [_, _] [5, 3] rfl rfl rfl (c_ref02_compare (s * b + s * b) rr (by omega) z4 z2) ⟨⟨_, rfl, le_share⟩, ⟨_, rfl, le_share⟩, trivial⟩ rfl ?_
              refine r_cmpInt rfl rfl rfl rfl rfl ?_
              refine r_pickT rfl rfl rfl rfl ?_
              refine run_nil ?_
              refine at_tn ?_
              refine at_cond rfl (fun hb9 => ?_) (fun hb9 => ?_)
              ·
                have hs4 : s * b + s * b ≤ rr := cmpN_nonpos.1 (of_decide_eq_true hb9)
                refine at_skip ?_
                refine at_tn ?_
                refine at_block ?_
                refine at_region ?_
                refine r_move rfl rfl rfl ?_
                refine r_arith (r := ((2 * s : Nat) : Int)) rfl rfl rfl rfl (congrArg some (wi (by omega) (by omega) (by omega))) ?_
                refine r_move rfl rfl rfl ?_
                refine r_move rfl rfl rfl ?_
                refine r_scall [_, _] [4, 4] rfl rfl rfl (c_ref02_plus (s * b) (s * b) (by omega) (by omega) z3 z3) ⟨⟨_, rfl, le_share⟩, ⟨_, rfl, le_share⟩, trivial⟩ rfl (.inr fun x b hb => by rw [List.mem_singleton.1 hb]) (fun z5 => ?_)
                refine r_assign rfl rfl rfl ?_
                refine r_assign rfl rfl rfl ?_
                refine run_nil ?_
                refine at_bn ?_
                refine at_tn ?_
                exact nextL ⟨⟨2 * s, by omega, hs3, by rw [Nat.two_mul, Nat.add_mul]; exact hs4⟩, ⟨z5.b, z5.n, z5.cap, by show nb (2 * s * b) ≤ z5.cap; rw [e2]; exact z5.h⟩⟩ (by show 128 - 2 * s < 128 - s; omega) ⟨rfl, rfl, rfl, rfl, rfl, rfl, (look_val rfl (congrArg (fun n => slv z5.b 0 (nb n) z5.cap) e2.symm)), trivial⟩ (weak_picks [some 0, some 1, some 2, some 3, some 6] ⟨⟨_, rfl, Blk.le_refl _⟩, ⟨_, rfl, Blk.le_refl _⟩, ⟨_, rfl, Blk.le_refl _⟩, ⟨_, rfl, Blk.le_refl _⟩, ⟨_, rfl, ⟨rfl, rfl, rfl, ⟨(NV .i64 (D8 (s * b + s * b))).length, by show NV .i64 (D8 (2 * s * b)) = _; rw [e2, List.take_length]⟩, fun h => by cases h⟩⟩, trivial⟩ rfl rfl)
              ·
                refine at_exit ?_
                refine at_te ?_
                refine at_te ?_
                refine at_be ?_
                refine at_tn ?_
                refine at_drawn (l' := [⟨_,_,_,_,_,_⟩, ⟨_,_,_,_,_,_⟩, ⟨_,_,_,_,_,_⟩, ⟨_,_,_,_,_,_⟩, ⟨_,_,_,_,_,_⟩, ⟨_,_,_,_,_,_⟩, ⟨_,_,_,_,_,_⟩, ⟨_,_,_,_,_,_⟩, ⟨_,_,_,_,_,_⟩, ⟨_,_,_,_,_,_⟩, ⟨_,_,_,_,_,_⟩, ⟨_,_,_,_,_,_⟩, ⟨_,_,_,_,_,_⟩, ⟨_,_,_,_,_,_⟩]) [2000000] [0, 1, 2, 3, 5, 6, 7, 8, 9, 10, 4, 11, 12, 13] mixed (by kernel_rfl) rfl (by kernel_rfl) ?_
                refine r_move rfl rfl rfl ?_
                refine r_move rfl rfl rfl ?_
                refine r_move rfl rfl rfl ?_
                refine r_move rfl rfl rfl ?_
                refine r_move rfl rfl rfl ?_
                refine r_move rfl rfl rfl ?_
                refine r_indexAddr 2 (q) u85 ti3 rfl rfl rfl rfl rfl (by omega) (by omega) (NV_ne (by rw [row_length]; omega)) (by show 0 + Int.toNat _ * 1 = _; omega) ?_
                refine r_load1 2 (q) ti3 rfl rfl rfl rfl (NV_get ((row_get (by omega)).trans (by rw [quS_at]))) ?_
                refine r_move rfl rfl rfl ?_
                refine r_arith (r := ((m + s : Nat) : Int)) rfl rfl rfl rfl (congrArg some (wi (by omega) (by omega) (by omega))) ?_
                refine r_scall [_, _] [3, 4] rfl rfl rfl (c_ref02_minus rr (s * b) (by omega) hs2 z2 z3) ⟨⟨_, rfl, le_share⟩, ⟨_, rfl, le_share⟩, trivial⟩ rfl (.inr fun x b hb => by rw [List.mem_singleton.1 hb]) (fun z6 => ?_)
                refine r_assign rfl rfl rfl ?_
                refine r_indexAddr 2 (q) u85 ti3 rfl rfl rfl rfl rfl (by omega) (by omega) (NV_ne (by rw [row_length]; omega)) (by show 0 + Int.toNat _ * 1 = _; omega) ?_
                refine r_store1 rfl 2 (q) [_, _, ⟨some g0, 3, _, _, true⟩, _, _, _, _] (NV .i64 (row (nb a) (quS a b q (m + s)))) ti3 rfl rfl rfl rfl rfl rfl rfl rfl (by rw [NV_length, row_length]; omega) (by rw [NV_set, row_set (fun j _ => quS_step a b q m (m + s) j)]) rfl ?_
                refine run_nil ?_
                refine at_bn ?_
                refine at_tn ?_
                exact nextL ⟨⟨(m + s, rr - s * b), dq8_next hq hs2⟩, z6⟩ (by have := Nat.mul_pos hs0 hb; show rr - s * b < rr; omega) ⟨rfl, rfl, rfl, rfl, rfl, trivial⟩ (weak_picks [some 0, some 1, some 2, some 6] ⟨⟨_, rfl, Blk.le_refl _⟩, ⟨_, rfl, Blk.le_refl _⟩, ⟨_, rfl, Blk.le_refl _⟩, ⟨_, rfl, Blk.le_refl _⟩, trivial⟩ rfl rfl)
            ·
              refine r_no rfl rfl rfl ?_
              refine r_no rfl rfl rfl ?_
              refine r_no rfl rfl rfl ?_
              refine r_no rfl rfl rfl ?_
              refine r_no rfl rfl rfl ?_
              refine r_no rfl rfl rfl ?_
              refine r_pickF rfl rfl rfl rfl ?_
              refine run_nil ?_
              refine at_tn ?_
              refine at_condF rfl ?_
              refine at_exit ?_
              refine at_te ?_
              refine at_te ?_
              refine at_be ?_
              refine at_tn ?_
              refine at_drawn (l' := [⟨_,_,_,_,_,_⟩, ⟨_,_,_,_,_,_⟩, ⟨_,_,_,_,_,_⟩, ⟨_,_,_,_,_,_⟩, ⟨_,_,_,_,_,_⟩, ⟨_,_,_,_,_,_⟩, ⟨_,_,_,_,_,_⟩, ⟨_,_,_,_,_,_⟩, ⟨_,_,_,_,_,_⟩, ⟨_,_,_,_,_,_⟩, ⟨_,_,_,_,_,_⟩, ⟨_,_,_,_,_,_⟩, ⟨_,_,_,_,_,_⟩, ⟨_,_,_,_,_,_⟩]) [2000000] [0, 1, 2, 3, 5, 6, 7, 8, 9, 10, 4, 11, 12, 13] mixed (by kernel_rfl) rfl (by kernel_rfl) ?_
              refine r_move rfl rfl rfl ?_
              refine r_move rfl rfl rfl ?_
              refine r_move rfl rfl rfl ?_
              refine r_move rfl rfl rfl ?_
              refine r_move rfl rfl rfl ?_
              refine r_move rfl rfl rfl ?_
              refine r_indexAddr 2 (q) u85 ti3 rfl rfl rfl rfl rfl (by omega) (by omega) (NV_ne (by rw [row_length]; omega)) (by show 0 + Int.toNat _ * 1 = _; omega) ?_
              refine r_load1 2 (q) ti3 rfl rfl rfl rfl (NV_get ((row_get (by omega)).trans (by rw [quS_at]))) ?_
              refine r_move rfl rfl rfl ?_
              refine r_arith (r := ((m + s : Nat) : Int)) rfl rfl rfl rfl (congrArg some (wi (by omega) (by omega) (by omega))) ?_
              refine r_scall [_, _] [3, 4] rfl rfl rfl (c_ref02_minus rr (s * b) (by omega) hs2 z2 z3) ⟨⟨_, rfl, le_share⟩, ⟨_, rfl, le_share⟩, trivial⟩ rfl (.inr fun x b hb => by rw [List.mem_singleton.1 hb]) (fun z6 => ?_)
              refine r_assign rfl rfl rfl ?_
              refine r_indexAddr 2 (q) u85 ti3 rfl rfl rfl rfl rfl (by omega) (by omega) (NV_ne (by rw [row_length]; omega)) (by show 0 + Int.toNat _ * 1 = _; omega) ?_
              refine r_store1 rfl 2 (q) [_, _, ⟨some g0, 3, _, _, true⟩, _, _, _] (NV .i64 (row (nb a) (quS a b q (m + s)))) ti3 rfl rfl rfl rfl rfl rfl rfl rfl (by rw [NV_length, row_length]; omega) (by rw [NV_set, row_set (fun j _ => quS_step a b q m (m + s) j)]) rfl ?_
              refine run_nil ?_
              refine at_bn ?_
              refine at_tn ?_
              exact nextL ⟨⟨(m + s, rr - s * b), dq8_next hq hs2⟩, z6⟩ (by have := Nat.mul_pos hs0 hb; show rr - s * b < rr; omega) ⟨rfl, rfl, rfl, rfl, rfl, trivial⟩ (weak_picks [some 0, some 1, some 2, some 5] ⟨⟨_, rfl, Blk.le_refl _⟩, ⟨_, rfl, Blk.le_refl _⟩, ⟨_, rfl, Blk.le_refl _⟩, ⟨_, rfl, Blk.le_refl _⟩, trivial⟩ rfl rfl)
          · exact absurd (of_decide_eq_false hb6) (by omega)
        ·
          have hlt2 : rr < b := by have := of_decide_eq_false hb5; rw [cmpN_nonneg] at this; omega
          obtain ⟨hm, hr⟩ := dq8 hb hq hlt2
          subst hm; subst hr
          refine r_no rfl rfl rfl ?_
          refine r_no rfl rfl rfl ?_
          refine r_no rfl rfl rfl ?_
          refine r_no rfl rfl rfl ?_
          refine r_no rfl rfl rfl ?_
          refine r_pickF rfl rfl rfl rfl ?_
          refine run_nil ?_
          refine at_tn ?_
          refine at_condF rfl ?_
          refine at_exit ?_
          refine at_te ?_
          refine at_te ?_
          refine at_be ?_
          refine at_bn ?_
          refine at_tn ?_
          refine at_region ?_
          refine r_move rfl rfl rfl ?_
          refine r_arith (r := ((q : Nat) : Int) - 1) rfl rfl rfl rfl (congrArg some (wi (by omega) (by omega) (by omega))) ?_
          refine r_assign rfl rfl rfl ?_
          refine run_nil ?_
          refine at_tn ?_
          exact nextL ⟨⟨q, by omega⟩, z2⟩ (Nat.lt_succ_self q) ⟨rfl, rfl, rfl, rfl, rfl, trivial⟩ (weak_picks [some 0, some 1, some 2, some 3] ⟨⟨_, rfl, Blk.le_refl _⟩, ⟨_, rfl, Blk.le_refl _⟩, ⟨_, rfl, le_same (congrArg (fun c => (⟨some g0, 3, NV .i64 c, nb a, true⟩ : Blk)) (row_congr fun j _ => (quS_end a b q j).symm))⟩, ⟨_, rfl, Blk.le_refl _⟩, trivial⟩ rfl rfl)
      ·
        have hp0 : p = 0 := by have := of_decide_eq_false hb3; omega
        subst hp0
        refine at_exit ?_
        refine at_te ?_
        refine at_te ?_
        refine at_be ?_
        refine at_tn ?_
        refine at_seq ?_
        refine at_region ?_
        refine r_move rfl rfl rfl ?_
        refine r_scall0 [_] [2] rfl rfl rfl (c_ref02_trim (row (nb a) (quT a b 0)) (row_lt fun j => quT_lt a b 0 j) (by rw [row_length]; omega) (row_length _ _) ⟨some g0, nb a, nb a, Nat.le_refl _⟩) ⟨⟨_, rfl, le_share⟩, trivial⟩ rfl ?_
        refine r_know 103 (slv (some g0) 0 (nb (a / b)) (nb a)) rfl (by rw [quT_trim]; rfl) ?_
        refine r_move rfl rfl rfl ?_
        refine r_assign rfl rfl rfl ?_
        refine r_assign rfl rfl rfl ?_
        refine run_nil ?_
        refine at_tn ?_
        refine at_ret ?_
        refine at_end2 rfl (res_tmp rfl) (res_tmp rfl) (fun w hL => ⟨.inl (⟨some g0, nb a, nb a, nb_mono (Nat.div_le_self _ _)⟩, ⟨z.b, z.n, z.cap, by have h := z.h; simp only [Nat.pow_zero, Nat.div_one] at h; exact h⟩), ?_, ?_⟩)
        · exact congrArg (fun n => Ending.returned (.tuple #[slv (some g0) 0 (nb (a / b)) (nb a), slv z.b 0 (nb n) z.cap])) (show a / 256 ^ 0 % b = a % b by rw [Nat.pow_zero, Nat.div_one])
        · exact hL.picks [some 2, some 3] ⟨⟨_, rfl, rfl, rfl, rfl, ⟨nb (a / b), quT_take a b⟩, fun _ => rfl⟩, ⟨_, rfl, le_same (congrArg (fun n => (⟨z.b, 3, NV .i64 (D8 n), z.n, true⟩ : Blk)) (show a % b = a / 256 ^ 0 % b by rw [Nat.pow_zero, Nat.div_one]))⟩, trivial⟩ rfl rfl
end Go.Proofs.YthnlafhnpphdhaaGreatDoor
set_option linter.unusedVariables false
set_option linter.unusedSimpArgs false
namespace Go.Via
open Go Go.RowKit
/-- a slice whose row is the call's own, or one of those that came in -/
structure FS (bs : List (Option Nat)) (len : Nat) where
  z : SR len
  o : Bool
  ho : o = true ∨ z.b ∈ bs
theorem divNew_own {a b : Nat} (z : (SR (nb (a / b)) × SR (nb (a % b))) ⊕ PLift (a < b)) : ∀ c ∈ divNew z, c.own = true := by
  intro c hc
  cases z with
  | inl z =>
    simp only [divNew, List.mem_cons, List.mem_nil_iff, or_false] at hc
    rcases hc with rfl | rfl <;> rfl
  | inr h => cases hc
theorem fs_new {B w : World} {L : List Blk} {x y : Blk} {c : Blk} {o : Bool} {bb : Option Nat} (h : LRel B L w) (k : Nat) {b : Blk} (hk : L[k]? = some b) (hb : b.base = bb) (hoo : b.own = o) (ho : o = true ∨ bb ∈ [x.base, y.base]) (hc : c.base = bb) : ∀ g, c.base = some g → B.heap.size ≤ g ∨ ∃ b0 ∈ [x, y], b0.base = some g := by
  intro g hg
  rcases ho with h1 | h1
  · exact .inl (own_new h k hk (by rw [hoo]; exact h1) g (by rw [hb, ← hc]; exact hg))
  · rw [hc] at hg
    subst hg
    simp only [List.mem_cons, List.mem_nil_iff, or_false] at h1
    rcases h1 with h1 | h1
    · exact .inr ⟨x, by simp, h1.symm⟩
    · exact .inr ⟨y, by simp, h1.symm⟩
theorem gcd_step8 {m n a b : Nat} (h : Nat.gcd m n = Nat.gcd a b) : Nat.gcd n (m % n) = Nat.gcd a b := by
  rw [← h, Nat.gcd_comm m n, Nat.gcd_rec n m, Nat.gcd_comm (m % n) n]
/-- the quotient and the remainder, whatever they are -/
theorem div_two {P : Program} {f a b : Nat} {x : SR (nb a)} {L0 : List Blk} {args : List Value} (hx : ∀ g, x.b = some g → ∃ b0 ∈ L0, b0.base = some g) (hL0 : L0[0]? = some ⟨x.b, 3, NV .i64 (D8 a), x.n, false⟩) (h : SCall P f L0 args ((SR (nb (a / b)) × SR (nb (a % b))) ⊕ PLift (a < b)) (divRes x) divNew) :
    SCallA P f L0 args (SR (nb (a / b)) × SR (nb (a % b))) (fun z => .tuple #[z.1.v, z.2.v]) (fun z => [⟨z.1.b, 3, NV .i64 (D8 (a / b)), z.1.n, false⟩, ⟨z.2.b, 3, NV .i64 (D8 (a % b)), z.2.n, false⟩]) := by
  refine ⟨h.1, fun w hL => (h.2 w hL).mono ?_⟩
  rintro e w' ⟨z, rfl, hz⟩
  cases z with
  | inl z =>
    refine ⟨z, rfl, hz.un, fun c hc g hg => .inl ?_⟩
    simp only [List.mem_cons, List.mem_nil_iff, or_false] at hc
    rcases hc with rfl | rfl
    · exact own_new hz 0 rfl rfl g hg
    · exact own_new hz 1 rfl rfl g hg
  | inr hlt =>
    have hlt := hlt.down
    refine ⟨(⟨none, 0, 0, by rw [Nat.div_eq_of_lt hlt, nb_zero]; exact Nat.le_refl _⟩, ⟨x.b, x.n, x.cap, by rw [Nat.mod_eq_of_lt hlt]; exact x.h⟩), ?_, ?_, fun c hc g hg => ?_⟩
    · show Ending.returned (.tuple #[Value.slice none 0 0, slv x.b 0 (nb a) x.cap]) = Ending.returned (.tuple #[slv none 0 (nb (a / b)) 0, slv x.b 0 (nb (a % b)) x.cap])
      rw [Nat.div_eq_of_lt hlt, Nat.mod_eq_of_lt hlt, nb_zero]; rfl
    · refine (hL.same (hz : LRel w [] w').below).picks [none, some 0] ⟨⟨rfl, by show NV .i64 (D8 (a / b)) = []; rw [Nat.div_eq_of_lt hlt]; exact NV_D8_0, rfl⟩, ⟨_, hL0, le_same (by show (⟨x.b, 3, NV .i64 (D8 (a % b)), x.n, false⟩ : Blk) = ⟨x.b, 3, NV .i64 (D8 a), x.n, false⟩; rw [Nat.mod_eq_of_lt hlt])⟩, trivial⟩ rfl rfl
    · simp only [List.mem_cons, List.mem_nil_iff, or_false] at hc
      rcases hc with rfl | rfl
      · cases hg
      · exact .inr (hx g hg)
end Go.Via
set_option linter.unusedVariables false
namespace Go.Proofs.YthnlafhnpphdhaaGreatDoor
open Go Go.RowKit Go.Via
set_option maxRecDepth 20000 in
theorem c_ref02_common (a b : Nat) (ha : nb a ≤ 1073740000) (hb : nb b ≤ 1073740000) (x : SR (nb a)) (y : SR (nb b)) : SCallA Tryz.prog 83 [⟨x.b, 3, NV .i64 (D8 a), x.n, false⟩, ⟨y.b, 3, NV .i64 (D8 b), y.n, false⟩] [x.v, y.v] (SR (nb (Nat.gcd a b))) SR.v (fun z => [⟨z.b, 3, NV .i64 (D8 (Nat.gcd a b)), z.n, false⟩]) := by
  refine ⟨by kernel_rfl, fun w hL0 => ?_⟩
  refine calls_at (args := [x.v, y.v]) Tryz.func83 rfl (Nat.le_of_ble_eq_true rfl) hL0 ?_
  show At w ⟨19, [(0, x.v), (1, y.v)], [⟨x.b, 3, NV .i64 (D8 a), x.n, false⟩, ⟨y.b, 3, NV .i64 (D8 b), y.n, false⟩]⟩ _
  refine at_seq ?_
  refine at_region ?_
  refine r_assign rfl rfl rfl ?_
  refine run_nil ?_
  refine at_tn ?_
  refine at_seq ?_
  refine at_block ?_
  refine enterL (nt := 19) (ι := (p : {p : Nat × Nat // Nat.gcd p.1 p.2 = Nat.gcd a b ∧ nb p.1 ≤ 1073740000 ∧ nb p.2 ≤ 1073740000}) × FS [x.b, y.b] (nb p.1.1) × FS [x.b, y.b] (nb p.1.2)) (fun ⟨⟨⟨m, n⟩, hg, hm, hn⟩, ⟨za, oa, hoa⟩, ⟨zb, ob, hob⟩⟩ => [(0, za.v), (1, zb.v)]) (fun ⟨⟨⟨m, n⟩, hg, hm, hn⟩, ⟨za, oa, hoa⟩, ⟨zb, ob, hob⟩⟩ => [⟨x.b, 3, NV .i64 (D8 a), x.n, false⟩, ⟨y.b, 3, NV .i64 (D8 b), y.n, false⟩, ⟨za.b, 3, NV .i64 (D8 (m)), za.n, oa⟩, ⟨zb.b, 3, NV .i64 (D8 (n)), zb.n, ob⟩]) (fun ⟨⟨⟨m, n⟩, hg, hm, hn⟩, ⟨za, oa, hoa⟩, ⟨zb, ob, hob⟩⟩ => n) ⟨⟨(a, b), rfl, ha, hb⟩, ⟨x, false, .inr (by simp)⟩, ⟨y, false, .inr (by simp)⟩⟩ ⟨rfl, rfl, trivial⟩ (weak_picks [some 0, some 1, some 0, some 1] ⟨⟨_, rfl, Blk.le_refl _⟩, ⟨_, rfl, Blk.le_refl _⟩, ⟨_, rfl, Blk.le_refl _⟩, ⟨_, rfl, Blk.le_refl _⟩, trivial⟩ rfl rfl) ?_
  rintro ⟨⟨⟨m, n⟩, hg, hm, hn⟩, ⟨za, oa, hoa⟩, ⟨zb, ob, hob⟩⟩
  show At _ ⟨19, [(0, za.v), (1, zb.v)], [⟨x.b, 3, NV .i64 (D8 a), x.n, false⟩, ⟨y.b, 3, NV .i64 (D8 b), y.n, false⟩, ⟨za.b, 3, NV .i64 (D8 (m)), za.n, oa⟩, ⟨zb.b, 3, NV .i64 (D8 (n)), zb.n, ob⟩]⟩ _
  replace hm : nb m ≤ 1073740000 := hm
  replace hn : nb n ≤ 1073740000 := hn
  replace hg : Nat.gcd m n = Nat.gcd a b := hg
  refine at_seq ?_
  refine at_seq ?_
  refine at_region ?_
  refine r_move rfl rfl rfl ?_
  refine r_lenS u85 rfl rfl rfl ?_
  refine r_cmpInt rfl rfl rfl rfl rfl ?_
  refine run_nil ?_
  refine at_tn ?_
  refine at_cond rfl (fun hb1 => ?_) (fun hb1 => ?_)
  ·
    have hn0 : 0 < n := Nat.pos_of_ne_zero (fun e => by subst e; rw [nb_zero] at hb1; cases hb1)
    refine at_skip ?_
    refine at_tn ?_
    refine at_block ?_
    refine at_seq ?_
    refine at_region ?_
    refine r_move rfl rfl rfl ?_
    refine r_move rfl rfl rfl ?_
    refine r_scall [_, _] [2, 3] rfl rfl rfl (c_ref02_divide m n hn0 hm hn za zb) ⟨⟨_, rfl, le_share⟩, ⟨_, rfl, le_share⟩, trivial⟩ rfl (.inr divNew_own) (fun z => ?_)
    rcases z with z | hlt
    ·
      refine r_move rfl rfl rfl ?_
      refine r_extract (vs := [_, _]) rfl rfl rfl rfl ?_
      refine r_extract (vs := [_, _]) rfl rfl rfl rfl ?_
      refine r_assign rfl rfl rfl ?_
      refine r_assign rfl rfl rfl ?_
      refine run_nil ?_
      refine at_tn ?_
      refine at_region ?_
      refine r_move rfl rfl rfl ?_
      refine r_move rfl rfl rfl ?_
      refine r_assign rfl rfl rfl ?_
      refine r_assign rfl rfl rfl ?_
      refine run_nil ?_
      refine at_bn ?_
      refine at_tn ?_
      exact nextL ⟨⟨(n, m % n), gcd_step8 hg, hn, Nat.le_trans (nb_mono (Nat.mod_le _ _)) hm⟩, ⟨zb, ob, hob⟩, ⟨z.2, true, .inl rfl⟩⟩ (Nat.mod_lt _ hn0) ⟨rfl, rfl, trivial⟩ (weak_picks [some 0, some 1, some 3, some 5] ⟨⟨_, rfl, Blk.le_refl _⟩, ⟨_, rfl, Blk.le_refl _⟩, ⟨_, rfl, Blk.le_refl _⟩, ⟨_, rfl, Blk.le_refl _⟩, trivial⟩ rfl (by cases ob <;> rfl))
    ·
      have hlt := hlt.down
      refine r_move rfl rfl rfl ?_
      refine r_extract (vs := [_, _]) rfl rfl rfl rfl ?_
      refine r_extract (vs := [_, _]) rfl rfl rfl rfl ?_
      refine r_assign rfl rfl rfl ?_
      refine r_assign rfl rfl rfl ?_
      refine run_nil ?_
      refine at_tn ?_
      refine at_region ?_
      refine r_move rfl rfl rfl ?_
      refine r_move rfl rfl rfl ?_
      refine r_assign rfl rfl rfl ?_
      refine r_assign rfl rfl rfl ?_
      refine run_nil ?_
      refine at_bn ?_
      refine at_tn ?_
      exact nextL ⟨⟨(n, m), (Nat.gcd_comm n m).trans hg, hn, hm⟩, ⟨zb, ob, hob⟩, ⟨za, oa, hoa⟩⟩ hlt ⟨rfl, rfl, trivial⟩ (weak_picks [some 0, some 1, some 3, some 2] ⟨⟨_, rfl, Blk.le_refl _⟩, ⟨_, rfl, Blk.le_refl _⟩, ⟨_, rfl, Blk.le_refl _⟩, ⟨_, rfl, Blk.le_refl _⟩, trivial⟩ rfl (by cases oa <;> cases ob <;> rfl))
  ·
    have hn1 : n = 0 := Classical.byContradiction fun e => by have := nb_pos e; have hz : ¬ ((0 : Int) < ((nb n : Nat) : Int)) := of_decide_eq_false hb1; omega
    subst hn1
    rw [Nat.gcd_zero_right] at hg
    replace hg : m = Nat.gcd a b := hg
    subst hg
    refine at_exit ?_
    refine at_te ?_
    refine at_te ?_
    refine at_be ?_
    refine at_tn ?_
    refine at_seq ?_
    refine at_region ?_
    refine r_move rfl rfl rfl ?_
    refine r_assign rfl rfl rfl ?_
    refine run_nil ?_
    refine at_tn ?_
    refine at_ret ?_
    refine at_end1 rfl (res_tmp rfl) (fun w hL => ⟨za, ?_, hL.picks [some 2] ⟨⟨_, rfl, le_share⟩, trivial⟩ rfl rfl, fun c hc => ?_⟩)
    · rfl
    · rw [List.mem_singleton.1 hc]
      exact fs_new hL 2 rfl rfl rfl hoa rfl
end Go.Proofs.YthnlafhnpphdhaaGreatDoor
set_option linter.unusedVariables false
namespace Go.Proofs.YthnlafhnpphdhaaGreatDoor
open Go Go.RowKit Go.Via
end Go.Proofs.YthnlafhnpphdhaaGreatDoor
set_option linter.unusedVariables false
set_option linter.unusedSimpArgs false
namespace Go.Via
open Go Go.RowKit
theorem nb_one : nb 1 = 1 := by have h1 := nb_le (n := 1) (k := 1) (by omega); have h2 := nb_pos (u := 1) (by omega); omega
/-- the canonical form of two magnitudes and a sign -/
def sg (neg : Bool) (n : Nat) : Int := if neg = true then -(n : Int) else (n : Int)
theorem sg_natAbs (neg : Bool) (n : Nat) : (sg neg n).natAbs = n := by unfold sg; split <;> simp
theorem sg_gcd (neg : Bool) (n d : Nat) : Int.gcd (sg neg n) d = Nat.gcd n d := by rw [Int.gcd, sg_natAbs, Int.natAbs_natCast]
theorem sg_div (neg : Bool) (n d : Nat) : sg neg n / (Int.gcd (sg neg n) d : Int) = sg neg (n / Nat.gcd n d) := by
  rw [sg_gcd]
  unfold sg
  split
  · rw [Int.neg_ediv_of_dvd (Int.natCast_dvd_natCast.2 (Nat.gcd_dvd_left n d))]; rfl
  · rfl
theorem canon8_1 {n d : Nat} (neg : Bool) (hd : 0 < d) (h1 : d / Nat.gcd n d = 1) : Value.agg #[.bool (decide (sg neg (n / Nat.gcd n d) < 0)), .string (mag (sg neg (n / Nat.gcd n d)).natAbs), .bool false, .string ⟨#[]⟩] = Q (Rat.divInt (sg neg n) d) := by
  have := canon_1 (n := sg neg n) (d := d) (by omega) (by rw [sg_gcd]; exact_mod_cast h1)
  rw [sg_div] at this
  exact this
theorem canon8_2 {n d : Nat} (neg : Bool) (hd : 0 < d) (h1 : d / Nat.gcd n d ≠ 1) : Value.agg #[.bool (decide (sg neg (n / Nat.gcd n d) < 0)), .string (mag (sg neg (n / Nat.gcd n d)).natAbs), .bool (decide (((d / Nat.gcd n d : Nat) : Int) < 0)), .string (mag (((d / Nat.gcd n d : Nat) : Int)).natAbs)] = Q (Rat.divInt (sg neg n) d) := by
  have := canon_2 (n := sg neg n) (d := d) (by omega) (by rw [sg_gcd]; exact_mod_cast h1)
  rw [sg_div, sg_gcd] at this
  exact this
theorem dig_one {m : Nat} (h : nb m = 1) : m / 256 ^ 0 % 256 = m := by
  have := lt_nb m
  rw [h] at this
  rw [Nat.pow_zero, Nat.div_one, Nat.mod_eq_of_lt (by omega)]
theorem not_one_of_nb {m : Nat} (h : ¬ ((nb m : Nat) : Int) = 1) : m ≠ 1 := fun e => h (by rw [e, nb_one]; rfl)
theorem sg_Make (n d : Int) (h : d ≠ 0) : Rat.divInt (sg (decide (n < 0) != decide (d < 0)) n.natAbs) (d.natAbs : Int) = Rat.divInt n d := by
  unfold sg
  by_cases hd : d < 0
  · have e : (d.natAbs : Int) = -d := by omega
    rw [e]
    by_cases hn : n < 0
    · rw [decide_eq_true hd, decide_eq_true hn]
      simp only [bne_self_eq_false, Bool.false_eq_true, if_false]
      rw [show (n.natAbs : Int) = -n by omega, Rat.neg_divInt_neg]
    · rw [decide_eq_true hd, decide_eq_false hn]
      simp only [Bool.bne_true, Bool.not_false, if_true]
      rw [show (n.natAbs : Int) = n by omega, Rat.neg_divInt_neg]
  · have e : (d.natAbs : Int) = d := by omega
    rw [e]
    by_cases hn : n < 0
    · rw [decide_eq_false hd, decide_eq_true hn]
      simp only [Bool.bne_false, if_true]
      rw [show -(n.natAbs : Int) = n by omega]
    · rw [decide_eq_false hd, decide_eq_false hn]
      simp only [bne_self_eq_false, Bool.false_eq_true, if_false]
      rw [show (n.natAbs : Int) = n by omega]
end Go.Via
set_option linter.unusedVariables false
set_option linter.unusedSimpArgs false
namespace Go.Via
open Go Go.RowKit
/-- an int, shifted to the right -/
def im (z : Int) (i : Nat) : Int := if z < 0 then -((z.natAbs / 256 ^ i : Nat) : Int) else ((z.natAbs / 256 ^ i : Nat) : Int)
def imR (z : Int) (i : Nat) : Int := if z < 0 then -((dg8 z.natAbs i : Nat) : Int) else ((dg8 z.natAbs i : Nat) : Int)
theorem im_zero (z : Int) : im z 0 = z := by unfold im; rw [Nat.pow_zero, Nat.div_one]; split <;> omega
theorem imR_rem (z : Int) (i : Nat) : (im z i).tmod 256 = imR z i := by
  unfold im imR dg8
  split
  · rw [Int.neg_tmod, show (256 : Int) = ((256 : Nat) : Int) from rfl, ← Int.ofNat_tmod]
  · rw [show (256 : Int) = ((256 : Nat) : Int) from rfl, ← Int.ofNat_tmod]
theorem imR_neg {z : Int} {i : Nat} (h : imR z i < 0) : IntKind.i64.wrap (0 - imR z i) = ((dg8 z.natAbs i : Nat) : Int) := by
  have hd := dg8_lt z.natAbs i
  unfold imR at *
  by_cases hz : z < 0
  · rw [if_pos hz] at *; exact wi (by omega) (by omega) (by omega)
  · rw [if_neg hz] at *; omega
theorem imR_pos {z : Int} {i : Nat} (h : ¬ imR z i < 0) : imR z i = ((dg8 z.natAbs i : Nat) : Int) := by
  unfold imR at *
  by_cases hz : z < 0
  · rw [if_pos hz] at *; omega
  · rw [if_neg hz] at *
theorem im_bound {z : Int} {i : Nat} (h1 : -9223372036854775808 ≤ z) (h2 : z ≤ 9223372036854775807) : -9223372036854775808 ≤ im z i ∧ im z i ≤ 9223372036854775807 := by
  have h3 : z.natAbs / 256 ^ i ≤ z.natAbs := Nat.div_le_self _ _
  unfold im
  generalize z.natAbs / 256 ^ i = k at *
  split <;> omega
theorem imR_quo (z : Int) (i : Nat) (h1 : -9223372036854775808 ≤ z) (h2 : z ≤ 9223372036854775807) : IntKind.i64.wrap ((im z i).tdiv 256) = im z (i + 1) := by
  have e : (im z i).tdiv 256 = im z (i + 1) := by
    unfold im
    split
    · rw [Int.neg_tdiv, show (256 : Int) = ((256 : Nat) : Int) from rfl, ← Int.ofNat_tdiv, div256]
    · rw [show (256 : Int) = ((256 : Nat) : Int) from rfl, ← Int.ofNat_tdiv, div256]
  have := im_bound (i := i + 1) h1 h2
  exact wi (by rw [e]; omega) (by rw [e]; omega) e
theorem im_lt {z : Int} {i : Nat} (h : (im z i != 0) = true) : i < nb z.natAbs := by
  have h1 : im z i ≠ 0 := by simpa using h
  refine div_le_nb (Nat.pos_of_ne_zero fun e => h1 ?_)
  unfold im; rw [e]; split <;> rfl
theorem im_end {z : Int} {i : Nat} (h : (im z i != 0) = false) (hi : i ≤ nb z.natAbs) : i = nb z.natAbs := by
  have h1 : im z i = 0 := by simpa using h
  refine nb_of_div (n := z.natAbs) ?_ hi
  unfold im at h1
  split at h1 <;> omega
theorem szI64 {a : Int} (h1 : -9223372036854775808 ≤ a) (h2 : a ≤ 9223372036854775807) : szI a ≤ 8388608 := by
  have : szI a ≤ 8 := nb_le (by omega)
  omega
theorem szQ_one : szQ 1 ≤ 1 := by
  show max (nb (1 : Int).natAbs) (nb 1) ≤ 1
  rw [show (1 : Int).natAbs = 1 from rfl, nb_one]; omega
theorem szQ_cast (z : Int) : szQ (z : Rat) ≤ nb z.natAbs + 1 := by
  show max (nb z.natAbs) (nb 1) ≤ _
  rw [nb_one]; omega
end Go.Via
set_option linter.unusedVariables false
namespace Go.Proofs.YthnlafhnpphdhaaGreatDoor
open Go Go.RowKit Go.Via
set_option maxRecDepth 20000 in
theorem c_ref02_canonical (n d : Nat) (neg : Bool) (hd : 0 < d) (hn : nb n ≤ 1073740000) (hdn : nb d ≤ 1073740000) (x : SR (nb n)) (y : SR (nb d)) : SCall Tryz.prog 97 [⟨x.b, 3, NV .i64 (D8 n), x.n, false⟩, ⟨y.b, 3, NV .i64 (D8 d), y.n, false⟩] [.agg #[.bool neg, x.v, y.v]] Unit (fun _ => Q (Rat.divInt (sg neg n) (d : Int))) (fun _ => []) := by
  refine ⟨by kernel_rfl, fun w hL0 => ?_⟩
  have hg0 : 0 < Nat.gcd n d := Nat.gcd_pos_of_pos_right n hd
  have hgn : nb (Nat.gcd n d) ≤ 1073740000 := Nat.le_trans (nb_mono (Nat.gcd_le_right n hd)) hdn
  refine calls_at (args := [.agg #[.bool neg, x.v, y.v]]) Tryz.func97 rfl (Nat.le_of_ble_eq_true rfl) hL0 ?_
  show At w ⟨43, [(0, .agg #[.bool neg, x.v, y.v])], [⟨x.b, 3, NV .i64 (D8 n), x.n, false⟩, ⟨y.b, 3, NV .i64 (D8 d), y.n, false⟩]⟩ _
  refine at_seq ?_
  refine at_region ?_
  refine r_box [_, _, _] 3 (fun g => [_, _, ⟨some g, 97, _, 3, true⟩]) rfl rfl rfl rfl rfl (fun _ => rfl) (fun g0 => ?_)
  refine r_alloc [_, _, _, _] 4 (fun g => [_, _, _, ⟨some g, 25, _, 4, true⟩]) rfl rfl z25 rfl rfl (fun _ => rfl) (fun g1 => ?_)
  refine run_nil ?_
  refine at_tn ?_
  refine at_seq ?_
  refine at_region ?_
  refine r_fieldAddr 2 0 1 rfl rfl rfl rfl rfl ti97 rfl rfl ?_
  refine r_load 2 1 [_] rfl rfl rfl rfl ti85 rfl rfl rfl rfl ?_
  refine r_fieldAddr 2 0 2 rfl rfl rfl rfl rfl ti97 rfl rfl ?_
  refine r_load 2 2 [_] rfl rfl rfl rfl ti85 rfl rfl rfl rfl ?_
  refine r_scallA [_, _] [0, 1] rfl rfl rfl (c_ref02_common n d hn hdn x y) ⟨⟨_, rfl, le_share⟩, ⟨_, rfl, le_share⟩, trivial⟩ rfl rfl (fun zg => ?_)
  refine r_assign rfl rfl rfl ?_
  refine run_nil ?_
  refine at_tn ?_
  refine at_seq ?_
  refine at_region ?_
  refine r_fieldAddr 2 0 1 rfl rfl rfl rfl rfl ti97 rfl rfl ?_
  refine r_load 2 1 [_] rfl rfl rfl rfl ti85 rfl rfl rfl rfl ?_
  refine r_move rfl rfl rfl ?_
  refine r_scallA [_, _] [0, 4] rfl rfl rfl (div_two (fun g hg => ⟨_, List.mem_cons_self, hg⟩) rfl (c_ref02_divide n (Nat.gcd n d) hg0 hn hgn x zg)) ⟨⟨_, rfl, le_share⟩, ⟨_, rfl, le_share⟩, trivial⟩ rfl rfl (fun zn => ?_)
  refine r_move rfl rfl rfl ?_
  refine r_extract (vs := [_, _]) rfl rfl rfl rfl ?_
  refine r_extract (vs := [_, _]) rfl rfl rfl rfl ?_
  refine r_assign rfl rfl rfl ?_
  refine r_assign rfl rfl rfl ?_
  refine run_nil ?_
  refine at_tn ?_
  refine at_seq ?_
  refine at_region ?_
  refine r_fieldAddr 2 0 2 rfl rfl rfl rfl rfl ti97 rfl rfl ?_
  refine r_load 2 2 [_] rfl rfl rfl rfl ti85 rfl rfl rfl rfl ?_
  refine r_move rfl rfl rfl ?_
  refine r_scallA [_, _] [1, 4] rfl rfl rfl (div_two (fun g hg => ⟨_, List.mem_cons_self, hg⟩) rfl (c_ref02_divide d (Nat.gcd n d) hg0 hdn hgn y zg)) ⟨⟨_, rfl, le_share⟩, ⟨_, rfl, le_share⟩, trivial⟩ rfl rfl (fun zd => ?_)
  refine r_move rfl rfl rfl ?_
  refine r_extract (vs := [_, _]) rfl rfl rfl rfl ?_
  refine r_extract (vs := [_, _]) rfl rfl rfl rfl ?_
  refine r_assign rfl rfl rfl ?_
  refine r_assign rfl rfl rfl ?_
  refine run_nil ?_
  refine at_tn ?_
  refine at_seq ?_
  refine at_seq ?_
  refine at_region ?_
  refine r_move rfl rfl rfl ?_
  refine r_lenS u85 rfl rfl rfl ?_
  refine r_cmpInt rfl rfl rfl rfl rfl ?_
  refine r_move rfl rfl rfl ?_
  refine r_split 30 rfl (fun hb0 => ?_) (fun hb0 => ?_)
  ·
    have hl1 : nb (d / Nat.gcd n d) = 1 := by have := eq_of_beq hb0; omega
    refine r_move rfl rfl rfl ?_
    refine r_indexAddr 7 (0) u85 ti3 rfl rfl rfl rfl rfl (by omega) (by omega) (NV_ne (by rw [D8_length]; omega)) (by show 0 + Int.toNat _ * 1 = _; omega) ?_
    refine r_load1 7 (0) ti3 rfl rfl rfl rfl (NV_get (D8_get (by omega))) ?_
    refine r_cmpInt rfl rfl rfl rfl rfl ?_
    refine r_pickT rfl rfl rfl rfl ?_
    refine run_nil ?_
    refine at_tn ?_
    refine at_cond rfl (fun hb1 => ?_) (fun hb1 => ?_)
    ·
      have hd1 : d / Nat.gcd n d = 1 := by have := eq_of_beq hb1; rw [dig_one hl1] at this; omega
      refine at_weak _ (weak_picks (L' := [_, _, _, _, _, _, _, _, _, ⟨none, 3, NV .i64 (D8 0), 0, false⟩]) [some 0, some 1, some 2, some 3, some 4, some 5, some 6, some 7, some 8, none] ⟨⟨_, rfl, Blk.le_refl _⟩, ⟨_, rfl, Blk.le_refl _⟩, ⟨_, rfl, Blk.le_refl _⟩, ⟨_, rfl, Blk.le_refl _⟩, ⟨_, rfl, Blk.le_refl _⟩, ⟨_, rfl, Blk.le_refl _⟩, ⟨_, rfl, Blk.le_refl _⟩, ⟨_, rfl, Blk.le_refl _⟩, ⟨_, rfl, Blk.le_refl _⟩, ⟨rfl, NV_D8_0, rfl⟩, trivial⟩ rfl rfl) ?_
      refine at_region ?_
      refine r_assign rfl rfl rfl ?_
      refine run_nil ?_
      refine at_tn ?_
      refine at_seq ?_
      refine at_region ?_
      refine r_move rfl rfl rfl ?_
      refine r_fieldAddr 2 0 0 rfl rfl rfl rfl rfl ti97 rfl rfl ?_
      refine r_load 2 0 [_] rfl rfl rfl rfl ti4 rfl rfl rfl rfl ?_
      refine r_scall0 [_, _] [5] rfl rfl rfl (c_ref02_whole (n / Nat.gcd n d) neg (by have := nb_div n (Nat.gcd n d); omega) zn.1) ⟨⟨_, rfl, le_share⟩, trivial⟩ rfl ?_
      refine r_move rfl rfl rfl ?_
      refine r_know 40 (slv none 0 (nb 0) 0) rfl (by rw [nb_zero]; rfl) ?_
      refine r_scall0 [_, _] [9] rfl rfl rfl (c_ref02_whole 0 false (by rw [nb_zero]; omega) ⟨none, 0, 0, by rw [nb_zero]; exact Nat.le_refl _⟩) ⟨⟨_, rfl, Blk.le_refl _⟩, trivial⟩ rfl ?_
      refine r_build [(0, _), (1, _)] rfl rfl rfl (bd25_2) ?_
      refine r_store rfl 3 0 [_, _, _, ⟨some g1, 25, _, 4, true⟩, _, _, _, _, _, _] [_, _, _, _] rfl rfl rfl rfl ti25 rfl rfl rfl rfl rfl ?_
      refine run_nil ?_
      refine at_tn ?_
      refine at_ret ?_
      refine at_end1 rfl (res_cell 3 rfl rfl ti25 (vs := [_, _, _, _]) rfl rfl (Nat.le_of_ble_eq_true rfl) rfl) (fun w hL => ⟨(), ?_, hL.picks [] trivial rfl rfl⟩)
      exact congrArg Ending.returned (Eq.trans (by rw [show (if false = true then -((0 : Nat) : Int) else ((0 : Nat) : Int)) = 0 from rfl, show (0 : Int).natAbs = 0 from rfl, mag_zero]; rfl) (canon8_1 neg hd hd1))
    ·
      have hd1 : d / Nat.gcd n d ≠ 1 := by have := ne_of_beq_false hb1; rw [dig_one hl1] at this; omega
      refine at_skip ?_
      refine at_tn ?_
      refine at_seq ?_
      refine at_region ?_
      refine r_move rfl rfl rfl ?_
      refine r_fieldAddr 2 0 0 rfl rfl rfl rfl rfl ti97 rfl rfl ?_
      refine r_load 2 0 [_] rfl rfl rfl rfl ti4 rfl rfl rfl rfl ?_
      refine r_scall0 [_, _] [5] rfl rfl rfl (c_ref02_whole (n / Nat.gcd n d) neg (by have := nb_div n (Nat.gcd n d); omega) zn.1) ⟨⟨_, rfl, le_share⟩, trivial⟩ rfl ?_
      refine r_move rfl rfl rfl ?_
      refine r_scall0 [_, _] [7] rfl rfl rfl (c_ref02_whole (d / Nat.gcd n d) false (by have := nb_div d (Nat.gcd n d); omega) zd.1) ⟨⟨_, rfl, le_share⟩, trivial⟩ rfl ?_
      refine r_build [(0, _), (1, _)] rfl rfl rfl (bd25_2) ?_
      refine r_store rfl 3 0 [_, _, _, ⟨some g1, 25, _, 4, true⟩, _, _, _, _, _] [_, _, _, _] rfl rfl rfl rfl ti25 rfl rfl rfl rfl rfl ?_
      refine run_nil ?_
      refine at_tn ?_
      refine at_ret ?_
      refine at_end1 rfl (res_cell 3 rfl rfl ti25 (vs := [_, _, _, _]) rfl rfl (Nat.le_of_ble_eq_true rfl) rfl) (fun w hL => ⟨(), ?_, hL.picks [] trivial rfl rfl⟩)
      exact congrArg Ending.returned (canon8_2 neg hd hd1)
  ·
    have hd1 : d / Nat.gcd n d ≠ 1 := not_one_of_nb (by simpa using hb0)
    refine r_no rfl rfl rfl ?_
    refine r_no rfl rfl rfl ?_
    refine r_no rfl rfl rfl ?_
    refine r_no rfl rfl rfl ?_
    refine r_pickF rfl rfl rfl rfl ?_
    refine run_nil ?_
    refine at_tn ?_
    refine at_condF rfl ?_
    refine at_skip ?_
    refine at_tn ?_
    refine at_seq ?_
    refine at_region ?_
    refine r_move rfl rfl rfl ?_
    refine r_fieldAddr 2 0 0 rfl rfl rfl rfl rfl ti97 rfl rfl ?_
    refine r_load 2 0 [_] rfl rfl rfl rfl ti4 rfl rfl rfl rfl ?_
    refine r_scall0 [_, _] [5] rfl rfl rfl (c_ref02_whole (n / Nat.gcd n d) neg (by have := nb_div n (Nat.gcd n d); omega) zn.1) ⟨⟨_, rfl, le_share⟩, trivial⟩ rfl ?_
    refine r_move rfl rfl rfl ?_
    refine r_scall0 [_, _] [7] rfl rfl rfl (c_ref02_whole (d / Nat.gcd n d) false (by have := nb_div d (Nat.gcd n d); omega) zd.1) ⟨⟨_, rfl, le_share⟩, trivial⟩ rfl ?_
    refine r_build [(0, _), (1, _)] rfl rfl rfl (bd25_2) ?_
    refine r_store rfl 3 0 [_, _, _, ⟨some g1, 25, _, 4, true⟩, _, _, _, _, _] [_, _, _, _] rfl rfl rfl rfl ti25 rfl rfl rfl rfl rfl ?_
    refine run_nil ?_
    refine at_tn ?_
    refine at_ret ?_
    refine at_end1 rfl (res_cell 3 rfl rfl ti25 (vs := [_, _, _, _]) rfl rfl (Nat.le_of_ble_eq_true rfl) rfl) (fun w hL => ⟨(), ?_, hL.picks [] trivial rfl rfl⟩)
    exact congrArg Ending.returned (canon8_2 neg hd hd1)
end Go.Proofs.YthnlafhnpphdhaaGreatDoor
set_option linter.unusedVariables false
namespace Go.Proofs.YthnlafhnpphdhaaGreatDoor
open Go Go.RowKit Go.Via
set_option maxRecDepth 20000 in
theorem c_ref02_Make (n d : Int) (hd : d ≠ 0) (hn : szI n ≤ 8388608) (hdn : szI d ≤ 8388608) : PCall Tryz.prog 69 #[I n, I d] (Q (Rat.divInt n d)) := by
  refine ⟨by kernel_rfl, fun w => ?_⟩
  refine calls_at (args := [I n, I d]) Tryz.func69 rfl (Nat.le_of_ble_eq_true rfl) (LRel.nil w) ?_
  show At w ⟨16, [(0, I n), (1, I d)], []⟩ _
  refine at_seq ?_
  refine at_region ?_
  refine r_box [_, _] 2 (fun g => [⟨some g, 23, _, 2, true⟩]) rfl rfl rfl rfl rfl (fun _ => rfl) (fun g0 => ?_)
  refine r_box [_, _] 2 (fun g => [_, ⟨some g, 23, _, 2, true⟩]) rfl rfl rfl rfl rfl (fun _ => rfl) (fun g1 => ?_)
  refine r_alloc [_, _, _, _] 4 (fun g => [_, _, ⟨some g, 25, _, 4, true⟩]) rfl rfl z25 rfl rfl (fun _ => rfl) (fun g2 => ?_)
  refine run_nil ?_
  refine at_tn ?_
  refine at_seq ?_
  refine at_drawn (l' := [⟨_,_,_,_,_,_⟩, ⟨_,_,_,_,_,_⟩, ⟨_,_,_,_,_,_⟩, ⟨_,_,_,_,_,_⟩, ⟨_,_,_,_,_,_⟩, ⟨_,_,_,_,_,_⟩, ⟨_,_,_,_,_,_⟩, ⟨_,_,_,_,_,_⟩, ⟨_,_,_,_,_,_⟩, ⟨_,_,_,_,_,_⟩, ⟨_,_,_,_,_,_⟩, ⟨_,_,_,_,_,_⟩]) [] [0, 1, 2, 3, 4, 5, 7, 6, 8, 9, 10, 11] mixed (by kernel_rfl) rfl (by kernel_rfl) ?_
  refine r_fieldAddr 0 0 0 rfl rfl rfl rfl rfl ti23 rfl rfl ?_
  refine r_load 0 0 [_] rfl rfl rfl rfl ti4 rfl rfl rfl rfl ?_
  refine r_fieldAddr 1 0 0 rfl rfl rfl rfl rfl ti23 rfl rfl ?_
  refine r_load 1 0 [_] rfl rfl rfl rfl ti4 rfl rfl rfl rfl ?_
  refine r_neqBool rfl u4 rfl rfl rfl ?_
  refine r_load 0 0 [_, _] rfl rfl rfl rfl ti23 rfl rfl rfl rfl ?_
  refine r_load 1 0 [_, _] rfl rfl rfl rfl ti23 rfl rfl rfl rfl ?_
  refine r_scall [_] [] rfl rfl rfl (c_ref02_digits n (Nat.le_trans hn (Nat.le_of_ble_eq_true rfl))) trivial rfl (.inr fun x b hb => by rw [List.mem_singleton.1 hb]) (fun xn => ?_)
  refine r_scall [_] [] rfl rfl rfl (c_ref02_digits d (Nat.le_trans hdn (Nat.le_of_ble_eq_true rfl))) trivial rfl (.inr fun x b hb => by rw [List.mem_singleton.1 hb]) (fun xd => ?_)
  refine r_build [(0, _), (1, _), (2, _)] rfl rfl rfl (bd97_3) ?_
  refine r_scall0 [_] [3, 4] rfl rfl rfl (c_ref02_canonical n.natAbs d.natAbs (decide (n < 0) != decide (d < 0)) (by omega) (Nat.le_trans hn (Nat.le_of_ble_eq_true rfl)) (Nat.le_trans hdn (Nat.le_of_ble_eq_true rfl)) xn xd) ⟨⟨_, rfl, le_share⟩, ⟨_, rfl, le_share⟩, trivial⟩ rfl ?_
  refine r_know 15 (Q (Rat.divInt n d)) rfl (congrArg Q (sg_Make n d hd)) ?_
  refine r_store rfl 2 0 [_, _, ⟨some g2, 25, _, 4, true⟩, _, _] [_, _, _, _] rfl rfl rfl rfl ti25 rfl rfl rfl rfl rfl ?_
  refine run_nil ?_
  refine at_tn ?_
  refine at_ret ?_
  refine at_end1 rfl (res_cell 2 rfl rfl ti25 (vs := [_, _, _, _]) rfl rfl (Nat.le_of_ble_eq_true rfl) rfl) (fun w hL => ⟨?_, hL.below⟩)
  exact rfl
set_option maxRecDepth 20000 in
theorem c_ref02_Int (z : Int) (h1 : -9223372036854775808 ≤ z) (h2 : z ≤ 9223372036854775807) : PCall Tryz.prog 70 #[.int .i64 z] (I z) := by
  have hnb : nb z.natAbs ≤ 8 := nb_le (by omega)
  refine ⟨by kernel_rfl, fun w => ?_⟩
  refine calls_at (args := [.int .i64 z]) Tryz.func70 rfl (Nat.le_of_ble_eq_true rfl) (LRel.nil w) ?_
  show At w ⟨25, [(0, .int .i64 z)], []⟩ _
  refine at_seq ?_
  refine at_region ?_
  refine r_alloc [_, _] 2 (fun g => [⟨some g, 23, _, 2, true⟩]) rfl rfl z23 rfl rfl (fun _ => rfl) (fun g0 => ?_)
  refine run_nil ?_
  refine at_tn ?_
  refine at_seq ?_
  refine at_region ?_
  refine r_assign rfl rfl rfl ?_
  refine run_nil ?_
  refine at_tn ?_
  refine at_seq ?_
  refine at_region ?_
  refine r_move rfl rfl rfl ?_
  refine r_assign rfl rfl rfl ?_
  refine run_nil ?_
  refine at_tn ?_
  refine at_seq ?_
  refine at_block ?_
  refine enterL (nt := 25) (ι := {x : Nat × Option Nat × Nat × Nat // x.1 ≤ nb z.natAbs ∧ x.1 ≤ x.2.2.2 ∧ x.2.2.2 ≤ x.2.2.1}) (fun ⟨⟨i, ob, oN, oc⟩, hi, h3, h4⟩ => [(0, .int .i64 z), (2, .pointer (some ⟨g0, 0, none⟩)), (3, slv ob 0 i oc), (4, .int .i64 (im z i))]) (fun ⟨⟨i, ob, oN, oc⟩, hi, h3, h4⟩ => [⟨some g0, 23, [.bool false, .string ⟨#[]⟩], 2, true⟩, ⟨ob, 3, NV .i64 (row i (dg8 z.natAbs)), oN, true⟩]) (fun ⟨⟨i, ob, oN, oc⟩, hi, h3, h4⟩ => nb z.natAbs - i) ⟨(0, none, 0, 0), Nat.zero_le _, Nat.le_refl _, Nat.le_refl _⟩ ⟨rfl, rfl, rfl, (look_val rfl (congrArg (Value.int .i64) (im_zero z).symm)), trivial⟩ (weak_picks [some 0, none] ⟨⟨_, rfl, Blk.le_refl _⟩, ⟨rfl, rfl, rfl⟩, trivial⟩ rfl rfl) ?_
  rintro ⟨⟨i, ob, oN, oc⟩, hi, h3, h4⟩
  show At _ ⟨25, [(0, .int .i64 z), (2, .pointer (some ⟨g0, 0, none⟩)), (3, slv ob 0 i oc), (4, .int .i64 (im z i))], [⟨some g0, 23, [.bool false, .string ⟨#[]⟩], 2, true⟩, ⟨ob, 3, NV .i64 (row i (dg8 z.natAbs)), oN, true⟩]⟩ _
  replace hi : i ≤ nb z.natAbs := hi
  replace h3 : i ≤ oc := h3
  replace h4 : oc ≤ oN := h4
  have hdg := dg8_lt z.natAbs i
  refine at_seq ?_
  refine at_seq ?_
  refine at_region ?_
  refine r_move rfl rfl rfl ?_
  refine r_cmpInt rfl rfl rfl rfl rfl ?_
  refine run_nil ?_
  refine at_tn ?_
  refine at_cond rfl (fun hb1 => ?_) (fun hb1 => ?_)
  ·
    have hlt := im_lt hb1
    refine at_skip ?_
    refine at_tn ?_
    refine at_block ?_
    refine at_seq ?_
    refine at_region ?_
    refine r_move rfl rfl rfl ?_
    refine r_div (r := imR z i) rfl rfl rfl rfl (by omega) (congrArg some (imR_rem z i)) ?_
    refine r_assign rfl rfl rfl ?_
    refine run_nil ?_
    refine at_tn ?_
    refine at_seq ?_
    refine at_seq ?_
    refine at_region ?_
    refine r_move rfl rfl rfl ?_
    refine r_cmpInt rfl rfl rfl rfl rfl ?_
    refine run_nil ?_
    refine at_tn ?_
    refine at_cond rfl (fun hb2 => ?_) (fun hb2 => ?_)
    ·
      have HB12 := hb2
      refine at_region ?_
      refine r_move rfl rfl rfl ?_
      refine r_arith (r := ((dg8 z.natAbs i : Nat) : Int)) rfl rfl rfl rfl (congrArg some (imR_neg (of_decide_eq_true HB12))) ?_
      refine r_assign rfl rfl rfl ?_
      refine run_nil ?_
      refine at_tn ?_
      refine at_seq ?_
      refine at_region ?_
      refine r_move rfl rfl rfl ?_
      refine r_move rfl rfl rfl ?_
      refine r_buildSlice [(0, _)] (fun g => [_, _, ⟨some g, 3, _, 1, true⟩]) rfl rfl rfl (bs85_1) rfl (fun _ => rfl) (fun g1 => ?_)
      refine q_append (s := 1) (len := i) (n2 := 1) 1 2 (fun r => [_, ⟨some r.g, 3, NV .i64 (row (i + 1) (dg8 z.natAbs)), r.n, true⟩, ⟨some g1, 3, _, 1, true⟩]) u85 el3 rfl rfl rfl rfl rfl rfl rfl rfl rfl rfl rfl rfl (by rw [NV_length, row_length]; omega) (by omega) (by show oc * 1 ≤ oN; omega) rfl (one_cell _ _) (by omega) (fun r => congrArg (fun c => [_, (⟨some r.g, 3, c, r.n, true⟩ : Blk), ⟨some g1, 3, _, 1, true⟩]) (NV_snoc _ _ _ _ (rfl))) (fun r => ?_)
      refine r_assign rfl rfl rfl ?_
      refine run_nil ?_
      refine at_tn ?_
      refine at_region ?_
      refine r_move rfl rfl rfl ?_
      refine r_div (r := im z (i + 1)) rfl rfl rfl rfl (by omega) (congrArg some (imR_quo z i h1 h2)) ?_
      refine r_assign rfl rfl rfl ?_
      refine run_nil ?_
      refine at_bn ?_
      refine at_tn ?_
      exact nextL ⟨(i + 1, some r.g, r.n, r.cap), hlt, r.h, by have := r.hn; show r.cap ≤ r.n; omega⟩ (by show nb z.natAbs - (i + 1) < nb z.natAbs - i; omega) ⟨rfl, rfl, rfl, rfl, trivial⟩ (weak_picks [some 0, some 1] ⟨⟨_, rfl, Blk.le_refl _⟩, ⟨_, rfl, Blk.le_refl _⟩, trivial⟩ rfl rfl)
    ·
      refine at_know 5 (.int .i64 (dg8 z.natAbs i : Nat)) rfl (congrArg (Value.int .i64) (imR_pos (of_decide_eq_false hb2))) ?_
      refine at_skip ?_
      refine at_tn ?_
      refine at_seq ?_
      refine at_region ?_
      refine r_move rfl rfl rfl ?_
      refine r_move rfl rfl rfl ?_
      refine r_buildSlice [(0, _)] (fun g => [_, _, ⟨some g, 3, _, 1, true⟩]) rfl rfl rfl (bs85_1) rfl (fun _ => rfl) (fun g1 => ?_)
      refine q_append (s := 1) (len := i) (n2 := 1) 1 2 (fun r => [_, ⟨some r.g, 3, NV .i64 (row (i + 1) (dg8 z.natAbs)), r.n, true⟩, ⟨some g1, 3, _, 1, true⟩]) u85 el3 rfl rfl rfl rfl rfl rfl rfl rfl rfl rfl rfl rfl (by rw [NV_length, row_length]; omega) (by omega) (by show oc * 1 ≤ oN; omega) rfl (one_cell _ _) (by omega) (fun r => congrArg (fun c => [_, (⟨some r.g, 3, c, r.n, true⟩ : Blk), ⟨some g1, 3, _, 1, true⟩]) (NV_snoc _ _ _ _ (rfl))) (fun r => ?_)
      refine r_assign rfl rfl rfl ?_
      refine run_nil ?_
      refine at_tn ?_
      refine at_region ?_
      refine r_move rfl rfl rfl ?_
      refine r_div (r := im z (i + 1)) rfl rfl rfl rfl (by omega) (congrArg some (imR_quo z i h1 h2)) ?_
      refine r_assign rfl rfl rfl ?_
      refine run_nil ?_
      refine at_bn ?_
      refine at_tn ?_
      exact nextL ⟨(i + 1, some r.g, r.n, r.cap), hlt, r.h, by have := r.hn; show r.cap ≤ r.n; omega⟩ (by show nb z.natAbs - (i + 1) < nb z.natAbs - i; omega) ⟨rfl, rfl, rfl, rfl, trivial⟩ (weak_picks [some 0, some 1] ⟨⟨_, rfl, Blk.le_refl _⟩, ⟨_, rfl, Blk.le_refl _⟩, trivial⟩ rfl rfl)
  ·
    have hge := im_end hb1 hi
    subst hge
    refine at_exit ?_
    refine at_te ?_
    refine at_te ?_
    refine at_be ?_
    refine at_tn ?_
    refine at_seq ?_
    refine at_region ?_
    refine r_move rfl rfl rfl ?_
    refine r_move rfl rfl rfl ?_
    refine r_cmpInt rfl rfl rfl rfl rfl ?_
    refine r_scall0 [_, _] [1] rfl rfl rfl (c_ref02_whole z.natAbs (decide (z < 0)) (by omega) ⟨ob, oN, oc, h3⟩) ⟨⟨_, rfl, ⟨rfl, rfl, rfl, ⟨nb z.natAbs, by rw [D8_row, List.take_of_length_le (by rw [NV_length, D8_length]; exact Nat.le_refl _)]⟩, fun h => by cases h⟩⟩, trivial⟩ rfl ?_
    refine r_know 24 (I z) rfl (congrArg I (by by_cases hz : z < 0 <;> simp [hz] <;> omega)) ?_
    refine r_store rfl 0 0 [⟨some g0, 23, _, 2, true⟩, _] [_, _] rfl rfl rfl rfl ti23 rfl rfl rfl rfl rfl ?_
    refine run_nil ?_
    refine at_tn ?_
    refine at_ret ?_
    refine at_end1 rfl (res_cell 0 rfl rfl ti23 (vs := [_, _]) rfl rfl (Nat.le_of_ble_eq_true rfl) rfl) (fun w hL => ⟨?_, hL.below⟩)
    exact rfl
set_option maxRecDepth 20000 in
theorem c_ref02_Of (a b : Int) (ha1 : -9223372036854775808 ≤ a) (ha2 : a ≤ 9223372036854775807) (hb1 : -9223372036854775808 ≤ b) (hb2 : b ≤ 9223372036854775807) (hb0 : b ≠ 0) : PCall Tryz.prog 30 #[.int .i64 a, .int .i64 b] (Q (Rat.divInt a b)) := by
  refine ⟨by kernel_rfl, fun w => ?_⟩
  refine calls_at (args := [.int .i64 a, .int .i64 b]) Tryz.func30 rfl (Nat.le_of_ble_eq_true rfl) (LRel.nil w) ?_
  show At w ⟨10, [(0, .int .i64 a), (1, .int .i64 b)], []⟩ _
  refine at_seq ?_
  refine at_region ?_
  refine r_alloc [_, _, _, _] 4 (fun g => [⟨some g, 25, _, 4, true⟩]) rfl rfl z25 rfl rfl (fun _ => rfl) (fun g0 => ?_)
  refine run_nil ?_
  refine at_tn ?_
  refine at_seq ?_
  refine at_region ?_
  refine r_move rfl rfl rfl ?_
  refine r_pcall [_] rfl rfl rfl (c_ref02_Int a ha1 ha2) ?_
  refine r_move rfl rfl rfl ?_
  refine r_pcall [_] rfl rfl rfl (c_ref02_Int b hb1 hb2) ?_
  refine r_pcall [_, _] rfl rfl rfl (c_ref02_Make a b hb0 (szI64 ha1 ha2) (szI64 hb1 hb2)) ?_
  refine r_store rfl 0 0 [⟨some g0, 25, _, 4, true⟩] [_, _, _, _] rfl rfl rfl rfl ti25 rfl rfl rfl rfl rfl ?_
  refine run_nil ?_
  refine at_tn ?_
  refine at_ret ?_
  refine at_end1 rfl (res_cell 0 rfl rfl ti25 (vs := [_, _, _, _]) rfl rfl (Nat.le_of_ble_eq_true rfl) rfl) (fun w hL => ⟨?_, hL.below⟩)
  exact rfl
end Go.Proofs.YthnlafhnpphdhaaGreatDoor
set_option linter.unusedVariables false
set_option linter.unusedSimpArgs false
namespace Go.Via
open Go Go.RowKit
/-! ### a region in which new variables may be made at any time (mark 3000000) -/
theorem LRel.perm {B w : World} {L L' : List Blk} (hp : List.Perm L L') (h : LRel B L w) : LRel B L' w := by
  have key : L.Pairwise (fun bi bj => (bi.own = true ∨ bj.own = true) → ∀ g, bi.base = some g → bj.base ≠ some g) := by
    rw [List.pairwise_iff_getElem]
    intro i j hi hj hij ho g hg hgj
    rcases ho with ho | ho
    · exact h.apart i j g _ _ (by omega) (List.getElem?_eq_getElem hi) (List.getElem?_eq_getElem hj) ho hg hgj
    · exact h.apart j i g _ _ (by omega) (List.getElem?_eq_getElem hj) (List.getElem?_eq_getElem hi) ho hgj hg
  have key' := (hp.pairwise_iff (fun {x y} hxy ho g hy hx => hxy ho.symm g hx hy)).1 key
  rw [List.pairwise_iff_getElem] at key'
  refine ⟨h.below, fun k b hk => ?_, fun i j g bi bj hij hi hj ho hg hgj => ?_⟩
  · have hm := hp.symm.subset (List.mem_of_getElem? hk)
    obtain ⟨m, hm⟩ := List.mem_iff_getElem?.1 hm
    exact h.blk m b hm
  · obtain ⟨hi1, rfl⟩ := List.getElem?_eq_some_iff.1 hi
    obtain ⟨hj1, rfl⟩ := List.getElem?_eq_some_iff.1 hj
    rcases Nat.lt_or_gt_of_ne hij with c | c
    · exact key' i j hi1 hj1 c (.inl ho) g hg hgj
    · exact key' j i hj1 hi1 c (.inr ho) g hgj hg
theorem put_L (s : St) (dst : Option Nat) (v : Value) : (s.put dst v).L = s.L := by cases dst <;> rfl
/-- the same state, the blocks in another order -/
structure EqvP (s s' : St) : Prop where
  nt : s.nt = s'.nt
  L : List.Perm s.L s'.L
  look : ∀ d, look s.t d = look s'.t d
theorem EqvP.rel {s s' : St} (h : EqvP s s') {B w : World} {a : Act} (r : Rel B s' a w) : Rel B s a w :=
  ⟨r.df, r.size.trans h.nt.symm, fun d v hd => r.tmp d v (by rw [← h.look d]; exact hd), r.mem.perm h.L.symm⟩
theorem EqvP.refl (s : St) : EqvP s s := ⟨rfl, List.Perm.refl _, fun _ => rfl⟩
theorem EqvP.symm {s s' : St} (h : EqvP s s') : EqvP s' s := ⟨h.nt.symm, h.L.symm, fun d => (h.look d).symm⟩
theorem EqvP.trans {s s' s'' : St} (h : EqvP s s') (k : EqvP s' s'') : EqvP s s'' := ⟨h.nt.trans k.nt, h.L.trans k.L, fun d => (h.look d).trans (k.look d)⟩
theorem EqvP.put {s s' : St} (h : EqvP s s') (dst : Option Nat) (sv : Value) (new : List Blk) : EqvP (({ s with L := s.L ++ new } : St).put dst sv) (({ s' with L := s'.L ++ new } : St).put dst sv) := by
  cases dst with
  | none => exact ⟨h.nt, h.L.append_right _, h.look⟩
  | some d =>
    refine ⟨h.nt, h.L.append_right _, fun k => ?_⟩
    by_cases e : d = k
    · subst e; simp [St.put, look_cons_eq]
    · simp [St.put, look_cons_ne e, h.look k]
theorem EqvP.put0 {s s' : St} (h : EqvP s s') (dst : Option Nat) (sv : Value) : EqvP (s.put dst sv) (s'.put dst sv) := by
  have := h.put dst sv []
  simpa using this
theorem EqvP.wanted {s s' : St} (h : EqvP s s') (ops : Array Oper) (o : Oper) : wantedS ops o s.t = wantedS ops o s'.t := by
  unfold wantedS
  split
  · rfl
  · split
    · rw [h.look]
    · rfl
def KCP (K : St → Prop) : Prop := ∀ s s', EqvP s s' → K s → K s'
theorem KCP.kc {K : St → Prop} (h : KCP K) : KC K := fun s s' he => h s s' ⟨he.nt, he.L ▸ List.Perm.refl _, he.look⟩
theorem blank_of_S : ∀ {bl : List Nat} {L : List Blk}, blS bl = false → blank bl L = L
  | [], L, _ => rfl
  | k :: bl, L, h => by
    unfold blS at h
    rw [List.any_cons, Bool.or_eq_false_iff] at h
    unfold blank
    rw [h.1]
    exact blank_of_S (bl := bl) h.2
theorem bk_of_S {bl : List Nat} {s : St} (h : blS bl = false) : s.bk bl = s := by show St.mk s.nt s.t (blank bl s.L) = s; rw [blank_of_S h]
theorem Step.congrP {P : Program} {bl : List Nat} {ops : Array Oper} {o : Oper} {s s' : St} {K : St → Prop} (hA : blA bl = true) (hS : blS bl = false) (hK : KCP K) (h : EqvP s s') (hs : Step P bl ops o s K) : Step P bl ops o s' K := by
  obtain ⟨h0, g, hg, hh⟩ := hs
  refine ⟨by rw [← h.nt]; exact h0, g, by rw [← h.wanted]; exact hg, ?_⟩
  rcases hh with ⟨h1, h2⟩ | ⟨h1, ⟨h2, sv, h3, h4⟩ | ⟨h2, X, res, new, h3, hF, h4⟩ | ⟨hm, hA', hm', X, nx, h3, h4⟩ | ⟨hm, hd, L', h3, h5, h4⟩ | ⟨hA', e, cs, h3, h4⟩⟩
  · exact .inl ⟨h1, hK _ _ (h.put0 _ _) h2⟩
  · refine .inr ⟨h1, .inl ⟨h2, sv, ⟨fun B a w hr => ?_, fun h5 h6 => by rw [← pureV_congr h.look]; exact h3.2 h5 h6⟩, hK _ _ (h.put0 _ _) h4⟩⟩
    have h3 := h3.1
    rw [bk_of_S hS] at hr h3
    exact h3 B a w (h.rel hr)
  · obtain ⟨hF1, hX⟩ := hF hA
    refine .inr ⟨h1, .inr (.inl ⟨h2, X, res, new, fun B a w hr => ?_, fun hb => ⟨fun B a w hr => hF1 B a w (h.rel hr), hX⟩, fun x => hK _ _ (h.put _ _ _) (h4 x)⟩)⟩
    obtain ⟨f, args, r1, r2⟩ := hF1 B a w (h.rel hr)
    refine ⟨f, args, r1, r2.mono ?_⟩
    rintro e w' ⟨x, rfl, hx, hown⟩
    exact ⟨x, rfl, hr.mem.joinF hx hown⟩
  · exact .inr ⟨h1, .inr (.inr (.inl ⟨hm, hA', hm', X, nx, fun B a w hr => h3 B a w (h.rel hr), h4⟩))⟩
  · exact .inr ⟨h1, .inr (.inr (.inr (.inl ⟨hm, hd, L', fun B a w hr => h3 B a w (h.rel hr), (fun hb => by rw [hS] at hb; cases hb), hK { s with L := L' } { s' with L := L' } ⟨h.nt, List.Perm.refl _, h.look⟩ h4⟩)))⟩
  · exact .inr ⟨h1, .inr (.inr (.inr (.inr ⟨hA', e, cs, h3, fun g => hK _ _ (h.put _ _ _) (h4 g)⟩)))⟩
theorem Run.kcP {P : Program} {bl : List Nat} {ops : Array Oper} {K : St → Prop} (hA : blA bl = true) (hS : blS bl = false) (hK : KCP K) : ∀ l : List Oper, KCP (fun s => Run P bl ops l s K)
  | [] => hK
  | o :: l => fun _ _ h hs => Step.congrP hA hS (Run.kcP hA hS hK l) h hs
theorem noSto {o : Oper} (h : isMov o = true ∨ isAl o = true) : isSto o = false := by
  unfold isSto
  split
  · rename_i heq
    rcases h with h | h
    · unfold isMov at h; rw [heq] at h; cases h
    · unfold isAl at h; rw [heq] at h; cases h
  · rfl
/-- what is new is behind: a step that does not look at it -/
theorem Step.laterA {P : Program} {bl : List Nat} {ops : Array Oper} {p : Oper} {s : St} {K : St → Prop} {dst : Option Nat} {u : Value} {E : List Blk} (hA : blA bl = true) (hS : blS bl = false) (hp : isMov p = true ∨ isAl p = true) (hM : isM bl = false)
    (hd : ∀ d, dst = some d → d < s.nt) (hl : ∀ d, dst = some d → d ∉ p.looksAt ops) (hne : ∀ d, p.dst = some d → dst ≠ some d)
    (h : Step P bl ops p s (fun s1 => ∀ s2, EqvP (({ s1 with L := s1.L ++ E } : St).put dst u) s2 → K s2)) : Step P bl ops p (({ s with L := s.L ++ E } : St).put dst u) K := by
  have hns : ∀ cs b, p.op ≠ .select cs b := fun cs b e => by
    rcases hp with hp | hp
    · unfold isMov at hp; rw [e] at hp; cases hp
    · unfold isAl at hp; rw [e] at hp; cases hp
  have hn : (({ s with L := s.L ++ E } : St).put dst u).nt = s.nt := by cases dst <;> rfl
  have hLL : (({ s with L := s.L ++ E } : St).put dst u).L = s.L ++ E := by cases dst <;> rfl
  have comm : ∀ (x : Value) (new : List Blk), EqvP (({ (({ s with L := s.L ++ new } : St).put p.dst x) with L := (({ s with L := s.L ++ new } : St).put p.dst x).L ++ E } : St).put dst u)
      (({ (({ s with L := s.L ++ E } : St).put dst u) with L := (({ s with L := s.L ++ E } : St).put dst u).L ++ new } : St).put p.dst x) := by
    intro x new
    have e1 : (({ s with L := s.L ++ new } : St).put p.dst x).L = s.L ++ new := by cases p.dst <;> rfl
    refine ⟨?_, ?_, ?_⟩
    · cases p.dst <;> cases dst <;> rfl
    · have a1 := (put_L ({ (({ s with L := s.L ++ new } : St).put p.dst x) with L := (({ s with L := s.L ++ new } : St).put p.dst x).L ++ E } : St) dst u).trans (congrArg (· ++ E) (put_L ({ s with L := s.L ++ new } : St) p.dst x))
      have a2 := (put_L ({ (({ s with L := s.L ++ E } : St).put dst u) with L := (({ s with L := s.L ++ E } : St).put dst u).L ++ new } : St) p.dst x).trans (congrArg (· ++ new) (put_L ({ s with L := s.L ++ E } : St) dst u))
      have a3 : List.Perm (s.L ++ new ++ E) (s.L ++ E ++ new) := by
        rw [List.append_assoc, List.append_assoc]
        exact List.Perm.append_left _ List.perm_append_comm
      exact (List.Perm.of_eq a1).trans (a3.trans (List.Perm.of_eq a2.symm))
    · intro d
      cases hp : p.dst with
      | none => cases dst <;> simp [St.put]
      | some dp =>
        cases dst with
        | none => simp [St.put]
        | some di =>
          have hne' : di ≠ dp := fun e => hne dp hp (by rw [e])
          simp only [St.put]
          by_cases e1 : di = d
          · subst e1; rw [look_cons_eq, look_cons_ne (Ne.symm hne'), look_cons_eq]
          · rw [look_cons_ne e1]
            by_cases e2 : dp = d
            · subst e2; rw [look_cons_eq, look_cons_eq]
            · rw [look_cons_ne e2, look_cons_ne e2, look_cons_ne e1]
  obtain ⟨h0, g, hg, hh⟩ := h
  refine ⟨by rw [hn]; exact h0, g, ?_, ?_⟩
  · have := wantedS_put (ops := ops) (o := p) (s := { s with L := s.L ++ E }) (dst := dst) (v := u) hl
    rw [this]; exact hg
  have c0 : ∀ (x : Value), (({ s with L := s.L ++ [] } : St).put p.dst x) = s.put p.dst x := fun x => by simp
  have c1 : ∀ (x : Value), ({ (({ s with L := s.L ++ E } : St).put dst u) with L := (({ s with L := s.L ++ E } : St).put dst u).L ++ [] } : St).put p.dst x = (({ s with L := s.L ++ E } : St).put dst u).put p.dst x := fun x => by simp
  have comm0 : ∀ (x : Value), EqvP (({ s.put p.dst x with L := (s.put p.dst x).L ++ E } : St).put dst u) ((({ s with L := s.L ++ E } : St).put dst u).put p.dst x) := fun x => by
    have := comm x []
    rw [c0, c1] at this
    exact this
  have back : ∀ (B : World) (a : Act) (w : World), Rel B (({ s with L := s.L ++ E } : St).put dst u) a w → ∃ v, Rel B s (a.put dst v) w ∧ execOp (a.put dst v).eval p = execOp a.eval p := fun B a w hr => by
    obtain ⟨v, hv⟩ := Rel.putBack (s := s) (new := E) hd hr
    exact ⟨v, hv, execOp_put p hns a dst v hl⟩
  rcases hh with ⟨h1, h2⟩ | ⟨h1, ⟨h2, sv, h3, h4⟩ | ⟨h2, X, res, new, h3, hF, h4⟩ | ⟨hm, hA', hm', X, nx, h3, h4⟩ | ⟨hm, hd', L', h3, h5, h4⟩ | ⟨hA', e, cs, h3, h4⟩⟩
  · exact .inl ⟨h1, h2 _ (comm0 _)⟩
  · refine .inr ⟨h1, .inl ⟨h2, sv, ⟨fun B a w hr => ?_, fun h5 h6 => by rw [pureV_put (s := { s with L := s.L ++ E }) hl]; exact h3.2 h5 h6⟩, h4 _ (comm0 _)⟩⟩
    have h3 := h3.1
    rw [bk_of_S hS] at hr h3
    obtain ⟨v, hv, he⟩ := back B a w hr
    have := h3 B _ w hv
    rwa [he] at this
  · obtain ⟨hF1, hX⟩ := hF hA
    have hFl : CalledF P p (({ s with L := s.L ++ E } : St).put dst u) X res new := fun B a w hr => by
      obtain ⟨v, hv, he⟩ := back B a w hr
      have := hF1 B _ w hv
      rwa [he] at this
    refine .inr ⟨h1, .inr (.inl ⟨h2, X, res, new, fun B a w hr => ?_, fun _ => ⟨hFl, hX⟩, fun x => h4 x _ (comm _ _)⟩)⟩
    obtain ⟨f, args, r1, r2⟩ := hFl B a w hr
    refine ⟨f, args, r1, r2.mono ?_⟩
    rintro e w' ⟨x, rfl, hx, hown⟩
    exact ⟨x, rfl, hr.mem.joinF hx hown⟩
  · exfalso
    rcases hp with hp | hp
    · rw [hM, show mvS bl p = true by simp [mvS, hp]] at hm; cases hm
    · rw [hA, hp] at hA'; cases hA'
  · rw [noSto hp] at hm; cases hm
  · exact .inr ⟨h1, .inr (.inr (.inr (.inr ⟨hA', e, cs, h3, fun g => h4 g _ (comm _ _)⟩)))⟩
/-- some state comes behind a step -/
theorem Step.some {P : Program} {bl : List Nat} {ops : Array Oper} {p : Oper} {s : St} {K : St → Prop} (hA : blA bl = true) (hp : isMov p = true ∨ isAl p = true) (hM : isM bl = false) (h : Step P bl ops p s K) :
    ∃ x new, K (({ s with L := s.L ++ new } : St).put p.dst x) := by
  obtain ⟨h0, g, hg, hh⟩ := h
  rcases hh with ⟨h1, h2⟩ | ⟨h1, ⟨h2, sv, h3, h4⟩ | ⟨h2, X, res, new, h3, hF, h4⟩ | ⟨hm, hA', hm', X, nx, h3, h4⟩ | ⟨hm, hd', L', h3, h5, h4⟩ | ⟨hA', e, cs, h3, h4⟩⟩
  · exact ⟨undef, [], by simpa using h2⟩
  · exact ⟨sv, [], by simpa using h4⟩
  · obtain ⟨_, ⟨x⟩⟩ := hF hA
    exact ⟨_, _, h4 x⟩
  · exfalso
    rcases hp with hp | hp
    · rw [hM, show mvS bl p = true by simp [mvS, hp]] at hm; cases hm
    · rw [hA, hp] at hA'; cases hA'
  · rw [noSto hp] at hm; cases hm
  · exact ⟨_, _, h4 0⟩
theorem Step.form {P : Program} {bl : List Nat} {ops : Array Oper} {p : Oper} {s : St} {K : St → Prop} (hA : blA bl = true) (hp : isMov p = true ∨ isAl p = true) (hM : isM bl = false) (h : Step P bl ops p s K) :
    Step P bl ops p s (fun s1 => K s1 ∧ ∃ x new, s1 = (({ s with L := s.L ++ new } : St).put p.dst x)) := by
  obtain ⟨h0, g, hg, hh⟩ := h
  refine ⟨h0, g, hg, ?_⟩
  rcases hh with ⟨h1, h2⟩ | ⟨h1, ⟨h2, sv, h3, h4⟩ | ⟨h2, X, res, new, h3, hF, h4⟩ | ⟨hm, hA', hm', X, nx, h3, h4⟩ | ⟨hm, hd', L', h3, h5, h4⟩ | ⟨hA', e, cs, h3, h4⟩⟩
  · exact .inl ⟨h1, h2, undef, [], by simp⟩
  · exact .inr ⟨h1, .inl ⟨h2, sv, h3, h4, sv, [], by simp⟩⟩
  · exact .inr ⟨h1, .inr (.inl ⟨h2, X, res, new, h3, hF, fun x => ⟨h4 x, _, _, rfl⟩⟩)⟩
  · exfalso
    rcases hp with hp | hp
    · rw [hM, show mvS bl p = true by simp [mvS, hp]] at hm; cases hm
    · rw [hA, hp] at hA'; cases hA'
  · rw [noSto hp] at hm; cases hm
  · exact .inr ⟨h1, .inr (.inr (.inr (.inr ⟨hA', e, cs, h3, fun g => ⟨h4 g, _, _, rfl⟩⟩)))⟩
/-- **A NEW VARIABLE IS MADE BEFORE**: whatever came ahead of it. -/
theorem Run.swapA {P : Program} {bl : List Nat} {ops : Array Oper} {p i : Oper} {rest : List Oper} {s : St} {K : St → Prop} (hA : blA bl = true) (hS : blS bl = false) (hM : isM bl = false) (hK : KCP K) (hp : isMov p = true ∨ isAl p = true) (hi : isAl i = true)
    (hap : p.apart ops i = true) (h : Run P bl ops (p :: i :: rest) s K) : Run P bl ops (i :: p :: rest) s K := by
  obtain ⟨ap1, ap2, ap3⟩ := Oper.apart_spec hap
  have h' : Step P bl ops p s (fun s' => Step P bl ops i s' (fun s2 => Run P bl ops rest s2 K)) := h
  have hne : ∀ d, p.dst = some d → i.dst ≠ some d := ap2
  have hw : ∀ (x : Value) (new : List Blk), wantedS ops i (({ s with L := s.L ++ new } : St).put p.dst x).t = wantedS ops i s.t := fun x new => wantedS_put (s := { s with L := s.L ++ new }) ap1
  have hci : isCall i = false := by
    unfold isAl at hi; unfold isCall
    split at hi
    · rename_i heq; rw [heq]
    · cases hi
  -- what the second one does, behind the first one
  have what : ∀ {s1 : St}, Step P bl ops i s1 (fun s2 => Run P bl ops rest s2 K) → (∃ x new, s1 = (({ s with L := s.L ++ new } : St).put p.dst x)) →
      (∀ d, i.dst = some d → d < s.nt) ∧ ((wantedS ops i s.t = some false ∧ Run P bl ops rest (s1.put i.dst undef) K) ∨
        (wantedS ops i s.t = some true ∧ ∃ e cs, alTy P i = some (e, cs) ∧ ∀ g, Run P bl ops rest (({ s1 with L := s1.L ++ [alB g e cs] } : St).put i.dst (.pointer (some ⟨g, 0, none⟩))) K)) := by
    rintro s1 ⟨k0, g, hk, hh⟩ ⟨x, new, rfl⟩
    rw [hw] at hk
    refine ⟨fun d hd => by have := k0 d hd; rwa [show (({ s with L := s.L ++ new } : St).put p.dst x).nt = s.nt by cases p.dst <;> rfl] at this, ?_⟩
    rcases hh with ⟨rfl, h2⟩ | ⟨rfl, ⟨h2, sv, h3, h4⟩ | ⟨h2, X, res, new, h3, hF, h4⟩ | ⟨hm, hA', hm', X, nx, h3, h4⟩ | ⟨hm, hd', L', h3, h5, h4⟩ | ⟨hA', e, cs, h3, h4⟩⟩
    · exact .inl ⟨hk, h2⟩
    · rw [hA, hi] at h2; cases h2
    · rw [hci] at h2; cases h2
    · rw [hA, hi] at hA'; cases hA'
    · rw [noSto (.inr hi)] at hm; cases hm
    · exact .inr ⟨hk, e, cs, h3, h4⟩
  have hf := h'.form hA hp hM
  obtain ⟨x0, new0, k0, kf⟩ := hf.some hA hp hM
  obtain ⟨hb, hcase⟩ := what k0 kf
  rcases hcase with ⟨hk, _⟩ | ⟨hk, e, cs, hal, _⟩
  · refine ⟨hb, false, hk, .inl ⟨rfl, ?_⟩⟩
    have e : s.put i.dst undef = ({ s with L := s.L ++ [] } : St).put i.dst undef := by simp
    rw [e]
    refine Step.laterA hA hS hp hM hb ap3 hne (hf.mono ?_)
    rintro s1 ⟨hs1, hform⟩ s2 he
    rcases (what hs1 hform).2 with ⟨_, h2⟩ | ⟨h2, _⟩
    · refine Run.kcP hA hS hK rest _ _ he ?_
      have e : s1.put i.dst undef = ({ s1 with L := s1.L ++ [] } : St).put i.dst undef := by simp
      rw [← e]; exact h2
    · rw [hk] at h2; cases h2
  · refine ⟨hb, true, hk, .inr ⟨rfl, .inr (.inr (.inr (.inr ⟨hi, e, cs, hal, fun gg => ?_⟩)))⟩⟩
    refine Step.laterA hA hS hp hM hb ap3 hne (hf.mono ?_)
    rintro s1 ⟨hs1, hform⟩ s2 he
    rcases (what hs1 hform).2 with ⟨h2, _⟩ | ⟨_, e', cs', hal', h2⟩
    · rw [hk] at h2; cases h2
    · rw [hal] at hal'
      cases hal'
      exact Run.kcP hA hS hK rest _ _ he (h2 gg)
theorem pure_kind {o : Oper} (hi : isPure o = true) : isMov o = true ∧ isCall o = false ∧ isAl o = false ∧ isSto o = false := by
  unfold isPure at hi
  split at hi
  · rename_i heq; exact ⟨by unfold isMov; rw [heq], by unfold isCall; rw [heq], by unfold isAl; rw [heq], by unfold isSto; rw [heq]⟩
  · rename_i heq; exact ⟨by unfold isMov; rw [heq], by unfold isCall; rw [heq], by unfold isAl; rw [heq], by unfold isSto; rw [heq]⟩
  · cases hi
/-- **WHAT LOOKS AT SLOTS ALONE COMES BEFORE** a store, or a new variable -/
theorem Run.swapQ {P : Program} {bl : List Nat} {ops : Array Oper} {p i : Oper} {rest : List Oper} {s : St} {K : St → Prop} (hA : blA bl = true) (hS : blS bl = false) (hM : isM bl = false) (hK : KCP K) (hp : isSto p = true ∨ isAl p = true) (hpg : p.guard = none) (hi : isPure i = true)
    (hap : p.apart ops i = true) (h : Run P bl ops (p :: i :: rest) s K) : Run P bl ops (i :: p :: rest) s K := by
  obtain ⟨ap1, ap2, ap3⟩ := Oper.apart_spec hap
  have h' : Step P bl ops p s (fun s' => Step P bl ops i s' (fun s2 => Run P bl ops rest s2 K)) := h
  obtain ⟨h0, g, hg, hh⟩ := h'
  have hg1 : g = true := by
    unfold wantedS at hg; rw [hpg] at hg; simpa using hg.symm
  subst hg1
  have hnp : (blA bl && (isAl p || isSto p)) = false → False := fun h1 => by rcases hp with hp | hp <;> rw [hA, hp] at h1 <;> simp at h1
  have hcp : isCall p = false := by
    rcases hp with hp | hp
    · unfold isSto at hp
      split at hp
      · rename_i heq; unfold isCall; rw [heq]
      · cases hp
    · unfold isAl at hp
      split at hp
      · rename_i heq; unfold isCall; rw [heq]
      · cases hp
  obtain ⟨m1, m2, m3, m4⟩ := pure_kind hi
  have hns : ∀ cs b, p.op ≠ .select cs b := fun cs b e => by
    rcases hp with hp | hp
    · unfold isSto at hp; rw [e] at hp; cases hp
    · unfold isAl at hp; rw [e] at hp; cases hp
  have hwp : ∀ s' : St, wantedS ops p s'.t = some true := fun s' => by unfold wantedS; rw [hpg]
  -- what the second one yields
  have what : ∀ {s1 : St}, Step P bl ops i s1 (fun s2 => Run P bl ops rest s2 K) → s1.nt = s.nt → (wantedS ops i s1.t = wantedS ops i s.t) → pureV s1.t i = pureV s.t i →
      (∀ d, i.dst = some d → d < s.nt) ∧ ((wantedS ops i s.t = some false ∧ Run P bl ops rest (s1.put i.dst undef) K) ∨ (wantedS ops i s.t = some true ∧ ∃ v, pureV s.t i = some v ∧ Run P bl ops rest (s1.put i.dst v) K)) := by
    rintro s1 ⟨k0, gi, hgi, kk⟩ e1 e2 e3
    rw [e2] at hgi
    refine ⟨fun d hd => by rw [← e1]; exact k0 d hd, ?_⟩
    rcases kk with ⟨h1, h2⟩ | ⟨h1, ⟨h2, sv, q3, q4⟩ | ⟨h2, X, res, new, q3, hF, q4⟩ | ⟨qm, hA', qm', X, nx, q3, q4⟩ | ⟨qm, qd, L'', q3, q5, q4⟩ | ⟨hA', e, cs, q3, q4⟩⟩
    · exact .inl ⟨by rw [hgi, h1], h2⟩
    · exact .inr ⟨by rw [hgi, h1], sv, by rw [← e3]; exact q3.2 hA hi, q4⟩
    · rw [m2] at h2; cases h2
    · rw [hM, show mvS bl i = true by simp [mvS, m1]] at qm; cases qm
    · rw [m4] at qm; cases qm
    · rw [m3] at hA'; cases hA'
  -- the second one, ahead
  have ahead : ∀ (v : Value), (wantedS ops i s.t = some false ∧ v = undef ∨ wantedS ops i s.t = some true ∧ pureV s.t i = some v) → (∀ d, i.dst = some d → d < s.nt) → Run P bl ops (p :: rest) (s.put i.dst v) K → Run P bl ops (i :: p :: rest) s K := by
    intro v hv hb hr
    rcases hv with ⟨h1, rfl⟩ | ⟨h1, h2⟩
    · exact ⟨hb, false, h1, .inl ⟨rfl, hr⟩⟩
    · exact ⟨hb, true, h1, .inr ⟨rfl, .inl ⟨by rw [m3, m4]; simp, v, ⟨by rw [bk_of_S hS]; exact pureV_quiet h2, fun _ _ => h2⟩, hr⟩⟩⟩
  rcases hh with ⟨h1, _⟩ | ⟨_, ⟨h2, sv, h3, h4⟩ | ⟨h2, X, res, new, h3, hF, h4⟩ | ⟨hm, hA', hm', X, nx, h3, h4⟩ | ⟨hm, hd, L', h3, h5, h4⟩ | ⟨hA', e, cs, h3, h4⟩⟩
  · cases h1
  · exact (hnp h2).elim
  · rw [hcp] at h2; cases h2
  · exact (hnp hA').elim
  · -- a store
    obtain ⟨hb, hc⟩ := what h4 rfl rfl rfl
    have behind : ∀ (v : Value), Run P bl ops rest ((({ s with L := L' } : St)).put i.dst v) K → Run P bl ops (p :: rest) (s.put i.dst v) K := by
      intro v hr
      refine ⟨fun d hd' => (by rw [hd] at hd'; cases hd'), true, hwp _, .inr ⟨rfl, .inr (.inr (.inr (.inl ⟨hm, hd, L', fun B a w hrel => ?_, (fun hb => by rw [hS] at hb; cases hb), ?_⟩)))⟩⟩
      · have hrel' : Rel B (({ s with L := s.L ++ [] } : St).put i.dst v) a w := by simpa using hrel
        obtain ⟨u, hu⟩ := Rel.putBack (s := s) (new := []) hb hrel'
        have := h3 B _ w hu
        rwa [execOp_put p hns a i.dst u ap3] at this
      · have e : ({ s.put i.dst v with L := L' } : St) = (({ s with L := L' } : St)).put i.dst v := by cases i.dst <;> rfl
        rw [e]; exact hr
    rcases hc with ⟨c1, c2⟩ | ⟨c1, v, c2, c3⟩
    · exact ahead undef (.inl ⟨c1, rfl⟩) hb (behind _ c2)
    · exact ahead v (.inr ⟨c1, c2⟩) hb (behind _ c3)
  · -- a new variable
    have hs1 : ∀ gg, (({ s with L := s.L ++ [alB gg e cs] } : St).put p.dst (.pointer (some ⟨gg, 0, none⟩))).nt = s.nt := fun gg => by cases p.dst <;> rfl
    have hw1 : ∀ gg, wantedS ops i (({ s with L := s.L ++ [alB gg e cs] } : St).put p.dst (.pointer (some ⟨gg, 0, none⟩))).t = wantedS ops i s.t := fun gg => wantedS_put (s := { s with L := s.L ++ [alB gg e cs] }) ap1
    have hv1 : ∀ gg, pureV (({ s with L := s.L ++ [alB gg e cs] } : St).put p.dst (.pointer (some ⟨gg, 0, none⟩))).t i = pureV s.t i := fun gg => pureV_put (s := { s with L := s.L ++ [alB gg e cs] }) ap1
    have hp2 : isMov p = true ∨ isAl p = true := .inr hA'
    have hpi : ∀ d, p.dst = some d → i.dst ≠ some d := ap2
    have behind : ∀ (v : Value), (∀ d, i.dst = some d → d < s.nt) → (∀ gg, Run P bl ops rest ((({ s with L := s.L ++ [alB gg e cs] } : St).put p.dst (.pointer (some ⟨gg, 0, none⟩))).put i.dst v) K) → Run P bl ops (p :: rest) (s.put i.dst v) K := by
      intro v hb hr
      have e : s.put i.dst v = ({ s with L := s.L ++ [] } : St).put i.dst v := by simp
      rw [e]
      refine Step.laterA (K := fun s2 => Run P bl ops rest s2 K) hA hS hp2 hM hb ap3 hpi ⟨h0, true, hg, .inr ⟨rfl, .inr (.inr (.inr (.inr ⟨hA', _, cs, h3, fun gg s2 he => ?_⟩)))⟩⟩
      refine Run.kcP hA hS hK rest _ _ he ?_
      have := hr gg
      simpa using this
    obtain ⟨hb, hc⟩ := what (h4 0) (hs1 0) (hw1 0) (hv1 0)
    rcases hc with ⟨c1, _⟩ | ⟨c1, v, c2, _⟩
    · refine ahead undef (.inl ⟨c1, rfl⟩) hb (behind _ hb fun gg => ?_)
      rcases (what (h4 gg) (hs1 gg) (hw1 gg) (hv1 gg)).2 with ⟨_, d2⟩ | ⟨d1, _⟩
      · exact d2
      · rw [c1] at d1; cases d1
    · refine ahead v (.inr ⟨c1, c2⟩) hb (behind _ hb fun gg => ?_)
      rcases (what (h4 gg) (hs1 gg) (hw1 gg) (hv1 gg)).2 with ⟨d1, _⟩ | ⟨_, v', d2, d3⟩
      · rw [c1] at d1; cases d1
      · rw [c2] at d2; cases d2; exact d3
/-- may p be passed over by i? -/
def passOk (bl : List Nat) (ops : Array Oper) (op oi : Oper) : Bool :=
  op.apart ops oi && (((isMov op && isFr bl oi && !isCall op) || (isAl oi && (isMov op || isAl op))) || ((isSto op || isAl op) && isPure oi && op.guard.isNone))
theorem Run.frontA {P : Program} {bl : List Nat} {ops : Array Oper} {i : Oper} {post : List Oper} {K : St → Prop} (hA : blA bl = true) (hS : blS bl = false) (hM : isM bl = false) (hK : KCP K) : ∀ {pre : List Oper} {s : St},
    (∀ p ∈ pre, passOk bl ops p i = true) → Run P bl ops (pre ++ i :: post) s K → Run P bl ops (i :: (pre ++ post)) s K
  | [], s, _, h => h
  | p :: pre, s, hp, h => by
    have h1 : Step P bl ops p s (fun s' => Run P bl ops (pre ++ i :: post) s' K) := h
    have h2 : Run P bl ops (p :: i :: (pre ++ post)) s K := by
      refine Step.mono ?_ h1
      intro s' hr
      exact Run.frontA hA hS hM hK (fun q hq => hp q (by simp [hq])) hr
    have hpp := hp p (by simp)
    simp only [passOk, Bool.and_eq_true, Bool.or_eq_true, Bool.not_eq_true'] at hpp
    obtain ⟨ha, (⟨⟨hm, hf⟩, hc⟩ | ⟨hi, hm⟩) | ⟨⟨hs, hi⟩, hg⟩⟩ := hpp
    · exact Run.swap (hK.kc) hm hf hc ha h2
    · exact Run.swapA hA hS hM hK hm hi ha h2
    · exact Run.swapQ hA hS hM hK hs (by simpa using hg) hi ha h2
def pairOkA (bl : List Nat) (ops : Array Oper) (p i : Nat) : Bool :=
  waitsF ops ops.size i p ||
  match ops[p]?, ops[i]? with
  | some op, some oi => passOk bl ops op oi
  | _, _ => false
def drawnAOk (bl : List Nat) (ops : Array Oper) (perm : List Nat) : Bool :=
  decide (perm.length = ops.size) && perm.all (fun i => decide (i < ops.size)) && (List.range ops.size).all (fun i => perm.contains i) &&
  pairsB (pairOkA bl ops) perm && pairsB (noWait ops) perm && perm.all (fun i => noWait ops i i) && perm.all (fun i => edgesIn ops i) && pairsB (fun i j => i != j) perm && blA bl && !blS bl && !isM bl
theorem wpAny_of_runA {P : Program} {bl : List Nat} {ops : Array Oper} {Q : Exit → Act → World → Prop} {K : St → Prop} {B : World} (hA : blA bl = true) (hS : blS bl = false) (hM : isM bl = false) (hK : KCP K) (hpost : ∀ s' a' w', K s' → Rel B s' a' w' → Q .normal a' w') :
    ∀ (n : Nat) (l : List Nat) (listed : Array Bool) (s : St) (a : Act) (w : World), l.length = n → Ord1 ops l → l.Pairwise (fun p i => pairOkA bl ops p i = true) → listed.size = ops.size →
      (∀ j, j < ops.size → (listed.getD j true = false ↔ j ∈ l)) → Closed ops listed → Run P bl ops (l.map fun i => ops.getD i default) s K → Rel B s a w →
      wpAny P .any ops Q n listed a w := by
  intro n
  induction n with
  | zero =>
    intro l listed s a w hn ho hok hsz hl hc hr h
    have : l = [] := List.eq_nil_of_length_eq_zero hn
    subst this
    refine ⟨?_, hpost _ _ _ hr h⟩
    rcases hh : Region.ready .any ops listed with _ | ⟨i, r⟩
    · rfl
    · exfalso
      obtain ⟨h1, o, ho', _⟩ := mem_ready.1 (show i ∈ Region.ready .any ops listed by rw [hh]; simp)
      have := (hl i (Array.getElem?_eq_some_iff.1 ho').1).1 h1
      simp at this
  | succ n ih =>
    intro l listed s a w hn ho hok hsz hl hc hr h
    refine ⟨fun h0 => ?_, fun i hi => ?_⟩
    · exfalso
      cases l with
      | nil => simp at hn
      | cons i0 rest =>
        have hi0 := ho.lt i0 (by simp)
        have : i0 ∈ Region.ready .any ops listed := by
          refine mem_ready.2 ⟨(hl i0 hi0).2 (by simp), ops[i0], Array.getElem?_eq_getElem hi0, fun e he hb => ?_⟩
          rcases hx : listed.getD e.on false with _ | _
          · exfalso
            have hself := ho.self i0 (by simp)
            have hnw : ∀ j, j ∈ rest → noWait ops i0 j = true := fun j hj => (List.pairwise_cons.1 ho.nw).1 j hj
            have key : ∀ j, noWait ops i0 j = true → e.on ≠ j := fun j hj e' => by
              unfold noWait at hj
              rw [Array.getElem?_eq_getElem hi0] at hj
              have := (Array.all_eq_true'.1 hj) e he
              simp [hb, e'] at this
            rcases Nat.lt_or_ge e.on ops.size with hlt | hge
            · have hun : listed.getD e.on true = false := by
                have : e.on < listed.size := by rw [hsz]; exact hlt
                simp [this] at hx ⊢; exact hx
              have := (hl e.on hlt).1 hun
              rcases List.mem_cons.1 this with h1 | h1
              · exact key i0 hself h1
              · exact key e.on (hnw _ h1) rfl
            · have hj := ho.ed i0 (by simp)
              unfold edgesIn at hj
              rw [Array.getElem?_eq_getElem hi0] at hj
              have := (Array.all_eq_true'.1 hj) e he
              simp [hb] at this
              omega
          · rfl
        rw [h0] at this; cases this
    · obtain ⟨hun, oi, hoi, hall⟩ := mem_ready.1 hi
      have hilt := (Array.getElem?_eq_some_iff.1 hoi).1
      have hil : i ∈ l := (hl i hilt).1 hun
      obtain ⟨pre, post, rfl⟩ := List.append_of_mem hil
      have hoid : ops.getD i default = oi := by simp [hoi]
      have hpre : ∀ p ∈ pre, ∃ op, ops[p]? = some op ∧ passOk bl ops op oi = true := by
        intro p hp
        have hpo : pairOkA bl ops p i = true := (List.pairwise_append.1 hok).2.2 p hp i (by simp)
        unfold pairOkA at hpo
        rw [Bool.or_eq_true] at hpo
        rcases hpo with hpo | hpo
        · exfalso
          have h1 := waitsF_listed hc hpo (fun o ho' e he hb => by rw [hoi] at ho'; cases ho'; exact hall e he hb)
          have hplt := ho.lt p (by simp [hp])
          have h2 := (hl p hplt).2 (by simp [hp])
          rw [getD_tf h2] at h1; cases h1
        · rw [hoi] at hpo
          cases hop : ops[p]? with
          | none => rw [hop] at hpo; cases hpo
          | some op => rw [hop] at hpo; exact ⟨op, rfl, hpo⟩
      have hrun : Run P bl ops (oi :: ((pre ++ post).map fun i => ops.getD i default)) s K := by
        rw [List.map_append] at hr ⊢
        rw [List.map_cons, hoid] at hr
        refine Run.frontA hA hS hM hK ?_ hr
        intro q hq
        obtain ⟨p, hp, rfl⟩ := List.mem_map.1 hq
        obtain ⟨op, hop, h1⟩ := hpre p hp
        have : ops.getD p default = op := by simp [hop]
        rw [this]; exact h1
      have hsub : (pre ++ post).Sublist (pre ++ i :: post) := List.Sublist.append (List.Sublist.refl _) (List.sublist_cons_self _ _)
      have hnd := ho.nodup
      have hinot : i ∉ pre ++ post := by
        intro hm
        have := List.nodup_append.1 hnd
        rcases List.mem_append.1 hm with h1 | h1
        · exact this.2.2 i h1 i (by simp) rfl
        · exact (List.nodup_cons.1 this.2.1).1 h1
      unfold wpOp
      rw [hoi]
      dsimp only
      have hS' := Step.sound (K' := wpAny P .any ops Q n (listed.setIfInBounds i true)) (Q := Q) hrun h (fun s' a' w' hk hrel => by
        refine ih (pre ++ post) (listed.setIfInBounds i true) s' a' w' ?_ (ho.sub hsub) (hok.sublist hsub) (by simpa using hsz) ?_ ?_ hk hrel
        · simp at hn ⊢; omega
        · intro j hj
          by_cases hij : i = j
          · subst hij
            have : i < listed.size := by rw [hsz]; exact hilt
            simp [this]
            simpa using hinot
          · rw [getD_set_ne true hij, hl j hj]
            simp [Ne.symm hij]
        · intro j hj o hoj e he hb
          by_cases hij : i = j
          · subst hij
            rw [hoi] at hoj; cases hoj
            exact getD_set_true (hall e he hb)
          · rw [getD_set_ne false hij] at hj
            exact getD_set_true (hc j hj o hoj e he hb))
      split
      · rename_i hw; rw [if_pos hw] at hS'; exact .inl hS'
      · rename_i hw; rw [if_neg hw] at hS'; exact hS'
theorem At.kcp {B : World} {X : Act → World → Prop} : KCP (fun s => At B s X) := fun s s' he h a w hr => h a w (he.rel hr)
theorem at_drawnA {P : Program} {B : World} {Q : Exit → Act → World → Prop} {s : St} {id : Nat} {l l' : List Oper} (bl perm : List Nat) (hm : P.follows .mixedOrders = true) (hc : drawnAOk bl l.toArray perm = true) (hl : perm.map (fun i => l.toArray.getD i default) = l')
    (h : Run P bl l.toArray l' s (fun s' => At B s' (Q .normal))) : At B s ((Code.region id l.toArray true).wp P Q) := fun a w hr => by
  simp only [drawnAOk, Bool.and_eq_true, decide_eq_true_eq, Bool.not_eq_true'] at hc
  obtain ⟨⟨⟨⟨⟨⟨⟨⟨⟨⟨hlen, hlt⟩, hall⟩, hpo⟩, hnw⟩, hself⟩, hed⟩, hnd⟩, hA⟩, hS⟩, hM⟩ := hc
  have hOrd : Ord1 l.toArray perm := ⟨fun i hi => of_decide_eq_true (List.all_eq_true.1 hlt i hi), pairsB_spec hnw, fun i hi => List.all_eq_true.1 hself i hi, fun i hi => List.all_eq_true.1 hed i hi, (pairsB_spec hnd).imp (fun h => by simpa using h)⟩
  subst hl
  refine wp_region_any hm ?_
  refine wpAny_of_runA hA hS hM At.kcp (B := B) (fun s' a' w' h1 h2 => h1 a' w' h2) l.toArray.size perm _ s a _ hlen hOrd (pairsB_spec hpo) (by simp) ?_ ?_ h hr.drew
  · intro j hj
    have : j ∈ perm := by
      have := List.all_eq_true.1 hall j (List.mem_range.2 hj)
      simpa using this
    have hj' : j < l.length := by simpa using hj
    simp [hj', this]
  · intro j hj
    exfalso
    rcases Nat.lt_or_ge j l.length with h1 | h1
    · simp [h1] at hj
    · simp [h1] at hj
end Go.Via
set_option linter.unusedVariables false
namespace Go.Proofs.YthnlafhnpphdhaaGreatDoor
open Go Go.RowKit Go.Via
end Go.Proofs.YthnlafhnpphdhaaGreatDoor
