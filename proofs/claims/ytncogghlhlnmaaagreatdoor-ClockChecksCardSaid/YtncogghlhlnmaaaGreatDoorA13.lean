/-
  For any exchanges and any device, ClockChecks returns true: Check returns the first error; for up to 12 valid exchanges Weight, Devices and Component return what the definition says. No further conditions.
-/
import Derived.Test.YtncogghlhlnmaaaGreatDoorA05
import Derived.Test.YtncogghlhlnmaaaGreatDoorA12
set_option linter.unusedVariables false
set_option linter.unusedVariables false
namespace Go.Proofs.YtncogghlhlnmaaaGreatDoor.clockChecks
open Go Go.ChangeShapes Go.WideShapes Go.ChangeAt Go.RowKit Go.Via
theorem laid : laidOutB Tryz.prog = true := by kernel_rfl
set_option maxRecDepth 20000 in
theorem contract (H : Type) (enc : TypeId × Value → H) (W : World) (base : Nat) (args : Array Value) (ds gs : List (DataW H)) (before : List MemPlace)
    (hval : ∀ (j : Nat) t v, Tryz.f10.params[j]? = some t → args[j]? = some v → Value.okWide Tryz.prog W .any base t v)
    (hW : DataW.Whole enc Tryz.prog Tryz.f10.params.toList Rows.clockChecksSpec.vars false W args.toList ds gs before)
    (hsz : (DataW.weightsEach Tryz.prog (Tryz.f10.params.toList ++ (OpenSpec.ofChange Rows.clockChecksSpec).bare.plain.varTypes Tryz.prog) (ds ++ gs)).all (· ≤ reachBytes) = true) :
    Calls Tryz.prog 10 args W fun e W' => ∃ v, e = .returned v ∧ Rows.clockChecksSpec.post enc Tryz.prog Tryz.f10 false true false false W args v W' := by
  have hW' := hW
  obtain ⟨p, q, hA0, hV, rfl, hfz, hnd⟩ := hW
  have hA : DataW.TrodAll enc Tryz.prog W 0 (fun _ => true) true Tryz.f10.params.toList args.toList ds p := hA0
  rw [Tryz.params10] at hA hval
  obtain ⟨v0, vs0, d0, ds0, p0, q0, hargs, rfl, rfl, h0, r0⟩ := trodAll_cons hA
  obtain ⟨v1, vs1, d1, ds1, p1, q1, rfl, rfl, rfl, h1, r1⟩ := trodAll_cons r0
  obtain ⟨rfl, rfl, rfl⟩ := trodAll_nil r1
  obtain rfl : args = #[v0, v1] := by cases args; simp_all
  obtain ⟨rfl, rfl⟩ := trodVars_none hV
  have h0k := h0
  have h1k := h1
  obtain ⟨l0, a0, b0, pre0, N0, cap0, rfl, hc0, ha0, hB0, hn0⟩ := openXs (hval 0 22 v0 rfl rfl) h0
  obtain ⟨n1, rfl, z1⟩ := openN (hval 1 3 v1 rfl rfl) h1
  clear hA0
  simp only [List.append_nil] at hW'
  have walk := (c_ClockChecks l0 a0 b0 pre0 N0 cap0 hc0 ha0 n1 z1).2 W (relF_cons rfl hB0 hn0 (relF_nil W) (fun c hc => by cases hc))
  refine walk.mono fun e W' ⟨_, he, hg⟩ => ?_
  subst he
  have hlt : ∀ x ∈ p0 ++ (p1 ++ []), x.block < W.heap.size := fun x hx => hW'.lt x (by simpa using hx)
  have k0 : DataW.Trod enc Tryz.prog W' 0 (fun b => decide (b < W.heap.size)) true 22 (.slice a0 l0.length cap0) d0 p0 := Below.trod laid (by kernel_rfl) (of_decide_eq_true (by kernel_rfl)) h0k hg.below (fun x hx => hlt x (by simp [hx]))
  have k1 : DataW.Trod enc Tryz.prog W' 0 (fun b => decide (b < W.heap.size)) true 3 (.int .i64 n1) d1 p1 := Below.trod laid (by kernel_rfl) (of_decide_eq_true (by kernel_rfl)) h1k hg.below (fun x hx => hlt x (by simp [hx]))
  exact ⟨_, rfl, [d0, d1], [], p0 ++ (p1 ++ []), [], p0 ++ (p1 ++ []), [], by simpa using hW', trodAll_cons_mk (shut_bool Tryz.underlying4 _) trodAll_mk0, trodAll_cons_mk k0 (trodAll_cons_mk k1 (trodAll_mk0)), rfl, below_kept hg.below _, fun h => by cases h⟩
abbrev wit : Array Value := #[.slice none 0 0, .int .i64 0]
theorem reads (os : Os) {H : Type} (enc : TypeId × Value → H) : ∃ places, DataW.whole enc Tryz.prog ((laidWorld os).forCall (fun _ _ => 0) ⟨#[], wit, []⟩).memory Tryz.f10.params.toList Rows.clockChecksSpec.vars false wit.toList 8 = some ([.nil, .lit (.int .i64 0)], [], places) :=
  ⟨[], by kernel_rfl⟩
set_option maxRecDepth 100000 in
theorem lifted (os : Os) (started : os.Started) (H : Type) (enc : TypeId × Value → H) (F : Stop.Interp) :
    ReturnsInHanded {} Tryz.checked os 10 .any ((OpenSpec.ofChange Rows.clockChecksSpec).preRow enc Tryz.prog Tryz.f10 Rows.clockChecksRow.domain false Rows.clockChecksRow.laid) (((OpenSpec.ofChange Rows.clockChecksSpec).at F).post enc Tryz.prog Tryz.f10 false true false false) := by
  obtain ⟨places, hx⟩ := reads os enc
  refine returnsInHanded_of_row (C := Tryz.checked) (s := OpenSpec.ofChange Rows.clockChecksSpec) own started (by kernel_rfl) Tryz.func10
    (witness_row_at (enc := enc) (C := Tryz.checked) false (laidWorld os) wit rfl (by kernel_rfl) (by kernel_rfl) (by kernel_rfl)
      (OpenSpec.preRow_of_cond 8 hx (by kernel_rfl) (fun k hk => by cases hk) (by kernel_rfl) (laid_met os _))) ?_
  intro W base args ds gs before hval hW _ _ hsz hL _ _
  exact contract H enc W base args ds gs before hval hW hsz
theorem said : Rows.ClockChecksSaid :=
  OpenClaim.holds_of_cond 10 Tryz.f10 rfl rfl rfl rfl rfl rfl rfl ⟨rfl, rfl, rfl, rfl, rfl⟩ rfl rfl rfl rfl rfl (by kernel_rfl) Tryz.func10 (by kernel_rfl)
    (of_decide_eq_true (by kernel_rfl)) (by unfold Func.isWrapper; first | (rw [if_pos (by decide +kernel)]; kernel_rfl) | (rw [if_neg (by decide +kernel)]; exact ⟨rfl, rfl⟩))
    (fun os started H enc _ F => by rw [OpenClaim.pre_eq_preRow]; exact lifted os started H enc F)
/-- No parameter wants a stand-in; the program's own looks are off. -/
theorem plain (f : FuncId) (fn : Func) (hf : Tryz.pinned.checked.prog.funcNamed "viator/viatorlaw26.ClockChecks" = some f) (hfn : Tryz.pinned.checked.prog.funcs[f]? = some fn) :
    false = Tryz.pinned.checked.prog.looks [] ∧ ∀ (j : Nat) t, fn.params[j]? = some t → Tryz.pinned.checked.prog.wantsStandIn t = false := by
  obtain rfl : f = 10 := Option.some.inj ((show Tryz.prog.funcNamed "viator/viatorlaw26.ClockChecks" = some 10 by kernel_rfl).symm.trans hf) |>.symm
  obtain rfl : fn = Tryz.f10 := (Option.some.inj (Tryz.func10.symm.trans hfn)).symm
  refine ⟨by kernel_rfl, fun j t ht => ?_⟩
  rw [Tryz.params10] at ht
  have hm : t ∈ ([22, 3] : List Nat) := by simpa using Array.mem_of_getElem? ht
  have hw : ∀ t ∈ ([22, 3] : List Nat), Tryz.prog.wantsStandIn t = false := by
    intro t ht
    simp only [List.mem_cons, List.mem_nil_iff, or_false] at ht
    rcases ht with rfl | rfl
    · exact (show Tryz.prog.wantsStandIn 22 = false by kernel_rfl)
    · exact (show Tryz.prog.wantsStandIn 3 = false by kernel_rfl)
  exact hw t hm
/-- ████ THE CARD ████ -/
theorem card : Rows.ClockChecksCardSaid :=
  Claim7.holds_tied_plain_at .later [] _ _ _ _ said (fun _ h => by cases h) (by kernel_rfl) (fun _ h => by cases h) clockChecks_row_tie rfl ⟨rfl, rfl⟩ (by kernel_rfl) rfl plain (by kernel_rfl)
end Go.Proofs.YtncogghlhlnmaaaGreatDoor.clockChecks
namespace Go.Proofs.YtncogghlhlnmaaaGreatDoor
/-- the card -/
theorem clockChecks_holds : Rows.ClockChecksCardSaid := clockChecks.card
end Go.Proofs.YtncogghlhlnmaaaGreatDoor
