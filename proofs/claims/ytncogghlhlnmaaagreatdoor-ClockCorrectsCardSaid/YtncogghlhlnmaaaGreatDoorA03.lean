/-
  Part 3: lemmas, and walks through the functions that the laws of chapter 26 call. Each theorem states its own conditions.
-/
import Derived.Shelf.SlIterI.Nil
import Derived.Shelf.SortM.Plain
import Derived.Shelf.SortM.SortNone
import Derived.Test.YtncogghlhlnmaaaGreatDoorProg
import Derived.WideKeyEntry
import Derived.Shelf.Slices.Reverse
import Derived.Shelf.Slices.SearchI
import Derived.Shelf.Slices.Cells
import Derived.Shelf.Slices.Empties
import Derived.Test.YtncogghlhlnmaaaGreatDoorA01
import Derived.Test.YtncogghlhlnmaaaGreatDoorA02
set_option linter.unusedVariables false
set_option linter.unusedVariables false
set_option linter.unusedSimpArgs false
namespace Go.Via
open Go Go.RowKit
/-! ### trees that end in one state; a call of a function value that writes one block, in a region that draws its order -/
section
variable {P : Program} {bl : List Nat} {ops : Array Oper} {K : St → Prop} {rest : List Oper} {nt : Nat} {t : List (Nat × Value)} {L : List Blk} {d : Nat} {ty : TypeId} {pos : String} {af : Array Edge} {g : Option (Nat × Bool)} {x y : Operand}
/-- the length of a slice, wherever it lies -/
theorem r_lenV {T e : Nat} {b : Option Addr} {len cap : Nat} (hT : P.underlying T = some (.slice e)) (hd : Nat.blt d nt = true) (hg : wantedS ops ⟨some d, .call { callee := .builtin .len, args := #[x], argTypes := #[T] }, ty, pos, af, g⟩ t = some true) (hx : ev t x = some (.slice b len cap)) (h : Run P bl ops rest ⟨nt, (d, .int .i64 len) :: t, L⟩ K) :
    Run P bl ops (⟨some d, .call { callee := .builtin .len, args := #[x], argTypes := #[T] }, ty, pos, af, g⟩ :: rest) ⟨nt, t, L⟩ K :=
  run_q hd hg rfl (fun B a w hrel => by
    have he : P.elem T = e := by simp [Program.elem, hT]
    have := run_len_slice (P := P) w T ty b len cap (by rw [he]; exact hT)
    have h2 := hrel.ev hx
    simp [execOp, resolve, invoke, builtin, h2, this, goInt]) h
end
/-! a row that lies behind others in its block -/
theorem pre_get {pre C v : List Value} {k n m : Nat} (h : (C.drop k).take n = v) (e : m = pre.length + k) : ((pre ++ C).drop m).take n = v := by
  subst e
  rw [List.drop_length_add_append]
  exact h
theorem pre_ne {pre C : List Value} (h : C ≠ []) : pre ++ C ≠ [] := by simp [h]
end Go.Via
set_option linter.unusedVariables false
set_option linter.unusedSimpArgs false
namespace Go.Via
open Go Go.RowKit Go.MapKept
/-! ### maps with integers for keys -/
abbrev IM := List (Int × Value)
def kvI (l : IM) : List (Value × Value) := l.map fun p => (.int .i64 p.1, p.2)
def kvE (e : MapEntry) : Value × Value := (e.key, e.val)
noncomputable def mI (l : IM) : Nat := mE (kvI l)
/-- what a map holds at a key -/
def mg : IM → Int → Option Value
  | [], _ => none
  | p :: l, k => if p.1 = k then some p.2 else mg l k
/-- .. and behind a store -/
def mu : IM → Int → Value → IM
  | [], k, v => [(k, v)]
  | p :: l, k, v => if p.1 = k then (k, v) :: l else p :: mu l k v
def simpleM (l : IM) : Bool := l.all fun p => Value.simple p.2
theorem simpleM_kv {l : IM} (h : simpleM l = true) : simpleL (kvI l) = true := by
  unfold simpleL kvI
  rw [List.all_map]
  refine List.all_eq_true.2 fun p hp => ?_
  have := List.all_eq_true.1 h p hp
  simp [Value.simple, Value.simple0] at this ⊢
  exact this
theorem simpleM_mu : ∀ {l : IM} {k : Int} {v : Value}, simpleM l = true → Value.simple v = true → simpleM (mu l k v) = true
  | [], k, v, _, hv => by simp [mu, simpleM, hv]
  | p :: l, k, v, h, hv => by
    have h' : Value.simple p.2 = true ∧ simpleM l = true := by simpa [simpleM] using h
    unfold mu
    split
    · have := h'.2; simp [simpleM, hv] at this ⊢; exact this
    · have := simpleM_mu (k := k) (v := v) h'.2 hv
      simp [simpleM, h'.1] at this ⊢; exact this
theorem mg_find (k : Int) : ∀ {es : List MapEntry} {l : IM} (i : Nat), es.map kvE = kvI l →
    (Instr.findNow (.int .i64) (.int .i64 k) es i = some none ∧ mg l k = none ∧ ∀ v, mu l k v = l ++ [(k, v)]) ∨
    ∃ j x e, Instr.findNow (.int .i64) (.int .i64 k) es i = some (some (i + j, x)) ∧ mg l k = some x ∧ es[j]? = some e ∧ e.key = .int .i64 k ∧
      ∀ v, (es.modify j (fun e => { e with key := .int .i64 k, val := v })).map kvE = kvI (mu l k v)
  | [], [], i, _ => .inl ⟨rfl, rfl, fun _ => rfl⟩
  | [], _ :: _, i, h => by cases h
  | _ :: _, [], i, h => by cases h
  | e :: es, p :: l, i, h => by
    simp only [kvI, List.map_cons, List.cons.injEq] at h
    obtain ⟨h1, h2⟩ := h
    have hk : e.key = .int .i64 p.1 := congrArg Prod.fst h1
    have hv : e.val = p.2 := congrArg Prod.snd h1
    by_cases c : p.1 = k
    · refine .inr ⟨0, p.2, e, ?_, by simp [mg, c], rfl, by rw [hk, c], fun v => ?_⟩
      · simp [Instr.findNow, Instr.sameNow, hk, hv, c]
      · simp only [List.modify_zero_cons, List.map_cons, mu, if_pos c, kvI]
        rw [h2]; rfl
    · have hne : ¬ k = p.1 := fun e => c e.symm
      rcases mg_find k (es := es) (l := l) (i + 1) h2 with ⟨a1, a2, a3⟩ | ⟨j, x, e', a1, a2, a3, a4, a5⟩
      · refine .inl ⟨?_, by simp [mg, c, a2], fun v => by simp [mu, c, a3]⟩
        have h5 : (k == p.1) = false := by simpa using hne
        simp [Instr.findNow, Instr.sameNow, hk, h5, a1]
      · refine .inr ⟨j + 1, x, e', ?_, by simp [mg, c, a2], by simpa using a3, a4, fun v => ?_⟩
        · have h5 : (k == p.1) = false := by simpa using hne
          simp [Instr.findNow, Instr.sameNow, hk, h5, a1]; omega
        · simp only [List.modify_succ_cons, List.map_cons, mu, if_neg c]
          rw [a5 v]
          simp only [kvI, List.map_cons]
          rw [show kvE e = (Value.int .i64 p.1, p.2) from h1]
/-- a known map, in the world -/
theorem LRel.map {B w : World} {L : List Blk} (h : LRel B L w) {k : Nat} {g : Nat} {l : IM} {own : Bool} (hs : simpleM l = true) (hk : L[k]? = some ⟨some g, mI l, [], 0, own⟩) :
    ∃ es clock, w.heap[g]? = some (.map es clock) ∧ es.toList.map kvE = kvI l ∧ Stamped es clock := by
  rcases ((h.blk k _ hk).1 g rfl).1 with ⟨cur, ⟨_, _, _, _, hlt⟩, _⟩ | ⟨l', es, clock, a1, _, _, a4, a5, a6, a7⟩
  · exact absurd hlt (mE_ge _)
  · have e : kvI l = l' := by
      rcases a1 with a1 | ⟨_, _, a1, _⟩
      · exact mE_inj (simpleM_kv hs) a4 a1
      · exact absurd a1 mEQ_ne
    subst e
    exact ⟨es, clock, a5, a6, a7⟩
theorem LRel.setMap {B w : World} {L : List Blk} (h : LRel B L w) {k g : Nat} {l : IM} (hk : L[k]? = some ⟨some g, mI l, [], 0, true⟩) {l' : IM} {es' : Array MapEntry} {clock' : Nat} {o : Obj} (ho : w.heap[g]? = some o) (hs' : simpleM l' = true)
    (he : es'.toList.map kvE = kvI l') (hst : Stamped es' clock') : LRel B (L.set k ⟨some g, mI l', [], 0, true⟩) { w with heap := w.heap.setIfInBounds g (.map es' clock') } := by
  have h6 := ((h.blk k _ hk).1 g rfl).2 rfl
  have hkl : k < L.length := (List.getElem?_eq_some_iff.1 hk).1
  have hset := heap_set (o' := .map es' clock') ho
  refine ⟨h.below.trans ⟨rfl, rfl, rfl, by simp, fun i hi => hset.2 i (by omega)⟩, fun j b' hj => ?_, fun i j g' bi bj hij hi hj hoi hgi hgj => ?_⟩
  · by_cases e : k = j
    · subst e
      rw [List.getElem?_set_self hkl] at hj
      cases hj
      refine ⟨fun g' hg' => ?_, fun hn' => by cases hn'⟩
      cases hg'
      exact ⟨.inr ⟨kvI l', es', clock', .inl rfl, rfl, rfl, simpleM_kv hs', hset.1, he, hst⟩, fun _ => h6⟩
    · rw [List.getElem?_set_ne e] at hj
      obtain ⟨h1, h2⟩ := h.blk j b' hj
      refine ⟨fun g' hg' => ?_, h2⟩
      have hne : g' ≠ g := fun e' => h.apart k j g _ b' e hk hj rfl rfl (by rw [hg', e'])
      exact (h1 g' hg').heap (hset.2 g' hne)
  · have base : ∀ (m : Nat) (bm : Blk), (L.set k ⟨some g, mI l', [], 0, true⟩)[m]? = some bm → ∃ bm', L[m]? = some bm' ∧ bm'.base = bm.base ∧ bm'.own = bm.own := by
      intro m bm hm
      by_cases e : k = m
      · subst e
        rw [List.getElem?_set_self hkl] at hm
        cases hm
        exact ⟨_, hk, rfl, rfl⟩
      · rw [List.getElem?_set_ne e] at hm
        exact ⟨bm, hm, rfl, rfl⟩
    obtain ⟨bi', i1, i2, i3⟩ := base i bi hi
    obtain ⟨bj', j1, j2, j3⟩ := base j bj hj
    exact h.apart i j g' bi' bj' hij i1 j1 (by rw [i3]; exact hoi) (by rw [i2]; exact hgi) (by rw [j2]; exact hgj)
section
variable {P : Program} {bl : List Nat} {ops : Array Oper} {K : St → Prop} {rest : List Oper} {nt : Nat} {t : List (Nat × Value)} {L : List Blk} {d : Nat} {ty : TypeId} {pos : String} {af : Array Edge} {gd : Option (Nat × Bool)} {x y z : Operand}
theorem r_makeMap {T : Nat} (mk : Nat → List Blk) (hd : Nat.blt d nt = true) (hg : wantedS ops ⟨some d, .makeMap T none, ty, pos, af, gd⟩ t = some true) (hL : ∀ b, L ++ [⟨some b, mI [], [], 0, true⟩] = mk b)
    (h : ∀ b, Run P bl ops rest ⟨nt, (d, .map (some b)) :: t, mk b⟩ K) : Run P bl ops (⟨some d, .makeMap T none, ty, pos, af, gd⟩ :: rest) ⟨nt, t, L⟩ K :=
  run_e hd hg rfl rfl (X := Nat) (nx := fun b => ⟨nt, (d, .map (some b)) :: t, mk b⟩) (fun hd' => eff_of fun B a w hr => by
    refine ⟨.map (some w.heap.size), w.alloc (.map #[] 0), w.heap.size, by simp [execOp, Instr.makeMap], ?_⟩
    rw [← hL]
    refine hr.put hd' (hr.mem.ext ((Below.refl _ _).alloc (Nat.le_refl _) _) (fun k b hk => ?_) (fun i j g bi bj hij hi hj => ?_))
    · cases k with
      | zero =>
        simp at hk; subst hk
        refine ⟨fun g hg => ?_, fun hg => by cases hg⟩
        simp only [Option.some.injEq] at hg
        subst hg
        exact ⟨⟨.inr ⟨[], #[], 0, .inl rfl, rfl, rfl, rfl, heap_alloc_new w _, rfl, stamped_empty 0⟩, fun _ => hr.mem.below.size⟩, Nat.le_refl _⟩
      | succ k => simp at hk
    · cases i with
      | zero => cases j with
        | zero => exact absurd rfl hij
        | succ j => simp at hj
      | succ i => simp at hi) fun b => h b
theorem run_mapUpdate {T Kt Et : Nat} {w : World} {g : Nat} {es : Array MapEntry} {clock : Nat} {l : IM} {a : Int} {v : Value} (hT : P.underlying T = some (.map Kt Et)) (hK : P.underlying Kt = some (.int .i64)) (hb : w.heap[g]? = some (.map es clock)) (he : es.toList.map kvE = kvI l) (hst : Stamped es clock) :
    ∃ es' clock', (Instr.mapUpdate T (.map (some g)) (.int .i64 a) v).run P w = .ok () { w with heap := w.heap.setIfInBounds g (.map es' clock') } ∧ es'.toList.map kvE = kvI (mu l a v) ∧ Stamped es' clock' := by
  have hk : IsKey (.int .i64) (.int .i64 a) := rfl
  rcases mg_find a 0 he with ⟨h1, h2, h3⟩ | ⟨j, x, e, h1, h2, h3, h4, h5⟩
  · refine ⟨es.push { key := .int .i64 a, val := v, born := clock }, clock + 1, ?_, ?_, ?_⟩
    · simp [Instr.mapUpdate, run_underlying hT, MapKept.run_getObj_map hb, MapKept.run_checkKey hK hk, MapKept.run_findKey hK h1, MapKept.run_setObj_map _ hb, Result.andThen]
    · rw [Array.toList_push, List.map_append, he, h3]
      simp [kvI, kvE]
    · refine stamped_push hst fun x hx => ?_
      intro e
      have hm : ∀ (es : List MapEntry) (l : IM), es.map kvE = kvI l → x ∈ es → mg l a = none → False := by
        intro es
        induction es with
        | nil => intro l _ hx; cases hx
        | cons e0 es ih =>
          intro l hl hx hn
          cases l with
          | nil => cases hl
          | cons p l =>
            simp only [kvI, List.map_cons, List.cons.injEq] at hl
            unfold mg at hn
            split at hn
            · cases hn
            · rename_i hne
              rcases List.mem_cons.1 hx with rfl | hx
              · have := congrArg Prod.fst hl.1
                have h7 : x.key = .int .i64 p.1 := this
                rw [h7] at e
                simp at e
                exact hne e
              · exact ih l hl.2 hx hn
      exact hm _ _ he hx h2
  · have hj : es[j]? = some e := by rw [← Array.getElem?_toList]; exact h3
    refine ⟨es.modify j (fun e => { e with key := .int .i64 a, val := v }), clock, ?_, ?_, ?_⟩
    · simp [Instr.mapUpdate, run_underlying hT, MapKept.run_getObj_map hb, MapKept.run_checkKey hK hk, MapKept.run_findKey hK h1, hj, h4, MapKept.run_keyThatStays hk, MapKept.run_setObj_map _ hb, Result.andThen]
    · rw [Array.toList_modify]
      exact h5 v
    · exact stamped_modify hst _ _ (fun _ _ => rfl) (fun e' _ he' => by rw [hj] at he'; cases he'; exact h4.symm)
theorem blank_set {k : Nat} {b : Blk} : ∀ {bl : List Nat} {L : List Blk}, (bl.contains k && Nat.blt k 1000000) = true → blank bl (L.set k b) = blank bl L
  | [], L, h => by simp at h
  | j :: bl, L, h => by
    unfold blank
    by_cases e : j = k
    · subst e
      have hb : Nat.blt j 1000000 = true := by simp only [Bool.and_eq_true] at h; exact h.2
      rw [hb]
      simp only [cond_true, List.set_set]
    · have h' : (bl.contains k && Nat.blt k 1000000) = true := by
        simp only [Bool.and_eq_true, List.contains_cons] at h ⊢
        refine ⟨?_, h.2⟩
        rcases (show k = j ∨ bl.contains k = true by simpa using h.1) with h1 | h1
        · exact absurd h1.symm e
        · exact h1
      cases Nat.blt j 1000000 with
      | false => exact blank_set h'
      | true =>
        simp only [cond_true]
        rw [List.set_comm _ _ (fun e' => e e'.symm)]
        exact blank_set h'
def blOk (bl : List Nat) (kk : Nat) : Bool := !blS bl || (bl.contains kk && Nat.blt kk 1000000)
theorem blOk_spec {bl : List Nat} {kk : Nat} {L L' : List Blk} {b : Blk} (h : blOk bl kk = true) (hL : L.set kk b = L') : blS bl = true → blank bl L' = blank bl L := fun hs => by
  unfold blOk at h
  rw [hs] at h
  rw [← hL]
  exact blank_set (by simpa using h)
theorem r_mapUpdate {T Kt Et g : Nat} {l : IM} {a : Int} {v : Value} (kk : Nat) (L' : List Blk) (hT : P.underlying T = some (.map Kt Et)) (hK : P.underlying Kt = some (.int .i64)) (hg : wantedS ops ⟨none, .mapUpdate T x y z, ty, pos, af, gd⟩ t = some true) (hk : L[kk]? = some ⟨some g, mI l, [], 0, true⟩)
    (hx : ev t x = some (.map (some g))) (hy : ev t y = some (.int .i64 a)) (hz : ev t z = some v) (hs : simpleM l = true) (hv : Value.simple v = true) (hL : L.set kk ⟨some g, mI (mu l a v), [], 0, true⟩ = L') (hb : blOk bl kk = true)
    (h : Run P bl ops rest ⟨nt, t, L'⟩ K) : Run P bl ops (⟨none, .mapUpdate T x y z, ty, pos, af, gd⟩ :: rest) ⟨nt, t, L⟩ K :=
  run_s (L' := L') hg rfl rfl (fun B ac w hr => by
    obtain ⟨es, clock, hb, he, hst⟩ := hr.mem.map hs hk
    obtain ⟨es', clock', h1, h2, h3⟩ := run_mapUpdate (P := P) (a := a) (v := v) hT hK hb he hst
    refine ⟨{ w with heap := w.heap.setIfInBounds g (.map es' clock') }, by simp [execOp, hr.ev hx, hr.ev hy, hr.ev hz, h1], ?_⟩
    rw [← hL]
    exact hr.mem.setMap hk hb (simpleM_mu hs hv) h2 h3) (blOk_spec hb hL) h
theorem r_insert {T Kt Et g : Nat} {l : IM} {a : Int} {v : Value} (kk : Nat) (L' : List Blk) (hT : P.underlying T = some (.map Kt Et)) (hK : P.underlying Kt = some (.int .i64)) (hg : wantedS ops ⟨none, .insert T x y z, ty, pos, af, gd⟩ t = some true) (hk : L[kk]? = some ⟨some g, mI l, [], 0, true⟩)
    (hx : ev t x = some (.map (some g))) (hy : ev t y = some (.int .i64 a)) (hz : ev t z = some v) (hs : simpleM l = true) (hv : Value.simple v = true) (hL : L.set kk ⟨some g, mI (mu l a v), [], 0, true⟩ = L')
    (h : Run P bl ops rest ⟨nt, t, L'⟩ K) : Run P bl ops (⟨none, .insert T x y z, ty, pos, af, gd⟩ :: rest) ⟨nt, t, L⟩ K :=
  run_e rfl hg rfl rfl (X := Unit) (nx := fun _ => ⟨nt, t, L'⟩) (fun _ B ac w hr => by
    obtain ⟨es, clock, hb, he, hst⟩ := hr.mem.map hs hk
    obtain ⟨es', clock', h1, h2, h3⟩ := run_mapUpdate (P := P) (a := a) (v := v) hT hK hb he hst
    have hrun : (execOp ac.eval ⟨none, .insert T x y z, ty, pos, af, gd⟩).run P w = .ok .skip { w with heap := w.heap.setIfInBounds g (.map es' clock') } := by
      simp [execOp, hr.ev hx, hr.ev hy, hr.ev hz, h1]
    unfold Oper.wp
    rw [hrun]
    refine ⟨(), ?_⟩
    rw [← hL]
    exact ⟨hr.df, hr.size, hr.tmp, hr.mem.setMap hk hb (simpleM_mu hs hv) h2 h3⟩) fun _ => h
/-- a look into a map: what it holds there, or the zero -/
theorem r_lookup {T Kt Et g : Nat} {l : IM} {a : Int} {zv v : Value} {own : Bool} (kk : Nat) (hT : P.underlying T = some (.map Kt Et)) (hK : P.underlying Kt = some (.int .i64)) (hz : (P.info? Et).bind (·.zero) = some zv) (hd : Nat.blt d nt = true) (hg : wantedS ops ⟨some d, .lookup T x y false, ty, pos, af, gd⟩ t = some true)
    (hk : L[kk]? = some ⟨some g, mI l, [], 0, own⟩) (hx : ev t x = some (.map (some g))) (hy : ev t y = some (.int .i64 a)) (hs : simpleM l = true) (hv : (mg l a).getD zv = v) (hbl : blank bl L = L)
    (h : Run P bl ops rest ⟨nt, (d, v) :: t, L⟩ K) : Run P bl ops (⟨some d, .lookup T x y false, ty, pos, af, gd⟩ :: rest) ⟨nt, t, L⟩ K :=
  run_q hd hg rfl (fun B a' w hr => by
    have hr' : Rel B ⟨nt, t, L⟩ a' w := by
      have e : St.bk ⟨nt, t, L⟩ bl = ⟨nt, t, L⟩ := by show St.mk _ _ (blank bl L) = _; rw [hbl]
      rwa [e] at hr
    obtain ⟨es, clock, hb, he, hst⟩ := hr'.mem.map hs hk
    have hkk : IsKey (.int .i64) (.int .i64 a) := rfl
    have hzero : (zeroValue Et).run P w = .ok zv w := by
      cases hq : P.info? Et with
      | none => rw [hq] at hz; cases hz
      | some inf =>
        rw [hq] at hz
        simp only [Option.bind_some] at hz
        simp [zeroValue, typeInfo, hq, hz]
    rcases mg_find a 0 he with ⟨h1, h2, h3⟩ | ⟨j, u, e, h1, h2, h3, h4, h5⟩
    · rw [h2] at hv
      simp only [Option.getD_none] at hv
      subst hv
      simp [execOp, hr'.ev hx, hr'.ev hy, Instr.lookup, run_underlying hT, MapKept.run_getObj_map hb, MapKept.run_checkKey hK hkk, MapKept.run_findKey hK h1, hzero, Result.andThen]
    · rw [h2] at hv
      simp only [Option.getD_some] at hv
      subst hv
      simp [execOp, hr'.ev hx, hr'.ev hy, Instr.lookup, run_underlying hT, MapKept.run_getObj_map hb, MapKept.run_checkKey hK hkk, MapKept.run_findKey hK h1, Result.andThen]) h
/-- .. and whether it holds something there -/
theorem r_lookupOk {T Kt Et g : Nat} {l : IM} {a : Int} {zv v : Value} {ok : Bool} {own : Bool} (kk : Nat) (hT : P.underlying T = some (.map Kt Et)) (hK : P.underlying Kt = some (.int .i64)) (hz : (P.info? Et).bind (·.zero) = some zv) (hd : Nat.blt d nt = true) (hg : wantedS ops ⟨some d, .lookup T x y true, ty, pos, af, gd⟩ t = some true)
    (hk : L[kk]? = some ⟨some g, mI l, [], 0, own⟩) (hx : ev t x = some (.map (some g))) (hy : ev t y = some (.int .i64 a)) (hs : simpleM l = true) (hv : (mg l a).getD zv = v) (hok : (mg l a).isSome = ok) (hbl : blank bl L = L)
    (h : Run P bl ops rest ⟨nt, (d, .tuple #[v, .bool ok]) :: t, L⟩ K) : Run P bl ops (⟨some d, .lookup T x y true, ty, pos, af, gd⟩ :: rest) ⟨nt, t, L⟩ K :=
  run_q hd hg rfl (fun B a' w hr => by
    have hr' : Rel B ⟨nt, t, L⟩ a' w := by
      have e : St.bk ⟨nt, t, L⟩ bl = ⟨nt, t, L⟩ := by show St.mk _ _ (blank bl L) = _; rw [hbl]
      rwa [e] at hr
    obtain ⟨es, clock, hb, he, hst⟩ := hr'.mem.map hs hk
    have hkk : IsKey (.int .i64) (.int .i64 a) := rfl
    have hzero : (zeroValue Et).run P w = .ok zv w := by
      cases hq : P.info? Et with
      | none => rw [hq] at hz; cases hz
      | some inf =>
        rw [hq] at hz
        simp only [Option.bind_some] at hz
        simp [zeroValue, typeInfo, hq, hz]
    rcases mg_find a 0 he with ⟨h1, h2, h3⟩ | ⟨j, u, e, h1, h2, h3, h4, h5⟩
    · rw [h2] at hv hok
      simp only [Option.getD_none] at hv
      simp only [Option.isSome_none] at hok
      subst hv; subst hok
      simp [execOp, hr'.ev hx, hr'.ev hy, Instr.lookup, run_underlying hT, MapKept.run_getObj_map hb, MapKept.run_checkKey hK hkk, MapKept.run_findKey hK h1, hzero, Result.andThen]
    · rw [h2] at hv hok
      simp only [Option.getD_some] at hv
      simp only [Option.isSome_some] at hok
      subst hv; subst hok
      simp [execOp, hr'.ev hx, hr'.ev hy, Instr.lookup, run_underlying hT, MapKept.run_getObj_map hb, MapKept.run_checkKey hK hkk, MapKept.run_findKey hK h1, Result.andThen]) h
end
end Go.Via
set_option linter.unusedVariables false
set_option linter.unusedSimpArgs false
namespace Go.Via
open Go Go.RowKit
/-! ### a call of a function value that reads what it has captured -/
section
variable {P : Program} {bl : List Nat} {ops : Array Oper} {K : St → Prop} {rest : List Oper} {nt : Nat} {t : List (Nat × Value)} {L : List Blk} {d : Nat} {ty : TypeId} {pos : String} {af : Array Edge} {g : Option (Nat × Bool)} {x y : Operand}
end
end Go.Via
namespace Go.Via
/-- little-endian value of a list of digits -/
def val (B : Nat) : List Nat → Nat
  | [] => 0
  | d :: l => d + B * val B l
@[simp] theorem val_nil (B : Nat) : val B [] = 0 := rfl
@[simp] theorem val_cons (B d : Nat) (l : List Nat) : val B (d :: l) = d + B * val B l := rfl
/-- the canonical digits of a number -/
def digs (B n : Nat) : List Nat :=
  if _h : n = 0 ∨ B < 2 then [] else n % B :: digs B (n / B)
  termination_by n
  decreasing_by exact Nat.div_lt_self (by omega) (by omega)
theorem digs_zero (B : Nat) : digs B 0 = [] := by unfold digs; simp
theorem digs_pos {B n : Nat} (hB : 2 ≤ B) (hn : n ≠ 0) : digs B n = n % B :: digs B (n / B) := by
  conv => lhs; unfold digs
  rw [dif_neg (by omega)]
theorem val_digs {B : Nat} (hB : 2 ≤ B) (n : Nat) : val B (digs B n) = n := by
  induction n using Nat.strongRecOn with
  | _ n ih =>
    by_cases hn : n = 0
    · subst hn; simp [digs_zero]
    · rw [digs_pos hB hn, val_cons, ih _ (Nat.div_lt_self (by omega) (by omega))]
      exact Nat.mod_add_div n B
theorem digs_lt {B n : Nat} (hB : 2 ≤ B) : ∀ d ∈ digs B n, d < B := by
  induction n using Nat.strongRecOn with
  | _ n ih =>
    by_cases hn : n = 0
    · subst hn; simp [digs_zero]
    · rw [digs_pos hB hn]
      intro d hd
      rcases List.mem_cons.1 hd with rfl | hd
      · exact Nat.mod_lt _ (by omega)
      · exact ih _ (Nat.div_lt_self (by omega) (by omega)) d hd
/-- no zero at the high end -/
def Canon (l : List Nat) : Prop := l.getLast? ≠ some 0
theorem canon_nil : Canon [] := by simp [Canon]
theorem canon_cons {d : Nat} {l : List Nat} (h : Canon (d :: l)) : Canon l := by
  cases l with
  | nil => exact canon_nil
  | cons e l => simpa [Canon, List.getLast?_cons_cons] using h
theorem val_pos_of_canon {B : Nat} (hB : 2 ≤ B) : ∀ {l : List Nat}, Canon l → l ≠ [] → 0 < val B l
  | [], _, h => absurd rfl h
  | [d], h, _ => by
    simp [Canon] at h
    simp; omega
  | d :: e :: l, h, _ => by
    have := val_pos_of_canon hB (canon_cons h) (by simp)
    rw [val_cons]
    have : 0 < B * val B (e :: l) := Nat.mul_pos (by omega) this
    omega
theorem digs_val {B : Nat} (hB : 2 ≤ B) : ∀ {l : List Nat}, (∀ d ∈ l, d < B) → Canon l → digs B (val B l) = l
  | [], _, _ => by simp [digs_zero]
  | d :: l, hl, hc => by
    have hp := val_pos_of_canon hB hc (by simp)
    rw [digs_pos hB (by omega)]
    have hd := hl d (by simp)
    have e1 : val B (d :: l) % B = d := by rw [val_cons, Nat.add_mul_mod_self_left]; exact Nat.mod_eq_of_lt hd
    have e2 : val B (d :: l) / B = val B l := by
      rw [val_cons, Nat.add_mul_div_left _ _ (by omega), Nat.div_eq_of_lt hd]; omega
    rw [e1, e2, digs_val hB (fun x hx => hl x (by simp [hx])) (canon_cons hc)]
theorem val_append (B : Nat) (a b : List Nat) : val B (a ++ b) = val B a + B ^ a.length * val B b := by
  induction a with
  | nil => simp
  | cons d a ih =>
    rw [List.cons_append, val_cons, ih, val_cons, List.length_cons, Nat.pow_succ, Nat.mul_add,
      show B ^ a.length * B * val B b = B * (B ^ a.length * val B b) by rw [Nat.mul_comm (B ^ a.length) B, Nat.mul_assoc]]
    omega
theorem val_lt {B : Nat} (hB : 1 ≤ B) : ∀ {l : List Nat}, (∀ d ∈ l, d < B) → val B l < B ^ l.length
  | [], _ => by simp
  | d :: l, hl => by
    have h1 := val_lt hB (l := l) (fun x hx => hl x (by simp [hx]))
    have hd := hl d (by simp)
    rw [val_cons, List.length_cons, Nat.pow_succ]
    have : B * val B l + B ≤ B ^ l.length * B := by
      have := Nat.mul_le_mul_left B (Nat.succ_le_of_lt h1)
      rw [Nat.mul_comm (B ^ l.length) B]
      rw [Nat.mul_succ] at this
      exact this
    omega
theorem digs_length_le {B : Nat} (hB : 2 ≤ B) {n k : Nat} (h : n < B ^ k) : (digs B n).length ≤ k := by
  induction k generalizing n with
  | zero => simp at h; subst h; simp [digs_zero]
  | succ k ih =>
    by_cases hn : n = 0
    · subst hn; simp [digs_zero]
    · rw [digs_pos hB hn, List.length_cons]
      have := ih (n := n / B) (by rw [Nat.div_lt_iff_lt_mul (by omega)]; rwa [Nat.pow_succ] at h)
      omega
theorem lt_pow_digs {B : Nat} (hB : 2 ≤ B) (n : Nat) : n < B ^ (digs B n).length := by
  have := val_lt (B := B) (by omega) (l := digs B n) (digs_lt hB)
  rwa [val_digs hB] at this
theorem le_of_pow_le {B : Nat} (hB : 2 ≤ B) {n k : Nat} (h : B ^ k ≤ n) : k < (digs B n).length := by
  have h1 := lt_pow_digs hB n
  rcases Nat.lt_or_ge k (digs B n).length with h2 | h2
  · exact h2
  · have := Nat.pow_le_pow_right (n := B) (by omega) h2
    omega
theorem digs_getElem? {B : Nat} (hB : 2 ≤ B) (n i : Nat) (hi : i < (digs B n).length) : (digs B n)[i]? = some (n / B ^ i % B) := by
  induction i generalizing n with
  | zero =>
    by_cases hn : n = 0
    · subst hn; simp [digs_zero] at hi
    · rw [digs_pos hB hn]; simp
  | succ i ih =>
    by_cases hn : n = 0
    · subst hn; simp [digs_zero] at hi
    · rw [digs_pos hB hn] at hi ⊢
      rw [List.getElem?_cons_succ, ih _ (by simpa using hi), Nat.div_div_eq_div_mul, Nat.pow_succ, Nat.mul_comm B]
end Go.Via
namespace Go.Via
theorem val_take_succ (B : Nat) (l : List Nat) (k : Nat) (hk : k < l.length) : val B (l.take (k + 1)) = val B (l.take k) + B ^ k * l[k] := by
  rw [List.take_succ_eq_append_getElem hk, val_append]
  simp [List.length_take, Nat.min_eq_left (Nat.le_of_lt hk)]
theorem val_snoc (B : Nat) (l : List Nat) (d : Nat) : val B (l ++ [d]) = val B l + B ^ l.length * d := by
  rw [val_append]; simp
theorem all_take {p : Nat → Prop} {l : List Nat} (h : ∀ d ∈ l, p d) (k : Nat) : ∀ d ∈ l.take k, p d :=
  fun d hd => h d (List.mem_of_mem_take hd)
/-- the end of a loop that passes over zeros from the high end -/
theorem trim_end {B : Nat} (hB : 2 ≤ B) {l : List Nat} (hl : ∀ d ∈ l, d < B) {n : Nat} (hn : n ≤ l.length) (hv : val B (l.take n) = val B l)
    (hz : n = 0 ∨ ∃ h : n - 1 < l.length, l[n - 1] ≠ 0) : l.take n = digs B (val B l) := by
  rw [← hv, digs_val hB (all_take hl n)]
  unfold Canon
  rcases hz with rfl | ⟨h, hne⟩
  · simp
  · rw [List.getLast?_eq_getElem?, List.length_take, Nat.min_eq_left hn]
    by_cases h0 : n = 0
    · subst h0; simp
    · rw [List.getElem?_take, if_pos (by omega), List.getElem?_eq_getElem h]
      simpa using hne
theorem trim_step {B : Nat} {l : List Nat} {n : Nat} (hn : n + 1 ≤ l.length) (hv : val B (l.take (n + 1)) = val B l) (hz : l[n] = 0) : val B (l.take n) = val B l := by
  rw [val_take_succ B l n (by omega), hz] at hv
  simpa using hv
/-- canonical lists: a longer one has a greater value -/
theorem canon_lt_of_length {B : Nat} (hB : 2 ≤ B) {a b : Nat} (h : (digs B a).length < (digs B b).length) : a < b := by
  have h1 := lt_pow_digs hB a
  rcases Nat.lt_or_ge a b with h2 | h2
  · exact h2
  · have := digs_length_le hB (n := b) (k := (digs B a).length) (by omega)
    omega
theorem digs_length_mono {B : Nat} (hB : 2 ≤ B) {a b : Nat} (h : a ≤ b) : (digs B a).length ≤ (digs B b).length :=
  digs_length_le hB (Nat.lt_of_le_of_lt h (lt_pow_digs hB b))
theorem digs_eq_nil {B : Nat} (hB : 2 ≤ B) {n : Nat} : digs B n = [] ↔ n = 0 := by
  constructor
  · intro h; have := val_digs hB n; rw [h] at this; exact this.symm
  · rintro rfl; exact digs_zero B
theorem digs_one_digit {B : Nat} (hB : 2 ≤ B) {d : Nat} (h0 : d ≠ 0) (h : d < B) : digs B d = [d] := by
  rw [digs_pos hB h0, Nat.mod_eq_of_lt h, Nat.div_eq_of_lt h, digs_zero]
end Go.Via
namespace Go.Via
/-- the quotient digit is below a guess that fails the test -/
theorem guess_down {B Y y1 y2 Yr X high x2 Xr P g rest : Nat} (hP : 0 < P) (hY : Y = (y1 * B + y2) * P + Yr) (hX : X = (high * B + x2) * P + Xr) (hXr : Xr < P)
    (hg : g * y1 + rest = high) (hyp : 0 < Y) (ht : g * y2 > rest * B + x2) : X / Y < g := by
  rw [Nat.div_lt_iff_lt_mul hyp]
  have h1 : g * (y1 * B + y2) = g * y1 * B + g * y2 := by grind
  have h2 : (high * B + x2) + 1 ≤ g * (y1 * B + y2) := by
    rw [h1, ← hg]
    have : (g * y1 + rest) * B = g * y1 * B + rest * B := by grind
    omega
  have h3 := Nat.mul_le_mul_right P h2
  have h4 : g * Y = g * (y1 * B + y2) * P + g * Yr := by rw [hY]; grind
  have h5 : (high * B + x2 + 1) * P = (high * B + x2) * P + P := by grind
  omega
theorem guess_start {B Y y1 y2 Yr X high x2 Xr P : Nat} (_hP : 0 < P) (hY : Y = (y1 * B + y2) * P + Yr) (hX : X = (high * B + x2) * P + Xr) (hXr : Xr < P) (hx2 : x2 < B)
    (hy1 : 0 < y1) (hyp : 0 < Y) : X / Y ≤ high / y1 := by
  have h0 : X / Y < high / y1 + 1 := by
    rw [Nat.div_lt_iff_lt_mul hyp]
    have h1 : high + 1 ≤ (high / y1 + 1) * y1 := by
      have := Nat.div_add_mod high y1
      have := Nat.mod_lt high hy1
      have : (high / y1 + 1) * y1 = y1 * (high / y1) + y1 := by grind
      omega
    have h2 := Nat.mul_le_mul_right (B * P) h1
    have h3 : (high / y1 + 1) * Y = (high / y1 + 1) * y1 * (B * P) + (high / y1 + 1) * (y2 * P + Yr) := by rw [hY]; grind
    have h4 : (high + 1) * (B * P) = high * B * P + B * P := by grind
    have h5 : (high * B + x2) * P = high * B * P + x2 * P := by grind
    have h6 : (x2 + 1) * P ≤ B * P := Nat.mul_le_mul_right P hx2
    have h7 : (x2 + 1) * P = x2 * P + P := by grind
    omega
  omega
/-- a guess that passes is at most one too great -/
theorem guess_end {B Y y1 y2 Yr X high x2 Xr P g rest : Nat} (hY : Y = (y1 * B + y2) * P + Yr) (hX : X = (high * B + x2) * P + Xr)
    (hYr : Yr < P) (hy1 : 0 < y1) (hy2 : y2 < B) (hg : g * y1 + rest = high) (hyp : 0 < Y) (hgB : g ≤ B) (ht : g * y2 ≤ rest * B + x2 ∨ B ≤ rest) : g ≤ X / Y + 1 := by
  have h1 : g * (y1 * B + y2) ≤ high * B + x2 := by
    have e1 : g * (y1 * B + y2) = g * y1 * B + g * y2 := by grind
    have e2 : high * B = g * y1 * B + rest * B := by rw [← hg]; grind
    rcases ht with h | h
    · omega
    · have a1 : g * y2 ≤ B * y2 := Nat.mul_le_mul_right _ hgB
      have a2 : B * y2 ≤ B * B := Nat.mul_le_mul_left _ (by omega)
      have a3 : B * B ≤ rest * B := Nat.mul_le_mul_right _ h
      omega
  have h2 := Nat.mul_le_mul_right P h1
  have h3 : g * Y = g * (y1 * B + y2) * P + g * Yr := by rw [hY]; grind
  have h4 : g * Yr ≤ g * P := Nat.mul_le_mul_left _ (by omega)
  have h5 : g * P ≤ B * P := Nat.mul_le_mul_right _ hgB
  have h6 : B * P ≤ Y := by
    have b1 : 1 * (B * P) ≤ y1 * (B * P) := Nat.mul_le_mul_right _ hy1
    have b2 : Y = y1 * (B * P) + (y2 * P + Yr) := by rw [hY]; grind
    omega
  have h7 : g * Y ≤ X + Y := by omega
  rcases Nat.lt_or_ge (X / Y + 1) g with h | h
  · exfalso
    have c1 : (X / Y + 2) * Y ≤ g * Y := Nat.mul_le_mul_right _ h
    have c2 : (X / Y + 2) * Y = Y * (X / Y) + Y + Y := by grind
    have c3 := Nat.div_add_mod X Y
    have c4 := Nat.mod_lt X hyp
    omega
  · exact h
/-- the high part is bounded -/
theorem high_le {B Y y1 y2 Yr X high x2 Xr P : Nat} (hY : Y = (y1 * B + y2) * P + Yr) (hX : X = (high * B + x2) * P + Xr) (hYr : Yr < P)
    (hy2 : y2 < B) (hXY : X < B * Y) : high < (y1 + 1) * B := by
  rcases Nat.lt_or_ge high ((y1 + 1) * B) with h | h
  · exact h
  · exfalso
    have h1 := Nat.mul_le_mul_right (B * P) h
    have h2 : X = high * (B * P) + (x2 * P + Xr) := by rw [hX]; grind
    have h3 : (y1 + 1) * B * (B * P) = B * (y1 * B * P + B * P) := by grind
    have h4 : Y ≤ y1 * B * P + B * P := by
      have : (y2 + 1) * P ≤ B * P := Nat.mul_le_mul_right _ hy2
      have e1 : (y2 + 1) * P = y2 * P + P := by grind
      have e2 : (y1 * B + y2) * P = y1 * B * P + y2 * P := by grind
      omega
    have h5 := Nat.mul_le_mul_left B h4
    omega
end Go.Via
namespace Go.Via
/-- the number that a string of bytes is, the most significant one first -/
def natL (l : List UInt8) : Nat := val 256 (l.reverse.map UInt8.toNat)
def natB (s : ByteArray) : Nat := natL s.data.toList
def magL (n : Nat) : List UInt8 := (digs 256 n).reverse.map UInt8.ofNat
/-- the canonical bytes of a number -/
def mag (n : Nat) : ByteArray := ⟨(magL n).toArray⟩
/-- how many bytes a number has -/
def nb (n : Nat) : Nat := (digs 256 n).length
theorem mag_list (n : Nat) : (mag n).data.toList = magL n := rfl
theorem magL_length (n : Nat) : (magL n).length = nb n := by simp [magL, nb]
theorem mag_size (n : Nat) : (mag n).size = nb n := by
  show (magL n).toArray.size = _
  simp [magL_length]
theorem bytes_lt (l : List UInt8) : ∀ d ∈ l.reverse.map UInt8.toNat, d < 256 := by
  intro d hd
  obtain ⟨u, _, rfl⟩ := List.mem_map.1 hd
  exact u.toNat_lt
theorem map_ofNat_toNat (l : List UInt8) : (l.map UInt8.toNat).map UInt8.ofNat = l := by
  rw [List.map_map]
  conv => rhs; rw [← List.map_id l]
  exact List.map_congr_left (fun u _ => by simp)
theorem map_toNat_ofNat {l : List Nat} (h : ∀ d ∈ l, d < 256) : (l.map UInt8.ofNat).map UInt8.toNat = l := by
  rw [List.map_map]
  conv => rhs; rw [← List.map_id l]
  exact List.map_congr_left (fun u hu => by have := h u hu; simp; omega)
theorem natL_magL (n : Nat) : natL (magL n) = n := by
  unfold natL magL
  rw [← List.map_reverse, List.reverse_reverse, map_toNat_ofNat (digs_lt (by omega)), val_digs (by omega)]
theorem natB_mag (n : Nat) : natB (mag n) = n := natL_magL n
theorem mag_inj {a b : Nat} : mag a = mag b ↔ a = b := by
  constructor
  · intro h; have := congrArg natB h; rwa [natB_mag, natB_mag] at this
  · rintro rfl; rfl
theorem magL_natL {l : List UInt8} (h : l.head? ≠ some 0) : magL (natL l) = l := by
  unfold magL natL
  rw [digs_val (by omega) (bytes_lt l)]
  · rw [← List.map_reverse, List.reverse_reverse, map_ofNat_toNat]
  · unfold Canon
    rw [List.getLast?_map, List.getLast?_reverse]
    cases hh : l.head? with
    | none => simp
    | some u =>
      simp only [Option.map_some, ne_eq, Option.some.injEq]
      intro hu
      apply h
      rw [hh]
      congr 1
      exact UInt8.toNat_inj.1 (by simpa using hu)
theorem nb_zero : nb 0 = 0 := by simp [nb, digs_zero]
theorem nb_eq_zero {n : Nat} : nb n = 0 ↔ n = 0 := by
  unfold nb; rw [List.length_eq_zero_iff, digs_eq_nil (by omega)]
theorem nb_le {n k : Nat} (h : n < 256 ^ k) : nb n ≤ k := digs_length_le (by omega) h
theorem lt_nb (n : Nat) : n < 256 ^ nb n := lt_pow_digs (by omega) n
theorem lt_of_nb_le {n k : Nat} (h : nb n ≤ k) : n < 256 ^ k := Nat.lt_of_lt_of_le (lt_nb n) (Nat.pow_le_pow_right (by omega) h)
theorem nb_mono {a b : Nat} (h : a ≤ b) : nb a ≤ nb b := digs_length_mono (by omega) h
theorem nb_add (a b : Nat) : nb (a + b) ≤ max (nb a) (nb b) + 1 := by
  apply nb_le
  have h1 := lt_of_nb_le (n := a) (k := max (nb a) (nb b)) (by omega)
  have h2 := lt_of_nb_le (n := b) (k := max (nb a) (nb b)) (by omega)
  rw [Nat.pow_succ]; omega
theorem nb_mul (a b : Nat) : nb (a * b) ≤ nb a + nb b := by
  apply nb_le
  rw [Nat.pow_add]
  exact Nat.mul_lt_mul'' (lt_nb a) (lt_nb b)
theorem nb_div (a b : Nat) : nb (a / b) ≤ nb a := nb_mono (Nat.div_le_self a b)
theorem nb_gcd_left (a b : Nat) (h : a ≠ 0) : nb (Nat.gcd a b) ≤ nb a := nb_mono (Nat.gcd_le_left b (by omega))
theorem mag_zero : mag 0 = ⟨#[]⟩ := by show ByteArray.mk (magL 0).toArray = _; simp [magL, digs_zero]
theorem mag_one : mag 1 = ⟨#[1]⟩ := by
  show ByteArray.mk (magL 1).toArray = _
  rw [magL, digs_one_digit (by omega) (by omega) (by omega)]; rfl
/-- the byte at a place -/
theorem magL_getElem? (n i : Nat) (hi : i < nb n) : (magL n)[i]? = some (UInt8.ofNat (n / 256 ^ (nb n - 1 - i) % 256)) := by
  unfold magL
  rw [List.getElem?_map, List.getElem?_reverse (by simpa [nb] using hi)]
  have := digs_getElem? (B := 256) (by omega) n (nb n - 1 - i) (by unfold nb at *; omega)
  unfold nb at *
  rw [this]; rfl
end Go.Via
set_option linter.unusedVariables false
namespace Go.Via
open Go
def I (z : Int) : Value := .agg #[.bool (decide (z < 0)), .string (mag z.natAbs)]
def dm (q : Rat) : ByteArray := if q.den = 1 then ⟨#[]⟩ else mag q.den
def Q (q : Rat) : Value := .agg #[.bool (decide (q.num < 0)), .string (mag q.num.natAbs), .bool false, .string (dm q)]
/-! ### sizes -/
def szI (z : Int) : Nat := nb z.natAbs
def szQ (q : Rat) : Nat := max (nb q.num.natAbs) (nb q.den)
theorem szI_add {a b : Int} {m n : Nat} (ha : szI a ≤ m) (hb : szI b ≤ n) : szI (a + b) ≤ m + n + 1 := by
  unfold szI at *
  have h1 := nb_mono (Int.natAbs_add_le a b)
  have h2 := nb_add a.natAbs b.natAbs
  omega
theorem szI_mul {a b : Int} {m n : Nat} (ha : szI a ≤ m) (hb : szI b ≤ n) : szI (a * b) ≤ m + n := by
  unfold szI at *
  rw [Int.natAbs_mul]
  have := nb_mul a.natAbs b.natAbs
  omega
theorem szI_neg {a : Int} {m : Nat} (ha : szI a ≤ m) : szI (-a) ≤ m := by unfold szI at *; rwa [Int.natAbs_neg]
theorem szI_sub {a b : Int} {m n : Nat} (ha : szI a ≤ m) (hb : szI b ≤ n) : szI (a - b) ≤ m + n + 1 := by
  rw [Int.sub_eq_add_neg]; exact szI_add ha (szI_neg hb)
theorem szI_num {q : Rat} {m : Nat} (h : szQ q ≤ m) : szI q.num ≤ m := by unfold szI szQ at *; omega
theorem nb_num {q : Rat} {m : Nat} (h : szQ q ≤ m) : nb q.num.natAbs ≤ m := by unfold szQ at *; omega
theorem szI_den {q : Rat} {m : Nat} (h : szQ q ≤ m) : szI (q.den : Int) ≤ m := by unfold szI szQ at *; simp; omega
theorem nb_den {q : Rat} {m : Nat} (h : szQ q ≤ m) : nb q.den ≤ m := by unfold szQ at *; omega
theorem natAbs_sign_le (b : Int) : b.sign.natAbs ≤ 1 := by
  rcases Int.lt_trichotomy b 0 with h | h | h
  · rw [Int.sign_eq_neg_one_of_neg h]; simp
  · subst h; simp
  · rw [Int.sign_eq_one_of_pos h]; simp
theorem szQ_divInt {n d : Int} {a b : Nat} (hn : szI n ≤ a) (hd : szI d ≤ b) (hb : 1 ≤ b) : szQ (Rat.divInt n d) ≤ max a b := by
  unfold szQ szI at *
  rw [Rat.num_divInt, Rat.den_divInt]
  have h1 : nb (d.sign * n / ↑(d.gcd n)).natAbs ≤ nb n.natAbs := by
    apply nb_mono
    refine Nat.le_trans (Int.natAbs_ediv_le_natAbs _ _) ?_
    rw [Int.natAbs_mul]
    have := natAbs_sign_le d
    calc d.sign.natAbs * n.natAbs ≤ 1 * n.natAbs := Nat.mul_le_mul_right _ this
      _ = n.natAbs := Nat.one_mul _
  have h2 : nb (if d = 0 then 1 else d.natAbs / d.gcd n) ≤ max 1 (nb d.natAbs) := by
    split
    · exact Nat.le_trans (nb_le (k := 1) (by omega)) (by omega)
    · exact Nat.le_trans (nb_div _ _) (by omega)
  omega
theorem szQ_pos (q : Rat) : 1 ≤ szQ q := by
  unfold szQ
  have h : nb q.den ≠ 0 := fun h => q.den_nz (nb_eq_zero.1 h)
  omega
theorem szQ_add {a b : Rat} {m n : Nat} (ha : szQ a ≤ m) (hb : szQ b ≤ n) : szQ (a + b) ≤ m + n + 1 := by
  have e : a + b = Rat.divInt (a.num * b.den + b.num * a.den) (a.den * b.den) := by
    conv => lhs; rw [← Rat.num_divInt_den a, ← Rat.num_divInt_den b]
    rw [Rat.divInt_add_divInt _ _ (by have := a.den_nz; omega) (by have := b.den_nz; omega)]
  have hm := szQ_pos a
  rw [e]
  have h1 : szI (a.num * b.den + b.num * a.den) ≤ m + n + 1 := by
    unfold szI
    have h2 := nb_mono (Int.natAbs_add_le (a.num * b.den) (b.num * a.den))
    have h3 := nb_add (a.num * b.den).natAbs (b.num * a.den).natAbs
    have h4 := szI_mul (szI_num ha) (szI_den hb)
    have h5 := szI_mul (szI_num hb) (szI_den ha)
    unfold szI at h4 h5
    omega
  have h2 : szI ((a.den : Int) * b.den) ≤ m + n := szI_mul (szI_den ha) (szI_den hb)
  have := szQ_divInt h1 h2 (by omega)
  omega
theorem szQ_mul {a b : Rat} {m n : Nat} (ha : szQ a ≤ m) (hb : szQ b ≤ n) : szQ (a * b) ≤ m + n := by
  have e : a * b = Rat.divInt (a.num * b.num) (a.den * b.den) := by
    conv => lhs; rw [← Rat.num_divInt_den a, ← Rat.num_divInt_den b]
    rw [Rat.divInt_mul_divInt]
  have hm := szQ_pos a
  rw [e]
  have := szQ_divInt (szI_mul (szI_num ha) (szI_num hb)) (szI_mul (szI_den ha) (szI_den hb)) (by omega)
  omega
theorem szQ_neg {a : Rat} {m : Nat} (ha : szQ a ≤ m) : szQ (-a) ≤ m := by
  unfold szQ at *; simpa using ha
theorem szQ_sub {a b : Rat} {m n : Nat} (ha : szQ a ≤ m) (hb : szQ b ≤ n) : szQ (a - b) ≤ m + n + 1 := by
  rw [Rat.sub_eq_add_neg]; exact szQ_add ha (szQ_neg hb)
theorem szQ_inv {a : Rat} {m : Nat} (ha : szQ a ≤ m) : szQ (a⁻¹) ≤ m := by
  have hp := szQ_pos a
  rw [Rat.inv_def]
  have := szQ_divInt (szI_den ha) (szI_num ha) (by omega)
  omega
theorem szQ_div {a b : Rat} {m n : Nat} (ha : szQ a ≤ m) (hb : szQ b ≤ n) : szQ (a / b) ≤ m + n := by
  rw [Rat.div_def]; exact szQ_mul ha (szQ_inv hb)
/-! ### equality -/
theorem beq_ba (a b : ByteArray) : (a == b) = decide (a = b) := by
  rw [beq_toListBytes, ByteArray.toList_eq, ByteArray.toList_eq, Bool.eq_iff_iff]
  cases a with | mk x => cases b with | mk y =>
  cases x; cases y; simp
theorem beq_mag (a b : Nat) : (mag a == mag b) = decide (a = b) := by
  rw [beq_ba, Bool.eq_iff_iff]; simp [mag_inj]
theorem beq_ee : ((⟨#[]⟩ : ByteArray) == ⟨#[]⟩) = true := by rw [beq_ba]; simp
theorem beq_empty (a : Nat) : (mag a == ⟨#[]⟩) = decide (a = 0) := by
  rw [← mag_zero]; exact beq_mag a 0
theorem bne_empty (a : Nat) : (mag a != ⟨#[]⟩) = decide (a ≠ 0) := by
  rw [bne, beq_empty]; simp
theorem dm_empty (q : Rat) : (dm q == ⟨#[]⟩) = decide (q.den = 1) := by
  unfold dm
  split
  · rename_i h; rw [beq_ee]; simp [h]
  · rename_i h; rw [beq_empty]; simp [h, q.den_nz]
theorem dm_eq (p q : Rat) : (dm p == dm q) = decide (p.den = q.den) := by
  unfold dm
  have hp := p.den_nz
  have hq := q.den_nz
  split
  · rename_i h
    split
    · rename_i h'; rw [beq_ee]; simp [h, h']
    · rename_i h'
      have : ((⟨#[]⟩ : ByteArray) == mag q.den) = false := by
        rw [← mag_zero, beq_mag]; simp; omega
      rw [this]; simp [h]; omega
  · rename_i h
    split
    · rename_i h'; rw [beq_empty]; simp [h', hp, h]
    · rw [beq_mag]
theorem I_eq (x y : Int) : ((decide (x < 0) == decide (y < 0)) && (mag x.natAbs == mag y.natAbs)) = decide (x = y) := by
  rw [beq_mag, Bool.eq_iff_iff]
  simp only [Bool.and_eq_true, beq_iff_eq, decide_eq_true_eq, decide_eq_decide]
  omega
theorem Q_eq (p q : Rat) : ((decide (p.num < 0) == decide (q.num < 0)) && (mag p.num.natAbs == mag q.num.natAbs) && (dm p == dm q)) = decide (p = q) := by
  rw [I_eq, dm_eq, Bool.eq_iff_iff]
  simp only [Bool.and_eq_true, decide_eq_true_eq]
  exact ⟨fun ⟨h1, h2⟩ => Rat.ext h1 h2, fun h => h ▸ ⟨rfl, rfl⟩⟩
/-- the parts of a fraction in lowest terms -/
theorem Q_divInt {n d : Int} (hd : 0 < d) : Q (Rat.divInt n d) = .agg #[.bool (decide (n / (Int.gcd n d : Int) < 0)), .string (mag (n / (Int.gcd n d : Int)).natAbs), .bool false, .string (if d / (Int.gcd n d : Int) = 1 then ⟨#[]⟩ else mag (d / (Int.gcd n d : Int)).natAbs)] := by
  have h1 : (Rat.divInt n d).num = n / (Int.gcd n d : Int) := by
    rw [Rat.num_divInt, Int.sign_eq_one_of_pos hd, Int.one_mul, Int.gcd_comm]
  have hg : 0 < (Int.gcd n d : Int) := by
    have : Int.gcd n d ≠ 0 := by rw [Ne, Int.gcd_eq_zero_iff]; omega
    omega
  have h2 : ((Rat.divInt n d).den : Int) = d / (Int.gcd n d : Int) := by
    rw [Rat.den_divInt, if_neg (by omega), Int.gcd_comm d n]
    rw [Int.natCast_ediv, Int.natAbs_of_nonneg (by omega)]
  unfold Q dm
  rw [h1, ← h2]
  congr 5
  by_cases h : (Rat.divInt n d).den = 1
  · rw [if_pos h, if_pos (by omega)]
  · rw [if_neg h, if_neg (by omega)]; simp
end Go.Via
set_option linter.unusedVariables false
set_option linter.unusedSimpArgs false
namespace Go.Via
open Go Go.RowKit
/-! ### exchanges -/
structure Ex where
  f : Int
  t : Int
  s : Int
  r : Int
  l : Int
def exC (x : Ex) : List Value := [.int .i64 x.f, .int .i64 x.t, .int .i64 x.s, .int .i64 x.r, .int .i64 x.l]
def ExV (x : Ex) : Value := .agg #[.int .i64 x.f, .int .i64 x.t, .int .i64 x.s, .int .i64 x.r, .int .i64 x.l]
def XLc : List Ex → List Value
  | [] => []
  | x :: l => exC x ++ XLc l
theorem XLc_length (l : List Ex) : (XLc l).length = l.length * 5 := by
  induction l with
  | nil => rfl
  | cons p l ih => rw [XLc, List.length_append, ih]; simp [exC]; omega
theorem XLc_drop {l : List Ex} {i : Nat} {x : Ex} (h : l[i]? = some x) : ∃ m, (XLc l).drop (i * 5) = exC x ++ m := by
  induction l generalizing i with
  | nil => simp at h
  | cons q l ih =>
    cases i with
    | zero => simp at h; subst h; exact ⟨XLc l, by rw [Nat.zero_mul, List.drop_zero, XLc]⟩
    | succ i =>
      rw [List.getElem?_cons_succ] at h
      rw [XLc, Nat.succ_mul, Nat.add_comm, ← List.drop_drop, List.drop_left' (by simp [exC])]
      exact ih h
theorem XLc_get {l : List Ex} {i : Nat} {x : Ex} (h : l[i]? = some x) : ((XLc l).drop (i * 5)).take 5 = exC x := by
  obtain ⟨m, hm⟩ := XLc_drop h
  rw [hm]; rfl
theorem XLc_f {l : List Ex} {i : Nat} {x : Ex} (h : l[i]? = some x) : ((XLc l).drop (i * 5 + 0)).take 1 = [.int .i64 x.f] := by
  obtain ⟨m, hm⟩ := XLc_drop h
  rw [Nat.add_zero, hm]; rfl
theorem XLc_t {l : List Ex} {i : Nat} {x : Ex} (h : l[i]? = some x) : ((XLc l).drop (i * 5 + 1)).take 1 = [.int .i64 x.t] := by
  obtain ⟨m, hm⟩ := XLc_drop h
  rw [← List.drop_drop, hm]; rfl
theorem XLc_ne {l : List Ex} (h : 0 < l.length) : XLc l ≠ [] := fun e => by
  have := congrArg List.length e
  rw [XLc_length] at this
  simp at this; omega
def ILc (l : List Int) : List Value := l.map fun z => .int .i64 z
theorem ILc_length (l : List Int) : (ILc l).length = l.length := List.length_map ..
theorem ILc_get {l : List Int} {i : Nat} {z : Int} (h : l[i]? = some z) : ((ILc l).drop (i * 1)).take 1 = [.int .i64 z] := by
  have h1 : (ILc l)[i]? = some (.int .i64 z) := by unfold ILc; rw [List.getElem?_map, h]; rfl
  obtain ⟨hl, h2⟩ := List.getElem?_eq_some_iff.1 h1
  rw [Nat.mul_one, List.drop_eq_getElem_cons hl, h2]; rfl
theorem ILc_ne {l : List Int} (h : 0 < l.length) : ILc l ≠ [] := fun e => by
  have := congrArg List.length e
  rw [ILc_length] at this
  rw [this] at h; exact absurd h (by simp)
/-- the first error of an exchange, of exchanges -/
def errX (x : Ex) : Int :=
  if x.f < 0 ∨ 1073741824 < x.f ∨ x.t < 0 ∨ 1073741824 < x.t then 2 else if x.f = x.t then 8 else if x.s < 0 ∨ 1073741824 < x.s ∨ x.r < 0 ∨ 1073741824 < x.r ∨ x.l < 0 ∨ 1073741824 < x.l then 26 else 0
def errL : List Ex → Int
  | [] => 0
  | x :: l => if errX x = 0 then errL l else errX x
def checkL (l : List Ex) : Int := if 4096 < l.length then 3 else errL l
theorem errL_at {l : List Ex} {i : Nat} {x : Ex} (h : l[i]? = some x) : errL (l.drop i) = if errX x = 0 then errL (l.drop (i + 1)) else errX x := by
  obtain ⟨hl, h2⟩ := List.getElem?_eq_some_iff.1 h
  rw [List.drop_eq_getElem_cons hl, h2]; rfl
theorem errL_step {l : List Ex} {i : Nat} {x : Ex} (h : l[i]? = some x) (hi : errL l = errL (l.drop i)) (h0 : errX x = 0) : errL l = errL (l.drop (i + 1)) := by
  rw [hi, errL_at h, if_pos h0]
theorem errL_stop {l : List Ex} {i : Nat} {x : Ex} (h : l[i]? = some x) (hi : errL l = errL (l.drop i)) (h0 : errX x ≠ 0) : errL l = errX x := by
  rw [hi, errL_at h, if_neg h0]
theorem errL_zero {l : List Ex} (h : errL l = 0) : ∀ x ∈ l, errX x = 0 := by
  induction l with
  | nil => intro x hx; cases hx
  | cons y l ih =>
    unfold errL at h
    split at h
    · rename_i h0
      intro x hx
      rcases List.mem_cons.1 hx with rfl | hx
      · exact h0
      · exact ih h x hx
    · rename_i h0; exact absurd h h0
/-- a right exchange -/
structure okX (x : Ex) : Prop where
  f0 : 0 ≤ x.f
  f1 : x.f ≤ 1073741824
  t0 : 0 ≤ x.t
  t1 : x.t ≤ 1073741824
  ne : x.f ≠ x.t
  s0 : 0 ≤ x.s
  s1 : x.s ≤ 1073741824
  r0 : 0 ≤ x.r
  r1 : x.r ≤ 1073741824
  l0 : 0 ≤ x.l
  l1 : x.l ≤ 1073741824
theorem okX_of {x : Ex} (h : errX x = 0) : okX x := by
  unfold errX at h
  split at h
  · cases h
  · split at h
    · cases h
    · split at h
      · cases h
      · rename_i h1 h2 h3
        exact ⟨by omega, by omega, by omega, by omega, h2, by omega, by omega, by omega, by omega, by omega, by omega⟩
/-- the weight of an exchange -/
def wt (x : Ex) : Int := x.r - x.s - x.l
theorem wt_bound {x : Ex} (h : okX x) : -2147483648 ≤ wt x ∧ wt x ≤ 1073741824 := by
  obtain ⟨_, _, _, _, _, _, _, _, _, _, _⟩ := h
  unfold wt
  omega
/-! sums of chains -/
def sumS (l : List Ex) : List Int → Int → Int → Option (Int × Int)
  | [], a, n => some (a, n)
  | k :: c, a, n => if k < 0 ∨ (l.length : Int) ≤ k then none else match l[k.toNat]? with
    | none => none
    | some x => if x.f = a then sumS l c x.t (n + wt x) else none
theorem sumS_bad {l : List Ex} {c : List Int} {i : Nat} {k a n : Int} (h : c[i]? = some k) (hb : k < 0 ∨ (l.length : Int) ≤ k) : sumS l (c.drop i) a n = none := by
  obtain ⟨hl, h2⟩ := List.getElem?_eq_some_iff.1 h
  rw [List.drop_eq_getElem_cons hl, h2, sumS, if_pos hb]
theorem sumS_off {l : List Ex} {c : List Int} {i : Nat} {k a n : Int} {x : Ex} (h : c[i]? = some k) (h0 : 0 ≤ k) (h1 : k < l.length) (hx : l[k.toNat]? = some x) (hb : x.f ≠ a) : sumS l (c.drop i) a n = none := by
  obtain ⟨hl, h2⟩ := List.getElem?_eq_some_iff.1 h
  rw [List.drop_eq_getElem_cons hl, h2, sumS, if_neg (by omega), hx]
  simp only [if_neg hb]
theorem sumS_on {l : List Ex} {c : List Int} {i : Nat} {k a n : Int} {x : Ex} (h : c[i]? = some k) (h0 : 0 ≤ k) (h1 : k < l.length) (hx : l[k.toNat]? = some x) (hb : x.f = a) : sumS l (c.drop i) a n = sumS l (c.drop (i + 1)) x.t (n + wt x) := by
  obtain ⟨hl, h2⟩ := List.getElem?_eq_some_iff.1 h
  rw [List.drop_eq_getElem_cons hl, h2, sumS, if_neg (by omega), hx]
  simp only [if_pos hb]
/-- what Sum returns -/
def sumN (l : List Ex) (c : List Int) (a b : Int) : Int := match sumS l c a 0 with
  | some (x, n) => if x = b then n else 0
  | none => 0
def sumE (l : List Ex) (c : List Int) (a b : Int) : Int := match sumS l c a 0 with
  | some (x, n) => if x = b then 0 else 30
  | none => 30
/-- what the model's sum returns -/
def sumM (l : List Ex) (c : List Int) (a : Int) : Int := match sumS l c a 0 with
  | some (x, n) => n
  | none => 0
def sumO (l : List Ex) (c : List Int) (a b : Int) : Bool := match sumS l c a 0 with
  | some (x, n) => x == b
  | none => false
theorem sum_none {l : List Ex} {c : List Int} {a b : Int} (h : sumS l c a 0 = none) : sumN l c a b = 0 ∧ sumE l c a b = 30 ∧ sumM l c a = 0 ∧ sumO l c a b = false := by
  unfold sumN sumE sumM sumO; rw [h]; exact ⟨rfl, rfl, rfl, rfl⟩
theorem sum_some {l : List Ex} {c : List Int} {a b x n : Int} (h : sumS l c a 0 = some (x, n)) : sumN l c a b = (if x = b then n else 0) ∧ sumE l c a b = (if x = b then 0 else 30) ∧ sumM l c a = n ∧ sumO l c a b = (x == b) := by
  unfold sumN sumE sumM sumO; rw [h]; exact ⟨rfl, rfl, rfl, rfl⟩
theorem ex_base {b : Option Nat} {pre : List Value} {l : List Ex} (h : b = none → pre ++ XLc l = []) (h0 : 0 < l.length) : ∃ g, b = some g := by
  cases b with
  | none => exact absurd (h rfl) (pre_ne (XLc_ne h0))
  | some g => exact ⟨g, rfl⟩
theorem il_base {b : Option Nat} {pre : List Value} {l : List Int} (h : b = none → pre ++ ILc l = []) (h0 : 0 < l.length) : ∃ g, b = some g := by
  cases b with
  | none => exact absurd (h rfl) (pre_ne (ILc_ne h0))
  | some g => exact ⟨g, rfl⟩
theorem err2 {x : Ex} (h : x.f < 0 ∨ 1073741824 < x.f ∨ x.t < 0 ∨ 1073741824 < x.t) : errX x = 2 := by unfold errX; rw [if_pos h]
theorem err8 {x : Ex} (h : ¬ (x.f < 0 ∨ 1073741824 < x.f ∨ x.t < 0 ∨ 1073741824 < x.t)) (h2 : x.f = x.t) : errX x = 8 := by unfold errX; rw [if_neg h, if_pos h2]
theorem err26 {x : Ex} (h : ¬ (x.f < 0 ∨ 1073741824 < x.f ∨ x.t < 0 ∨ 1073741824 < x.t)) (h2 : x.f ≠ x.t) (h3 : x.s < 0 ∨ 1073741824 < x.s ∨ x.r < 0 ∨ 1073741824 < x.r ∨ x.l < 0 ∨ 1073741824 < x.l) : errX x = 26 := by unfold errX; rw [if_neg h, if_neg h2, if_pos h3]
theorem err0 {x : Ex} (h : ¬ (x.f < 0 ∨ 1073741824 < x.f ∨ x.t < 0 ∨ 1073741824 < x.t)) (h2 : x.f ≠ x.t) (h3 : ¬ (x.s < 0 ∨ 1073741824 < x.s ∨ x.r < 0 ∨ 1073741824 < x.r ∨ x.l < 0 ∨ 1073741824 < x.l)) : errX x = 0 := by unfold errX; rw [if_neg h, if_neg h2, if_neg h3]
theorem checkL_3 {l : List Ex} (h : 4096 < l.length) : checkL l = 3 := by unfold checkL; rw [if_pos h]
theorem checkL_le {l : List Ex} (h : ¬ 4096 < l.length) : checkL l = errL l := by unfold checkL; rw [if_neg h]
theorem errL_end {l : List Ex} (h : errL l = errL (l.drop l.length)) : errL l = 0 := by rw [h, List.drop_length]; rfl
def fewB (l : List Ex) : Bool := decide (l.length ≤ 12) && (checkL l == 0)
theorem fewB_ok {l : List Ex} (h : fewB l = true) : l.length ≤ 12 ∧ ∀ x ∈ l, okX x := by
  unfold fewB at h
  simp only [Bool.and_eq_true, decide_eq_true_eq, beq_iff_eq] at h
  refine ⟨h.1, fun x hx => okX_of (errL_zero ?_ x hx)⟩
  rw [← checkL_le (by omega)]; exact h.2
/-! a list within bounds -/
theorem has_yes {l : List Int} {i : Nat} {z n : Int} (h : l[i]? = some z) (e : z = n) : (l.drop i).contains n = true := by
  obtain ⟨hl, h2⟩ := List.getElem?_eq_some_iff.1 h
  rw [List.drop_eq_getElem_cons hl, h2, e]; simp
theorem has_no {l : List Int} {i : Nat} {z n : Int} (h : l[i]? = some z) (e : z ≠ n) : (l.drop i).contains n = (l.drop (i + 1)).contains n := by
  obtain ⟨hl, h2⟩ := List.getElem?_eq_some_iff.1 h
  have e' : (n == z) = false := by simpa using fun h => e h.symm
  rw [List.drop_eq_getElem_cons hl, h2, List.contains_cons, e', Bool.false_or]
end Go.Via
/-
  DERIVED: THE SHELF's CONTRACTS AT THIS DUMP, IN PLAIN WORDS (tools/lay-plain.mjs out of 'TryzIter.lean', which tools/lay-shelf.mjs wrote): THE SAME DECLARATIONS UNDER THE SAME NAMES: 'import', 'namespace', 'open', 'def', 'theorem' AND NOTHING ELSE: no command of the shelf's: FOR A HAND-IN. Each laying: the table of numbers ('.._ren') and one theorem, a field a fact of the dump's own or the kernel's comparison; each contract: ONE APPLICATION.
-/
namespace Go.Proofs
open Go.Shelf
def Tryz.keys44_ren : Go.Shelf.Ren := ⟨fun | 7 => 44 | 10 => 57 | n => n, fun | 23 => 88 | 26 => 3 | 3 => 4 | 28 => 91 | 0 => 0 | 27 => 90 | 33 => 101 | 4 => 4 | n => n, fun | n => n⟩
theorem Tryz.keys44 : Go.Proofs.SlLaysZI.n7 Tryz.prog Tryz.keys44_ren := {
  mixed := by kernel_rfl
  f7 := ⟨Tryz.f44.name, by decide, Tryz.func44.trans (congrArg some (by kernel_rfl))⟩
  f10 := ⟨Tryz.f57.name, by decide, Tryz.func57.trans (congrArg some (by kernel_rfl))⟩
  t0 := Tryz.underlying0
  a0 := Tryz.isAgg0
  z0 := Tryz.sizeOf0
  v0 := Tryz.zeroValue0
  t4 := Tryz.underlying4
  a4 := Tryz.isAgg4
  z4 := Tryz.sizeOf4
  v4 := Tryz.zeroValue4
  t23 := Tryz.underlying88
  a23 := Tryz.isAgg88
  z23 := Tryz.sizeOf88
  v23 := Tryz.zeroValue88
  t26 := Tryz.underlying3
  a26 := Tryz.isAgg3
  z26 := Tryz.sizeOf3
  v26 := Tryz.zeroValue3
  t27 := Tryz.underlying90
  a27 := Tryz.isAgg90
  z27 := Tryz.sizeOf90
  v27 := Tryz.zeroValue90
  t28 := Tryz.underlying91
  a28 := Tryz.isAgg91
  z28 := Tryz.sizeOf91
  v28 := Tryz.zeroValue91
  t33 := Tryz.underlying101
  a33 := Tryz.isAgg101
  z33 := Tryz.sizeOf101
  v33 := Tryz.zeroValue101 }
def Tryz.sorted43_ren : Go.Shelf.Ren := ⟨fun | 6 => 43 | 8 => 55 | 9 => 56 | 11 => 72 | 13 => 74 | 12 => 73 | 23 => 95 | 24 => 96 | 14 => 87 | 15 => 88 | 16 => 89 | 17 => 90 | 18 => 91 | 19 => 92 | 20 => 53 | 21 => 93 | 22 => 94 | 25 => 108 | 26 => 109 | 27 => 110 | 28 => 111 | 29 => 112 | 30 => 71 | 31 => 123 | n => n, fun | 26 => 3 | 28 => 91 | 24 => 33 | 0 => 0 | 3 => 3 | 37 => 99 | 48 => 136 | 50 => 116 | 4 => 4 | 40 => 130 | 39 => 129 | 45 => 38 | 5 => 5 | 9 => 9 | 51 => 146 | 55 => 150 | 57 => 166 | 58 => 167 | 33 => 101 | n => n, fun | n => n⟩
theorem Tryz.sorted43 : Go.Proofs.SlLaysZI.n6 Tryz.prog Tryz.sorted43_ren := {
  mixed := by kernel_rfl
  f6 := ⟨Tryz.f43.name, by decide, Tryz.func43.trans (congrArg some (by kernel_rfl))⟩
  f8 := ⟨Tryz.f55.name, by decide, Tryz.func55.trans (congrArg some (by kernel_rfl))⟩
  f11 := ⟨Tryz.f72.name, by decide, Tryz.func72.trans (congrArg some (by kernel_rfl))⟩
  t0 := Tryz.underlying0
  a0 := Tryz.isAgg0
  z0 := Tryz.sizeOf0
  v0 := Tryz.zeroValue0
  t24 := Tryz.underlying33
  a24 := Tryz.isAgg33
  z24 := Tryz.sizeOf33
  v24 := Tryz.zeroValue33
  t26 := Tryz.underlying3
  a26 := Tryz.isAgg3
  z26 := Tryz.sizeOf3
  v26 := Tryz.zeroValue3
  t28 := Tryz.underlying91
  a28 := Tryz.isAgg91
  z28 := Tryz.sizeOf91
  v28 := Tryz.zeroValue91
  i26 := by kernel_rfl }
def Tryz.sort56_ren : Go.Shelf.Ren := ⟨fun | 5 => 56 | 8 => 74 | 7 => 73 | 19 => 95 | 20 => 96 | 10 => 87 | 11 => 88 | 12 => 89 | 13 => 90 | 14 => 91 | 15 => 92 | 16 => 53 | 17 => 93 | 18 => 94 | 30 => 108 | 31 => 109 | 32 => 110 | 33 => 111 | 34 => 112 | 35 => 71 | 40 => 123 | n => n, fun | 23 => 33 | 25 => 3 | 3 => 3 | 32 => 99 | 22 => 33 | 0 => 0 | 44 => 136 | 46 => 116 | 4 => 4 | 36 => 130 | 35 => 129 | 41 => 38 | 5 => 5 | 9 => 9 | 53 => 146 | 57 => 150 | 63 => 166 | 64 => 167 | n => n, fun | n => n⟩
theorem Tryz.sort56 : Go.Proofs.SlLaysM.n5 Tryz.prog Tryz.sort56_ren := {
  mixed := by kernel_rfl
  f5 := ⟨Tryz.f56.name, by decide, Tryz.func56.trans (congrArg some (by kernel_rfl))⟩
  f7 := ⟨Tryz.f73.name, by decide, Tryz.func73.trans (congrArg some (by kernel_rfl))⟩
  f8 := Tryz.func74.trans (congrArg some (by kernel_rfl))
  f10 := ⟨Tryz.f87.name, by decide, Tryz.func87.trans (congrArg some (by kernel_rfl))⟩
  f11 := ⟨Tryz.f88.name, by decide, Tryz.func88.trans (congrArg some (by kernel_rfl))⟩
  f12 := ⟨Tryz.f89.name, by decide, Tryz.func89.trans (congrArg some (by kernel_rfl))⟩
  f13 := ⟨Tryz.f90.name, by decide, Tryz.func90.trans (congrArg some (by kernel_rfl))⟩
  f14 := ⟨Tryz.f91.name, by decide, Tryz.func91.trans (congrArg some (by kernel_rfl))⟩
  f15 := ⟨Tryz.f92.name, by decide, Tryz.func92.trans (congrArg some (by kernel_rfl))⟩
  f16 := ⟨Tryz.f53.name, by decide, Tryz.func53.trans (congrArg some (by kernel_rfl))⟩
  f17 := ⟨Tryz.f93.name, by decide, Tryz.func93.trans (congrArg some (by kernel_rfl))⟩
  f18 := ⟨Tryz.f94.name, by decide, Tryz.func94.trans (congrArg some (by kernel_rfl))⟩
  f19 := Tryz.func95.trans (congrArg some (by kernel_rfl))
  f20 := Tryz.func96.trans (congrArg some (by kernel_rfl))
  f30 := ⟨Tryz.f108.name, by decide, Tryz.func108.trans (congrArg some (by kernel_rfl))⟩
  f31 := Tryz.func109.trans (congrArg some (by kernel_rfl))
  f32 := Tryz.func110.trans (congrArg some (by kernel_rfl))
  f33 := ⟨Tryz.f111.name, by decide, Tryz.func111.trans (congrArg some (by kernel_rfl))⟩
  f34 := ⟨Tryz.f112.name, by decide, Tryz.func112.trans (congrArg some (by kernel_rfl))⟩
  f35 := ⟨Tryz.f71.name, by decide, Tryz.func71.trans (congrArg some (by kernel_rfl))⟩
  f40 := ⟨Tryz.f123.name, by decide, Tryz.func123.trans (congrArg some (by kernel_rfl))⟩
  t0 := Tryz.underlying0
  a0 := Tryz.isAgg0
  z0 := Tryz.sizeOf0
  v0 := Tryz.zeroValue0
  t3 := Tryz.underlying3
  a3 := Tryz.isAgg3
  z3 := Tryz.sizeOf3
  v3 := Tryz.zeroValue3
  t4 := Tryz.underlying4
  a4 := Tryz.isAgg4
  z4 := Tryz.sizeOf4
  v4 := Tryz.zeroValue4
  t5 := Tryz.underlying5
  a5 := Tryz.isAgg5
  z5 := Tryz.sizeOf5
  v5 := Tryz.zeroValue5
  t9 := Tryz.underlying9
  a9 := Tryz.isAgg9
  z9 := Tryz.sizeOf9
  v9 := Tryz.zeroValue9
  t22 := Tryz.underlying33
  a22 := Tryz.isAgg33
  z22 := Tryz.sizeOf33
  v22 := Tryz.zeroValue33
  t23 := Tryz.underlying33
  a23 := Tryz.isAgg33
  z23 := Tryz.sizeOf33
  v23 := Tryz.zeroValue33
  t25 := Tryz.underlying3
  a25 := Tryz.isAgg3
  z25 := Tryz.sizeOf3
  v25 := Tryz.zeroValue3
  t32 := Tryz.underlying99
  a32 := Tryz.isAgg99
  z32 := Tryz.sizeOf99
  v32 := Tryz.zeroValue99
  t35 := Tryz.underlying129
  a35 := Tryz.isAgg129
  z35 := Tryz.sizeOf129
  v35 := Tryz.zeroValue129
  t36 := Tryz.underlying130
  a36 := Tryz.isAgg130
  z36 := Tryz.sizeOf130
  v36 := Tryz.zeroValue130
  t41 := Tryz.underlying38
  a41 := Tryz.isAgg38
  z41 := Tryz.sizeOf38
  v41 := Tryz.zeroValue38
  t44 := Tryz.underlying136
  a44 := Tryz.isAgg136
  z44 := Tryz.sizeOf136
  v44 := Tryz.zeroValue136
  t46 := Tryz.underlying116
  a46 := Tryz.isAgg116
  z46 := Tryz.sizeOf116
  v46 := Tryz.zeroValue116
  t53 := Tryz.underlying146
  a53 := Tryz.isAgg146
  z53 := Tryz.sizeOf146
  v53 := Tryz.zeroValue146
  t57 := Tryz.underlying150
  a57 := Tryz.isAgg150
  z57 := Tryz.sizeOf150
  v57 := Tryz.zeroValue150
  t63 := Tryz.underlying166
  a63 := Tryz.isAgg166
  z63 := Tryz.sizeOf166
  v63 := Tryz.zeroValue166
  t64 := Tryz.underlying167
  a64 := Tryz.isAgg167
  z64 := Tryz.sizeOf167
  v64 := Tryz.zeroValue167 }
end Go.Proofs
set_option linter.unusedVariables false
set_option linter.unusedSimpArgs false
namespace Go.Via
open Go Go.RowKit
/-! ### the keys of a map with integers for keys, sorted -/
def keysI (l : IM) : List Int := l.map (·.1)
def sortI (l : List Int) : List Int := l.mergeSort fun x y => decide (x ≤ y)
theorem sortI_pair (l : List Int) : (sortI l).Pairwise (· ≤ ·) := by
  have := List.pairwise_mergeSort (le := fun x y : Int => decide (x ≤ y)) (fun a b c h1 h2 => by simp at *; omega) (fun a b => by simp; omega) l
  exact this.imp fun h => by simpa using h
theorem sortI_perm (l : List Int) : (sortI l).Perm l := List.mergeSort_perm l _
theorem eq_of_sorted {l m : List Int} (hp : l.Perm m) (hl : l.Pairwise (· ≤ ·)) (hm : m.Pairwise (· ≤ ·)) : l = m :=
  hp.eq_of_pairwise (le := (· ≤ ·)) (fun a b _ _ h1 h2 => by omega) hl hm
theorem sortI_eq {l m : List Int} (hp : l.Perm m) : sortI l = sortI m :=
  eq_of_sorted ((sortI_perm l).trans (hp.trans (sortI_perm m).symm)) (sortI_pair l) (sortI_pair m)
theorem sortI_len (l : List Int) : (sortI l).length = l.length := (sortI_perm l).length_eq
def inI64 (z : Int) : Prop := (IntKind.i64).min ≤ z ∧ z ≤ (IntKind.i64).max
end Go.Via
namespace Go.Proofs.YtncogghlhlnmaaaGreatDoor
open Go Go.RowKit Go.Via Go.Maps Go.Sort Go.Proofs
def anyR : Value → Option (DataW Unit × List MemPlace) := fun _ => some (.lit (.bool true), [])
theorem rg_keys {k : TypeId} (hk : Tryz.prog.underlying k = some (.int .i64)) : ∀ {es : List MapEntry} {l : IM}, es.map kvE = kvI l → (∀ p ∈ l, inI64 p.1) → (∀ x ∈ es, ∃ y, WideElems.rd Tryz.prog k anyR x = some y) ∧ (es.map (WideElems.rg Tryz.prog k anyR)).map (fun p => Go.intOf p.1) = keysI l
  | [], [], _, _ => ⟨fun x hx => (by cases hx), rfl⟩
  | [], _ :: _, h, _ => by cases h
  | _ :: _, [], h, _ => by cases h
  | e :: es, p :: l, h, hw => by
    simp only [kvI, List.map_cons, List.cons.injEq] at h
    obtain ⟨h1, h2⟩ := h
    obtain ⟨ih1, ih2⟩ := rg_keys hk (es := es) (l := l) h2 (fun q hq => hw q (List.mem_cons_of_mem _ hq))
    have hkey : e.key = .int .i64 p.1 := congrArg Prod.fst h1
    have hwf : (Lit.int .i64 p.1).wf = true := by
      have := hw p (List.mem_cons_self ..)
      unfold inI64 at this
      unfold Lit.wf
      rw [Bool.and_eq_true]
      exact ⟨decide_eq_true this.1, decide_eq_true this.2⟩
    have hr : WideElems.rd Tryz.prog k anyR e = some (.int .i64 p.1, .lit (.bool true)) := by
      obtain ⟨ek, ev, eb⟩ := e
      simp only at hkey
      subst hkey
      exact WideElems.rd_mk (yv := (.lit (.bool true), [])) (keyOf_int_mk hk hwf) rfl
    refine ⟨fun x hx => ?_, ?_⟩
    · rcases List.mem_cons.1 hx with rfl | hx
      · exact ⟨_, hr⟩
      · exact ih1 x hx
    · rw [List.map_cons, List.map_cons, ih2, WideElems.rg_of hr]; rfl
theorem c_keys (mb : Option Nat) : SCall Tryz.prog 44 [] [.map mb] Nat (fun g => .func (.func 57) #[] #[.pointer (some ⟨g, 0, none⟩)]) (fun g => [⟨some g, 88, [.map mb], 1, true⟩]) := by
  refine ⟨by kernel_rfl, fun w hL => (callsIn_wide (n := 5)).1 ?_⟩
  refine (AnyZI.keys_in Tryz.keys44 Fence.wide 5 trivial rfl mb w).mono ?_
  rintro e w' ⟨rfl, rfl⟩
  exact ⟨w.heap.size, rfl, (LRel.nil w).alloc 88 #[.map mb] (by decide)⟩
theorem enc_il (l : List Int) : l.map encZ = ILc l := rfl
theorem c_sorted (g b : Nat) (l : IM) (hs : simpleM l = true) (hw : ∀ p ∈ l, inI64 p.1) (hn : l.length ≤ 1000000) :
    SCall Tryz.prog 43 [⟨some g, 88, [.map (some b)], 1, false⟩, ⟨some b, mI l, [], 0, false⟩] [.func (.func 57) #[] #[.pointer (some ⟨g, 0, none⟩)]] (SR (sortI (keysI l)).length) (·.v) (fun x => [⟨x.b, 3, ILc (sortI (keysI l)), x.n, true⟩]) := by
  refine ⟨by kernel_rfl, fun w hL => (callsIn_wide (n := 5)).1 ?_⟩
  obtain ⟨es, clock, hb, he, hst⟩ := hL.map (k := 1) hs rfl
  have hgl := hL.lt (k := 0) rfl rfl
  have hcell : w.cell? ⟨g, 0, none⟩ = some (.map (some b)) := by
    obtain ⟨cur, ⟨e', fr, h3, h4⟩, h5, h6⟩ := (((hL.blk 0 _ rfl).1 g rfl)).cells (.inl (Nat.succ_ne_zero 0))
    obtain ⟨c0⟩ := cur
    cases c0 with
    | nil => simp at h6
    | cons v c0 =>
      have h7 : v = .map (some b) := by simpa using h6
      subst h7
      unfold World.cell?
      simp only [h3]
      simp
  have hu : Tryz.prog.underlying 3 = some (.int .i64) := Tryz.underlying3
  obtain ⟨k1, k2⟩ := rg_keys hu he hw
  have hel : es.size = l.length := by
    have := congrArg List.length he
    simpa [kvI] using this
  have hown : w.ownsMap Tryz.prog 3 anyR b es.size (.map ((es.toList.map (WideElems.rg Tryz.prog 3 anyR)).foldr DataW.insert [])) :=
    ⟨es, clock, hb, ⟨by unfold maxLen; omega, hst, k1⟩, Nat.le_refl _, rfl⟩
  have hsz : Maps.size (.map ((es.toList.map (WideElems.rg Tryz.prog 3 anyR)).foldr DataW.insert [])) = l.length := by
    rw [Maps.size_eq, length_sorted]; simp [hel]
  have hperm : (intKeys (.map ((es.toList.map (WideElems.rg Tryz.prog 3 anyR)).foldr DataW.insert []))).Perm (keysI l) := by
    rw [← k2]
    exact (WideShapes.sorted_perm _).map _
  have hseq : SeqGives Fence.wide 2 Tryz.prog 57 #[.pointer (some ⟨g, 0, none⟩)] encZ (fun ss => ss.Perm (intKeys (.map ((es.toList.map (WideElems.rg Tryz.prog 3 anyR)).foldr DataW.insert [])))) (Maps.size (.map ((es.toList.map (WideElems.rg Tryz.prog 3 anyR)).foldr DataW.insert []))) w :=
    AnyZI.keys_gives (ρ := Tryz.keys44_ren) { Tryz.keys44 with } Fence.wide _ trivial rfl (by omega) g b es.size _ w hgl hcell hown
  have sorts : AnyZI.SortsIn Tryz.prog Tryz.sorted43_ren Fence.wide 4 :=
    ⟨fun blk off cap ss W hH hblk hsz => callsIn_wide.2 (AnyM.slices_Sort_int Tryz.sort56 blk off cap ss W hH hblk hsz),
     fun p cap W => callsIn_wide.2 (AnyM.slices_Sort_int_none Tryz.sort56 p cap W)⟩
  refine (AnyZI.sorted_in Tryz.sorted43 Fence.wide 5 trivial trivial trivial trivial rfl (by omega) sorts (enters_of Tryz.func56 (by kernel_rfl) rfl) 57 #[.pointer (some ⟨g, 0, none⟩)] trivial (enters_of Tryz.func57 (by kernel_rfl) rfl) _ _ (by rw [hsz]; unfold maxLen; omega) (by rw [hsz]; omega) w hseq).mono ?_
  rintro e w' ⟨v, ss, rfl, hS, hrow, hnil, hbl⟩
  have hss : ss.Perm (keysI l) := List.Perm.trans hS hperm
  have hso : ss.mergeSort (fun x y => decide (x ≤ y)) = sortI (keysI l) := sortI_eq hss
  have hlen : ss.length = (sortI (keysI l)).length := by rw [sortI_len]; exact hss.length_eq
  rw [hso, enc_il] at hrow
  obtain ⟨r1, r2⟩ := hrow
  rcases r2 with ⟨rfl, hz⟩ | ⟨gg, cap, cur, rfl, q1, q2, q3, q4, q5, q6⟩
  · rw [hlen] at hz
    refine ⟨⟨none, 0, 0, by omega⟩, ?_, ?_⟩
    · show _ = Ending.returned (slv none 0 _ 0)
      rw [hz]; rfl
    · refine ⟨hbl, fun k c hk => ?_, fun i j gx bi bj hij hi hj => ?_⟩
      · cases k with
        | zero =>
          simp at hk; subst hk
          refine ⟨fun g hg => (by cases hg), fun _ => ⟨?_, rfl⟩⟩
          show ILc _ = []
          rw [List.eq_nil_of_length_eq_zero hz]; rfl
        | succ k => simp at hk
      · cases i with
        | zero => cases j with
          | zero => exact absurd rfl hij
          | succ j => simp at hj
        | succ i => simp at hi
  · rw [hlen] at q3 q6
    refine ⟨⟨some gg, cap * 1, cap, q3⟩, ?_, ?_⟩
    · show _ = Ending.returned (slv (some gg) 0 _ cap)
      rw [← hlen]; rfl
    · refine ⟨hbl, fun k c hk => ?_, fun i j gx bi bj hij hi hj => ?_⟩
      · cases k with
        | zero =>
          simp at hk; subst hk
          refine ⟨fun g hg => ?_, fun hg => by cases hg⟩
          cases hg
          refine ⟨.inl ⟨cur, ⟨_, _, q2, fun _ => ⟨rfl, rfl⟩, (show (3 : Nat) < mapMark by decide)⟩, (by simpa using q5), ?_⟩, fun _ => q1⟩
          show cur.toList.take (ILc _).length = _
          rw [ILc_length]
          simpa using q6
        | succ k => simp at hk
      · cases i with
        | zero => cases j with
          | zero => exact absurd rfl hij
          | succ j => simp at hj
        | succ i => simp at hi
end Go.Proofs.YtncogghlhlnmaaaGreatDoor
namespace Go.Proofs.YtncogghlhlnmaaaGreatDoor
open Go Go.RowKit Go.Via Go.Proofs
theorem c_sortedM (g b : Nat) (l : IM) {m : List Int} (hm : sortI (keysI l) = m) (hs : simpleM l = true) (hw : ∀ p ∈ l, inI64 p.1) (hn : l.length ≤ 1000000) :
    SCall Tryz.prog 43 [⟨some g, 88, [.map (some b)], 1, false⟩, ⟨some b, mI l, [], 0, false⟩] [.func (.func 57) #[] #[.pointer (some ⟨g, 0, none⟩)]] (SR m.length) (·.v) (fun x => [⟨x.b, 3, ILc m, x.n, true⟩]) := by
  subst hm; exact c_sorted g b l hs hw hn
end Go.Proofs.YtncogghlhlnmaaaGreatDoor
set_option linter.unusedVariables false
set_option linter.unusedSimpArgs false
namespace Go.Via
open Go Go.RowKit Go.MapKept
/-! ### an entry of a map that is looked for, then written -/
noncomputable def mQI (q : Nat) (a : Int) (l : IM) : Nat := mQ q (.int .i64 a) (kvI l)
theorem LRel.mapQ {B w : World} {L : List Blk} (h : LRel B L w) {k : Nat} {g q : Nat} {a : Int} {l : IM} {own : Bool} (hs : simpleM l = true) (hk : L[k]? = some ⟨some g, mQI q a l, [], 0, own⟩) :
    ∃ (es : Array MapEntry) (clock j : Nat) (z : MapEntry), w.heap[g]? = some (.map es clock) ∧ es.toList.map kvE = kvI l ∧ Stamped es clock ∧ es[j]? = some z ∧ z.born = q ∧ z.key = .int .i64 a := by
  rcases ((h.blk k _ hk).1 g rfl).1 with ⟨cur, ⟨_, _, _, _, hlt⟩, _⟩ | ⟨l', es, clock, a1, _, _, a4, a5, a6, a7⟩
  · exact absurd hlt (mQ_ge _ _ _)
  · rcases a1 with a1 | ⟨j, z, a1, a2, a3⟩
    · exact absurd a1.symm mEQ_ne
    · obtain ⟨e1, e2, e3⟩ := mQ_inj (by rfl) a3 (simpleM_kv hs) a4 a1
      subst e3
      exact ⟨es, clock, j, z, a5, a6, a7, a2, e1.symm, e2.symm⟩
theorem LRel.setMapE {B w : World} {L : List Blk} (h : LRel B L w) {k g e e' : Nat} (hk : L[k]? = some ⟨some g, e, [], 0, true⟩) {l' : IM} {es' : Array MapEntry} {clock' : Nat} {o : Obj} (ho : w.heap[g]? = some o) (hs' : simpleM l' = true)
    (hh : Holds e' (kvI l') es') (he : es'.toList.map kvE = kvI l') (hst : Stamped es' clock') : LRel B (L.set k ⟨some g, e', [], 0, true⟩) { w with heap := w.heap.setIfInBounds g (.map es' clock') } := by
  have h6 := ((h.blk k _ hk).1 g rfl).2 rfl
  have hkl : k < L.length := (List.getElem?_eq_some_iff.1 hk).1
  have hset := heap_set (o' := .map es' clock') ho
  refine ⟨h.below.trans ⟨rfl, rfl, rfl, by simp, fun i hi => hset.2 i (by omega)⟩, fun j b' hj => ?_, fun i j g' bi bj hij hi hj hoi hgi hgj => ?_⟩
  · by_cases e : k = j
    · subst e
      rw [List.getElem?_set_self hkl] at hj
      cases hj
      refine ⟨fun g' hg' => ?_, fun hn' => by cases hn'⟩
      cases hg'
      exact ⟨.inr ⟨kvI l', es', clock', hh, rfl, rfl, simpleM_kv hs', hset.1, he, hst⟩, fun _ => h6⟩
    · rw [List.getElem?_set_ne e] at hj
      obtain ⟨h1, h2⟩ := h.blk j b' hj
      refine ⟨fun g' hg' => ?_, h2⟩
      have hne : g' ≠ g := fun e' => h.apart k j g _ b' e hk hj rfl rfl (by rw [hg', e'])
      exact (h1 g' hg').heap (hset.2 g' hne)
  · have base : ∀ (m : Nat) (bm : Blk), (L.set k ⟨some g, e', [], 0, true⟩)[m]? = some bm → ∃ bm', L[m]? = some bm' ∧ bm'.base = bm.base ∧ bm'.own = bm.own := by
      intro m bm hm
      by_cases e : k = m
      · subst e
        rw [List.getElem?_set_self hkl] at hm
        cases hm
        exact ⟨_, hk, rfl, rfl⟩
      · rw [List.getElem?_set_ne e] at hm
        exact ⟨bm, hm, rfl, rfl⟩
    obtain ⟨bi', i1, i2, i3⟩ := base i bi hi
    obtain ⟨bj', j1, j2, j3⟩ := base j bj hj
    exact h.apart i j g' bi' bj' hij i1 j1 (by rw [i3]; exact hoi) (by rw [i2]; exact hgi) (by rw [j2]; exact hgj)
theorem nodup_idx {α : Type} {l : List α} (h : l.Nodup) {i j : Nat} (hi : i < l.length) (hj : j < l.length) (e : l[i] = l[j]) : i = j := by
  rcases Nat.lt_trichotomy i j with h1 | h1 | h1
  · exact absurd e (List.pairwise_iff_getElem.1 h i j hi hj h1)
  · exact h1
  · exact absurd e.symm (List.pairwise_iff_getElem.1 h j i hj hi h1)
theorem modify_key {es : Array MapEntry} {j : Nat} {e : MapEntry} (hj : es[j]? = some e) : (es.modify j fun e' => { e' with key := e.key }) = es := by
  apply Array.ext'
  have hj' : es.toList[j]? = some e := by simpa using hj
  rw [Array.toList_modify, ChangeMaps.modify_eq_set _ _ _ _ hj']
  exact WideElems.set_self _ _ _ hj'
section
variable {P : Program} {bl : List Nat} {ops : Array Oper} {K : St → Prop} {rest : List Oper} {nt : Nat} {t : List (Nat × Value)} {L : List Blk} {d : Nat} {ty : TypeId} {pos : String} {af : Array Edge} {gd : Option (Nat × Bool)} {x y z : Operand}
theorem run_mapEntry {T Kt Et : Nat} {w : World} {g : Nat} {es : Array MapEntry} {clock : Nat} {l : IM} {a : Int} {zv u : Value} (hT : P.underlying T = some (.map Kt Et)) (hK : P.underlying Kt = some (.int .i64)) (hz : (zeroValue Et).run P w = .ok zv w) (hb : w.heap[g]? = some (.map es clock)) (he : es.toList.map kvE = kvI l) (hst : Stamped es clock) (hu : (mg l a).getD zv = u) :
    ∃ (es' : Array MapEntry) (clock' q j : Nat) (e' : MapEntry), (Instr.mapEntry T (.map (some g)) (.int .i64 a)).run P w = .ok (.tuple #[u, .int .i64 (q : Nat)]) { w with heap := w.heap.setIfInBounds g (.map es' clock') } ∧ es'.toList.map kvE = kvI (mu l a u) ∧ Stamped es' clock' ∧ es'[j]? = some e' ∧ e'.born = q ∧ e'.key = .int .i64 a := by
  subst hu
  have hk : IsKey (.int .i64) (.int .i64 a) := rfl
  rcases mg_find a 0 he with ⟨h1, h2, h3⟩ | ⟨j, x, e, h1, h2, h3, h4, h5⟩
  · have hnk : ∀ x ∈ es.toList, x.key ≠ .int .i64 a := fun x hx e => by
      have hm : ∀ (es : List MapEntry) (l : IM), es.map kvE = kvI l → x ∈ es → mg l a = none → False := by
        intro es
        induction es with
        | nil => intro l _ hx; cases hx
        | cons e0 es ih =>
          intro l hl hx hn
          cases l with
          | nil => cases hl
          | cons p l =>
            simp only [kvI, List.map_cons, List.cons.injEq] at hl
            unfold mg at hn
            split at hn
            · cases hn
            · rename_i hne
              rcases List.mem_cons.1 hx with rfl | hx
              · have := congrArg Prod.fst hl.1
                have h7 : x.key = .int .i64 p.1 := this
                rw [h7] at e
                simp at e
                exact hne e
              · exact ih l hl.2 hx hn
      exact hm _ _ he hx h2
    refine ⟨es.push { key := .int .i64 a, val := zv, born := clock }, clock + 1, clock, es.size, { key := .int .i64 a, val := zv, born := clock }, ?_, ?_, ?_, by simp, rfl, rfl⟩
    · simp [Instr.mapEntry, run_underlying hT, MapKept.run_getObj_map hb, MapKept.run_checkKey hK hk, MapKept.run_findKey hK h1, MapKept.run_setObj_map _ hb, Result.andThen, hz, h2, goInt]
    · rw [h2]
      simp only [Option.getD_none]
      rw [Array.toList_push, List.map_append, he, h3]
      simp [kvI, kvE]
    · exact stamped_push hst hnk
  · have hj : es[j]? = some e := by rw [← Array.getElem?_toList]; exact h3
    have hme := modify_key hj
    rw [h4] at hme
    refine ⟨es, clock, e.born, j, e, ?_, ?_, hst, hj, rfl, h4⟩
    · simp [Instr.mapEntry, run_underlying hT, MapKept.run_getObj_map hb, MapKept.run_checkKey hK hk, MapKept.run_findKey hK h1, hj, h4, MapKept.run_keyThatStays hk, hme, MapKept.run_setObj_map _ hb, Result.andThen, h2, goInt]
    · rw [h2]
      simp only [Option.getD_some]
      rw [← h5 x]
      congr 1
      have hxe : e.val = x := by
        have : ∀ (es : List MapEntry) (l : IM) (j : Nat), es.map kvE = kvI l → es[j]? = some e → e.key = .int .i64 a → (es.map (·.key)).Nodup → mg l a = some x → e.val = x := by
          intro es
          induction es with
          | nil => intro l j _ h; simp at h
          | cons e0 es ih =>
            intro l j hl hj hka hnd hm
            cases l with
            | nil => cases hl
            | cons p l =>
              simp only [kvI, List.map_cons, List.cons.injEq] at hl
              have hk0 : e0.key = .int .i64 p.1 := congrArg Prod.fst hl.1
              have hv0 : e0.val = p.2 := congrArg Prod.snd hl.1
              simp only [List.map_cons, List.nodup_cons] at hnd
              unfold mg at hm
              cases j with
              | zero =>
                simp at hj
                subst hj
                rw [hk0] at hka
                simp at hka
                rw [if_pos hka] at hm
                simpa [hv0] using hm
              | succ j =>
                simp at hj
                split at hm
                · rename_i hp
                  exact absurd (List.mem_map.2 ⟨e, List.mem_of_getElem? hj, by rw [hka, hk0, hp]⟩) hnd.1
                · exact ih l j hl.2 hj hka hnd.2 hm
        exact this es.toList l j he h3 h4 hst.2.2 h2
      rw [ChangeMaps.modify_eq_set _ _ _ _ h3]
      have : ({ e with key := .int .i64 a, val := x } : MapEntry) = e := by rw [← h4, ← hxe]
      rw [this]
      exact (WideElems.set_self _ _ _ h3).symm
theorem r_mapEntry {T Kt Et g : Nat} {l : IM} {a : Int} {zv u : Value} (kk : Nat) (mk : Nat → List Blk) (hS : blS bl = true) (hT : P.underlying T = some (.map Kt Et)) (hK : P.underlying Kt = some (.int .i64)) (hz : (P.info? Et).bind (·.zero) = some zv) (hd : Nat.blt d nt = true)
    (hg : wantedS ops ⟨some d, .mapEntry T x y, ty, pos, af, gd⟩ t = some true) (hk : L[kk]? = some ⟨some g, mI l, [], 0, true⟩) (hx : ev t x = some (.map (some g))) (hy : ev t y = some (.int .i64 a)) (hs : simpleM l = true) (hu : (mg l a).getD zv = u) (hv : Value.simple u = true)
    (hL : ∀ q, L.set kk ⟨some g, mQI q a (mu l a u), [], 0, true⟩ = mk q) (hb : blOk bl kk = true)
    (h : ∀ q : Nat, Run P bl ops rest ⟨nt, (d, .tuple #[u, .int .i64 (q : Nat)]) :: t, mk q⟩ K) : Run P bl ops (⟨some d, .mapEntry T x y, ty, pos, af, gd⟩ :: rest) ⟨nt, t, L⟩ K := by
  have hd' : ∀ d', (⟨some d, .mapEntry T x y, ty, pos, af, gd⟩ : Oper).dst = some d' → d' < nt := fun d' h => by cases h; simpa using hd
  refine ⟨hd', true, hg, .inr ⟨rfl, .inr (.inr (.inr (.inr (.inr ⟨rfl, hS, Nat, fun q => .tuple #[u, .int .i64 (q : Nat)], mk, fun B ac w hr => ?_, fun q => blOk_spec hb (hL q) hS, h⟩))))⟩⟩
  obtain ⟨es, clock, hb, he, hst⟩ := hr.mem.map hs hk
  have hzero : (zeroValue Et).run P w = .ok zv w := by
    cases hq : P.info? Et with
    | none => rw [hq] at hz; cases hz
    | some inf =>
      rw [hq] at hz
      simp only [Option.bind_some] at hz
      simp [zeroValue, typeInfo, hq, hz]
  obtain ⟨es', clock', q, j, e', h1, h2, h3, h4, h5, h6⟩ := run_mapEntry (P := P) hT hK hzero hb he hst hu
  refine .inr ⟨q, _, by simp [execOp, hr.ev hx, hr.ev hy, h1]; rfl, ?_⟩
  rw [← hL]
  exact hr.mem.setMapE hk hb (simpleM_mu hs hv) (.inr ⟨j, e', by rw [h5, h6]; rfl, h4, by rw [h6]; rfl⟩) h2 h3
theorem r_entryStore {T g q : Nat} {l : IM} {a : Int} {v : Value} (kk : Nat) (L' : List Blk) (hg : wantedS ops ⟨none, .entryStore T x y z, ty, pos, af, gd⟩ t = some true) (hk : L[kk]? = some ⟨some g, mQI q a l, [], 0, true⟩)
    (hx : ev t x = some (.map (some g))) (hy : ev t y = some (.int .i64 (q : Nat))) (hz : ev t z = some v) (hs : simpleM l = true) (hv : Value.simple v = true) (hL : L.set kk ⟨some g, mI (mu l a v), [], 0, true⟩ = L') (hb : blOk bl kk = true)
    (h : Run P bl ops rest ⟨nt, t, L'⟩ K) : Run P bl ops (⟨none, .entryStore T x y z, ty, pos, af, gd⟩ :: rest) ⟨nt, t, L⟩ K :=
  run_s (L' := L') hg rfl rfl (fun B ac w hr => by
    obtain ⟨es, clock, j, e, hb, he, hst, hj, hq, hka⟩ := hr.mem.mapQ hs hk
    subst hq
    have hjl : es.toList[j]? = some e := by simpa using hj
    have hidx : es.findIdx? (fun e' => ((e'.born : Nat) : Int) == ((e.born : Nat) : Int)) = some j := by
      rw [WideElems.findIdx_arr]
      exact WideElems.findIdx_born hst.2.1 hjl
    rcases mg_find a 0 he with ⟨h1, h2, h3⟩ | ⟨j', u, e', h1, h2, h3, h4, h5⟩
    · exfalso
      have hm : ∀ (es : List MapEntry) (l : IM), es.map kvE = kvI l → e ∈ es → mg l a = none → False := by
        intro es
        induction es with
        | nil => intro l _ hx; cases hx
        | cons e0 es ih =>
          intro l hl hx hn
          cases l with
          | nil => cases hl
          | cons p l =>
            simp only [kvI, List.map_cons, List.cons.injEq] at hl
            unfold mg at hn
            split at hn
            · cases hn
            · rename_i hne
              rcases List.mem_cons.1 hx with rfl | hx
              · have := congrArg Prod.fst hl.1
                have h7 : e.key = .int .i64 p.1 := this
                rw [h7] at hka
                simp at hka
                exact hne hka
              · exact ih l hl.2 hx hn
      exact hm _ _ he (List.mem_of_getElem? hjl) h2
    · have hjj : j' = j := by
        have hnd := hst.2.2
        have l1 : (es.toList.map (·.key))[j']? = some (.int .i64 a) := by rw [List.getElem?_map, h3, ← h4]; rfl
        have l2 : (es.toList.map (·.key))[j]? = some (.int .i64 a) := by rw [List.getElem?_map, hjl, ← hka]; rfl
        obtain ⟨b1, b2⟩ := List.getElem?_eq_some_iff.1 l1
        obtain ⟨c1, c2⟩ := List.getElem?_eq_some_iff.1 l2
        exact nodup_idx hnd b1 c1 (b2.trans c2.symm)
      subst hjj
      have hst' : Stamped (es.modify j' fun e => { e with val := v }) clock := stamped_modify hst _ _ (fun _ _ => rfl) (fun _ _ _ => rfl)
      have hmod : (es.modify j' fun e => { e with val := v }).toList.map kvE = kvI (mu l a v) := by
        rw [← h5 v, Array.toList_modify, ChangeMaps.modify_eq_set _ _ _ _ h3, ChangeMaps.modify_eq_set _ _ _ _ h3, h4]
      refine ⟨{ w with heap := w.heap.setIfInBounds g (.map (es.modify j' fun e => { e with val := v }) clock) }, by simp [execOp, hr.ev hx, hr.ev hy, hr.ev hz, Instr.entryStore, MapKept.run_getObj_map hb, asInt, asIntOf, hidx, MapKept.run_setObj_map _ hb, Result.andThen], ?_⟩
      rw [← hL]
      exact hr.mem.setMapE hk hb (simpleM_mu hs hv) (.inl rfl) hmod hst') (blOk_spec hb hL) h
end
end Go.Via
set_option linter.unusedVariables false
set_option linter.unusedSimpArgs false
namespace Go.Via
open Go Go.RowKit
/-! ### sets as maps to bool -/
def setM (ks : List Int) : IM := ks.map fun k => (k, .bool true)
def ins (ks : List Int) (k : Int) : List Int := if k ∈ ks then ks else ks ++ [k]
theorem mu_setM : ∀ (ks : List Int) (k : Int), mu (setM ks) k (.bool true) = setM (ins ks k)
  | [], k => rfl
  | a :: ks, k => by
    have ih := mu_setM ks k
    by_cases h : a = k
    · subst h; simp [setM, mu, ins]
    · have h' : ¬ k = a := fun e => h e.symm
      unfold ins at ih ⊢
      by_cases hm : k ∈ ks
      · simp [hm] at ih ⊢
        simp [setM, mu, h] at ih ⊢; exact ih
      · simp [hm, h'] at ih ⊢
        simp [setM, mu, h] at ih ⊢; exact ih
theorem mg_setM : ∀ (ks : List Int) (k : Int), (mg (setM ks) k).getD (.bool false) = .bool (ks.contains k)
  | [], k => rfl
  | a :: ks, k => by
    have ih := mg_setM ks k
    by_cases h : a = k
    · subst h; simp [setM, mg]
    · have h' : ¬ k = a := fun e => h e.symm
      simp [setM, mg, h, h'] at ih ⊢; exact ih
theorem setM_simple (ks : List Int) : simpleM (setM ks) = true := by simp [simpleM, setM, Value.simple, Value.simple0]
theorem setM_keys (ks : List Int) : keysI (setM ks) = ks := by simp [keysI, setM, Function.comp_def]
theorem ins_mem {ks : List Int} {k z : Int} : z ∈ ins ks k ↔ z ∈ ks ∨ z = k := by
  unfold ins
  by_cases h : k ∈ ks
  · simp only [h, if_true]
    exact ⟨.inl, fun h2 => h2.elim id (fun e => e ▸ h)⟩
  · simp [h]
theorem ins_nodup {ks : List Int} {k : Int} (h : ks.Nodup) : (ins ks k).Nodup := by
  unfold ins
  by_cases hk : k ∈ ks
  · simp only [hk, if_true]; exact h
  · simp only [hk, if_false]
    refine List.nodup_append.2 ⟨h, by simp, fun a ha b hb e => ?_⟩
    simp at hb
    subst hb; subst e; exact hk ha
theorem ins_len (ks : List Int) (k : Int) : (ins ks k).length ≤ ks.length + 1 ∧ ks.length ≤ (ins ks k).length := by
  unfold ins; split <;> simp
/-! ### sorted lists without repetitions -/
def SS (l : List Int) : Prop := l.Pairwise (· < ·)
theorem SS.nodup {l : List Int} (h : SS l) : l.Nodup := h.imp (fun h e => by omega)
theorem SS.le {l : List Int} (h : SS l) : l.Pairwise (· ≤ ·) := h.imp (fun h => by omega)
theorem SS.ext {l m : List Int} (hl : SS l) (hm : SS m) (h : ∀ k, k ∈ l ↔ k ∈ m) : l = m :=
  eq_of_sorted ((List.perm_ext_iff_of_nodup hl.nodup hm.nodup).2 h) hl.le hm.le
theorem sortI_SS {l : List Int} (h : l.Nodup) : SS (sortI l) := by
  have hp := sortI_pair l
  have hn : (sortI l).Nodup := (sortI_perm l).nodup_iff.2 h
  exact (List.Pairwise.and hp hn).imp (fun ⟨h1, h2⟩ => by omega)
theorem sortI_is {l m : List Int} (h : l.Nodup) (hm : SS m) (he : ∀ k, k ∈ l ↔ k ∈ m) : sortI l = m :=
  (sortI_SS h).ext hm fun k => (sortI_perm l).mem_iff.trans (he k)
def insS : List Int → Int → List Int
  | [], n => [n]
  | a :: l, n => if a < n then a :: insS l n else if a = n then a :: l else n :: a :: l
theorem insS_mem : ∀ {l : List Int} {n k : Int}, k ∈ insS l n ↔ k ∈ l ∨ k = n
  | [], n, k => by simp [insS]
  | a :: l, n, k => by
    unfold insS
    by_cases h1 : a < n
    · simp only [h1, if_true, List.mem_cons, insS_mem (l := l)]
      constructor
      · rintro (h | h | h) <;> simp [h]
      · rintro ((h | h) | h) <;> simp [h]
    · by_cases h2 : a = n
      · subst h2
        simp only [h1, if_false, if_true, List.mem_cons]
        constructor
        · exact .inl
        · rintro (h | h)
          · exact h
          · exact .inl h
      · simp only [h1, h2, if_false, List.mem_cons]
        constructor
        · rintro (h | h | h) <;> simp [h]
        · rintro ((h | h) | h) <;> simp [h]
theorem insS_SS : ∀ {l : List Int} {n : Int}, SS l → SS (insS l n)
  | [], n, _ => by simp [insS, SS]
  | a :: l, n, h => by
    have h' := List.pairwise_cons.1 h
    unfold insS
    by_cases h1 : a < n
    · simp only [h1, if_true]
      refine List.pairwise_cons.2 ⟨fun k hk => ?_, insS_SS h'.2⟩
      rcases insS_mem.1 hk with hk | hk
      · exact h'.1 k hk
      · omega
    · by_cases h2 : a = n
      · simp only [h1, h2, if_false, if_true]; rw [h2] at h; simpa using h
      · simp only [h1, h2, if_false]
        refine List.pairwise_cons.2 ⟨fun k hk => ?_, h⟩
        rcases List.mem_cons.1 hk with hk | hk
        · omega
        · have := h'.1 k hk; omega
theorem insS_len : ∀ (l : List Int) (n : Int), (insS l n).length ≤ l.length + 1
  | [], n => by simp [insS]
  | a :: l, n => by
    have := insS_len l n
    unfold insS
    split
    · simp; omega
    · split <;> simp
/-! ### devices -/
def devF (ks : List Int) (x : Ex) : List Int := ins (ins ks x.f) x.t
def devK (l : List Ex) : List Int := l.foldl devF []
def devG (o : List Int) (x : Ex) : List Int := insS (insS o x.f) x.t
def devL (l : List Ex) : List Int := l.foldl devG []
theorem take_snoc {α : Type} {l : List α} {i : Nat} {x : α} (h : l[i]? = some x) : l.take (i + 1) = l.take i ++ [x] := by rw [List.take_add_one, h]; rfl
theorem devK_step {l : List Ex} {i : Nat} {x : Ex} (h : l[i]? = some x) : devK (l.take (i + 1)) = ins (ins (devK (l.take i)) x.f) x.t := by
  unfold devK; rw [take_snoc h, List.foldl_append]; rfl
theorem devL_step {l : List Ex} {i : Nat} {x : Ex} (h : l[i]? = some x) : devL (l.take (i + 1)) = insS (insS (devL (l.take i)) x.f) x.t := by
  unfold devL; rw [take_snoc h, List.foldl_append]; rfl
theorem devK_inv : ∀ (l : List Ex) (ks : List Int), ks.Nodup → (l.foldl devF ks).Nodup ∧ (∀ k, k ∈ l.foldl devF ks ↔ k ∈ ks ∨ ∃ x ∈ l, k = x.f ∨ k = x.t) ∧ (l.foldl devF ks).length ≤ ks.length + 2 * l.length
  | [], ks, h => ⟨h, fun k => by simp, by simp⟩
  | x :: l, ks, h => by
    obtain ⟨h1, h2, h3⟩ := devK_inv l (devF ks x) (ins_nodup (ins_nodup h))
    refine ⟨h1, fun k => ?_, ?_⟩
    · rw [List.foldl_cons, h2 k]
      unfold devF
      rw [ins_mem, ins_mem]
      constructor
      · rintro (((h | h) | h) | ⟨y, hy, h⟩)
        · exact .inl h
        · exact .inr ⟨x, by simp, .inl h⟩
        · exact .inr ⟨x, by simp, .inr h⟩
        · exact .inr ⟨y, by simp [hy], h⟩
      · rintro (h | ⟨y, hy, h⟩)
        · exact .inl (.inl (.inl h))
        · rcases List.mem_cons.1 hy with rfl | hy
          · rcases h with h | h
            · exact .inl (.inl (.inr h))
            · exact .inl (.inr h)
          · exact .inr ⟨y, hy, h⟩
    · have a1 := (ins_len ks x.f).1
      have a2 := (ins_len (ins ks x.f) x.t).1
      rw [List.foldl_cons, List.length_cons]
      unfold devF at h3 ⊢
      omega
theorem devL_inv : ∀ (l : List Ex) (ks : List Int), SS ks → SS (l.foldl devG ks) ∧ (∀ k, k ∈ l.foldl devG ks ↔ k ∈ ks ∨ ∃ x ∈ l, k = x.f ∨ k = x.t) ∧ (l.foldl devG ks).length ≤ ks.length + 2 * l.length
  | [], ks, h => ⟨h, fun k => by simp, by simp⟩
  | x :: l, ks, h => by
    obtain ⟨h1, h2, h3⟩ := devL_inv l (devG ks x) (insS_SS (insS_SS h))
    refine ⟨h1, fun k => ?_, ?_⟩
    · rw [List.foldl_cons, h2 k]
      unfold devG
      rw [insS_mem, insS_mem]
      constructor
      · rintro (((h | h) | h) | ⟨y, hy, h⟩)
        · exact .inl h
        · exact .inr ⟨x, by simp, .inl h⟩
        · exact .inr ⟨x, by simp, .inr h⟩
        · exact .inr ⟨y, by simp [hy], h⟩
      · rintro (h | ⟨y, hy, h⟩)
        · exact .inl (.inl (.inl h))
        · rcases List.mem_cons.1 hy with rfl | hy
          · rcases h with h | h
            · exact .inl (.inl (.inr h))
            · exact .inl (.inr h)
          · exact .inr ⟨y, hy, h⟩
    · have a1 := insS_len ks x.f
      have a2 := insS_len (insS ks x.f) x.t
      rw [List.foldl_cons, List.length_cons]
      unfold devG at h3 ⊢
      omega
theorem devL_mem {l : List Ex} {k : Int} : k ∈ devL l ↔ ∃ x ∈ l, k = x.f ∨ k = x.t := by
  have := (devL_inv l [] List.Pairwise.nil).2.1 k
  simpa [devL] using this
theorem devL_SS (l : List Ex) : SS (devL l) := (devL_inv l [] List.Pairwise.nil).1
theorem devL_len (l : List Ex) : (devL l).length ≤ 2 * l.length := by have := (devL_inv l [] List.Pairwise.nil).2.2; simpa [devL] using this
theorem devK_len (l : List Ex) : (devK l).length ≤ 2 * l.length := by have := (devK_inv l [] List.nodup_nil).2.2; simpa [devK] using this
theorem devK_mem {l : List Ex} {k : Int} : k ∈ devK l ↔ ∃ x ∈ l, k = x.f ∨ k = x.t := by
  have := (devK_inv l [] List.nodup_nil).2.1 k
  simpa [devK] using this
theorem devK_sort (l : List Ex) : sortI (devK l) = devL l :=
  sortI_is (devK_inv l [] List.nodup_nil).1 (devL_SS l) fun k => devK_mem.trans devL_mem.symm
theorem okX_in {x : Ex} (h : okX x) : inI64 x.f ∧ inI64 x.t := by
  obtain ⟨h1, h2, h3, h4, _⟩ := h
  exact ⟨⟨by show (-9223372036854775808 : Int) ≤ _; omega, by show _ ≤ (9223372036854775807 : Int); omega⟩, ⟨by show (-9223372036854775808 : Int) ≤ _; omega, by show _ ≤ (9223372036854775807 : Int); omega⟩⟩
theorem devK_in {l : List Ex} (h : ∀ x ∈ l, okX x) : ∀ p ∈ setM (devK l), inI64 p.1 := fun p hp => by
  obtain ⟨k, hk, rfl⟩ := List.mem_map.1 hp
  obtain ⟨x, hx, hk⟩ := devK_mem.1 hk
  rcases hk with hk | hk
  · rw [hk]; exact (okX_in (h x hx)).1
  · rw [hk]; exact (okX_in (h x hx)).2
end Go.Via
set_option linter.unusedVariables false
set_option linter.unusedSimpArgs false
namespace Go.Via
open Go Go.RowKit
/-! ### components -/
inductive Conn (l : List Ex) (d : Int) : Int → Prop where
  | base : Conn l d d
  | fwd {x : Ex} (hx : x ∈ l) (h : Conn l d x.f) : Conn l d x.t
  | bwd {x : Ex} (hx : x ∈ l) (h : Conn l d x.t) : Conn l d x.f
theorem nodup_len {α : Type} [DecidableEq α] : ∀ {l m : List α}, l.Nodup → (∀ x ∈ l, x ∈ m) → l.length ≤ m.length
  | [], m, _, _ => Nat.zero_le _
  | a :: l, m, h, hs => by
    have h' := List.nodup_cons.1 h
    have ha := hs a (by simp)
    have := nodup_len (l := l) (m := m.erase a) h'.2 (fun x hx => (List.mem_erase_of_ne (by intro e; subst e; exact h'.1 hx)).2 (hs x (by simp [hx])))
    rw [List.length_erase_of_mem ha] at this
    have : 0 < m.length := List.length_pos_of_mem ha
    rw [List.length_cons]; omega
theorem Conn.mem {l : List Ex} {d k : Int} (h : Conn l d k) : k ∈ d :: devK l := by
  cases h with
  | base => simp
  | fwd hx _ => exact List.mem_cons_of_mem _ (devK_mem.2 ⟨_, hx, .inr rfl⟩)
  | bwd hx _ => exact List.mem_cons_of_mem _ (devK_mem.2 ⟨_, hx, .inl rfl⟩)
def ClosedX (l : List Ex) (ks : List Int) : Prop := ∀ x ∈ l, x.f ∈ ks ↔ x.t ∈ ks
theorem Conn.closed {l : List Ex} {d k : Int} {ks : List Int} (h : Conn l d k) (hc : ClosedX l ks) (hd : d ∈ ks) : k ∈ ks := by
  induction h with
  | base => exact hd
  | fwd hx _ ih => exact (hc _ hx).1 ih
  | bwd hx _ ih => exact (hc _ hx).2 ih
def pasF (p : List Int × Bool) (x : Ex) : List Int × Bool := if (p.1.contains x.f != p.1.contains x.t) = true then (ins (ins p.1 x.f) x.t, true) else p
def pas (ks : List Int) (l : List Ex) : List Int × Bool := l.foldl pasF (ks, false)
theorem pas_yes {l : List Ex} {ks : List Int} {i : Nat} {x : Ex} (h : l[i]? = some x) (hc : ((pas ks (l.take i)).1.contains x.f != (pas ks (l.take i)).1.contains x.t) = true) :
    pas ks (l.take (i + 1)) = (ins (ins (pas ks (l.take i)).1 x.f) x.t, true) := by
  unfold pas at hc ⊢
  rw [take_snoc h, List.foldl_append, List.foldl_cons, List.foldl_nil]
  exact if_pos hc
theorem pas_no {l : List Ex} {ks : List Int} {i : Nat} {x : Ex} (h : l[i]? = some x) (hc : ((pas ks (l.take i)).1.contains x.f != (pas ks (l.take i)).1.contains x.t) = false) :
    pas ks (l.take (i + 1)) = pas ks (l.take i) := by
  unfold pas at hc ⊢
  rw [take_snoc h, List.foldl_append, List.foldl_cons, List.foldl_nil]
  exact if_neg (by rw [hc]; decide)
structure CI (l : List Ex) (d : Int) (p : List Int × Bool) : Prop where
  nd : p.1.Nodup
  hd : d ∈ p.1
  cn : ∀ k ∈ p.1, Conn l d k
  cl : p.2 = false → ClosedX l p.1
theorem CI.len {l : List Ex} {d : Int} {p : List Int × Bool} (h : CI l d p) : p.1.length ≤ 2 * l.length + 1 := by
  have h1 := nodup_len h.nd (fun k hk => (h.cn k hk).mem)
  have h2 := devK_len l
  rw [List.length_cons] at h1; omega
theorem CI.init (l : List Ex) (d : Int) : CI l d ([d], true) := ⟨by simp, by simp, fun k hk => by simp at hk; subst hk; exact .base, fun h => by cases h⟩
/-- a pass -/
theorem pas_inv {l : List Ex} {d : Int} : ∀ (m : List Ex) (p : List Int × Bool), (∀ x ∈ m, x ∈ l) → p.1.Nodup → (∀ k ∈ p.1, Conn l d k) →
    (m.foldl pasF p).1.Nodup ∧ (∀ k ∈ p.1, k ∈ (m.foldl pasF p).1) ∧ (∀ k ∈ (m.foldl pasF p).1, Conn l d k) ∧ p.1.length ≤ (m.foldl pasF p).1.length ∧
    ((m.foldl pasF p).2 = true → p.2 = true ∨ p.1.length < (m.foldl pasF p).1.length) ∧ ((m.foldl pasF p).2 = false → (m.foldl pasF p).1 = p.1 ∧ p.2 = false ∧ ∀ x ∈ m, x.f ∈ p.1 ↔ x.t ∈ p.1)
  | [], p, _, h1, h2 => ⟨h1, fun k hk => hk, h2, Nat.le_refl _, .inl, fun h => ⟨rfl, h, fun x hx => by cases hx⟩⟩
  | x :: m, p, hm, h1, h2 => by
    rw [List.foldl_cons]
    by_cases hc : (p.1.contains x.f != p.1.contains x.t) = true
    · have hx := hm x (by simp)
      have hp : pasF p x = (ins (ins p.1 x.f) x.t, true) := by unfold pasF; rw [if_pos hc]
      have hcn : ∀ k ∈ ins (ins p.1 x.f) x.t, Conn l d k := by
        intro k hk
        by_cases hf : x.f ∈ p.1
        · rcases ins_mem.1 hk with hk | hk
          · rcases ins_mem.1 hk with hk | hk
            · exact h2 k hk
            · rw [hk]; exact h2 _ hf
          · rw [hk]; exact .fwd hx (h2 _ hf)
        · have ht : x.t ∈ p.1 := by
            by_cases ht : x.t ∈ p.1
            · exact ht
            · simp [hf, ht] at hc
          rcases ins_mem.1 hk with hk | hk
          · rcases ins_mem.1 hk with hk | hk
            · exact h2 k hk
            · rw [hk]; exact .bwd hx (h2 _ ht)
          · rw [hk]; exact h2 _ ht
      have hlt : p.1.length < (ins (ins p.1 x.f) x.t).length := by
        unfold ins
        by_cases hf : x.f ∈ p.1
        · have ht : ¬ x.t ∈ p.1 := fun ht => by simp [hf, ht] at hc
          simp [hf, ht]
        · by_cases ht : x.t ∈ p.1
          · simp [hf, ht]
          · simp [hf, ht] at hc
      obtain ⟨a1, a2, a3, a4, a5, a6⟩ := pas_inv (l := l) (d := d) m (ins (ins p.1 x.f) x.t, true) (fun y hy => hm y (by simp [hy])) (ins_nodup (ins_nodup h1)) hcn
      rw [hp]
      refine ⟨a1, fun k hk => a2 k (ins_mem.2 (.inl (ins_mem.2 (.inl hk)))), a3, by simp only at a4; omega, fun _ => .inr (by simp only at a4; omega), fun h => ?_⟩
      have := (a6 h).2.1
      simp at this
    · have hp : pasF p x = p := by unfold pasF; rw [if_neg hc]
      rw [hp]
      obtain ⟨a1, a2, a3, a4, a5, a6⟩ := pas_inv (l := l) (d := d) m p (fun y hy => hm y (by simp [hy])) h1 h2
      refine ⟨a1, a2, a3, a4, a5, fun h => ⟨(a6 h).1, (a6 h).2.1, fun y hy => ?_⟩⟩
      rcases List.mem_cons.1 hy with rfl | hy
      · by_cases hf : y.f ∈ p.1 <;> by_cases ht : y.t ∈ p.1 <;> simp [hf, ht] at hc ⊢
      · exact (a6 h).2.2 y hy
theorem CI.step {l : List Ex} {d : Int} {p : List Int × Bool} (h : CI l d p) : CI l d (pas p.1 l) := by
  obtain ⟨a1, a2, a3, a4, a5, a6⟩ := pas_inv (l := l) (d := d) l (p.1, false) (fun _ h => h) h.nd h.cn
  refine ⟨a1, a2 _ h.hd, a3, fun hf => ?_⟩
  obtain ⟨b1, _, b3⟩ := a6 hf
  intro x hx
  show x.f ∈ (l.foldl pasF (p.1, false)).1 ↔ x.t ∈ (l.foldl pasF (p.1, false)).1
  rw [b1]; exact b3 x hx
def cMu (l : List Ex) (p : List Int × Bool) : Nat := 2 * (2 * l.length + 1 - p.1.length) + (if p.2 then 1 else 0)
theorem CI.dec {l : List Ex} {d : Int} {p : List Int × Bool} (h : CI l d p) (hp : p.2 = true) : cMu l (pas p.1 l) < cMu l p := by
  obtain ⟨a1, a2, a3, a4, a5, a6⟩ := pas_inv (l := l) (d := d) l (p.1, false) (fun _ h => h) h.nd h.cn
  have h1 := h.step.len
  have h2 := h.len
  unfold cMu
  rw [hp]
  change (pas p.1 l).2 = true → false = true ∨ p.1.length < (pas p.1 l).1.length at a5
  change p.1.length ≤ (pas p.1 l).1.length at a4
  cases hq : (pas p.1 l).2 with
  | true =>
    have := (a5 hq).resolve_left (by decide)
    simp; omega
  | false => simp; omega
/-- the model's way: rounds -/
def cmpF (o : List Int) (x : Ex) : List Int := if (o.contains x.f || o.contains x.t) = true then insS (insS o x.f) x.t else o
def cmpR (l : List Ex) : Nat → List Int → List Int
  | 0, o => o
  | k + 1, o => cmpR l k (l.foldl cmpF o)
def compL (l : List Ex) (d : Int) : List Int := cmpR l l.length [d]
theorem cmpF_inv {l : List Ex} {d : Int} : ∀ (m : List Ex) (o : List Int), (∀ x ∈ m, x ∈ l) → SS o → (∀ k ∈ o, Conn l d k) →
    SS (m.foldl cmpF o) ∧ (∀ k ∈ o, k ∈ m.foldl cmpF o) ∧ (∀ k ∈ m.foldl cmpF o, Conn l d k) ∧ (∀ x ∈ m, (x.f ∈ o ∨ x.t ∈ o) → x.f ∈ m.foldl cmpF o ∧ x.t ∈ m.foldl cmpF o)
  | [], o, _, h1, h2 => ⟨h1, fun k hk => hk, h2, fun x hx => by cases hx⟩
  | x :: m, o, hm, h1, h2 => by
    rw [List.foldl_cons]
    have hx := hm x (by simp)
    by_cases hc : (o.contains x.f || o.contains x.t) = true
    · have hp : cmpF o x = insS (insS o x.f) x.t := by unfold cmpF; rw [if_pos hc]
      have hc' : x.f ∈ o ∨ x.t ∈ o := by simpa using hc
      have hcn : ∀ k ∈ insS (insS o x.f) x.t, Conn l d k := by
        intro k hk
        have hft : Conn l d x.f ∧ Conn l d x.t := by
          rcases hc' with h | h
          · exact ⟨h2 _ h, .fwd hx (h2 _ h)⟩
          · exact ⟨.bwd hx (h2 _ h), h2 _ h⟩
        rcases insS_mem.1 hk with hk | hk
        · rcases insS_mem.1 hk with hk | hk
          · exact h2 k hk
          · rw [hk]; exact hft.1
        · rw [hk]; exact hft.2
      rw [hp]
      obtain ⟨a1, a2, a3, a4⟩ := cmpF_inv (l := l) (d := d) m _ (fun y hy => hm y (by simp [hy])) (insS_SS (insS_SS h1)) hcn
      refine ⟨a1, fun k hk => a2 k (insS_mem.2 (.inl (insS_mem.2 (.inl hk)))), a3, fun y hy hh => ?_⟩
      rcases List.mem_cons.1 hy with rfl | hy
      · exact ⟨a2 _ (insS_mem.2 (.inl (insS_mem.2 (.inr rfl)))), a2 _ (insS_mem.2 (.inr rfl))⟩
      · exact a4 y hy (hh.imp (fun h => insS_mem.2 (.inl (insS_mem.2 (.inl h)))) (fun h => insS_mem.2 (.inl (insS_mem.2 (.inl h)))))
    · have hp : cmpF o x = o := by unfold cmpF; rw [if_neg hc]
      rw [hp]
      obtain ⟨a1, a2, a3, a4⟩ := cmpF_inv (l := l) (d := d) m o (fun y hy => hm y (by simp [hy])) h1 h2
      refine ⟨a1, a2, a3, fun y hy hh => ?_⟩
      rcases List.mem_cons.1 hy with rfl | hy
      · exfalso; apply hc; simpa using hh
      · exact a4 y hy hh
/-- how many exchanges touch a set -/
def touch (l : List Ex) (o : List Int) : Nat := l.countP fun x => o.contains x.f || o.contains x.t
theorem touch_le (l : List Ex) (o : List Int) : touch l o ≤ l.length := List.countP_le_length
theorem countP_lt {α : Type} {p q : α → Bool} : ∀ {l : List α}, (∀ x ∈ l, p x = true → q x = true) → (∃ x ∈ l, q x = true ∧ p x = false) → l.countP p < l.countP q
  | [], _, h => by obtain ⟨x, hx, _⟩ := h; cases hx
  | a :: l, h, he => by
    rw [List.countP_cons, List.countP_cons]
    have hle : l.countP p ≤ l.countP q := List.countP_mono_left fun x hx => h x (by simp [hx])
    have ha := h a (by simp)
    obtain ⟨x, hx, h1, h2⟩ := he
    rcases List.mem_cons.1 hx with rfl | hx
    · rw [h1, h2]; simp; omega
    · have := countP_lt (fun x hx => h x (by simp [hx])) ⟨x, hx, h1, h2⟩
      by_cases hp : p a = true
      · rw [hp, ha hp]; simp; omega
      · have : (if p a = true then 1 else 0) = 0 := by rw [if_neg hp]
        rw [this]; omega
theorem cmpF_one : ∀ (m : List Ex) (o : List Int), (∀ x ∈ m, x.f ∈ o ↔ x.t ∈ o) → ∀ z, z ∈ m.foldl cmpF o ↔ z ∈ o := by
  intro m
  induction m with
  | nil => intro o _ z; exact Iff.rfl
  | cons y m ih =>
    intro o ho z
    rw [List.foldl_cons]
    have hy := ho y (by simp)
    have hmem : ∀ z, z ∈ cmpF o y ↔ z ∈ o := by
      intro z
      unfold cmpF
      by_cases hc : (o.contains y.f || o.contains y.t) = true
      · rw [if_pos hc]
        have hc' : y.f ∈ o ∨ y.t ∈ o := by simpa using hc
        have hb : y.f ∈ o ∧ y.t ∈ o := by
          rcases hc' with h | h
          · exact ⟨h, hy.1 h⟩
          · exact ⟨hy.2 h, h⟩
        rw [insS_mem, insS_mem]
        exact ⟨fun h => by rcases h with (h | h) | h
                           · exact h
                           · rw [h]; exact hb.1
                           · rw [h]; exact hb.2, fun h => .inl (.inl h)⟩
      · rw [if_neg hc]
    rw [ih _ (fun x hx => by rw [hmem, hmem]; exact ho x (by simp [hx])) z, hmem]
theorem cmpR_stay {l : List Ex} : ∀ (k : Nat) (o : List Int), ClosedX l o → ClosedX l (cmpR l k o)
  | 0, _, h => h
  | k + 1, o, h => cmpR_stay k _ fun x hx => by rw [cmpF_one l o h, cmpF_one l o h]; exact h x hx
theorem cmpR_inv {l : List Ex} {d : Int} : ∀ (k : Nat) (o : List Int), SS o → d ∈ o → (∀ z ∈ o, Conn l d z) →
    SS (cmpR l k o) ∧ d ∈ cmpR l k o ∧ (∀ z ∈ cmpR l k o, Conn l d z) ∧ (l.length < touch l o + k → ClosedX l (cmpR l k o))
  | 0, o, h1, h2, h3 => ⟨h1, h2, h3, fun h => by have := touch_le l o; omega⟩
  | k + 1, o, h1, h2, h3 => by
    obtain ⟨a1, a2, a3, a4⟩ := cmpF_inv (l := l) (d := d) l o (fun _ h => h) h1 h3
    obtain ⟨b1, b2, b3, b4⟩ := cmpR_inv (l := l) (d := d) k _ a1 (a2 d h2) a3
    refine ⟨b1, b2, b3, fun ht => ?_⟩
    show ClosedX l (cmpR l k (l.foldl cmpF o))
    by_cases hcl : ClosedX l (l.foldl cmpF o)
    · exact cmpR_stay k _ hcl
    · -- an exchange is touched that was not
      have hex : ∃ x ∈ l, ¬ (x.f ∈ l.foldl cmpF o ↔ x.t ∈ l.foldl cmpF o) := by
        apply Classical.byContradiction
        intro hn
        exact hcl fun x hx => Classical.byContradiction fun h => hn ⟨x, hx, h⟩
      have hlt : touch l o < touch l (l.foldl cmpF o) := by
        obtain ⟨x, hx, hne⟩ := hex
        refine countP_lt (fun y hy h => ?_) ⟨x, hx, ?_, ?_⟩
        · have h' : y.f ∈ o ∨ y.t ∈ o := by simpa using h
          have := a4 y hy h'
          simp [this.1]
        · by_cases h : x.f ∈ l.foldl cmpF o
          · simp [h]
          · by_cases h' : x.t ∈ l.foldl cmpF o
            · simp [h']
            · exact absurd ⟨fun q => absurd q h, fun q => absurd q h'⟩ hne
        · cases hq : (o.contains x.f || o.contains x.t) with
          | false => rfl
          | true =>
            have h' : x.f ∈ o ∨ x.t ∈ o := by simpa using hq
            have := a4 x hx h'
            exact absurd ⟨fun _ => this.2, fun _ => this.1⟩ hne
      exact b4 (by omega)
theorem compL_inv (l : List Ex) (d : Int) : SS (compL l d) ∧ d ∈ compL l d ∧ (∀ z ∈ compL l d, Conn l d z) ∧ (l.length < touch l [d] + l.length → ClosedX l (compL l d)) :=
  cmpR_inv (l := l) (d := d) l.length [d] (by simp [SS]) (by simp) (fun z hz => by simp at hz; subst hz; exact .base)
theorem compL_SS (l : List Ex) (d : Int) : SS (compL l d) := (compL_inv l d).1
theorem compL_closed (l : List Ex) (d : Int) : ClosedX l (compL l d) := by
  rcases Nat.eq_zero_or_pos (touch l [d]) with h | h
  · refine cmpR_stay _ _ fun x hx => ?_
    have := List.countP_eq_zero.1 h x hx
    simp at this
    simp [this.1, this.2]
  · exact (compL_inv l d).2.2.2 (by omega)
theorem compL_mem {l : List Ex} {d k : Int} : k ∈ compL l d ↔ Conn l d k := by
  obtain ⟨h1, h2, h3, h4⟩ := compL_inv l d
  exact ⟨h3 k, fun h => h.closed (compL_closed l d) h2⟩
theorem compL_len (l : List Ex) (d : Int) : (compL l d).length ≤ 2 * l.length + 1 := by
  have h1 := nodup_len (compL_SS l d).nodup (fun k hk => (compL_mem.1 hk).mem)
  have h2 := devK_len l
  rw [List.length_cons] at h1; omega
theorem CI.sort {l : List Ex} {d : Int} {p : List Int × Bool} (h : CI l d p) (hp : p.2 = false) : sortI p.1 = compL l d :=
  sortI_is h.nd (compL_SS l d) fun k => ⟨fun hk => compL_mem.2 (h.cn k hk), fun hk => (compL_mem.1 hk).closed (h.cl hp) h.hd⟩
theorem CI.inI {l : List Ex} {d : Int} {p : List Int × Bool} (h : CI l d p) (hok : ∀ x ∈ l, okX x) (hd : inI64 d) : ∀ q ∈ setM p.1, inI64 q.1 := fun q hq => by
  obtain ⟨k, hk, rfl⟩ := List.mem_map.1 hq
  have := (h.cn k hk).mem
  rcases List.mem_cons.1 this with e | e
  · simp only; rw [e]; exact hd
  · obtain ⟨x, hx, e⟩ := devK_mem.1 e
    rcases e with e | e
    · simp only; rw [e]; exact (okX_in (hok x hx)).1
    · simp only; rw [e]; exact (okX_in (hok x hx)).2
end Go.Via
/-
  DERIVED: THE SHELF's CONTRACTS AT THIS DUMP, IN PLAIN WORDS (tools/lay-plain.mjs out of 'TryzLib.lean', which tools/lay-shelf.mjs wrote): THE SAME DECLARATIONS UNDER THE SAME NAMES: 'import', 'namespace', 'open', 'def', 'theorem' AND NOTHING ELSE: no command of the shelf's: FOR A HAND-IN. Each laying: the table of numbers ('.._ren') and one theorem, a field a fact of the dump's own or the kernel's comparison; each contract: ONE APPLICATION.
-/
namespace Go.Proofs
open Go.Shelf
def Tryz.lays112_ren : Go.Shelf.Ren := ⟨fun | 112 => 42 | n => n, fun | 28 => 33 | 3 => 3 | 4 => 4 | 0 => 0 | n => n, fun | n => n⟩
theorem Tryz.lays112 : Go.Proofs.Lays.n112 Tryz.prog Tryz.lays112_ren := {
  mixed := by kernel_rfl
  f112 := Tryz.func42.trans (congrArg some (by kernel_rfl))
  t0 := Tryz.underlying0
  a0 := Tryz.isAgg0
  z0 := Tryz.sizeOf0
  v0 := Tryz.zeroValue0
  t3 := Tryz.underlying3
  a3 := Tryz.isAgg3
  z3 := Tryz.sizeOf3
  v3 := Tryz.zeroValue3
  t4 := Tryz.underlying4
  a4 := Tryz.isAgg4
  z4 := Tryz.sizeOf4
  v4 := Tryz.zeroValue4
  t28 := Tryz.underlying33
  a28 := Tryz.isAgg33
  z28 := Tryz.sizeOf33
  v28 := Tryz.zeroValue33 }
open Go.RowKit Go.Lib Go.Sort in
/-- The same at a slice of length 0, a nil one too: nothing is read, nothing written, nothing drawn. (LAID: no walk: one application.) -/
theorem Tryz.slices_Reverse_int_empty (a : Option Addr) (cap : Nat) (w : World) :
    Calls Tryz.prog 42 #[.slice a 0 cap] w fun e w' => e = .returned (.tuple #[]) ∧ w' = w := Any.slices_Reverse_int_empty Tryz.lays112 a cap w
def Tryz.laysNm225_ren : Go.Shelf.Ren := ⟨fun | 25 => 37 | 31 => 53 | 32 => 54 | 37 => 71 | n => n, fun | 22 => 33 | 3 => 3 | 4 => 4 | 40 => 99 | 0 => 0 | n => n, fun | n => n⟩
theorem Tryz.laysNm225 : Go.Proofs.Lays2.n25 Tryz.prog Tryz.laysNm225_ren := {
  mixed := by kernel_rfl
  f25 := Tryz.func37.trans (congrArg some (by kernel_rfl))
  f31 := Tryz.func53.trans (congrArg some (by kernel_rfl))
  f32 := Tryz.func54.trans (congrArg some (by kernel_rfl))
  f37 := Tryz.func71.trans (congrArg some (by kernel_rfl))
  t0 := Tryz.underlying0
  a0 := Tryz.isAgg0
  z0 := Tryz.sizeOf0
  v0 := Tryz.zeroValue0
  t3 := Tryz.underlying3
  a3 := Tryz.isAgg3
  z3 := Tryz.sizeOf3
  v3 := Tryz.zeroValue3
  t4 := Tryz.underlying4
  a4 := Tryz.isAgg4
  z4 := Tryz.sizeOf4
  v4 := Tryz.zeroValue4
  t22 := Tryz.underlying33
  a22 := Tryz.isAgg33
  z22 := Tryz.sizeOf33
  v22 := Tryz.zeroValue33
  t40 := Tryz.underlying99
  a40 := Tryz.isAgg99
  z40 := Tryz.sizeOf99
  v40 := Tryz.zeroValue99 }
open Go.RowKit Go.Lib in
/-- slices.BinarySearch at []int: "BinarySearch searches for target in a sorted slice and returns the earliest position where target is found, or the position where target would appear in the sort order; it also returns a bool saying whether the target is really found in the slice. The slice must be sorted in increasing order.": OF A SORTED SLICE IT RETURNS how many elements are less than the target, and whether the target is among the elements; the world is as it was but for the count of draws. 'zs': what the cells behind the slice's address hold; 'zs.take n': its elements. (Of a slice that is not sorted: no contract here.) (LAID: no walk: one application.) -/
theorem Tryz.slices_BinarySearch_int (b off n c : Nat) (zs : List Int) (x : Int) (w : World) (hz : n ≤ zs.length) (hbig : n < 4611686018427387904) (hc : ∀ j, j < zs.length → w.cell? ⟨b, off + j, none⟩ = some (.int .i64 (zs.getD j 0))) (hs : (zs.take n).Pairwise (· ≤ ·)) :
    Calls Tryz.prog 37 #[.slice (some ⟨b, off, none⟩) n c, .int .i64 x] w fun e w' => e = .returned (.tuple #[.int .i64 ((zs.take n).countP (· < x) : Nat), .bool ((zs.take n).contains x)]) ∧ ∃ q, w' = w.drewN q := Any.slices_BinarySearch_int Tryz.laysNm225 b off n c zs x w hz hbig hc hs
open Go.RowKit Go.Lib Go.Sort in
/-- slices.Reverse at []int, of an argument: the n cells hold the elements in reverse. (LAID: no walk: one application.) -/
theorem Tryz.slices_Reverse_int_cells (b off n c : Nat) (zs : List Int) (w : World) (hz : n ≤ zs.length) (hbig : n ≤ 9223372036854775807) (hc : ∀ j, j < zs.length → w.cell? ⟨b, off + j, none⟩ = some (.int .i64 (zs.getD j 0))) (hf : ∀ j, j < n → w.frozen? ⟨b, off + j, none⟩ = false) :
    Calls Tryz.prog 42 #[.slice (some ⟨b, off, none⟩) n c] w fun e w' => e = .returned (.tuple #[]) ∧ ∃ q, w' = (w.drewN q).setCells b off ((zs.take n).reverse.map (Value.int .i64)) := Any.slices_Reverse_int_cells Tryz.lays112 b off n c zs w hz hbig hc hf
open Go.RowKit Go.Lib in
/-- slices.BinarySearch at []int of no element: position 0, not found; the world is as it was. (LAID: no walk: one application.) -/
theorem Tryz.slices_BinarySearch_int_empty (a : Option Addr) (c : Nat) (x : Int) (w : World) :
    Calls Tryz.prog 37 #[.slice a 0 c, .int .i64 x] w fun e w' => e = .returned (.tuple #[.int .i64 0, .bool false]) ∧ w' = w := Any.slices_BinarySearch_int_empty Tryz.laysNm225 a c x w
end Go.Proofs
set_option linter.unusedVariables false
set_option linter.unusedSimpArgs false
namespace Go.Proofs.YtncogghlhlnmaaaGreatDoor
open Go Go.RowKit Go.Via Go.Lib Go.Sort Go.Proofs
theorem ILc_nil {l : List Int} (h : ILc l = []) : l = [] := by
  have := congrArg List.length h
  rw [ILc_length] at this
  exact List.eq_nil_of_length_eq_zero this
theorem ILc_cell {l : List Int} {j : Nat} (h : j < l.length) : (ILc l)[j]? = some (.int .i64 (l.getD j 0)) := by
  unfold ILc
  rw [List.getElem?_map, List.getElem?_eq_getElem h]
  simp [h]
theorem below_drewN (B : Nat) (w : World) (q : Nat) : Below B w (w.drewN q) := ⟨rfl, rfl, rfl, Nat.le_refl _, fun _ _ => rfl⟩
theorem c_bsearch (l : List Int) (b : Option Nat) (N cap : Nat) (hn : l.length ≤ 1000000) (hs : SS l) (d : Int) :
    SCall Tryz.prog 37 [⟨b, 3, ILc l, N, false⟩] [slv b 0 l.length cap, .int .i64 d] Unit (fun _ => .tuple #[.int .i64 (l.countP (· < d) : Nat), .bool (l.contains d)]) (fun _ => []) := by
  refine ⟨by kernel_rfl, fun w hL => ?_⟩
  cases b with
  | none =>
    have hl : l = [] := ILc_nil ((hL.blk 0 _ rfl).2 rfl).1
    subst hl
    refine (Tryz.slices_BinarySearch_int_empty none cap d w).mono ?_
    rintro e w' ⟨rfl, rfl⟩
    exact ⟨(), rfl, LRel.nil w'⟩
  | some g =>
    refine (Tryz.slices_BinarySearch_int g 0 l.length cap l d w (Nat.le_refl _) (by omega) (fun j hj => ?_) (by rw [List.take_length]; exact hs.le)).mono ?_
    · obtain ⟨g', h1, h2⟩ := hL.cell (k := 0) rfl (ILc_cell hj)
      cases h1
      rw [Nat.zero_add]; exact h2
    · rintro e w' ⟨rfl, q, rfl⟩
      refine ⟨(), by rw [List.take_length], ⟨below_drewN _ _ _, fun k b hk => by simp at hk, fun i j g bi bj hij hi => by simp at hi⟩⟩
theorem c_reverse (l : List Int) (b : Option Nat) (N cap : Nat) (hn : l.length ≤ 1000000) :
    MCall Tryz.prog 42 ⟨b, 3, ILc l, N, true⟩ [slv b 0 l.length cap] (.tuple #[]) ⟨b, 3, ILc l.reverse, N, true⟩ := by
  refine ⟨by kernel_rfl, fun B w R hL => ?_⟩
  cases b with
  | none =>
    have hl : l = [] := ILc_nil ((hL.blk 0 _ rfl).2 rfl).1
    subst hl
    refine (Tryz.slices_Reverse_int_empty none cap w).mono ?_
    rintro e w' ⟨rfl, rfl⟩
    exact ⟨rfl, hL⟩
  | some g =>
    by_cases hl : l = []
    · subst hl
      refine (Tryz.slices_Reverse_int_empty _ cap w).mono ?_
      rintro e w' ⟨rfl, rfl⟩
      exact ⟨rfl, hL⟩
    obtain ⟨cur, ⟨e', fr, h3, h4, h5⟩, h6, h7⟩ := (((hL.blk 0 _ rfl).1 g rfl)).cells (.inr fun h => hl (ILc_nil h))
    obtain ⟨rfl, rfl⟩ := h4 rfl
    refine (Tryz.slices_Reverse_int_cells g 0 l.length cap l w (Nat.le_refl _) (by omega) (fun j hj => ?_) (fun j hj => ?_)).mono ?_
    · obtain ⟨g', h1, h2⟩ := hL.cell (k := 0) rfl (ILc_cell hj)
      cases h1
      rw [Nat.zero_add]; exact h2
    · unfold World.frozen?
      simp only [h3]
      simp
    · rintro e w' ⟨rfl, q, rfl⟩
      refine ⟨rfl, ?_⟩
      have hle : l.length ≤ cur.size := by
        have := congrArg List.length h7
        rw [List.length_take] at this
        show l.length ≤ cur.size
        have h8 : (ILc l).length = l.length := ILc_length l
        simp only [Array.length_toList] at this
        omega
      have hLq : LRel B (⟨some g, 3, ILc l, N, true⟩ :: R) (w.drewN q) := ⟨hL.below.trans (below_drewN _ _ _), hL.blk, hL.apart⟩
      rw [setCells_row _ (w.drewN q) g 0 cur 3 h3 (by simpa using hle)]
      refine hLq.set (k := 0) (b := ⟨some g, 3, ILc l, N, true⟩) rfl rfl rfl _ (ILc l.reverse) ?_ ?_
      · show _ = N
        have h6' : cur.size = N := h6
        rw [← h6']
        simp; omega
      · show List.take (ILc l.reverse).length _ = _
        rw [ILc_length, List.take_length]
        show List.take l.reverse.length (List.take 0 cur.toList ++ ILc l.reverse ++ _) = _
        rw [List.take_zero, List.nil_append]
        exact List.take_left' (by rw [ILc_length])
end Go.Proofs.YtncogghlhlnmaaaGreatDoor
set_option linter.unusedVariables false
set_option linter.unusedSimpArgs false
namespace Go.Via
open Go Go.RowKit
theorem ILc_snoc (l : List Int) (z : Int) : ILc l ++ [.int .i64 z] = ILc (l ++ [z]) := by simp [ILc]
/-! ### the exchanges of a component -/
def partP (l : List Ex) (c : List Int) (i : Nat) : List Int := ((List.range i).filter fun j => match l[j]? with
  | some x => c.contains x.f
  | none => false).map fun (j : Nat) => (j : Int)
theorem partP_yes {l : List Ex} {c : List Int} {i : Nat} {x : Ex} (h : l[i]? = some x) (hc : c.contains x.f = true) : partP l c (i + 1) = partP l c i ++ [(i : Int)] := by
  have hc' : x.f ∈ c := by simpa using hc
  unfold partP
  rw [List.range_succ, List.filter_append, List.map_append]
  simp [h, hc']
theorem partP_no {l : List Ex} {c : List Int} {i : Nat} {x : Ex} (h : l[i]? = some x) (hc : c.contains x.f = false) : partP l c (i + 1) = partP l c i := by
  have hc' : ¬ x.f ∈ c := by simpa using hc
  unfold partP
  rw [List.range_succ, List.filter_append, List.map_append]
  simp [h, hc']
theorem partP_len (l : List Ex) (c : List Int) (i : Nat) : (partP l c i).length ≤ i := by
  unfold partP
  rw [List.length_map]
  have := List.length_filter_le (fun j => match l[j]? with | some x => c.contains x.f | none => false) (List.range i)
  rw [List.length_range] at this
  exact this
theorem partP_mem {l : List Ex} {c : List Int} {i : Nat} {k : Int} : k ∈ partP l c i ↔ ∃ j x, j < i ∧ k = (j : Nat) ∧ l[j]? = some x ∧ x.f ∈ c := by
  unfold partP
  simp only [List.mem_map, List.mem_filter, List.mem_range]
  constructor
  · rintro ⟨j, ⟨hj, h⟩, rfl⟩
    cases hx : l[j]? with
    | none => rw [hx] at h; cases h
    | some x =>
      rw [hx] at h
      exact ⟨j, x, hj, rfl, hx, by simpa using h⟩
  · rintro ⟨j, x, hj, rfl, hx, h⟩
    exact ⟨j, ⟨hj, by rw [hx]; simpa using h⟩, rfl⟩
end Go.Via
set_option linter.unusedVariables false
set_option linter.unusedSimpArgs false
namespace Go.Via
open Go Go.RowKit
/-! ### maps from ints to ints -/
abbrev SIm := List (Int × Int)
def mapI (s : SIm) : IM := s.map fun p => (p.1, .int .i64 p.2)
def sget : SIm → Int → Option Int
  | [], _ => none
  | p :: s, k => if p.1 = k then some p.2 else sget s k
def sput : SIm → Int → Int → SIm
  | [], k, v => [(k, v)]
  | p :: s, k, v => if p.1 = k then (k, v) :: s else p :: sput s k v
theorem mu_mapI : ∀ (s : SIm) (k v : Int), mu (mapI s) k (.int .i64 v) = mapI (sput s k v)
  | [], k, v => rfl
  | p :: s, k, v => by
    have ih := mu_mapI s k v
    by_cases h : p.1 = k
    · simp [mapI, mu, sput, h]
    · simp [mapI, mu, sput, h] at ih ⊢; exact ih
theorem mg_mapI : ∀ (s : SIm) (k : Int), mg (mapI s) k = (sget s k).map fun v => .int .i64 v
  | [], k => rfl
  | p :: s, k => by
    have ih := mg_mapI s k
    by_cases h : p.1 = k
    · simp [mapI, mg, sget, h]
    · simp [mapI, mg, sget, h] at ih ⊢; exact ih
theorem mg_mapI0 (s : SIm) (k : Int) : (mg (mapI s) k).getD (.int .i64 0) = .int .i64 ((sget s k).getD 0) := by
  rw [mg_mapI]; cases sget s k <;> rfl
theorem mg_mapIok (s : SIm) (k : Int) : (mg (mapI s) k).isSome = (sget s k).isSome := by rw [mg_mapI]; cases sget s k <;> rfl
theorem mapI_simple (s : SIm) : simpleM (mapI s) = true := by simp [simpleM, mapI, Value.simple, Value.simple0]
theorem sput_sput (s : SIm) (k u v : Int) : sput (sput s k u) k v = sput s k v := by
  induction s with
  | nil => simp [sput]
  | cons p s ih =>
    by_cases h : p.1 = k
    · simp [sput, h]
    · simp [sput, h, ih]
theorem sget_sput (s : SIm) (k v z : Int) : sget (sput s k v) z = if k = z then some v else sget s z := by
  induction s with
  | nil => simp [sput, sget]
  | cons p s ih =>
    by_cases h : p.1 = k
    · by_cases h2 : k = z
      · simp [sput, sget, h, h2]
      · have : ¬ p.1 = z := fun e => h2 (h.symm.trans e)
        simp [sput, sget, h, h2]
    · by_cases h2 : p.1 = z
      · have : ¬ k = z := fun e => h (h2.trans e.symm)
        have this' : ¬ z = k := fun e => this e.symm
        simp [sput, sget, h2, this, this']
      · simp [sput, sget, h, h2, ih]
/-! ### the least sums, as the program finds them -/
abbrev FRS := SIm × SIm × Int
def canR (s : SIm) (x : Ex) : Bool := (sget s x.f).isSome && (!(sget s x.t).isSome || decide ((sget s x.f).getD 0 + wt x < (sget s x.t).getD 0))
def relax (l : List Ex) (st : FRS) (k : Int) : FRS := match l[k.toNat]? with
  | none => st
  | some x => if canR st.1 x = true then (sput st.1 x.t ((sget st.1 x.f).getD 0 + wt x), sput st.2.1 x.t k, k) else st
def passR (l : List Ex) (sm : List Int) (st : FRS) : FRS := sm.foldl (relax l) st
def fromR (l : List Ex) (sm : List Int) : Nat → SIm → SIm → SIm × SIm × Bool
  | 0, s, b => (s, b, false)
  | k + 1, s, b => if (passR l sm (s, b, -1)).2.2 < 0 then ((passR l sm (s, b, -1)).1, (passR l sm (s, b, -1)).2.1, true) else fromR l sm k (passR l sm (s, b, -1)).1 (passR l sm (s, b, -1)).2.1
def canC (s : SIm) (x : Ex) : Bool := (sget s x.f).isSome && decide ((sget s x.f).getD 0 + wt x < (sget s x.t).getD 0)
def checkF (l : List Ex) (s b : SIm) : List Int → FRS
  | [] => (s, b, -1)
  | k :: sm => match l[k.toNat]? with
    | none => checkF l s b sm
    | some x => if canC s x = true then (s, sput b x.t k, k) else checkF l s b sm
def zeroS (ds : List Int) : SIm := ds.foldl (fun s d => sput s d 0) []
def endF (l : List Ex) (sm : List Int) (p : SIm × SIm × Bool) : FRS := if p.2.2 = true then (p.1, p.2.1, -1) else checkF l p.1 p.2.1 sm
def fromF (l : List Ex) (sm : List Int) (size : Nat) (ds : List Int) : FRS := endF l sm (fromR l sm (size + 1) (zeroS ds) [])
theorem zeroS_step {ds : List Int} {i : Nat} {d : Int} (h : ds[i]? = some d) : zeroS (ds.take (i + 1)) = sput (zeroS (ds.take i)) d 0 := by
  unfold zeroS; rw [take_snoc h, List.foldl_append]; rfl
theorem passR_step {l : List Ex} {sm : List Int} {i : Nat} {k : Int} {st : FRS} (h : sm[i]? = some k) : passR l (sm.take (i + 1)) st = relax l (passR l (sm.take i) st) k := by
  unfold passR; rw [take_snoc h, List.foldl_append]; rfl
theorem passR_yes {l : List Ex} {sm : List Int} {i : Nat} {k : Int} {st : FRS} {x : Ex} (h : sm[i]? = some k) (hx : l[k.toNat]? = some x) (hc : canR (passR l (sm.take i) st).1 x = true) :
    passR l (sm.take (i + 1)) st = (sput (passR l (sm.take i) st).1 x.t ((sget (passR l (sm.take i) st).1 x.f).getD 0 + wt x), sput (passR l (sm.take i) st).2.1 x.t k, k) := by
  rw [passR_step h]
  unfold relax
  rw [hx]
  simp only [if_pos hc]
theorem passR_no {l : List Ex} {sm : List Int} {i : Nat} {k : Int} {st : FRS} {x : Ex} (h : sm[i]? = some k) (hx : l[k.toNat]? = some x) (hc : canR (passR l (sm.take i) st).1 x = false) :
    passR l (sm.take (i + 1)) st = passR l (sm.take i) st := by
  rw [passR_step h]
  unfold relax
  rw [hx]
  simp only [hc, Bool.false_eq_true, if_false]
/-- bounds -/
def bndS (C : Nat) (s : SIm) : Prop := ∀ k v, sget s k = some v → -(4294967296 * (C : Int)) ≤ v ∧ v ≤ 4294967296 * (C : Int)
theorem bndS.get {C : Nat} {s : SIm} (h : bndS C s) (k : Int) : -(4294967296 * (C : Int)) ≤ (sget s k).getD 0 ∧ (sget s k).getD 0 ≤ 4294967296 * (C : Int) := by
  cases hk : sget s k with
  | none => simp; omega
  | some v => simpa using h k v hk
theorem bndS.mono {C D : Nat} {s : SIm} (h : bndS C s) (hd : C ≤ D) : bndS D s := fun k v hk => by have := h k v hk; omega
theorem bndS.relax {C : Nat} {l : List Ex} {st : FRS} {k : Int} (h : bndS C st.1) (hok : ∀ x ∈ l, okX x) : bndS (C + 1) (relax l st k).1 := by
  unfold Go.Via.relax
  split
  · exact h.mono (by omega)
  · rename_i x hx
    split
    · intro z v hz
      rw [sget_sput] at hz
      split at hz
      · cases hz
        have h1 := h.get x.f
        have h2 := wt_bound (hok x (List.mem_of_getElem? hx))
        omega
      · exact (h.mono (Nat.le_succ C)) z v hz
    · exact h.mono (by omega)
theorem bndS.pass {C : Nat} {l : List Ex} (hok : ∀ x ∈ l, okX x) : ∀ {sm : List Int} {st : FRS}, bndS C st.1 → bndS (C + sm.length) (passR l sm st).1
  | [], st, h => h
  | k :: sm, st, h => by
    have := bndS.pass (C := C + 1) hok (sm := sm) (st := Go.Via.relax l st k) (h.relax hok)
    rw [show C + (k :: sm).length = C + 1 + sm.length by simp; omega]
    exact this
theorem bndS.zero : ∀ (ds : List Int) (s : SIm), bndS 0 s → bndS 0 (ds.foldl (fun s d => sput s d 0) s)
  | [], s, h => h
  | d :: ds, s, h => bndS.zero ds _ fun k v hk => by
    rw [sget_sput] at hk
    split at hk
    · cases hk; omega
    · exact h k v hk
theorem bndS.zeroS (ds : List Int) : bndS 0 (zeroS ds) := bndS.zero ds [] fun k v hk => by cases hk
theorem checkF_yes {l : List Ex} {s b : SIm} {sm : List Int} {i : Nat} {k : Int} {x : Ex} (h : sm[i]? = some k) (hx : l[k.toNat]? = some x) (hc : canC s x = true) : checkF l s b (sm.drop i) = (s, sput b x.t k, k) := by
  obtain ⟨hl, h2⟩ := List.getElem?_eq_some_iff.1 h
  rw [List.drop_eq_getElem_cons hl, h2, checkF, hx]
  simp only [if_pos hc]
theorem checkF_no {l : List Ex} {s b : SIm} {sm : List Int} {i : Nat} {k : Int} {x : Ex} (h : sm[i]? = some k) (hx : l[k.toNat]? = some x) (hc : canC s x = false) : checkF l s b (sm.drop i) = checkF l s b (sm.drop (i + 1)) := by
  obtain ⟨hl, h2⟩ := List.getElem?_eq_some_iff.1 h
  rw [List.drop_eq_getElem_cons hl, h2, checkF, hx]
  simp only [hc, Bool.false_eq_true, if_false]
theorem fromR_stop {l : List Ex} {sm : List Int} {k : Nat} {s b : SIm} (h : (passR l sm (s, b, -1)).2.2 < 0) : fromR l sm (k + 1) s b = ((passR l sm (s, b, -1)).1, (passR l sm (s, b, -1)).2.1, true) := by
  rw [fromR, if_pos h]
theorem fromR_go {l : List Ex} {sm : List Int} {k : Nat} {s b : SIm} (h : ¬ (passR l sm (s, b, -1)).2.2 < 0) : fromR l sm (k + 1) s b = fromR l sm k (passR l sm (s, b, -1)).1 (passR l sm (s, b, -1)).2.1 := by
  rw [fromR, if_neg h]
theorem canR_nf {s : SIm} {x : Ex} (h : (sget s x.f).isSome = false) : canR s x = false := by unfold canR; rw [h]; rfl
theorem canR_nt {s : SIm} {x : Ex} (h : (sget s x.f).isSome = true) (h2 : (sget s x.t).isSome = false) : canR s x = true := by unfold canR; rw [h, h2]; rfl
theorem canR_lt {s : SIm} {x : Ex} {b : Bool} (h : (sget s x.f).isSome = true) (h2 : (sget s x.t).isSome = true) (h3 : decide ((sget s x.f).getD 0 + wt x < (sget s x.t).getD 0) = b) : canR s x = b := by unfold canR; rw [h, h2, h3]; rfl
theorem canC_nf {s : SIm} {x : Ex} (h : (sget s x.f).isSome = false) : canC s x = false := by unfold canC; rw [h]; rfl
theorem canC_lt {s : SIm} {x : Ex} {b : Bool} (h : (sget s x.f).isSome = true) (h3 : decide ((sget s x.f).getD 0 + wt x < (sget s x.t).getD 0) = b) : canC s x = b := by unfold canC; rw [h, h3]; rfl
end Go.Via
